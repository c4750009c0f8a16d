/- What the law leans on, part 6: P05, P05b, P06, W06, W06b, P04n, P04b, W04n, P03n, P08 -/
import Derived.Test.YthlpfjnkieaeeaaGreatDoorM5ObjectsOthers
import Derived.Lib.Join
import Derived.WalkKit

set_option maxRecDepth 100000
namespace Go.Proofs.YthlpfjnkieaeeaaGreatDoor
set_option linter.unusedVariables false
namespace Am
open Go.RowKit
section
theorem getD_app {q r:List UInt8} {i:Nat} (h:i<q.length):(q++r).getD i 0=q.getD i 0:=by simp [List.getD,List.getElem?_append_left h]
theorem ex_snoc {l:List UInt8} (h:l≠[]):∃ q c,l=q++[c]:=⟨l.dropLast,l.getLast h,(List.dropLast_concat_getLast h).symm⟩
def consHead (x:UInt8):List (List UInt8)→List (List UInt8)
 | []=>[[x]]
 | p::r=>(x::p)::r
def splitC (c:UInt8):List UInt8→List (List UInt8)
 | []=>[[]]
 | x::l=>if x=c then []::splitC c l else consHead x (splitC c l)
def joinC (c:UInt8):List (List UInt8)→List UInt8
 | []=>[]
 | [p]=>p
 | p::q::r=>p++c::joinC c (q::r)
theorem splitC_ne (c:UInt8) (l:List UInt8):splitC c l≠[]:=by
 cases l with
 | nil=>simp [splitC]
 | cons x l =>
  rw [splitC]
  split
  ·simp
  ·cases splitC c l <;> simp [consHead]
theorem splitC_none {c:UInt8}:∀ {l:List UInt8},c ∉ l→splitC c l=[l]
 | [],_=>rfl
 | x::l,h=>by
  have h1:x≠c:=fun e=>h (by simp [e])
  have h2:c ∉ l:=fun e=>h (by simp [e])
  rw [splitC,if_neg h1,splitC_none h2];rfl
theorem splitC_at {c:UInt8}:∀ {p:List UInt8} (r:List UInt8),c ∉ p→splitC c (p++c::r)=p::splitC c r
 | [],r,_=>by simp [splitC]
 | x::l,r,h=>by
  have h1:x≠c:=fun e=>h (by simp [e])
  have h2:c ∉ l:=fun e=>h (by simp [e])
  rw [List.cons_append,splitC,if_neg h1,splitC_at r h2];rfl
theorem join_head (c:UInt8) (x:UInt8):∀ ls:List (List UInt8),ls≠[]→joinC c (consHead x ls)=x::joinC c ls
 | [],h=>absurd rfl h
 | [p],_=>rfl
 | p::q::r,_=>rfl
theorem join_split (c:UInt8):∀ l:List UInt8,joinC c (splitC c l)=l
 | []=>rfl
 | x::l=>by
  rw [splitC]
  have ih:=join_split c l
  have hne:=splitC_ne c l
  split
  ·rename_i e
   subst e
   revert ih hne
   cases splitC x l with
   | nil=>intro _ h;exact absurd rfl h
   | cons p r=>intro ih _;rw [joinC,ih];rfl
  ·rw [join_head c x _ hne,ih]
theorem split_join {c:UInt8}:∀ {ls:List (List UInt8)},ls≠[]→(∀ p ∈ ls,c ∉ p)→splitC c (joinC c ls)=ls
 | [],h,_=>absurd rfl h
 | [p],_,h=>by rw [joinC,splitC_none (h p (by simp))]
 | p::q::r,_,h=>by
  rw [joinC,splitC_at _ (h p (by simp)),split_join (by simp) (fun x hx=>h x (by simp at hx ⊢;exact .inr hx))]
def okP (p:List UInt8):Bool:=decide ((figM p).2=0) && decide (p.length≤10)
def valP (p:List UInt8):Int:=((figM p).1:Nat)
def rightA (l:List Int):Bool:=decide (2≤l.length) && decide (l.length≤16) && l.all (fun n=>decide (0≤n) && decide (n≤2147483647)) && decide (l.getD 0 0≤2) && (decide (l.getD 0 0=2) || decide (l.getD 1 0<40))
def parseM (s:List UInt8):List Int×Nat :=
 if ((splitC 46 s).all okP)=false then ([],4) else if rightA ((splitC 46 s).map valP)=false then ([],1) else ((splitC 46 s).map valP,0)

def sepHi (m:Nat):List UInt8:=if h:m=0 then [] else sepHi (m / 128)++[UInt8.ofNat (m % 128+128)]
termination_by m
decreasing_by omega
def sepL (n:Nat):List UInt8:=sepHi (n / 128)++[UInt8.ofNat (n % 128)]
theorem sepHi_zero:sepHi 0=[]:=by rw [sepHi];simp
theorem sepHi_pos {m:Nat} (h:m≠0):sepHi m=sepHi (m / 128)++[UInt8.ofNat (m % 128+128)]:=by rw [sepHi,dif_neg h]
theorem sepHi_len (k:Nat):∀ m,m<128 ^ k→(sepHi m).length≤k:=by
 induction k with
 | zero =>
   intro m h;have:m=0:=by simpa using h
   subst this;rw [sepHi_zero];simp
 | succ k ih =>
  intro m h
  by_cases h0:m=0
  ·subst h0;rw [sepHi_zero];simp
  ·rw [sepHi_pos h0,List.length_append]
   have:=ih (m / 128) (Nat.div_lt_of_lt_mul (by rw [Nat.pow_succ] at h;omega))
   simp;omega
theorem sepL_len {n:Nat} (h:n<34359738368):(sepL n).length≤5:=by
 have:=sepHi_len 4 (n / 128) (by omega)
 simp [sepL];omega
theorem sepL_pos (n:Nat):0<(sepL n).length:=by simp [sepL]
def valSO (l:List UInt8):Nat:=l.foldl (fun a c=>a * 128+c.toNat % 128) 0
theorem valSO_snoc (l:List UInt8) (c:UInt8):valSO (l++[c])=valSO l * 128+c.toNat % 128:=by simp [valSO]
theorem valS_hi (m:Nat):valSO (sepHi m)=m:=by
 induction m using Nat.strongRecOn with
 | ind m ih =>
  by_cases h0:m=0
  ·subst h0;rw [sepHi_zero];rfl
  ·rw [sepHi_pos h0,valSO_snoc,ih _ (by omega),UInt8.toNat_ofNat']
   omega
theorem valS_sep (n:Nat):valSO (sepL n)=n:=by
 rw [sepL,valSO_snoc,valS_hi,UInt8.toNat_ofNat']
 omega
theorem sepHi_big (m:Nat):∀ c ∈ sepHi m,128≤c.toNat:=by
 induction m using Nat.strongRecOn with
 | ind m ih =>
  by_cases h0:m=0
  ·subst h0;rw [sepHi_zero];simp
  ·rw [sepHi_pos h0]
   intro c hc
   rcases List.mem_append.1 hc with h|h
   ·exact ih _ (by omega) c h
   ·rw [List.mem_singleton] at h;subst h;rw [UInt8.toNat_ofNat'];omega
theorem sepHi_head (m:Nat) (h:m≠0):((sepHi m).getD 0 0).toNat≠128:=by
 induction m using Nat.strongRecOn with
 | ind m ih =>
  rw [sepHi_pos h]
  by_cases h1:m / 128=0
  ·rw [h1,sepHi_zero]
   simp only [List.nil_append,List.getD_cons_zero]
   rw [UInt8.toNat_ofNat'];omega
  ·have:=ih (m / 128) (by omega) h1
   have hp:0<(sepHi (m / 128)).length:=by rw [sepHi_pos h1];simp
   rwa [getD_app hp]
def runLen:List UInt8→Nat
 | []=>0
 | c::l=>if c.toNat<128 then 1 else 1+runLen l
theorem runLen_le:∀ l:List UInt8,runLen l≤l.length
 | []=>Nat.le_refl _
 | c::l=>by
  have:=runLen_le l
  rw [runLen];split <;> simp <;> omega
theorem runLen_pos {l:List UInt8} (h:l≠[]):0<runLen l:=by
 cases l with
 | nil=>exact absurd rfl h
 | cons c l=>rw [runLen];split <;> omega
theorem runLen_app {l:List UInt8} (h:∀ c ∈ l,128≤c.toNat) (x:UInt8) (hx:x.toNat<128) (r:List UInt8):runLen (l++x::r)=l.length+1:=by
 induction l with
 | nil=>simp [runLen,hx]
 | cons c l ih =>
  have h1:=h c (by simp)
  rw [List.cons_append,runLen,if_neg (by omega),ih (fun d hd=>h d (by simp [hd]))]
  simp;omega
def numM (run:List UInt8) (most:Nat):Nat×Nat :=
 if 128≤(run.getD (run.length-1) 0).toNat then (0,2) else if (run.getD 0 0).toNat=128 then (0,4) else if most<valSO run then (0,1) else (valSO run,0)
def numsM (most:Nat) (b:List UInt8):List Nat×Nat :=
 if h:b=[] then ([],0) else
  if (numM (b.take (runLen b)) most).2≠0 then ([],(numM (b.take (runLen b)) most).2) else
   if (numsM 2147483647 (b.drop (runLen b))).2≠0 then ([],(numsM 2147483647 (b.drop (runLen b))).2) else
    ((numM (b.take (runLen b)) most).1::(numsM 2147483647 (b.drop (runLen b))).1,0)
termination_by b.length
decreasing_by
 all_goals
  have:=runLen_pos h
  have:=List.length_pos_iff.2 h
  simp;omega
def arcsOf:List Nat→List Int
 | []=>[]
 | n::r=>(min (n / 40) 2:Nat)::((n:Int)-40 * (min (n / 40) 2:Nat))::r.map Int.ofNat
def getA (b:List UInt8):List Int×Nat :=
 if b=[] then ([],2) else if (numsM 2147483727 b).2≠0 then ([],(numsM 2147483727 b).2) else
  if rightA (arcsOf (numsM 2147483727 b).1)=false then ([],1) else (arcsOf (numsM 2147483727 b).1,0)
def putA (l:List Int):List UInt8:=sepL (40 * l.getD 0 0+l.getD 1 0).toNat++((l.drop 2).map fun n=>sepL n.toNat).flatten
theorem run_sep (n:Nat) (r:List UInt8):runLen (sepL n++r)=(sepL n).length:=by
 rw [sepL,List.append_assoc,List.singleton_append,runLen_app (sepHi_big _) _ (by rw [UInt8.toNat_ofNat'];omega)]
 simp
theorem num_sep {n most:Nat} (h:n≤most):numM (sepL n) most=(n,0):=by
 have h1:(sepL n).getD ((sepL n).length-1) 0=UInt8.ofNat (n % 128):=by
  simp [sepL,List.getD]
 have h2:((sepL n).getD 0 0).toNat≠128:=by
  by_cases h0:n / 128=0
  ·rw [sepL,h0,sepHi_zero]
   simp only [List.nil_append,List.getD_cons_zero]
   rw [UInt8.toNat_ofNat'];omega
  ·have:=sepHi_head _ h0
   have hp:0<(sepHi (n / 128)).length:=by rw [sepHi_pos h0];simp
   rw [sepL]
   rwa [getD_app hp]
 have h3:(UInt8.ofNat (n % 128)).toNat=n % 128:=by rw [UInt8.toNat_ofNat'];omega
 unfold numM
 rw [h1,h3,if_neg (by omega),if_neg h2,valS_sep,if_neg (by omega)]
theorem nums_sep {n most:Nat} (h:n≤most) (r:List UInt8) (l:List Nat) (hr:numsM 2147483647 r=(l,0)):numsM most (sepL n++r)=(n::l,0):=by
 have hp:=sepL_pos n
 rw [numsM,dif_neg (by intro e;have:=congrArg List.length e;rw [List.length_append,List.length_nil] at this;omega),run_sep,List.take_left,List.drop_left,num_sep h,hr]
 simp
theorem nums_all (l:List Nat) (h:∀ n ∈ l,n≤2147483647):numsM 2147483647 ((l.map sepL).flatten)=(l,0):=by
 induction l with
 | nil=>rw [numsM];simp
 | cons n l ih =>
  rw [List.map_cons,List.flatten_cons]
  exact nums_sep (h n (by simp)) _ _ (ih fun m hm=>h m (by simp [hm]))
theorem right_at {l:List Int} (h:rightA l=true):2≤l.length∧l.length≤16∧(∀ n ∈ l,0≤n∧n≤2147483647)∧l.getD 0 0≤2∧(l.getD 0 0=2∨l.getD 1 0<40):=by
 simp only [rightA,Bool.and_eq_true,Bool.or_eq_true,decide_eq_true_eq,List.all_eq_true] at h
 obtain ⟨⟨⟨⟨h1,h2⟩,h3⟩,h4⟩,h5⟩:=h
 exact ⟨h1,h2,fun n hn=>h3 n hn,h4,h5⟩
theorem arcs_two {a b:Int} {r:List Nat} (h:0≤a∧a≤2) (hb:0≤b) (h2:a=2∨b<40):arcsOf ((40 * a+b).toNat::r)=a::b::r.map Int.ofNat:=by
 have e:min ((40 * a+b).toNat / 40) 2=a.toNat:=by omega
 simp only [arcsOf,e]
 refine congr (congrArg _ (by omega)) (congr (congrArg _ (by omega)) rfl)
theorem get_put {l:List Int} (h:rightA l=true):getA (putA l)=(l,0):=by
 obtain ⟨h1,h2,h3,h4,h5⟩:=right_at h
 match l,h1 with
 | a::b::r,_ =>
  simp only [List.getD_cons_zero,List.getD_cons_succ] at h4 h5
  have ha:=h3 a (by simp)
  have hb:=h3 b (by simp)
  have hr:∀ n ∈ r.map Int.toNat,n≤2147483647:=fun n hn=>by
   obtain ⟨m,hm,rfl⟩:=List.mem_map.1 hn
   have:=h3 m (by simp [hm]);omega
  have hn:=nums_all _ hr
  rw [List.map_map] at hn
  have hs:=nums_sep (n:=(40 * a+b).toNat) (most:=2147483727) (by omega) _ _ hn
  have hput:putA (a::b::r)=sepL (40 * a+b).toNat++(r.map (sepL ∘ Int.toNat)).flatten:=rfl
  have hne:putA (a::b::r)≠[]:=fun e=>by
   have:=congrArg List.length e
   rw [hput] at this
   have hp:=sepL_pos (40 * a+b).toNat
   rw [List.length_append,List.length_nil] at this;omega
  have e:arcsOf ((40 * a+b).toNat::r.map Int.toNat)=a::b::r:=by
   rw [arcs_two ⟨ha.1,h4⟩ hb.1 h5,List.map_map]
   refine congrArg _ (congrArg _ ?_)
   refine (List.map_congr_left fun x hx=>?_).trans (List.map_id _)
   have:=h3 x (by simp [hx])
   simp;omega
  unfold getA
  rw [if_neg hne,hput,hs]
  simp only [ne_eq,not_true_eq_false,if_false,e,h]
  simp
theorem sep_run (l:List UInt8) (h:∀ c ∈ l,128≤c.toNat) (h2:l≠[]→(l.getD 0 0).toNat≠128):sepHi (valSO l)=l:=by
 have key:∀ k,∀ l:List UInt8,l.length=k→(∀ c ∈ l,128≤c.toNat)→(l≠[]→(l.getD 0 0).toNat≠128)→sepHi (valSO l)=l∧(l≠[]→valSO l≠0):=by
  intro k
  induction k with
  | zero =>
    intro l hl _ _;have:l=[]:=List.length_eq_zero_iff.1 hl
    subst this;exact ⟨sepHi_zero,fun h=>absurd rfl h⟩
  | succ k ih =>
   intro l hl hb hh
   obtain ⟨q,c,rfl⟩:=ex_snoc (l:=l) (by intro e;rw [e] at hl;simp at hl)
   have hlq:q.length=k:=by simpa using hl
   have hc:=hb c (by simp)
   have hc2:=c.toNat_lt
   have hq:q≠[]→(q.getD 0 0).toNat≠128:=fun hne=>by
    have:=hh (by simp)
    have hp:0<q.length:=List.length_pos_iff.2 hne
    rwa [getD_app hp] at this
   obtain ⟨h5,h6⟩:=ih q hlq (fun d hd=>hb d (by simp [hd])) hq
   have hv:valSO (q++[c])≠0:=by
    rw [valSO_snoc]
    by_cases hq0:q=[]
    ·subst hq0
     have:=hh (by simp)
     simp at this
     show 0 * 128+_≠0
     omega
    ·have:=h6 hq0
     omega
   refine ⟨?_,fun _=>hv⟩
   rw [sepHi_pos hv,valSO_snoc,show (valSO q * 128+c.toNat % 128) / 128=valSO q by omega,h5]
   refine congrArg _ ?_
   rw [show (valSO q * 128+c.toNat % 128) % 128+128=c.toNat by omega,UInt8.ofNat_toNat]
 exact (key _ l rfl h h2).1
theorem sep_runL {l:List UInt8} (hne:l≠[]) (h:∀ i,i+1<l.length→128≤(l.getD i 0).toNat) (h1:(l.getD (l.length-1) 0).toNat<128) (h2:(l.getD 0 0).toNat≠128):sepL (valSO l)=l:=by
 obtain ⟨q,c,rfl⟩:=ex_snoc hne
 have hc:c.toNat<128:=by simpa [List.getD] using h1
 have hb:∀ d ∈ q,128≤d.toNat:=fun d hd=>by
  obtain ⟨i,hi,rfl⟩:=List.getElem_of_mem hd
  have:=h i (by simp;omega)
  simpa [List.getD,List.getElem?_append_left hi,hi] using this
 have hq:q≠[]→(q.getD 0 0).toNat≠128:=fun hne=>by
  have hp:0<q.length:=List.length_pos_iff.2 hne
  rwa [getD_app hp] at h2
 rw [sepL,valSO_snoc,show (valSO q * 128+c.toNat % 128) / 128=valSO q by omega,show (valSO q * 128+c.toNat % 128) % 128=c.toNat by omega,sep_run q hb hq,UInt8.ofNat_toNat]
theorem runLen_mid:∀ (l:List UInt8) (i:Nat),i+1<runLen l→128≤(l.getD i 0).toNat
 | [],i,h=>by simp [runLen] at h
 | c::l,i,h=>by
  rw [runLen] at h
  split at h
  ·omega
  ·cases i with
   | zero=>simp;omega
   | succ i=>simpa using runLen_mid l i (by omega)
theorem num_back {b:List UInt8} {most n:Nat} (hb:b≠[]) (h:numM (b.take (runLen b)) most=(n,0)):sepL n=b.take (runLen b)∧n≤most:=by
 unfold numM at h
 have hp:=runLen_pos hb
 have hle:=runLen_le b
 have hlen:(b.take (runLen b)).length=runLen b:=by simp;omega
 split at h
 ·simp at h
 split at h
 ·simp at h
 split at h
 ·simp at h
 simp at h
 subst h
 refine ⟨sep_runL (by intro e;rw [e] at hlen;simp at hlen;omega) (fun i hi=>?_) (by omega) (by assumption),by omega⟩
 rw [hlen] at hi
 have:=runLen_mid b i hi
 simpa [List.getD,List.getElem?_take,show i<runLen b by omega] using this
theorem nums_back:∀ (k:Nat) (b:List UInt8) (most:Nat) (l:List Nat),b.length≤k→numsM most b=(l,0)→(l.map sepL).flatten=b∧(∀ n ∈ l.drop 1,n≤2147483647)∧(∀ n,l.head?=some n→n≤most)∧(b≠[]→l≠[]):=by
 intro k
 induction k with
 | zero =>
  intro b most l hk h
  have:b=[]:=List.length_eq_zero_iff.1 (by omega)
  subst this
  rw [numsM] at h
  simp at h
  subst h
  simp
 | succ k ih =>
  intro b most l hk h
  by_cases hb:b=[]
  ·subst hb
   rw [numsM] at h
   simp at h
   subst h
   simp
  ·rw [numsM,dif_neg hb] at h
   split at h
   ·rename_i h1;simp at h;exact absurd h.2 h1
   rename_i h1
   split at h
   ·rename_i h2;simp at h;exact absurd h.2 h2
   rename_i h2
   have hp:=runLen_pos hb
   have hl:=List.length_pos_iff.2 hb
   obtain ⟨l',hl'⟩:∃ l',numsM 2147483647 (b.drop (runLen b))=(l',0):=⟨_,Prod.ext rfl (by simpa using h2)⟩
   obtain ⟨h3,h4,h5,_⟩:=ih (b.drop (runLen b)) 2147483647 l' (by simp;omega) hl'
   obtain ⟨n,hn⟩:∃ n,numM (b.take (runLen b)) most=(n,0):=⟨_,Prod.ext rfl (by simpa using h1)⟩
   obtain ⟨h6,h7⟩:=num_back hb hn
   rw [hl',hn] at h
   simp at h
   subst h
   refine ⟨?_,?_,?_,fun _=>by simp⟩
   ·rw [List.map_cons,List.flatten_cons,h3,h6,List.take_append_drop]
   ·intro m hm
    cases l' with
    | nil=>simp at hm
    | cons x r =>
     simp at hm
     rcases hm with rfl|hm
     ·exact h5 _ rfl
     ·exact h4 m (by simpa using hm)
   ·intro m hm;simp at hm;omega
theorem put_get {b:List UInt8} {l:List Int} (h:getA b=(l,0)):putA l=b∧rightA l=true:=by
 unfold getA at h
 split at h
 ·simp at h
 rename_i hb
 split at h
 ·rename_i h1;simp at h;exact absurd h.2 h1
 rename_i h1
 split at h
 ·simp at h
 rename_i h2
 simp at h
 have hr:rightA (arcsOf (numsM 2147483727 b).1)=true:=by simpa using h2
 obtain ⟨ns,hns⟩:∃ ns,numsM 2147483727 b=(ns,0):=⟨_,Prod.ext rfl (by simpa using h1)⟩
 obtain ⟨h3,h4,h5,h6⟩:=nums_back b.length b _ ns (Nat.le_refl _) hns
 rw [hns] at h hr
 subst h
 refine ⟨?_,hr⟩
 cases ns with
 | nil=>exact absurd rfl (h6 hb)
 | cons n r =>
  rw [← h3]
  show sepL _++_=_
  simp only [arcsOf,List.getD_cons_zero,List.getD_cons_succ,List.drop_succ_cons,List.drop_zero,List.map_cons,List.flatten_cons]
  refine congr (congrArg _ (congrArg _ ?_)) (congrArg _ ?_)
  ·omega
  ·rw [List.map_map]
   refine List.map_congr_left fun x _=>?_
   simp
theorem isFig_iff (c:UInt8):isFig c=(decide (48≤c.toNat) && decide (c.toNat≤57)):=rfl
theorem figM_back {p:List UInt8} (h:(figM p).2=0):dec (figM p).1=p:=by
 rw [figM_ref] at h ⊢
 split at h
 ·rename_i h1
  rw [if_pos h1]
  exact h1.2.2.2
 ·simp at h

def textL (l:List Int):List UInt8:=joinC 46 (l.map fun n=>dec n.toNat)
theorem dec_free (n:Nat):(46:UInt8) ∉ dec n:=fun h=>by
 have:=List.all_eq_true.1 (dec_figs n) _ h
 rw [isFig_iff] at this
 simp at this
theorem ok_dec {n:Int} (h0:0≤n) (h:n≤2147483647):okP (dec n.toNat)=true∧valP (dec n.toNat)=n:=by
 have h1:=figM_dec (n:=n.toNat) (by omega)
 have h2:=dec_len 9 n.toNat (by omega)
 simp only [okP,valP,h1]
 refine ⟨by simp;omega,by show ((n.toNat:Nat):Int)=n;omega⟩
theorem parse_text {l:List Int} (h:rightA l=true):parseM (textL l)=(l,0):=by
 obtain ⟨h1,h2,h3,h4,h5⟩:=right_at h
 have hs:splitC 46 (textL l)=l.map fun n=>dec n.toNat:=split_join (by cases l <;> simp at h1 ⊢) (fun p hp=>by
  obtain ⟨n,_,rfl⟩:=List.mem_map.1 hp
  exact dec_free _)
 have ho:((l.map fun n=>dec n.toNat).all okP)=true:=by
  rw [List.all_eq_true]
  intro p hp
  obtain ⟨n,hn,rfl⟩:=List.mem_map.1 hp
  exact (ok_dec (h3 n hn).1 (h3 n hn).2).1
 have hv:(l.map fun n=>dec n.toNat).map valP=l:=by
  rw [List.map_map]
  refine (List.map_congr_left fun n hn=>?_).trans (List.map_id _)
  exact (ok_dec (h3 n hn).1 (h3 n hn).2).2
 unfold parseM
 rw [hs,ho,hv,h]
 simp
theorem parse_right {s:List UInt8} {l:List Int} (h:parseM s=(l,0)):rightA l=true∧(splitC 46 s).all okP=true∧l=(splitC 46 s).map valP:=by
 unfold parseM at h
 split at h
 ·simp at h
 rename_i h1
 split at h
 ·simp at h
 rename_i h2
 simp at h
 subst h
 exact ⟨by simpa using h2,by simpa using h1,rfl⟩
theorem text_parse {s:List UInt8} {l:List Int} (h:parseM s=(l,0)):textL l=s:=by
 obtain ⟨h1,h2,rfl⟩:=parse_right h
 unfold textL
 rw [List.map_map]
 have:(splitC 46 s).map ((fun n=>dec n.toNat) ∘ valP)=splitC 46 s:=by
  refine (List.map_congr_left fun p hp=>?_).trans (List.map_id _)
  have h3:=List.all_eq_true.1 h2 p hp
  simp only [okP,Bool.and_eq_true,decide_eq_true_eq] at h3
  exact figM_back h3.1
 rw [this,join_split]
def cmpA:List Int→List Int→Int
 | [],[]=>0
 | [],_::_=>-1
 | _::_,[]=>1
 | a::l,b::r=>if a<b then -1 else if b<a then 1 else cmpA l r
def underA (x y:List Int):Bool:=decide (y.length≤x.length) && decide (x.take y.length=y)
end
section
def runsL (b:List UInt8):List (List UInt8):=if h:b=[] then [] else b.take (runLen b)::runsL (b.drop (runLen b))
termination_by b.length
decreasing_by
 have:=runLen_pos h
 have:=List.length_pos_iff.2 h
 simp;omega
theorem runsL_nil:runsL []=[]:=by rw [runsL];simp
theorem runsL_cons {b:List UInt8} (h:b≠[]):runsL b=b.take (runLen b)::runsL (b.drop (runLen b)):=by rw [runsL,dif_neg h]
theorem runs_pos:∀ (n:Nat) (b:List UInt8),b.length≤n→∀ r ∈ runsL b,0<r.length:=by
 intro n
 induction n with
 | zero =>
  intro b hb r hr
  have:b=[]:=List.length_eq_zero_iff.1 (by omega)
  subst this
  rw [runsL_nil] at hr;cases hr
 | succ n ih =>
  intro b hb r hr
  by_cases h:b=[]
  ·subst h;rw [runsL_nil] at hr;cases hr
  ·rw [runsL_cons h] at hr
   have h1:=runLen_pos h
   have h2:=runLen_le b
   rcases List.mem_cons.1 hr with rfl|hr
   ·rw [List.length_take];omega
   ·exact ih _ (by rw [List.length_drop];omega) r hr
theorem runs_len:∀ (n:Nat) (b:List UInt8),b.length≤n→(runsL b).length≤b.length:=by
 intro n
 induction n with
 | zero =>
  intro b hb
  have:b=[]:=List.length_eq_zero_iff.1 (by omega)
  subst this
  rw [runsL_nil];exact Nat.le_refl _
 | succ n ih =>
  intro b hb
  by_cases h:b=[]
  ·subst h;rw [runsL_nil];exact Nat.le_refl _
  ·rw [runsL_cons h]
   have h1:=runLen_pos h
   have h2:=runLen_le b
   have:=ih (b.drop (runLen b)) (by rw [List.length_drop];omega)
   rw [List.length_drop] at this
   simp only [List.length_cons];omega
def resL (most:Nat):List (List UInt8)→List (Nat×Nat)
 | []=>[]
 | r::t=>numM r most::resL 2147483647 t
theorem resL_len:∀ (most:Nat) (l:List (List UInt8)),(resL most l).length=l.length
 | _,[]=>rfl
 | most,r::t=>by rw [resL,List.length_cons,resL_len,List.length_cons]
theorem resL_get:∀ (most:Nat) (l:List (List UInt8)) (k:Nat),k<l.length→(resL most l).getD k (0,0)=numM (l.getD k []) (if k=0 then most else 2147483647)
 | _,[],k,h=>absurd h (Nat.not_lt_zero k)
 | most,r::t,0,_=>rfl
 | most,r::t,k+1,h=>by
  have:=resL_get 2147483647 t k (by simpa using h)
  rw [resL,List.getD_cons_succ,List.getD_cons_succ,this,if_neg (Nat.succ_ne_zero k)]
  split <;> rfl
def errL:List (Nat×Nat)→Nat
 | []=>0
 | x::t=>if x.2=0 then errL t else x.2
theorem errL_app {l r:List (Nat×Nat)} (h:errL l=0):errL (l++r)=errL r:=by
 induction l with
 | nil=>rfl
 | cons x t ih =>
  rw [errL] at h
  split at h
  ·rename_i hx
   rw [List.cons_append,errL,if_pos hx,ih h]
  ·rename_i hx;exact absurd h hx
theorem errL_one {l:List (Nat×Nat)} {k:Nat} (hk:k<l.length) (h:errL (l.take k)=0):errL (l.take (k+1))=(l.getD k (0,0)).2:=by
 rw [List.take_succ_eq_append_getElem hk,errL_app h]
 simp only [errL,List.getD,List.getElem?_eq_getElem hk,Option.getD_some]
 split <;> simp_all
theorem errL_bad {l:List (Nat×Nat)} {k:Nat} (hk:k<l.length) (h:errL (l.take k)=0) (h2:(l.getD k (0,0)).2≠0):errL l=(l.getD k (0,0)).2:=by
 have e:errL (l.take k++l.drop k)=errL (l.drop k):=errL_app h
 rw [List.take_append_drop] at e
 rw [e,List.drop_eq_getElem_cons hk,errL]
 simp only [List.getD,List.getElem?_eq_getElem hk,Option.getD_some] at h2 ⊢
 rw [if_neg h2]
theorem nums_res:∀ (n:Nat) (b:List UInt8) (most:Nat),b.length≤n→numsM most b=if errL (resL most (runsL b))=0 then ((resL most (runsL b)).map (·.1),0) else ([],errL (resL most (runsL b))):=by
 intro n
 induction n with
 | zero =>
  intro b most hb
  have:b=[]:=List.length_eq_zero_iff.1 (by omega)
  subst this
  rw [numsM,runsL_nil];rfl
 | succ n ih =>
  intro b most hb
  by_cases h:b=[]
  ·subst h;rw [numsM,runsL_nil];rfl
  ·have h1:=runLen_pos h
   have h2:=runLen_le b
   have hi:=ih (b.drop (runLen b)) 2147483647 (by rw [List.length_drop];omega)
   rw [numsM,dif_neg h,hi,runsL_cons h,resL,errL]
   by_cases e:(numM (b.take (runLen b)) most).2=0
   ·rw [if_neg (by simp [e]),if_pos e]
    by_cases e2:errL (resL 2147483647 (runsL (b.drop (runLen b))))=0
    ·rw [if_pos e2,if_pos e2,if_neg (by simp),List.map_cons]
    ·rw [if_neg e2,if_neg e2,if_pos e2]
   ·rw [if_pos e,if_neg e,if_neg e]
theorem arcs_snoc {l:List Nat} (n:Nat) (h:l≠[]):arcsOf (l++[n])=arcsOf l++[(n:Int)]:=by
 cases l with
 | nil=>exact absurd rfl h
 | cons a r=>simp [arcsOf]
theorem arcs_len (l:List Nat):(arcsOf l).length≤l.length+1∧(l≠[]→2≤(arcsOf l).length):=by
 cases l with
 | nil=>exact ⟨by simp [arcsOf],fun h=>absurd rfl h⟩
 | cons a r=>simp [arcsOf]
def putM (s:List UInt8):List UInt8:=if (parseM s).2=0 then putA (parseM s).1 else []
def resB (b:List UInt8):List (Nat×Nat):=resL 2147483727 (runsL b)
theorem resB_len (b:List UInt8):(resB b).length=(runsL b).length:=resL_len _ _
theorem nums_resB (b:List UInt8):numsM 2147483727 b=if errL (resB b)=0 then ((resB b).map (·.1),0) else ([],errL (resB b)):=nums_res b.length b 2147483727 (Nat.le_refl _)
theorem getA_nil:getA []=([],2):=by unfold getA;rw [if_pos rfl]
theorem getA_bad {b:List UInt8} (hb:b≠[]) (h:errL (resB b)≠0):getA b=([],errL (resB b)):=by
 unfold getA
 have:=nums_resB b
 rw [if_neg h] at this
 rw [if_neg hb,this,if_pos h]
theorem getA_good {b:List UInt8} (hb:b≠[]) (h:errL (resB b)=0):getA b=if rightA (arcsOf ((resB b).map (·.1)))=false then ([],1) else (arcsOf ((resB b).map (·.1)),0):=by
 unfold getA
 have:=nums_resB b
 rw [if_pos h] at this
 rw [if_neg hb,this,if_neg (by simp)]
def textM (l:List Int):List UInt8×Nat:=if rightA l=true then (textL l,0) else ([],1)
def ogetM (b:List UInt8):List UInt8×Nat:=if (getA b).2=0 then (textL (getA b).1,0) else ([],(getA b).2)
theorem get_text {b:List UInt8} (hb:b≠[]) (h:errL (resB b)=0):ogetM b=textM (arcsOf ((resB b).map (·.1))):=by
 unfold ogetM textM
 rw [getA_good hb h]
 cases rightA (arcsOf ((resB b).map (·.1))) <;> simp
theorem get_err {b:List UInt8} (hb:b≠[]) (h:errL (resB b)≠0):ogetM b=([],errL (resB b)):=by
 unfold ogetM
 rw [getA_bad hb h,if_neg h]
theorem get_nil:ogetM []=([],2):=by unfold ogetM;rw [getA_nil,if_neg (by decide)]
theorem join_lib (c:UInt8):∀ ls:List (List UInt8),Lib.join ls [c]=joinC c ls
 | []=>rfl
 | [p]=>Lib.join_one p [c]
 | p::q::r=>by
  have ih:=join_lib c (q::r)
  rw [Lib.join_cons] at ih ⊢
  rw [joinC,← ih]
  simp [Lib.joinTail]
theorem join_len {c:UInt8} {m:Nat}:∀ {ls:List (List UInt8)},(∀ p ∈ ls,p.length≤m)→(joinC c ls).length≤(m+1) * ls.length
 | [],_=>Nat.zero_le _
 | [p],h=>by have:=h p (by simp);simp [joinC];omega
 | p::q::r,h=>by
  have h1:=h p (by simp)
  have ih:=join_len (c:=c) (m:=m) (ls:=q::r) fun x hx=>h x (by simp at hx ⊢;exact .inr hx)
  rw [joinC,List.length_append,List.length_cons,List.length_cons,Nat.mul_succ]
  omega
theorem low_run (l:List UInt8) (p:UInt8→Bool) (hp:∀ c,p c=decide (c.toNat<128)):(runLen l:Int)=if firstI p l<0 then (l.length:Int) else firstI p l+1:=by
 induction l with
 | nil=>simp [runLen,firstI]
 | cons c l ih =>
  have hb:=firstI_bd p l
  rw [runLen,firstI,hp]
  by_cases hc:c.toNat<128
  ·simp [hc]
  ·simp only [hc,decide_false,if_false,Bool.false_eq_true]
   by_cases hn:firstI p l<0
   ·rw [if_pos hn] at ih
    rw [if_pos hn,if_pos (by decide)]
    simp only [List.length_cons];omega
   ·rw [if_neg hn] at ih
    rw [if_neg hn,if_neg (by omega)]
    omega
theorem get_of_put {s:List UInt8} (h:(parseM s).2=0):ogetM (putA (parseM s).1)=(s,0):=by
 have hr:=(parse_right (s:=s) (l:=(parseM s).1) (by rw [← h])).1
 have ht:=text_parse (s:=s) (l:=(parseM s).1) (by rw [← h])
 unfold ogetM
 rw [get_put hr,if_pos rfl,ht]
end
end Am
end Go.Proofs.YthlpfjnkieaeeaaGreatDoor
namespace Go.Proofs.YthlpfjnkieaeeaaGreatDoor.Cal
set_option linter.unusedVariables false

structure D6 where
 y:Int
 m:Int
 d:Int
 h:Int
 mi:Int
 s:Int

def leapM (y:Int):Bool:=y % 4 == 0 && (y % 100 != 0 || y % 400 == 0)
theorem leapM_eq (y:Int):leapM y=decide (y % 4=0∧(y % 100≠0∨y % 400=0)):=by
 rw [Bool.eq_iff_iff];simp [leapM]
theorem tmod0 (a b:Int):a.tmod b=0↔a % b=0:=by
 rw [← Int.dvd_iff_tmod_eq_zero,Int.dvd_iff_emod_eq_zero]
def daysM (y m:Int):Int :=
 if m=4∨m=6∨m=9∨m=11 then 30 else if m=2 then (if leapM y then 29 else 28) else if m<1∨m>12 then 0 else 31
theorem days_le (y m:Int):0≤daysM y m∧daysM y m≤31:=by
 unfold daysM;repeat' split
 all_goals omega
theorem days_pos {y m d:Int} (h1:1≤d) (h2:d≤daysM y m):1≤m∧m≤12:=by
 unfold daysM at h2;repeat' split at h2
 all_goals omega
def bf (y:Int):Int:=365 * (y-1)+(y-1) / 4-(y-1) / 100+(y-1) / 400+306-719468
theorem bf_1970:bf 1970=0:=by decide
theorem bf_succ (y:Int):bf (y+1)=bf y+365+if leapM y then 1 else 0:=by
 have e:(leapM y=true)↔(y % 4=0∧(y % 100≠0∨y % 400=0)):=by simp [leapM]
 by_cases h:leapM y=true
 ·rw [if_pos h];rw [e] at h;unfold bf;omega
 ·rw [if_neg h];rw [e] at h;unfold bf;omega
theorem bf_mono {a b:Int} (h:a≤b):bf a≤bf b:=by unfold bf;omega
theorem bf_bd (y:Int) (h1:1970≤y) (h2:y≤10000):0≤bf y∧bf y≤2932897:=by unfold bf;omega
def cum (y m:Int):Int :=
 if m≤2 then 31 * (m-1) else (153 * (m-3)+2) / 5+59+(if leapM y then 1 else 0)
theorem cum_one (y:Int):cum y 1=0:=by simp [cum]
theorem cum_succ (y m:Int) (h1:1≤m) (h2:m≤12):cum y (m+1)=cum y m+daysM y m:=by
 have:m=1∨m=2∨m=3∨m=4∨m=5∨m=6∨m=7∨m=8∨m=9∨m=10∨m=11∨m=12:=by omega
 rcases this with h|h|h|h|h|h|h|h|h|h|h|h <;> subst h <;> simp [cum,daysM] <;> split <;> omega
theorem cum_13 (y:Int):bf y+cum y 13=bf (y+1):=by
 rw [bf_succ];simp [cum];split <;> omega
theorem cum_mono {y a b:Int} (h0:1≤a) (h:a≤b) (h1:b≤13):cum y a≤cum y b:=by
 unfold cum;repeat' split
 all_goals omega
theorem cum_bd (y m:Int) (h1:1≤m) (h2:m≤13):0≤cum y m∧cum y m≤366:=by
 unfold cum;repeat' split
 all_goals omega
def dn (y m d:Int):Int:=bf y+cum y m+d-1

theorem dn_prog (y m d:Int) (h1:1≤m) (h2:m≤12) :
  365 * (if m-3<0 then y-1 else y)+(if m-3<0 then y-1 else y) / 4-(if m-3<0 then y-1 else y) / 100+(if m-3<0 then y-1 else y) / 400+(153 * (if m-3<0 then m-3+12 else m-3)+2) / 5+d-1-719468=dn y m d:=by
 have e:(leapM y=true)↔(y % 4=0∧(y % 100≠0∨y % 400=0)):=by simp [leapM]
 by_cases h:m-3<0
 ·simp only [if_pos h]
  have:m=1∨m=2:=by omega
  rcases this with h|h <;> subst h <;> simp [dn,bf,cum] <;> omega
 ·simp only [if_neg h]
  unfold dn bf cum
  rw [if_neg (by omega)]
  by_cases hl:leapM y=true
  ·rw [if_pos hl];rw [e] at hl;omega
  ·rw [if_neg hl];rw [e] at hl;omega

def RightP (x:D6):Prop:=1970≤x.y∧x.y≤9999∧1≤x.d∧x.d≤daysM x.y x.m∧0≤x.h∧x.h<24∧0≤x.mi∧x.mi<60∧0≤x.s∧x.s<60
instance (x:D6):Decidable (RightP x):=by unfold RightP;infer_instance
def secM (x:D6):Int:=((dn x.y x.m x.d * 24+x.h) * 60+x.mi) * 60+x.s

theorem dn_bd {y m d:Int} (h1:1970≤y) (h2:y≤9999) (h3:1≤d) (h4:d≤daysM y m):bf y≤dn y m d∧dn y m d<bf (y+1)∧1≤m∧m≤12∧cum y m≤dn y m d-bf y∧dn y m d-bf y<cum y (m+1):=by
 obtain ⟨hm1,hm2⟩:=days_pos h3 h4
 have h5:=cum_succ y m hm1 hm2
 have h6:=cum_13 y
 have h7:=cum_mono (y:=y) (a:=m+1) (b:=13) (by omega) (by omega) (by omega)
 have h8:=cum_bd y m hm1 (by omega)
 unfold dn
 omega
theorem dn_inj {y m d y' m' d':Int} (a1:1970≤y) (a2:y≤9999) (a3:1≤d) (a4:d≤daysM y m) (b1:1970≤y') (b2:y'≤9999) (b3:1≤d') (b4:d'≤daysM y' m') (h:dn y m d=dn y' m' d'):y=y'∧m=m'∧d=d':=by
 obtain ⟨p1,p2,p3,p4,p5,p6⟩:=dn_bd a1 a2 a3 a4
 obtain ⟨q1,q2,q3,q4,q5,q6⟩:=dn_bd b1 b2 b3 b4
 rw [h] at p1 p2 p5 p6
 have hy:y=y':=by
  rcases Int.lt_trichotomy y y' with hlt|heq|hlt
  ·have:=bf_mono (a:=y+1) (b:=y') (by omega);omega
  ·exact heq
  ·have:=bf_mono (a:=y'+1) (b:=y) (by omega);omega
 subst hy
 have hm:m=m':=by
  rcases Int.lt_trichotomy m m' with hlt|heq|hlt
  ·have:=cum_mono (y:=y) (a:=m+1) (b:=m') (by omega) (by omega) (by omega);omega
  ·exact heq
  ·have:=cum_mono (y:=y) (a:=m'+1) (b:=m) (by omega) (by omega) (by omega);omega
 subst hm
 refine ⟨rfl,rfl,?_⟩
 unfold dn at h
 omega

theorem dec_c (n:Int) (h0:0≤n) (h1:n<146097):∃ c r:Int,n=36524 * c+r∧0≤c∧c≤3∧0≤r∧(r<36524∨(c=3∧r=36524)):=by
 by_cases h:n=146096
 ·exact ⟨3,36524,by omega,by omega,by omega,by omega,.inr ⟨rfl,rfl⟩⟩
 ·exact ⟨n / 36524,n % 36524,by omega,by omega,by omega,by omega,.inl (by omega)⟩
theorem dec_k (v:Int) (h0:0≤v) (h1:v<1461):∃ k e:Int,v=365 * k+e∧0≤k∧k≤3∧0≤e∧(e<365∨(k=3∧e=365)):=by
 by_cases h:v=1460
 ·exact ⟨3,365,by omega,by omega,by omega,by omega,.inr ⟨rfl,rfl⟩⟩
 ·exact ⟨v / 365,v % 365,by omega,by omega,by omega,by omega,.inl (by omega)⟩
theorem div_1460 (c q v:Int) (hc:0≤c) (hc3:c≤3) (hq:0≤q) (hq24:q≤24) (hv:0≤v) (hv2:v≤1460):∃ z,(36524 * c+1461 * q+v) / 1460=25 * c+q+z∧((z=0∧24 * c+q+v<1460)∨(z=1∧1460≤24 * c+q+v)):=by
 by_cases h:24 * c+q+v<1460
 ·exact ⟨0,by omega,.inl ⟨rfl,h⟩⟩
 ·exact ⟨1,by omega,.inr ⟨rfl,by omega⟩⟩
theorem div_cent (c r:Int) (hc:0≤c) (hc3:c≤3) (h0:0≤r) (h:r<36524∨(c=3∧r=36524)):(36524 * c+r) / 36524-(36524 * c+r) / 146096=c:=by
 rcases h with h|⟨rfl,rfl⟩
 ·have e1:(36524 * c+r) / 36524=c:=by omega
  have e2:(36524 * c+r) / 146096=0:=by omega
  omega
 ·decide
theorem year_lin (c q k e z:Int) (hc:0≤c) (hc3:c≤3) (hq:0≤q) (hq24:q≤24) (hk0:0≤k) (hk3:k≤3) (he0:0≤e) (he:e<365∨(k=3∧e=365)) (hz:(z=0∧24 * c+q+(365 * k+e)<1460)∨(z=1∧1460≤24 * c+q+(365 * k+e))) :
  ((36524 * c+1461 * q+(365 * k+e))-(25 * c+q+z)+c) / 365=100 * c+4 * q+k:=by
 have h1:0≤e-z∧e-z<365:=by
  rcases hz with ⟨rfl,hz⟩|⟨rfl,hz⟩ <;> rcases he with he|⟨rfl,rfl⟩ <;> omega
 have h2:(36524 * c+1461 * q+(365 * k+e))-(25 * c+q+z)+c=(100 * c+4 * q+k) * 365+(e-z):=by omega
 rw [h2]
 omega
theorem arr4 (a b c d:Int):a-b+c-d=a-b+(c-d):=by omega
theorem year_up (c q k e:Int) (hc:0≤c) (hc3:c≤3) (hq:0≤q) (hq24:q≤24) (hk0:0≤k) (hk3:k≤3) (he:e<365∨(k=3∧e=365)) (hr:1461 * q+(365 * k+e)<36524∨c=3) :
  36524 * c+(1461 * q+(365 * k+e))<365 * (100 * c+4 * q+k+1)+(100 * c+4 * q+k+1) / 4-(100 * c+4 * q+k+1) / 100+(if 100 * c+4 * q+k=399 then 1 else 0):=by
 by_cases hk:k=3
 ·subst hk
  have e10:(100 * c+4 * q+3+1) / 4=25 * c+q+1:=by clear he hr;omega
  rw [e10]
  have he':e≤365:=by omega
  clear he
  by_cases hq':q=24
  ·subst hq'
   have e11:(100 * c+4 * 24+3+1) / 100=c+1:=by clear hr;omega
   rw [e11]
   split
   ·clear hr;omega
   ·have:¬ c=3:=by rename_i h;omega
    have hr':=hr.resolve_right this
    clear hr
    omega
  ·have e11:(100 * c+4 * q+3+1) / 100=c:=by clear hr;omega
   rw [e11]
   clear hr
   split <;> omega
 ·have he':e<365:=by
   rcases he with h|h
   ·exact h
   ·exact absurd h.1 hk
  clear he hr
  have e10:(100 * c+4 * q+k+1) / 4=25 * c+q:=by omega
  have e11:(100 * c+4 * q+k+1) / 100=c:=by omega
  rw [e10,e11]
  split <;> omega
def yr (n:Int):Int:=(n-n / 1460+n / 36524-n / 146096) / 365
theorem year_eq {n c r q v k e:Int} (hn:n=36524 * c+r) (hc:0≤c) (hc3:c≤3) (hr0:0≤r) (hr:r<36524∨(c=3∧r=36524)) (hr2:r=1461 * q+v) (hq:0≤q) (hq24:q≤24) (hv:0≤v) (hv2:v<1461) (hv3:v=365 * k+e) (hk0:0≤k) (hk3:k≤3) (he0:0≤e) (he:e<365∨(k=3∧e=365)):yr n=100 * c+4 * q+k:=by
 obtain ⟨z,hz,hz2⟩:=div_1460 c q v hc hc3 hq hq24 hv (Int.le_of_lt_add_one hv2)
 have e1:=div_cent c r hc hc3 hr0 hr
 show (n-n / 1460+n / 36524-n / 146096) / 365=_
 have e3:n / 36524-n / 146096=c:=by rw [hn];exact e1
 have e4:n / 1460=25 * c+q+z:=by rw [hn,hr2,← Int.add_assoc];exact hz
 have e5:=year_lin c q k e z hc hc3 hq hq24 hk0 hk3 he0 he (by rw [← hv3];exact hz2)
 rw [arr4,e3,e4,hn,hr2,hv3,← Int.add_assoc]
 exact e5
theorem dec_q (r:Int) (h0:0≤r) (h1:r≤36524):∃ q v:Int,r=1461 * q+v∧0≤q∧q≤24∧0≤v∧v<1461:=⟨r / 1461,r % 1461,by omega,by omega,by omega,by omega,by omega⟩
theorem year_lo {c q k:Int} (hc:0≤c) (hc3:c≤3) (hq:0≤q) (hq24:q≤24) (hk0:0≤k) (hk3:k≤3):0≤100 * c+4 * q+k∧100 * c+4 * q+k≤399∧365 * (100 * c+4 * q+k)+(100 * c+4 * q+k) / 4-(100 * c+4 * q+k) / 100=36524 * c+1461 * q+365 * k:=by
 have e7:(100 * c+4 * q+k) / 4=25 * c+q:=by omega
 have e8:(100 * c+4 * q+k) / 100=c:=by clear e7;omega
 refine ⟨by clear e7 e8;omega,by clear e7 e8;omega,?_⟩
 rw [e7,e8]
 clear e7 e8
 omega
theorem year_of (n:Int) (h0:0≤n) (h1:n<146097) :
  0≤yr n∧yr n≤399∧365 * yr n+yr n / 4-yr n / 100≤n∧n<365 * (yr n+1)+(yr n+1) / 4-(yr n+1) / 100+(if yr n=399 then 1 else 0):=by
 obtain ⟨c,r,hn,hc,hc3,hr0,hr⟩:=dec_c n h0 h1
 have hr1:r≤36524:=by
  rcases hr with h|h
  ·exact Int.le_of_lt h
  ·exact Int.le_of_eq h.2
 obtain ⟨q,v,hr2,hq,hq24,hv,hv2⟩:=dec_q r hr0 hr1
 obtain ⟨k,e,hv3,hk0,hk3,he0,he⟩:=dec_k v hv hv2
 rw [year_eq hn hc hc3 hr0 hr hr2 hq hq24 hv hv2 hv3 hk0 hk3 he0 he]
 have hup:=year_up c q k e hc hc3 hq hq24 hk0 hk3 he (by
  rw [← hv3,← hr2]
  rcases hr with h|h
  ·exact .inl h
  ·exact .inr h.1)
 rw [← hv3,← hr2,← hn] at hup
 obtain ⟨l1,l2,l3⟩:=year_lo hc hc3 hq hq24 hk0 hk3
 refine ⟨l1,l2,?_,hup⟩
 rw [l3]
 clear hup l1 l2 l3 hr he
 omega

theorem n2_bd (r:Int) (h0:0≤r) (h1:r<146097):0≤r-(365 * yr r+yr r / 4-yr r / 100)∧r-(365 * yr r+yr r / 4-yr r / 100)≤365:=by
 obtain ⟨y0,y1,y2,y3⟩:=year_of r h0 h1
 generalize yr r=y at *
 split at y3 <;> omega
structure Parts where
 ages:Int
 y:Int
 m:Int
 d:Int
def partsM (N:Int):Parts :=
 let n:=N+719468
 let r:=n % 146097
 let y:=yr r
 let n2:=r-(365 * y+y / 4-y / 100)
 let m:=(5 * n2+2) / 153
 ⟨n / 146097,y,m,n2-(153 * m+2) / 5+1⟩
def yOf (N:Int):Int:=(partsM N).ages * 400+(partsM N).y+if (partsM N).m+3>12 then 1 else 0
def mOf (N:Int):Int:=if (partsM N).m+3>12 then (partsM N).m+3-12 else (partsM N).m+3
def dOf (N:Int):Int:=(partsM N).d

theorem succ_4 (y:Int):(y+1) / 4=y / 4+if (y+1) % 4=0 then 1 else 0:=by split <;> omega
theorem succ_100 (y:Int):(y+1) / 100=y / 100+if (y+1) % 100=0 then 1 else 0:=by split <;> omega
theorem parts_bd (N:Int) (h0:0≤N) (h1:N≤2932896):4≤(partsM N).ages∧(partsM N).ages≤24∧0≤(partsM N).y∧(partsM N).y≤399∧0≤(partsM N).m∧(partsM N).m≤11∧1≤(partsM N).d∧(partsM N).d≤31 ∧
  365 * (partsM N).y+(partsM N).y / 4-(partsM N).y / 100+146097 * (partsM N).ages+(153 * (partsM N).m+2) / 5+(partsM N).d-1=N+719468 ∧
  ((partsM N).m=11→(partsM N).d≤28+(if ((partsM N).y+1) % 4=0∧(((partsM N).y+1) % 100≠0∨((partsM N).y+1) % 400=0) then 1 else 0))∧(((partsM N).m=1∨(partsM N).m=3∨(partsM N).m=6∨(partsM N).m=8)→(partsM N).d≤30):=by
 obtain ⟨n,hn⟩:∃ n,n=N+719468:=⟨_,rfl⟩
 obtain ⟨r,hr⟩:∃ r,r=n % 146097:=⟨_,rfl⟩
 have hyo:=year_of r (by omega) (by omega)
 obtain ⟨y,hy⟩:∃ y,y=yr r:=⟨_,rfl⟩
 rw [← hy] at hyo
 obtain ⟨y0,y1,y2,y3⟩:=hyo
 obtain ⟨n2,hn2⟩:∃ n2,n2=r-(365 * y+y / 4-y / 100):=⟨_,rfl⟩
 obtain ⟨m,hm⟩:∃ m,m=(5 * n2+2) / 153:=⟨_,rfl⟩
 have e:partsM N=⟨n / 146097,y,m,n2-(153 * m+2) / 5+1⟩:=by
  simp only [partsM,← hn,← hr,← hy,← hn2,← hm]
 rw [e]
 simp only
 have hlen:0≤n2∧n2≤365:=by split at y3 <;> omega
 have hlast:n2=365→((y+1) % 4=0∧((y+1) % 100≠0∨(y+1) % 400=0)):=by
  intro h
  rw [succ_4,succ_100] at y3
  by_cases h4:(y+1) % 4=0
  ·refine ⟨h4,?_⟩
   rw [if_pos h4] at y3
   by_cases h100:(y+1) % 100=0
   ·rw [if_pos h100] at y3
    by_cases h399:y=399
    ·subst h399;exact .inr (by decide)
    ·rw [if_neg h399] at y3
     omega
   ·exact .inl h100
  ·rw [if_neg h4] at y3
   by_cases h399:y=399
   ·subst h399;exact absurd (by decide) h4
   ·rw [if_neg h399] at y3
    split at y3 <;> omega
 have hm':0≤m∧m≤11:=by omega
 refine ⟨by omega,by omega,y0,y1,hm'.1,hm'.2,by omega,by omega,by omega,?_,by omega⟩
 intro h11
 subst h11
 split
 ·omega
 ·rename_i hno
  have:n2≠365:=fun h=>hno (hlast h)
  omega

theorem leap_400 (A Y:Int):leapM (A * 400+Y)=leapM Y:=by
 unfold leapM
 have e4:(A * 400+Y) % 4=Y % 4:=by omega
 have e100:(A * 400+Y) % 100=Y % 100:=by omega
 have e400:(A * 400+Y) % 400=Y % 400:=by omega
 rw [e4,e100,e400]
theorem day_ok (y M D:Int) (m1:0≤M) (m2:M≤11) (d2:D≤31) (h11:M=11→D≤28+if leapM y then 1 else 0) (h30:M=1∨M=3∨M=6∨M=8→D≤30):D≤daysM y (if M+3>12 then M+3-12 else M+3):=by
 by_cases e11:M=11
 ·subst e11
  have:=h11 rfl
  rw [if_pos (by decide)]
  simp only [daysM]
  rw [if_neg (by decide),if_pos (by decide)]
  split at this <;> (rename_i hl;simp [hl];omega)
 ·clear h11
  have hne:(if M+3>12 then M+3-12 else M+3)≠2:=by split <;> omega
  have hr:¬ ((if M+3>12 then M+3-12 else M+3)<1∨(if M+3>12 then M+3-12 else M+3)>12):=by split <;> omega
  have h4:((if M+3>12 then M+3-12 else M+3)=4∨(if M+3>12 then M+3-12 else M+3)=6∨(if M+3>12 then M+3-12 else M+3)=9∨(if M+3>12 then M+3-12 else M+3)=11)→(M=1∨M=3∨M=6∨M=8):=by split <;> omega
  generalize (if M+3>12 then M+3-12 else M+3)=q at *
  unfold daysM
  by_cases hq:q=4∨q=6∨q=9∨q=11
  ·rw [if_pos hq];exact h30 (h4 hq)
  ·rw [if_neg hq,if_neg hne,if_neg hr];exact d2
theorem of_right (N:Int) (h0:0≤N) (h1:N≤2932896):1970≤yOf N∧yOf N≤9999∧1≤dOf N∧dOf N≤daysM (yOf N) (mOf N)∧dn (yOf N) (mOf N) (dOf N)=N:=by
 obtain ⟨a1,a2,y1,y2,m1,m2,d1,d2,hN,h11,h30⟩:=parts_bd N h0 h1
 obtain ⟨A,Y,M,D,hp⟩:∃ A Y M D,partsM N=⟨A,Y,M,D⟩:=⟨_,_,_,_,rfl⟩
 have hy:yOf N=A * 400+Y+if M+3>12 then 1 else 0:=by simp only [yOf,hp]
 have hm:mOf N=if M+3>12 then M+3-12 else M+3:=by simp only [mOf,hp]
 have hd:dOf N=D:=by simp only [dOf,hp]
 rw [hp] at a1 a2 y1 y2 m1 m2 d1 d2 hN h11 h30
 simp only at a1 a2 y1 y2 m1 m2 d1 d2 hN h11 h30
 rw [hy,hm,hd]
 have key:dn (A * 400+Y+if M+3>12 then 1 else 0) (if M+3>12 then M+3-12 else M+3) D=N:=by
  rw [← dn_prog _ _ _ (by split <;> omega) (by split <;> omega)]
  have e4:(A * 400+Y) / 4=100 * A+Y / 4:=by clear h11 h30 hN;omega
  have e100:(A * 400+Y) / 100=4 * A+Y / 100:=by clear h11 h30 hN e4;omega
  have e400:(A * 400+Y) / 400=A:=by clear h11 h30 hN e4 e100;omega
  by_cases h:M+3>12
  ·simp only [if_pos h]
   rw [if_pos (by omega),if_pos (by omega),show A * 400+Y+1-1=A * 400+Y by omega,e4,e100,e400,show M+3-12-3+12=M by omega]
   clear h11 h30 e4 e100 e400
   omega
  ·simp only [if_neg h]
   rw [if_neg (by omega),if_neg (by omega),Int.add_zero,e4,e100,e400,show M+3-3=M by omega]
   clear h11 h30 e4 e100 e400
   omega
 have hday:D≤daysM (A * 400+Y+if M+3>12 then 1 else 0) (if M+3>12 then M+3-12 else M+3):=by
  refine day_ok _ M D m1 m2 d2 (fun h=>?_) h30
  have:=h11 h
  subst h
  have e:(A * 400+Y+if (11:Int)+3>12 then 1 else 0)=A * 400+(Y+1):=by simp;omega
  rw [e,leap_400]
  simpa [leapM] using this
 refine ⟨?_,?_,d1,hday,key⟩
 ·rcases Int.lt_or_le (A * 400+Y+if M+3>12 then 1 else 0) 1970 with h|h
  ·have e1:=days_pos d1 hday
   have e2:=cum_succ (A * 400+Y+if M+3>12 then 1 else 0) _ e1.1 e1.2
   have e3:=cum_mono (y:=A * 400+Y+if M+3>12 then 1 else 0) (a:=(if M+3>12 then M+3-12 else M+3)+1) (b:=13) (by omega) (by omega) (by omega)
   have e4:=cum_13 (A * 400+Y+if M+3>12 then 1 else 0)
   have e5:=bf_mono (a:=(A * 400+Y+if M+3>12 then 1 else 0)+1) (b:=1970) (by omega)
   have e6:=bf_1970
   unfold dn at key
   omega
  ·exact h
 ·rcases Int.lt_or_le 9999 (A * 400+Y+if M+3>12 then 1 else 0) with h|h
  ·have e1:=days_pos d1 hday
   have e3:=cum_bd (A * 400+Y+if M+3>12 then 1 else 0) _ e1.1 (by omega)
   have e5:=bf_mono (a:=10000) (b:=A * 400+Y+if M+3>12 then 1 else 0) (by omega)
   have e6:bf 10000=2932897:=by decide
   unfold dn at key
   omega
  ·exact h

def inT (t:Int):Prop:=0≤t∧t≤253402300799
instance (t:Int):Decidable (inT t):=by unfold inT;infer_instance
def D6.zero:D6:=⟨0,0,0,0,0,0⟩
def ofR6 (t:Int):D6:=⟨yOf (t / 86400),mOf (t / 86400),dOf (t / 86400),t % 86400 / 3600,t % 86400 % 3600 / 60,t % 86400 % 60⟩
def ofM (t:Int):D6:=if inT t then ofR6 t else D6.zero
def ofE (t:Int):Nat:=if inT t then 0 else 1
theorem ofR_right {t:Int} (h:inT t):RightP (ofR6 t)∧secM (ofR6 t)=t:=by
 obtain ⟨h0,h1⟩:=h
 obtain ⟨p1,p2,p3,p4,p5⟩:=of_right (t / 86400) (by omega) (by omega)
 refine ⟨⟨p1,p2,p3,p4,?_⟩,?_⟩
 ·simp only [ofR6];omega
 ·show ((dn (yOf (t / 86400)) (mOf (t / 86400)) (dOf (t / 86400)) * 24+t % 86400 / 3600) * 60+t % 86400 % 3600 / 60) * 60+t % 86400 % 60=t
  rw [p5];omega
theorem sec_bd {x:D6} (h:RightP x):inT (secM x):=by
 obtain ⟨a1,a2,a3,a4,a5,a6,a7,a8,a9,a10⟩:=h
 obtain ⟨p1,p2,_⟩:=dn_bd a1 a2 a3 a4
 have e1:=bf_mono (a:=1970) (b:=x.y) a1
 have e2:=bf_mono (a:=x.y+1) (b:=10000) (by omega)
 have e3:=bf_1970
 have e6:bf 10000=2932897:=by decide
 unfold inT secM
 omega
theorem of_sec {x:D6} (h:RightP x):ofR6 (secM x)=x:=by
 have ht:=sec_bd h
 obtain ⟨hr,hs⟩:=ofR_right ht
 obtain ⟨a1,a2,a3,a4,a5,a6,a7,a8,a9,a10⟩:=h
 obtain ⟨b1,b2,b3,b4,b5,b6,b7,b8,b9,b10⟩:=hr
 generalize ofR6 (secM x)=z at *
 obtain ⟨y,m,d,hh,mi,s⟩:=x
 obtain ⟨y',m',d',hh',mi',s'⟩:=z
 simp only [secM] at *
 have e1:s'=s:=by omega
 subst e1
 have e2:mi'=mi:=by omega
 subst e2
 have e3:hh'=hh:=by omega
 subst e3
 have e4:dn y' m' d'=dn y m d:=by omega
 obtain ⟨rfl,rfl,rfl⟩:=dn_inj b1 b2 b3 b4 a1 a2 a3 a4 e4
 rfl
end Go.Proofs.YthlpfjnkieaeeaaGreatDoor.Cal
namespace Go.Proofs.YthlpfjnkieaeeaaGreatDoor
set_option linter.unusedVariables false
namespace Am
open Go.RowKit
section
variable {gs:List Nat} [Ok9 gs]
open Go.RowKit Cal
set_option linter.unusedVariables false

def dF (x:D6) (i:Nat):CV:=match i with|0=>.c (.int .i64 x.y)|1=>.c (.int .i64 x.m)|2=>.c (.int .i64 x.d)|3=>.c (.int .i64 x.h)|4=>.c (.int .i64 x.mi)|_=>.c (.int .i64 x.s)
def dateC (x:D6):CV:=.agg 6 (dF x)

theorem is_ac {g:List Nat} (t:Int):ACp g Tryz.prog 255 [.c (.int .i64 t)] (.c (.bool (decide (inT t)))):=by
 refine ac_of 9 Tryz.func255 rfl rfl rfl (fun al w0 F0 St0=>?_)
 refine jU 1216516 ?_;refine jqsp 5 (fun g27=>?_) fun g27=>?_
 ·refine jU 51800021 ?_
  refine jR (jrt (hv:=?_))
  refine cB ?_
  (simp [inT, *];done)
 refine jU 5150044 ?_
 refine jR (jrt (hv:=?_))
 refine cB ?_
 (simp [inT, *];done)
theorem leap_ac {g:List Nat} (y:Int):ACp g Tryz.prog 294 [.c (.int .i64 y)] (.c (.bool (leapM y))):=by
 refine ac_of 16 Tryz.func294 rfl rfl rfl (fun al w0 F0 St0=>?_)
 refine jU 16516 ?_;refine jq (rd_remT rfl rfl rfl (by (omega))) ?_;refine jU 12 ?_;refine jqsp 6 (fun g30=>?_) fun g30=>?_
 rotate_left
 ·refine jU 5150044444444 ?_
  refine jR (jrt (hv:=?_))
  refine cB ?_
  simp only [tmod0] at *
  rw [leapM_eq]
  (simp [*];done)
 refine jU 1 ?_;refine jq (rd_remT rfl rfl rfl (by (omega))) ?_;refine jU 12 ?_;refine jqsp 10 (fun g30_2=>?_) fun g30_2=>?_
 ·refine jU 5180008000444 ?_
  refine jR (jrt (hv:=?_))
  refine cB ?_
  simp only [ne_eq,tmod0] at *
  rw [leapM_eq]
  (simp [*];done)
 refine jU 1 ?_;refine jq (rd_remT rfl rfl rfl (by (omega))) ?_;refine jU 5180005002 ?_
 refine jR (jrt (hv:=?_))
 refine cB ?_
 simp only [ne_eq,tmod0,Decidable.not_not] at *
 rw [leapM_eq]
 (simp [*];done)
theorem rleap_ac {g:List Nat} (y:Int):ACp g Tryz.prog 251 [.c (.int .i64 y)] (.c (.bool (leapM y))):=by
 refine ac_of 14 Tryz.func251 rfl rfl rfl (fun al w0 F0 St0=>?_)
 refine jU 167516 ?_;refine jq (rd_remT rfl rfl rfl (by (omega))) ?_;refine jU 52 ?_;refine jcc (fun h13=>?_) fun h13=>?_
 ·refine jU 516 ?_
  refine jR (jtr (jrt (hv:=?_)))
  refine cB ?_
  simp only [tmod0] at *
  rw [leapM_eq]
  (simp [*];omega)
 refine jU 16810 ?_;refine jq (rd_remT rfl rfl rfl (by (omega))) ?_;refine jU 12 ?_;refine jqsp 9 (fun g16=>?_) fun g16=>?_
 ·refine jU 1 ?_;refine jq (rd_remT rfl rfl rfl (by (omega))) ?_;refine jU 5180002 ?_
  refine jR (jrt (hv:=?_))
  refine cB ?_
  simp only [ne_eq,tmod0] at *
  rw [leapM_eq]
  (simp [*];done)
 refine jU 51500444 ?_
 refine jR (jrt (hv:=?_))
 refine cB ?_
 simp only [tmod0] at *
 rw [leapM_eq]
 (simp [*];done)
theorem days_ac {g:List Nat} (y m:Int):ACp g Tryz.prog 274 [.c (.int .i64 y),.c (.int .i64 m)] (.c (.int .i64 (daysM y m))):=by
 refine ac_of 21 Tryz.func274 rfl rfl rfl (fun al w0 F0 St0=>?_)
 refine jU 51267205167516 ?_;refine jcc (fun h35=>?_) fun h35=>?_
 ·refine jU 5169000810 ?_
  refine jR (jbr (jtr (jrt (hv:=?_))))
  refine cI ?_
  (simp [daysM, *];done)
 refine jU 5126 ?_;refine jcc (fun h35_2=>?_) fun h35_2=>?_
 ·refine jU 5169000810 ?_
  refine jR (jbr (jtr (jrt (hv:=?_))))
  refine cI ?_
  (simp [daysM, *];done)
 refine jU 5126 ?_;refine jcc (fun h35_3=>?_) fun h35_3=>?_
 ·refine jU 5169000810 ?_
  refine jR (jbr (jtr (jrt (hv:=?_))))
  refine cI ?_
  (simp [daysM, *];done)
 refine jU 8512200 ?_;refine jcc (fun h35_4=>?_) fun h35_4=>?_
 ·refine jU 516 ?_
  refine jR (jbr (jtr (jrt (hv:=?_))))
  refine cI ?_
  (simp [daysM, *];done)
 refine jU 5126 ?_;refine jcc (fun h37=>?_) fun h37=>?_
 ·refine jU 167 ?_
  refine jqe (jecP (leap_ac _) ?_)
  refine jU 5 ?_;refine jcc (fun h38=>?_) fun h38=>?_
  ·refine jU 516 ?_
   refine jR (jtr (jbr (jtr (jrt (hv:=?_)))))
   refine cI ?_
   (simp [daysM, *];done)
  refine jU 516810 ?_
  refine jR (jbr (jtr (jrt (hv:=?_))))
  refine cI ?_
  (simp [daysM, *];done)
 refine jU 12167840010 ?_;refine jqsp 17 (fun g43=>?_) fun g43=>?_
 ·refine jU 51690005800044 ?_
  refine jR (jtr (jrt (hv:=?_)))
  refine cI ?_
  (simp [daysM, *];done)
 refine jU 550021 ?_;refine jcc (fun h43=>?_) fun h43=>?_
 ·refine jU 516 ?_
  refine jR (jtr (jrt (hv:=?_)))
  refine cI ?_
  (simp [daysM, *];done)
 refine jU 516810 ?_
 refine jR (jrt (hv:=?_))
 refine cI ?_
 (simp [daysM, *];done)
theorem rdays_ac {g:List Nat} (y m:Int):ACp g Tryz.prog 252 [.c (.int .i64 y),.c (.int .i64 m)] (.c (.int .i64 (daysM y m))):=by
 refine ac_of 24 Tryz.func252 rfl rfl rfl (fun al w0 F0 St0=>?_)
 refine jU 12167516 ?_;refine jqsp 8 (fun g20=>?_) fun g20=>?_
 ·refine jU 51690005800044 ?_
  refine jR (jtr (jrt (hv:=?_)))
  refine cI ?_
  (simp [daysM, *];omega)
 refine jU 550021 ?_;refine jcc (fun h20=>?_) fun h20=>?_
 ·refine jU 516 ?_
  refine jR (jtr (jrt (hv:=?_)))
  refine cI ?_
  (simp [daysM, *];omega)
 refine jU 6810 ?_
 refine jqe (jebl 12 1 zr3 fun p1=>?_)
 refine jU 1216751 ?_;refine jqsp 15 (fun g24=>?_) fun g24=>?_
 rotate_left
 ·refine jU 810300550044 ?_;refine jE (ent_h (HEnt.blk rfl (fun j hj=>fl_ints [31,28,31,30,31,30,31,31,30,31,30,31] j hj) .nil)) ?_;refine jU 51507009116 ?_
  refine jR (jrt (hv:=?_))
  refine cI ?_
  have hm':m=1∨m=2∨m=3∨m=4∨m=5∨m=6∨m=7∨m=8∨m=9∨m=10∨m=11∨m=12:=by omega
  rcases hm' with h|h|h|h|h|h|h|h|h|h|h|h <;> subst h <;> simp_all [daysM]
 refine jU 1 ?_
 refine jqe (jecP (rleap_ac _) ?_)
 refine jU 58000 ?_;refine jcc (fun h24=>?_) fun h24=>?_
 ·refine jU 516 ?_
  refine jR (jtr (jrt (hv:=?_)))
  refine cI ?_
  (simp [daysM, *];done)
 refine jU 810 ?_;refine jE (ent_h (HEnt.blk rfl (fun j hj=>fl_ints [31,28,31,30,31,30,31,31,30,31,30,31] j hj) .nil)) ?_;refine jU 51507009116 ?_
 refine jR (jrt (hv:=?_))
 refine cI ?_
 have hm':m=1∨m=2∨m=3∨m=4∨m=5∨m=6∨m=7∨m=8∨m=9∨m=10∨m=11∨m=12:=by omega
 rcases hm' with h|h|h|h|h|h|h|h|h|h|h|h <;> subst h <;> simp_all [daysM]
theorem right_ac {g:List Nat} (x:D6):ACp g Tryz.prog 261 [dateC x] (.c (.bool (decide (RightP x)))):=by
 refine ac_of 56 Tryz.func261 rfl rfl rfl (fun al w0 F0 St0=>?_)
 refine jcr ?_
 refine jqe (jebx 6 fun p1=>?_)
 refine jU 751 ?_;refine jcd (.rd 0 (.rd 1 (.rd 2 (.rd 3 (.rd 4 (.rd 5 (.rd 6 (.rd 7 (.rd 8 (.rd 9 (.rd 10 (.rd 11 (.rd 12 (.rd 13 (.rd 14 (.rd 15 (.rd 16 (.rd 17 (.rd 18 (.rd 19 (.one 20 (.rd 21 (.rd 22 (.rd 23 (.rd 24 (.rd 25 (.rd 26 (.rd 27 (.rd 28 (.rd 29 (.rd 30 (.rd 31 (.rd 32 (.rd 33 (.rd 34 (.rd 35 (.rd 36 (.rd 37 (.rd 38 (.rd 39 (.rd 40 (.rd 41 (.rd 42 (.rd 43 (.rd 44 (.rd 45 (.rd 46 (.rd 47 (.rd 48 (.rd 49 (.rd 50 (.rd 51 (.rd 52 (.rd 53 .done)))))))))))))))))))))))))))))))))))))))))))))))))))))) ?_;refine jU 7080010000900000 ?_;refine jysp 6 (fun g51=>?_) fun g51=>?_
 rotate_left
 ·refine jU 6006006006006006007030000060060060070300000600600600 ?_;refine jys1 ?_;refine jU 88070300000600600600703000006006006007030000060060060070300000600600600703000006006006007030000060060060070300000600 ?_
  refine jR (jrt (hv:=?_))
  refine cB ?_
  (simp [RightP, *];done)
 refine jU 70300000080010000900000 ?_;refine jysp 11 (fun g51_2=>?_) fun g51_2=>?_
 rotate_left
 ·refine jU 60060060060060060070300000600600600 ?_;refine jys1 ?_;refine jU 88070300000600600600703000006006006007030000060060060070300000600600600703000006006006007030000060060060070300000600 ?_
  refine jR (jrt (hv:=?_))
  refine cB ?_
  (simp [RightP, *];done)
 refine jyq (jrfa 2 1 false) ?_;refine jU 70300000080010000 ?_;refine jysp 16 (fun g51_3=>?_) fun g51_3=>?_
 rotate_left
 ·refine jU 600600600600600600 ?_;refine jys1 ?_;refine jU 88070300000600600600703000006006006007030000060060060070300000600600600703000006006006007030000060060060070300000600 ?_
  refine jR (jrt (hv:=?_))
  refine cB ?_
  (simp [RightP, *];done)
 refine jyq (jrfa 2 1 false) ?_;refine jU 1000080000001000090000010000 ?_
 refine jye (jecP (days_ac _ _) ?_)
 refine jU 703000000800 ?_;refine jysp 26 (fun g51_4=>?_) fun g51_4=>?_
 rotate_left
 ·refine jU 880703000006006006007030000060060060070300000600600600703000006006006007030000060060060070300000600600600 ?_
  refine jR (jrt (hv:=?_))
  refine cB ?_
  (simp [RightP, *];done)
 refine jyq (jrfa 3 1 false) ?_;refine jU 70300000080010000 ?_;refine jysp 31 (fun g51_5=>?_) fun g51_5=>?_
 rotate_left
 ·refine jU 8807030000060060060070300000600600600703000006006006007030000060060060070300000600600600 ?_
  refine jR (jrt (hv:=?_))
  refine cB ?_
  (simp [RightP, *];done)
 refine jyq (jrfa 3 1 false) ?_;refine jU 70300000080010000 ?_;refine jysp 36 (fun g51_6=>?_) fun g51_6=>?_
 rotate_left
 ·refine jU 88070300000600600600703000006006006007030000060060060070300000600600600 ?_
  refine jR (jrt (hv:=?_))
  refine cB ?_
  (simp [RightP, *];done)
 refine jyq (jrfa 4 1 false) ?_;refine jU 70300000080010000 ?_;refine jysp 41 (fun g51_7=>?_) fun g51_7=>?_
 rotate_left
 ·refine jU 880703000006006006007030000060060060070300000600600600 ?_
  refine jR (jrt (hv:=?_))
  refine cB ?_
  (simp [RightP, *];done)
 refine jyq (jrfa 4 1 false) ?_;refine jU 70300000080010000 ?_;refine jysp 46 (fun g51_8=>?_) fun g51_8=>?_
 rotate_left
 ·refine jU 8807030000060060060070300000600600600 ?_
  refine jR (jrt (hv:=?_))
  refine cB ?_
  (simp [RightP, *];done)
 refine jyq (jrfa 5 1 false) ?_;refine jU 70300000080010000 ?_;refine jysp 51 (fun g51_9=>?_) fun g51_9=>?_
 ·refine jyq (jrfa 5 1 false) ?_;refine jU 88070300000080010000 ?_
  refine jR (jrt (hv:=?_))
  refine cB ?_
  (simp [RightP, *];done)
 refine jU 88070300000600600600 ?_
 refine jR (jrt (hv:=?_))
 refine cB ?_
 (simp [RightP, *];done)

theorem secs_ac (x:D6):ACp gs Tryz.prog 234 [dateC x] (.tup 2 (fl [.c (.int .i64 (if RightP x then secM x else 0)),.err (if RightP x then 0 else 1)])):=by
 refine ac_of 56 Tryz.func234 rfl rfl rfl (fun al w0 F0 St0=>?_)
 refine jcr ?_
 refine jqe (jebx 6 fun p1=>?_)
 refine jU 67511 ?_;refine jqo (jrdoA 6) ?_
 refine jqe (jecP (right_ac x) ?_)
 refine jU 530 ?_;refine jcc (fun h78=>?_) fun h78=>?_
 ·refine jcs ?_;refine jcd (.rd 0 (.rd 1 (.rd 2 .done))) ?_;refine jyq (jrde 0) ?_;refine jU 8807070 ?_
  refine jR (jtr (jrt (hv:=?_)))
  rw [if_neg h78,if_neg h78]
  exact cZ
 refine jU 7810 ?_
 have hr:=Decidable.not_not.1 h78
 obtain ⟨q1,q2,q3,q4,q5,q6,q7,q8,q9,q10⟩:=id hr
 have qm:=days_pos q3 q4
 have qd:=days_le x.y x.m
 have qe:=dn_prog x.y x.m x.d qm.1 qm.2
 have qs:=sec_bd hr
 unfold inT secM at qs
 refine jcd (.rd 0 (.rd 1 (.rd 2 (.rd 3 (.rd 4 (.rd 5 (.rd 6 .done))))))) ?_;refine jU 5216788070703000010000800000010000900000 ?_;refine jcc (fun h82=>?_) fun h82=>?_
 rotate_left
 ·refine jU 810 ?_
  generalize hdn:dn x.y x.m x.d=N at *
  refine jU 51195060000009950700000099505000000916519995010009600000991960000019600000196000001916 ?_
  refine jR (jrt (hv:=?_))
  rw [if_pos hr,if_pos hr]
  refine cT (cI ?_) CEnt.nil
  unfold secM
  rw [hdn]
  simp only [if_neg h82] at qe
  omega
 refine jU 85119191200 ?_
 generalize hdn:dn x.y x.m x.d=N at *
 refine jU 51195060000009950700000099505000000916519995010009600000991960000019600000196000001916 ?_
 refine jR (jrt (hv:=?_))
 rw [if_pos hr,if_pos hr]
 refine cT (cI ?_) CEnt.nil
 unfold secM
 rw [hdn]
 simp only [if_pos h82] at qe
 omega

set_option maxHeartbeats 1000000 in
theorem of6_ac (t:Int):ACp gs Tryz.prog 221 [.c (.int .i64 t)] (.tup 2 (fl [dateC (ofM t),.err (ofE t)])):=by
 refine ac_of 84 Tryz.func221 rfl rfl rfl (fun al w0 F0 St0=>?_)
 refine jcr ?_
 refine jqe (jeal (n:=6) zr270 rfl fun p1=>?_)
 refine jU 16751 ?_
 refine jqe (jecP (is_ac _) ?_)
 refine jU 530 ?_;refine jcc (fun h56=>?_) fun h56=>?_
 ·refine jcs ?_;refine jcdZ (.rd 0 (.rd 1 (.one 2 (.rd 3 .done)))) ?_;refine jzq (rd_build (n:=6) rfl zr270 pl270 rfl rfl) ?_;refine jzq (jrde 0) ?_
  refine jzm (jmst 6 ?_)
  refine jU 8700000400000 ?_
  refine jR (jtr (jrt (hres:=res_2 rfl (javA 6) javt) (hv:=?_)))
  unfold ofM ofE
  rw [if_neg h56,if_neg h56]
  exact cT (CEnt.agg6 cZ cZ cZ cZ cZ cZ) cZ
 refine jU 810 ?_
 have hr:=Decidable.not_not.1 h56
 obtain ⟨r1,r2⟩:=id hr
 refine jU 51960000016 ?_
 obtain ⟨n,hn⟩:∃ n,n=t / 86400+719468:=⟨_,rfl⟩
 have n0:719468≤n∧n≤3652364:=by omega
 refine jE (weaken 4 (.c (.int .i64 n)) (cI hn.symm)) ?_;refine jU 511000000165160000016 ?_
 obtain ⟨r,hrr⟩:∃ r,r=n % 146097:=⟨_,rfl⟩
 have r0:0≤r∧r<146097:=by omega
 refine jE (weaken 4 (.c (.int .i64 r)) (cI hrr.symm)) ?_;refine jU 5160000096000001960000019600000116 ?_
 obtain ⟨y,hy⟩:∃ y,y=yr r:=⟨_,rfl⟩
 have y0:0≤y∧y≤399:=by rw [hy];exact ⟨(year_of r r0.1 r0.2).1,(year_of r r0.1 r0.2).2.1⟩
 refine jE (weaken 6 (.c (.int .i64 y)) (cI (by rw [hy];rfl))) ?_;refine jU 51996000001960000019116 ?_
 obtain ⟨n2,hn2⟩:∃ n2,n2=r-(365 * y+y / 4-y / 100):=⟨_,rfl⟩
 have q0:0≤n2∧n2≤365:=by rw [hn2,hy];exact n2_bd r r0.1 r0.2
 refine jE (weaken 4 (.c (.int .i64 n2)) (cI hn2.symm)) ?_;refine jU 516000009916 ?_
 obtain ⟨m,hm⟩:∃ m,m=(5 * n2+2) / 153:=⟨_,rfl⟩
 have m0:0≤m∧m≤11:=by omega
 refine jE (weaken 7 (.c (.int .i64 m)) (cI hm.symm)) ?_;refine jU 9960000099119191916 ?_;refine jq (rd_build (n:=6) rfl zr270 pl270 rfl rfl) ?_
 refine jqe (jeal (n:=6) zr270 rfl fun p2=>?_)
 refine jqm (jmst 6 ?_)
 refine jU 5250100675 ?_;refine jcc (fun h67=>?_) fun h67=>?_
 rotate_left
 ·refine jU 810 ?_
  have hp:partsM (t / 86400)=⟨n / 146097,y,m,n2-(153 * m+2) / 5+1⟩:=by
   simp only [partsM,← hn,← hrr,← hy,← hn2,← hm]
  have ho:ofM t=ofR6 t:=if_pos hr
  have he:ofE t=0:=if_pos hr
  refine jU 500000010000001600000100000016000001651100000016 ?_
  refine jqm (jmst 1 ?_)
  refine jU 7000000 ?_
  refine jqm (jmst 1 ?_)
  refine jU 6000000 ?_
  refine jqm (jmst 1 ?_)
  refine jU 65 ?_;refine jqo (jrdoA 6) ?_
  refine jqm (jmst 6 ?_)
  refine jU 51 ?_
  refine jR (jrt (hres:=res_2 rfl (javA 6) javt) (hv:=?_))
  rw [ho,he]
  refine cT (CEnt.agg6 (cI ?_) (cI ?_) (cI ?_) (cI ?_) (cI ?_) (cI ?_)) CEnt.nil
  ·show _=yOf (t / 86400)
   simp only [yOf,hp]
   rw [if_neg h67,Int.add_zero]
  ·show _=mOf (t / 86400)
   simp only [mOf,hp]
   rw [if_neg h67]
  ·show _=dOf (t / 86400)
   simp only [dOf,hp]
  ·rfl
  ·rfl
  ·show _=t % 86400 % 60
   rfl
 refine jU 1009501006 ?_
 refine jqm (jmst 1 ?_)
 refine jU 90950902005 ?_
 refine jqm (jmst 1 ?_)
 refine jU 85 ?_
 have hp:partsM (t / 86400)=⟨n / 146097,y,m,n2-(153 * m+2) / 5+1⟩:=by
  simp only [partsM,← hn,← hrr,← hy,← hn2,← hm]
 have ho:ofM t=ofR6 t:=if_pos hr
 have he:ofE t=0:=if_pos hr
 refine jU 500000010000001600000100000016000001651100000016 ?_
 refine jqm (jmst 1 ?_)
 refine jU 7000000 ?_
 refine jqm (jmst 1 ?_)
 refine jU 6000000 ?_
 refine jqm (jmst 1 ?_)
 refine jU 65 ?_;refine jqo (jrdoA 6) ?_
 refine jqm (jmst 6 ?_)
 refine jU 51 ?_
 refine jR (jrt (hres:=res_2 rfl (javA 6) javt) (hv:=?_))
 rw [ho,he]
 refine cT (CEnt.agg6 (cI ?_) (cI ?_) (cI ?_) (cI ?_) (cI ?_) (cI ?_)) CEnt.nil
 ·show _=yOf (t / 86400)
  simp only [yOf,hp]
  rw [if_pos h67]
 ·show _=mOf (t / 86400)
  simp only [mOf,hp]
  rw [if_pos h67]
 ·show _=dOf (t / 86400)
  simp only [dOf,hp]
 ·rfl
 ·rfl
 ·show _=t % 86400 % 60
  rfl
end
section
variable {gs:List Nat} [Ok9 gs]
open Go.RowKit Cal
set_option linter.unusedVariables false

def figc (n p:Int):UInt8:=UInt8.ofNat (48+n / p % 10).toNat
def figL (n:Int) (ps:List Int):List UInt8:=ps.map (figc n)
theorem figc_nat {n p:Int} (h0:0≤n / p):((figc n p).toNat:Int)=48+n / p % 10:=by
 unfold figc
 rw [UInt8.toNat_ofNat']
 omega
theorem figL_succ {n:Int} {ps:List Int} {l:List UInt8} {i:Nat} (h:i<ps.length):l++figL n (ps.take (i+1))=l++figL n (ps.take i)++[figc n (ps.getD i 0)]:=by
 have e:ps.take (i+1)=ps.take i++[ps.getD i 0]:=by
  rw [List.take_succ_eq_append_getElem h]
  simp [List.getD,h]
 rw [e,figL,List.map_append,← List.append_assoc]
 rfl
theorem figures_ac {gs:List Nat} (g:Option Nat) (l:List UInt8) (n:Int) (ps:List Int) (h0:0≤n) (h9:n≤9223372036854775807) (hp:∀ p ∈ ps,1≤p) (hl:l.length+ps.length≤140737488355328) :
  AC gs Tryz.prog 222 [(g,.blk l.length (byF l))] [.os 0 g 0 l.length 1,.c (.int .i64 n),isC ps] (OwnQ (l++figL n ps).length 1 (l++figL n ps).length (byF (l++figL n ps))):=by
 refine ac_of 26 Tryz.func222 rfl rfl rfl (fun al w0 F0 St0=>?_)
 refine jU 20513167516 ?_;refine l_loop (α:=Nat×Option Nat) [0,8,11,12,13,14,15,16,17,18,19,20,21,22,23,24] (fun (i,g)=>[(0,.os 0 g 0 (l++figL n (ps.take i)).length 1),(11,.c (.int .i64 (i:Nat)))]) (fun (i,g)=>[(g,.blk (l++figL n (ps.take i)).length (byF (l++figL n (ps.take i))))]) (fun i=>i.1≤ps.length) (fun i=>ps.length-i.1) ((0,g)) ?_ (fun _=>rfl) ?_ ?_ ?_
 ·simp
 ·simp only [List.take_zero,figL,List.map_nil,List.append_nil]
  (repeat (first|exact EntE.nil|refine EntE.cons cZ ?_))
 ·show HEnt [(g,Res.blk l.length (byF l))] [(g,.blk (l++figL n (ps.take 0)).length (byF (l++figL n (ps.take 0))))]
  simp only [List.take_zero,figL,List.map_nil,List.append_nil]
  exact .same .nil
 ·rintro ⟨i,g'⟩ (hi:i≤ps.length)
  refine jU 7526 ?_;refine jcc (fun h91=>?_) fun h91=>?_
  rotate_left
  ·refine jU 7000511684000200020006000 ?_
   have e:ps.take i=ps:=List.take_of_length_le (by omega)
   exact end_O 0 (.inl rfl) (res_1 rfl (arv_tmp rfl)) rfl (by rw [e]) (by rw [e];exact Nat.le_refl _) (fun _=>by rw [e]) (fun _ _=>by rw [e];exact cZ)
  refine jU 51607006207810 ?_
  have hlt:i<ps.length:=by omega
  have hpi:1≤ps.getD i 0:=by
   rw [List.getD_eq_getElem?_getD,List.getElem?_eq_getElem hlt]
   exact hp _ (List.getElem_mem hlt)
  have hq0:0≤n / ps.getD i 0:=Int.ediv_nonneg h0 (by omega)
  have hq1:n / ps.getD i 0≤n:=Int.ediv_le_self _ h0
  have hle:(figL n (ps.take i)).length=i:=by simp [figL];omega
  refine jU 80000091000000600000111200 ?_
  refine jqe (jebl 1 1 zr5 fun p1=>?_)
  refine jqm (m_appendB (l2:=[figc n (ps.getD i 0)]) rfl rfl rfl (Nat.le_refl _) (fun _ _=>cZ) (src_os rfl (.inl rfl) (by decide)) rfl (hh_bytes (.cons (cI ((by rw [figc_nat hq0]))) .nil)) Tryz.underlying22 nu22 sz5 zr5 by5 rfl (by (simp;omega)) (leaf_fl rfl rfl) rfl rfl (fun p2=>?_))
  refine jU 8519200840051 ?_
  refine jlend ((i+1,p2)) ?_ ?_ (h5:=?_) (h7:=?_)
  ·exact hlt
  ·omega
  ·simp only [figL_succ hlt]
   (repeat (first|exact EntE.nil|refine EntE.cons cZ ?_))
  ·simp only [figL_succ hlt]
   exact .same .nil

def bodyL (x:D6):List UInt8:=figL x.y [1000,100,10,1]++figL x.m [10,1]++figL x.d [10,1]++figL x.h [10,1]++figL x.mi [10,1]++figL x.s [10,1]++[90]
def putF (x:D6):List Int:=[x.m,x.d,x.h,x.mi,x.s]
def putL6 (x:D6) (i:Nat):List UInt8:=figL x.y [1000,100,10,1]++((putF x).take i).flatMap fun n=>figL n [10,1]
theorem putL_succ {x:D6} {i:Nat} (h:i<(putF x).length):putL6 x (i+1)=putL6 x i++figL ((putF x).getD i 0) [10,1]:=by
 have e:(putF x).take (i+1)=(putF x).take i++[(putF x).getD i 0]:=by
  rw [List.take_succ_eq_append_getElem h]
  simp [List.getD,h]
 unfold putL6
 rw [e,List.flatMap_append,← List.append_assoc]
 simp
theorem putL6_len (x:D6) {i:Nat} (h:i≤5):(putL6 x i).length=4+2 * i:=by
 rcases i with _|_|_|_|_|_|i <;> simp [putL6,putF,figL] <;> omega
theorem of_rightM {t:Int} (h:inT t):RightP (ofM t):=by
 rw [ofM,if_pos h];exact (ofR_right h).1
theorem putF_bd {x:D6} (h:RightP x) {i:Nat} (hi:i<(putF x).length):0≤(putF x).getD i 0∧(putF x).getD i 0≤99:=by
 obtain ⟨q1,q2,q3,q4,q5,q6,q7,q8,q9,q10⟩:=id h
 have:=days_le x.y x.m
 have qm:=days_pos q3 q4
 rcases i with _|_|_|_|_|i
 ·show 0≤x.m∧x.m≤99;omega
 ·show 0≤x.d∧x.d≤99;omega
 ·show 0≤x.h∧x.h≤99;omega
 ·show 0≤x.mi∧x.mi≤99;omega
 ·show 0≤x.s∧x.s≤99;omega
 ·simp [putF] at hi;omega
theorem putL_all (x:D6):putL6 x 5++[90]=bodyL x:=by simp [putL6,putF,bodyL]
theorem put_ac (t:Int):ACp gs Tryz.prog 174 [.c (.int .i64 t)] (.tup 2 (fl [bsC (if inT t then bodyL (ofM t) else []),.err (ofE t)])):=by
 refine ac_of 45 Tryz.func174 rfl rfl rfl (fun al w0 F0 St0=>?_)
 refine jU 165116 ?_
 refine jqe (jecP (of6_ac t) ?_)
 refine jU 9009001 ?_
 refine jqe (jeal (n:=6) zr270 rfl fun p1=>?_)
 refine jqm (jmst 6 ?_)
 refine jU 550000016751 ?_;refine jcc (fun h100=>?_) fun h100=>?_
 ·refine jU 51116 ?_
  refine jR (jtr (jrt (hv:=?_)))
  have hn:¬ inT t:=fun h=>h100 (if_pos h)
  rw [if_neg hn]
  exact cT cN cZ
 refine jU 810 ?_
 have hp0:[]++figL (ofM t).y [1000,100,10,1]=putL6 (ofM t) 0:=by simp [putL6]
 have q0:inT t:=by unfold ofE at h100;by_cases h:inT t <;> simp_all
 have hr:RightP (ofM t):=of_rightM q0
 obtain ⟨y1,y2,_⟩:=id hr
 have q1:0≤(ofM t).y:=by omega
 have q2:(ofM t).y≤9999:=by omega
 refine jU 50906 ?_
 refine jqe (jebl 4 1 zr3 fun p2=>?_)
 refine seq_ent (freeze 1 rfl) ?_;refine seq_ent (ent_none (byF [])) ?_
 refine jqm (jmcO 2 (figures_ac none [] (ofM t).y [1000,100,10,1] q1 (by omega) (by decide) (by decide)) (fun p3=>?_) (ho:=rfl) (he:=(.cons (se_nilO rfl) (.cons (se rfl cZ) (.cons (se_frzI [1000,100,10,1] rfl rfl rfl (by decide) (fun a ha=>by rw [Nat.zero_add];exact fl_ints [1000,100,10,1] a ha)) .nil)))))
 refine jU 506000000507000000505000000501000501006751 ?_
 refine jqe (jebl 5 1 zr3 fun p4=>?_)
 refine jU 3 ?_;refine seq_ent (ent_h (.same (.same (.same (.blk rfl (fun j hj=>fl_ints (putF (ofM t)) j hj) .nil))))) ?_;refine jU 2051 ?_;refine l_loop (α:=Nat×Option Nat) [6,8,33,34,35,36,37,38,39,40,41] (fun (i,g)=>[(6,.os 2 g 0 (putL6 (ofM t) i).length 1),(33,.c (.int .i64 (i:Nat)))]) (fun (i,g)=>[(p1,.blk 6 (dF (ofM t))),(p2,.dead),(g,.blk (putL6 (ofM t) i).length (byF (putL6 (ofM t) i))),(p4,.blk 5 (inF (putF (ofM t))))]) (fun i=>i.1≤5) (fun i=>5-i.1) ((0,p3)) ?_ (fun _=>rfl) ?_ ?_ ?_
 ·simp
 ·exact .cons (cO (congrArg List.length hp0)) (.cons cZ .nil)
 ·refine .blk rfl (fun j hj=>by rcases j with _|_|_|_|_|_|j <;> first|exact cZ|omega) (.frzDead (.blk (congrArg List.length hp0) (fun j hj=>CEnt.of_eq (congrArg (byF · j) hp0)) (.same .nil)))
 ·rintro ⟨i,g'⟩ (hi:i≤5)
  refine jU 7526 ?_;refine jcc (fun h104=>?_) fun h104=>?_
  rotate_left
  ·refine jU 84000200020006000 ?_
   have hlen:=putL6_len (ofM t) hi
   have hi5:i=5:=by omega
   have he:ofE t=0:=if_pos q0
   refine jU 16 ?_
   refine jqe (jebl 1 1 zr5 fun p5=>?_)
   refine jqm (m_appendB (l2:=[90]) rfl rfl rfl (Nat.le_refl _) (fun _ _=>cZ) (src_os rfl (.inl rfl) (by decide)) rfl (hh_bytes (.cons (cI (rfl)) .nil)) Tryz.underlying22 nu22 sz5 zr5 by5 rfl (by (simp;omega)) (leaf_fl rfl rfl) rfl rfl (fun p6=>?_))
   refine seq_ent (freeze 2 rfl) ?_;refine seq_ent (thaw 44 (fun a _=>byF (bodyL (ofM t)) a) rfl rfl (by omega) (fun a b ha hb=>CEnt.of_eq (by rw [show 0+(a * 1+b)=a by omega,← putL_all,hi5]))) ?_;refine jU 511 ?_
   refine jR (jrt (hv:=?_))
   rw [if_pos q0,he]
   exact cT (CEnt.rs (by rw [hi5,putL_all]) (fun _ _ _ _=>cZ)) CEnt.nil
  refine jU 51507006207810 ?_
  have hlt:i<(putF (ofM t)).length:=by simp [putF];omega
  refine jE (weaken 8 (.c (.int .i64 ((putF (ofM t)).getD i 0))) cZ) ?_;refine jU 11200 ?_
  refine jqe (jebl 2 1 zr3 fun p5=>?_)
  refine seq_ent (freeze 4 rfl) ?_
  refine jqm (jmcO 2 (figures_ac g' (putL6 (ofM t) i) ((putF (ofM t)).getD i 0) [10,1] (putF_bd hr hlt).1 (by have:=(putF_bd hr hlt).2;omega) (by decide) (by show (putL6 (ofM t) i).length+2≤_;rw [putL6_len _ hi];omega)) (fun p6=>?_) (ho:=rfl) (he:=(.cons (se rfl (cO rfl)) (.cons (se rfl cZ) (.cons (se_frzI [10,1] rfl rfl rfl (by decide) (fun a ha=>by rw [Nat.zero_add];exact fl_ints [10,1] a ha)) .nil)))))
  refine jU 8519200840051 ?_
  refine jlend ((i+1,p6)) ?_ ?_ (h5:=?_) (h7:=?_)
  ·omega
  ·omega
  ·simp only [putL_succ hlt]
   (repeat (first|exact EntE.nil|refine EntE.cons cZ ?_))
  ·simp only [putL_succ hlt]
   (repeat (first|exact HEnt.nil|refine HEnt.same ?_))
end
end Am
end Go.Proofs.YthlpfjnkieaeeaaGreatDoor
namespace Go.Proofs.YthlpfjnkieaeeaaGreatDoor
set_option linter.unusedVariables false

def isTrueM (l:List UInt8):Bool×Nat :=
 if l.length=0 then (false,2) else if 1<l.length∨((l.getD 0 0).toNat≠255∧(l.getD 0 0).toNat≠0) then (false,4) else (decide ((l.getD 0 0).toNat=255),0)
theorem idle_get (l:List UInt8) (h:1<l.length):idle l=(((l.getD 0 0).toNat == 0 && decide ((l.getD 1 0).toNat<128)) || ((l.getD 0 0).toNat == 255 && decide (128≤(l.getD 1 0).toNat))):=by
 match l,h with
 | x::y::r,_=>rfl
theorem idle_short (l:List UInt8) (h:l.length≤1):idle l=false:=by
 match l,h with
 | [],_=>rfl
 | [x],_=>rfl
 | x::y::r,h=>simp at h
theorem valS_take_one (l:List UInt8) (h:0<l.length):valS (l.take 1)=sgn (l.getD 0 0):=by
 match l,h with
 | x::r,_=>simp [valS]
theorem valS_take_succ (l:List UInt8) (k:Nat) (h:k+1<l.length):valS (l.take (k+1+1))=valS (l.take (k+1)) * 256+(l.getD (k+1) 0).toNat:=by
 rw [List.take_succ_eq_append_getElem h,valS_snoc _ (by
  intro e
  have:=congrArg List.length e
  simp at this
  rw [this] at h
  simp at h)]
 simp [List.getD,h]
def rangeM (l:List UInt8) (least most:Int):Int×Nat :=
 if (getM l).2≠0 then (0,(getM l).2) else if (getM l).1<least∨most<(getM l).1 then (0,1) else ((getM l).1,0)
def vk (l:List UInt8) (k:Nat):Int:=if k=0 then (if (l.getD 0 0).toNat<128 then 0 else -1) else valS (l.take k)
theorem valS_bd8 (l:List UInt8) (h:l.length≤8):-9223372036854775808≤valS l∧valS l<9223372036854775808:=by
 by_cases h7:l.length≤7
 ·have:=valS_small l h7
  omega
 ·have e:l=l.take 7++[l.getD 7 0]:=by
   have:l.take (7+1)=l.take 7++[l[7]]:=List.take_succ_eq_append_getElem (by omega)
   rw [List.take_of_length_le (by omega)] at this
   have e7:l.getD 7 0=l[7]:=by simp [List.getD,show 7<l.length by omega]
   rw [e7]
   exact this
  have h2:=valS_small (l.take 7) (by simp;omega)
  have hc:=(l.getD 7 0).toNat_lt
  rw [e,valS_snoc _ (by intro e;have:=congrArg List.length e;simp at this;rw [this] at h7;simp at h7)]
  omega
end Go.Proofs.YthlpfjnkieaeeaaGreatDoor
namespace Go.Proofs.YthlpfjnkieaeeaaGreatDoor
open Go.RowKit

theorem byte_mod (a:Int) (c:UInt8):byte (a * 256+c.toNat)=c:=by
 apply UInt8.toNat_inj.1
 have h1:=byte_toNat (a * 256+c.toNat)
 have:=c.toNat_lt
 omega
theorem byte_sgn (c:UInt8):byte (sgn c)=c:=by
 apply UInt8.toNat_inj.1
 have h1:=byte_toNat (sgn c)
 have:=c.toNat_lt
 unfold sgn at h1 ⊢
 split at h1 <;> rename_i hc
 ·rw [if_pos hc];omega
 ·rw [if_neg hc];omega
theorem sh_valS (l:List UInt8):∀ j,j<l.length→sh j (valS l)=valS (l.take (l.length-j)):=by
 intro j
 induction j with
 | zero=>intro _;simp [sh]
 | succ j ih =>
  intro hj
  simp only [sh]
  rw [ih (by omega)]
  have e:l.length-j=(l.length-(j+1)-1)+1+1:=by omega
  rw [e,valS_take_succ l _ (by omega),show l.length-(j+1)=l.length-(j+1)-1+1 by omega]
  have:=(l.getD (l.length-(j+1)-1+1) 0).toNat_lt
  simp only [Nat.add_sub_cancel]
  omega
theorem byte_sh_valS (l:List UInt8) (j:Nat) (hj:j<l.length):byte (sh j (valS l))=l.getD (l.length-1-j) 0:=by
 rw [sh_valS l j hj]
 by_cases h1:l.length-j=1
 ·rw [h1,valS_take_one l (by omega),byte_sgn,show l.length-1-j=0 by omega]
 ·have e:l.length-j=(l.length-1-j-1)+1+1:=by omega
  rw [e,valS_take_succ l _ (by omega),byte_mod,show l.length-1-j-1+1=l.length-1-j by omega]
theorem digs_valS (l:List UInt8):(digs l.length (valS l)).reverse=l:=by
 refine List.ext_getElem? fun i=>?_
 by_cases hi:i<l.length
 ·have h1:=digs_rev_get (valS l) l.length i hi
  rw [byte_sh_valS l _ (by omega)] at h1
  have e:l.length-1-(l.length-1-i)=i:=by omega
  rw [e] at h1
  have hl:i<(digs l.length (valS l)).reverse.length:=by simp [digs_length];exact hi
  rw [List.getElem?_eq_getElem hl,List.getElem?_eq_getElem hi]
  simp only [List.getD,List.getElem?_eq_getElem hl,List.getElem?_eq_getElem hi,Option.getD_some] at h1
  rw [h1]
 ·rw [List.getElem?_eq_none (by simp [digs_length];omega),List.getElem?_eq_none (by omega)]
theorem getM_zero {l:List UInt8} (h:(getM l).2=0):0<l.length∧l.length≤8∧idle l=false∧(getM l).1=valS l:=by
 unfold getM at h ⊢
 split at h
 ·cases h
 ·rename_i h0
  split at h
  ·cases h
  ·rename_i hi
   split at h
   ·cases h
   ·rename_i h8
    rw [if_neg h0,if_neg hi,if_neg h8]
    exact ⟨by omega,by omega,by simpa using hi,rfl⟩
theorem getM_len {l:List UInt8} (h:(getM l).2=0):IsLen (getM l).1 (l.length-1)∧(digs (l.length-1+1) (getM l).1).reverse=l:=by
 obtain ⟨h1,h2,h3,h4⟩:=getM_zero h
 rw [h4,show l.length-1+1=l.length by omega]
 have hd:=digs_valS l
 have hs:stp (l.length-1) (valS l)=true:=by
  rw [stp_iff,sh_valS l _ (by omega),show l.length-(l.length-1)=1 by omega,valS_take_one l (by omega)]
  have:=(l.getD 0 0).toNat_lt
  unfold sgn
  split <;> omega
 refine ⟨⟨by omega,hs,fun j hj=>?_⟩,hd⟩
 cases he:stp j (valS l) with
 | false=>rfl
 | true =>
  have hm:=stp_mono' (valS l) j (l.length-2) (by omega) he
  have hid:=idle_digs (valS l) (l.length-2) (by rw [show l.length-2+1=l.length-1 by omega];exact hs)
  rw [show l.length-2+2=l.length by omega,hd,h3,hm] at hid
  cases hid
theorem getM_bd {l:List UInt8} (h:(getM l).2=0):-9223372036854775808≤(getM l).1∧(getM l).1≤9223372036854775807:=by
 obtain ⟨_,h2,_,h4⟩:=getM_zero h
 have:=valS_bd8 l h2
 rw [h4]
 omega
end Go.Proofs.YthlpfjnkieaeeaaGreatDoor
namespace Go.Proofs.YthlpfjnkieaeeaaGreatDoor
set_option linter.unusedVariables false
namespace Am
open Go.RowKit
section
variable {gs:List Nat} [Ok9 gs]

theorem settled_ac {gs:List Nat} (h r:Int):ACp gs Tryz.prog 217 [.c (.int .u8 h),.c (.int .i64 r)] (.c (.bool ((r == 0 && decide (h<128)) || (r == -1 && decide (128≤h))))):=by
 refine ac_of 19 Tryz.func217 rfl rfl rfl (fun al w0 F0 St0=>?_)
 refine jU 1216516 ?_;refine jqsp 7 (fun g28=>?_) fun g28=>?_
 rotate_left
 ·refine jU 121150044 ?_;refine jqsp 14 (fun g28_2=>?_) fun g28_2=>?_
  ·refine jU 51500800021 ?_
   refine jR (jrt (hv:=?_))
   (refine cB ?_;simp [*];done)
  refine jU 5150050044 ?_
  refine jR (jrt (hv:=?_))
  (refine cB ?_;simp [*];done)
 refine jU 1800021 ?_;refine jqsp 11 (fun g28_2=>?_) fun g28_2=>?_
 ·refine jU 518000444444 ?_
  refine jR (jrt (hv:=?_))
  (refine cB ?_;simp [*];done)
 refine jU 121 ?_;refine jqsp 14 (fun g28_3=>?_) fun g28_3=>?_
 ·refine jU 51500800021 ?_
  refine jR (jrt (hv:=?_))
  omega
 refine jU 5150050044 ?_
 refine jR (jrt (hv:=?_))
 (refine cB ?_;simp [*];done)
theorem i8_sgn (c:UInt8):IntKind.i8.wrap ((c.toNat:Nat):Int)=sgn c:=by
 have:=c.toNat_lt
 have e:IntKind.i8.wrap (c.toNat:Int)=((c.toNat:Int)+128) % 256-128:=by simp [IntKind.wrap,IntKind.bits,IntKind.signed];omega
 rw [e]
 unfold sgn
 split <;> omega
theorem sgn_bd (c:UInt8):-128≤sgn c∧sgn c≤127:=by
 have:=c.toNat_lt
 unfold sgn
 split <;> omega
theorem idle_of {l:List UInt8} (h:1<l.length):idle l=true↔((l.getD 0 0).toNat=0∧(l.getD 1 0).toNat<128)∨((l.getD 0 0).toNat=255∧128≤(l.getD 1 0).toNat):=by
 rw [idle_get l h]
 simp only [Bool.or_eq_true,Bool.and_eq_true,beq_iff_eq,decide_eq_true_eq]
set_option maxHeartbeats 1000000 in
theorem wget_ac (l:List UInt8):ACp gs Tryz.prog 229 [bsC l] (.tup 2 (fl [.c (.int .i64 (getM l).1),.err (getM l).2])):=by
 refine ac_len 0 rfl fun hlen=>?_
 have hsg:=sgn_bd (l.getD 0 0)
 have hid:=fun h=>idle_of (l:=l) h
 refine ac_of 65 Tryz.func229 rfl rfl rfl (fun al w0 F0 St0=>?_)
 refine jU 5123162075116 ?_;refine jcc (fun h34=>?_) fun h34=>?_
 ·refine jcs ?_;refine jcd (.rd 0 (.rd 1 (.rd 2 .done))) ?_;refine jyq (jrde 1) ?_;refine jU 8807070 ?_
  refine jR (jbr (jtr (jrt (hv:=?_))))
  have hb:getM l=(0,2):=by unfold getM;rw [if_pos (by omega)]
  rw [hb];exact cZ
 refine jU 12316 ?_;refine jqsp 16 (fun g36=>?_) fun g36=>?_
 rotate_left
 ·refine jU 300515004444444444444444444444 ?_
  have hni:¬ idle l=true:=by
   by_cases h1:1<l.length
   ·rw [hid h1];omega
   ·rw [idle_short l (by omega)];exact Bool.noConfusion
  refine jU 512316 ?_;refine jcc (fun h38=>?_) fun h38=>?_
  ·refine jcs ?_;refine jcd (.rd 0 (.rd 1 (.rd 2 .done))) ?_;refine jyq (jrde 0) ?_;refine jU 8807070 ?_
   refine jR (jbr (jtr (jrt (hv:=?_))))
   have hb:getM l=(0,1):=by unfold getM;rw [if_neg (by omega),if_neg hni,if_pos (by omega)]
   rw [hb];exact cZ
  refine jU 60200000016840010 ?_;refine jq (rd_convI rfl rfl Tryz.underlying5 Tryz.underlying303 (sgn (l.getD 0 0)) (i8_sgn _)) ?_;refine jq (rd_convI rfl rfl Tryz.underlying303 Tryz.underlying3 (sgn (l.getD 0 0)) (wrap_id (k:=.i64) (by show _∧_;omega))) ?_;refine jU 751 ?_
  have hb:getM l=(valS l,0):=by unfold getM;rw [if_neg (by omega),if_neg hni,if_neg (by omega)]
  have hv1:=valS_take_one l (by omega)
  refine jU 16 ?_;refine jq (jrsf (hz1:=(show (1:Int)=((1:Nat):Int) from rfl))) ?_;refine jU 20513 ?_;refine l_loop (α:=Nat) [4,6,54,55,56,57,58,59,60,61,62,63] (fun i=>[(54,.c (.int .i64 (i:Nat))),(4,.c (.int .i64 (valS (l.take (i+1)))))]) (fun _=>[]) (fun i=>i+1≤l.length) (fun i=>l.length-i) (0) ?_ (fun _=>rfl) ?_ ?_ ?_
  ·show 0+1≤l.length;omega
  ·exact .cons cZ (.cons (cI hv1.symm) .nil)
  ·(repeat (exact HEnt.nil))
  ·rintro i (hi:i+1≤l.length)
   have hb:getM l=(valS l,0):=by unfold getM;rw [if_neg (by omega),if_neg hni,if_neg (by omega)]
   have hv1:=valS_take_one l (by omega)
   refine jU 7526 ?_;refine jcc (fun h42=>?_) fun h42=>?_
   rotate_left
   ·refine jU 5111684000200020006000 ?_
    refine jR (jrt (hv:=?_))
    have hil:i+1=l.length:=by simp only [List.length_drop] at *;omega
    rw [hb,hil,List.take_length];exact cT cZ (CEnt.nilE rfl)
   refine jU 207810 ?_
   have hb:getM l=(valS l,0):=by unfold getM;rw [if_neg (by omega),if_neg hni,if_neg (by omega)]
   have hv1:=valS_take_one l (by omega)
   refine jcr ?_;refine jq (jri (i:=i) (hz:=by omega)) ?_;refine jU 5160 ?_
   have hdl:(l.drop 1).length=l.length-1:=List.length_drop
   have hde:(l.drop 1).getD i 0=l.getD (i+1) 0:=by simp [List.getD]
   have hvs:=valS_take_succ l i (by omega)
   have hsm:=valS_small (l.take (i+1)) (by rw [List.length_take];omega)
   have hcl:=(l.getD (i+1) 0).toNat_lt
   have hcd:=((l.drop 1).getD i 0).toNat_lt
   refine jU 1200 ?_;refine jq (rd_shl rfl rfl rfl (by (omega)) ((valS (l.take (i+1)) * 256)) ((by show IntKind.i64.wrap (valS (l.take (i+1)) * 256)=_;exact wrap_id (k:=.i64) (by show _∧_;omega)))) ?_;refine jU 1 ?_;refine jq (rd_convI rfl rfl Tryz.underlying5 Tryz.underlying3 ((((l.drop 1).getD i 0).toNat:Nat)) (wrap_id (k:=.i64) (by show _∧_;omega))) ?_;refine jq (rd_or rfl rfl rfl (valS (l.take (i+1+1))) ((by rw [hde,hvs];exact i64_join _ _ (by omega) (by omega) (by omega) (by omega)))) ?_;refine jU 840051 ?_
   have hb:getM l=(valS l,0):=by unfold getM;rw [if_neg (by omega),if_neg hni,if_neg (by omega)]
   have hv1:=valS_take_one l (by omega)
   refine jU 8519200 ?_
   refine jlend (i+1) ?_ ?_ (h5:=?_)
   ·show i+1+1≤l.length;omega
   ·show l.length-(i+1)<l.length-i;omega
   ·exact .cons (cI (by omega)) (.cons cZ .nil)
 refine jU 126020000001 ?_;refine jqsp 21 (fun g36_2=>?_) fun g36_2=>?_
 rotate_left
 ·refine jU 12602000000115004444 ?_;refine jqsp 32 (fun g36_3=>?_) fun g36_3=>?_
  rotate_left
  ·refine jU 3005180005005004444 ?_
   have hni:¬ idle l=true:=by
    by_cases h1:1<l.length
    ·rw [hid h1];omega
    ·rw [idle_short l (by omega)];exact Bool.noConfusion
   refine jU 512316 ?_;refine jcc (fun h38=>?_) fun h38=>?_
   ·refine jcs ?_;refine jcd (.rd 0 (.rd 1 (.rd 2 .done))) ?_;refine jyq (jrde 0) ?_;refine jU 8807070 ?_
    refine jR (jbr (jtr (jrt (hv:=?_))))
    have hb:getM l=(0,1):=by unfold getM;rw [if_neg (by omega),if_neg hni,if_pos (by omega)]
    rw [hb];exact cZ
   refine jU 60200000016840010 ?_;refine jq (rd_convI rfl rfl Tryz.underlying5 Tryz.underlying303 (sgn (l.getD 0 0)) (i8_sgn _)) ?_;refine jq (rd_convI rfl rfl Tryz.underlying303 Tryz.underlying3 (sgn (l.getD 0 0)) (wrap_id (k:=.i64) (by show _∧_;omega))) ?_;refine jU 751 ?_
   have hb:getM l=(valS l,0):=by unfold getM;rw [if_neg (by omega),if_neg hni,if_neg (by omega)]
   have hv1:=valS_take_one l (by omega)
   refine jU 16 ?_;refine jq (jrsf (hz1:=(show (1:Int)=((1:Nat):Int) from rfl))) ?_;refine jU 20513 ?_;refine l_loop (α:=Nat) [4,6,54,55,56,57,58,59,60,61,62,63] (fun i=>[(54,.c (.int .i64 (i:Nat))),(4,.c (.int .i64 (valS (l.take (i+1)))))]) (fun _=>[]) (fun i=>i+1≤l.length) (fun i=>l.length-i) (0) ?_ (fun _=>rfl) ?_ ?_ ?_
   ·show 0+1≤l.length;omega
   ·exact .cons cZ (.cons (cI hv1.symm) .nil)
   ·(repeat (exact HEnt.nil))
   ·rintro i (hi:i+1≤l.length)
    have hb:getM l=(valS l,0):=by unfold getM;rw [if_neg (by omega),if_neg hni,if_neg (by omega)]
    have hv1:=valS_take_one l (by omega)
    refine jU 7526 ?_;refine jcc (fun h42=>?_) fun h42=>?_
    rotate_left
    ·refine jU 5111684000200020006000 ?_
     refine jR (jrt (hv:=?_))
     have hil:i+1=l.length:=by simp only [List.length_drop] at *;omega
     rw [hb,hil,List.take_length];exact cT cZ (CEnt.nilE rfl)
    refine jU 207810 ?_
    have hb:getM l=(valS l,0):=by unfold getM;rw [if_neg (by omega),if_neg hni,if_neg (by omega)]
    have hv1:=valS_take_one l (by omega)
    refine jcr ?_;refine jq (jri (i:=i) (hz:=by omega)) ?_;refine jU 5160 ?_
    have hdl:(l.drop 1).length=l.length-1:=List.length_drop
    have hde:(l.drop 1).getD i 0=l.getD (i+1) 0:=by simp [List.getD]
    have hvs:=valS_take_succ l i (by omega)
    have hsm:=valS_small (l.take (i+1)) (by rw [List.length_take];omega)
    have hcl:=(l.getD (i+1) 0).toNat_lt
    have hcd:=((l.drop 1).getD i 0).toNat_lt
    refine jU 1200 ?_;refine jq (rd_shl rfl rfl rfl (by (omega)) ((valS (l.take (i+1)) * 256)) ((by show IntKind.i64.wrap (valS (l.take (i+1)) * 256)=_;exact wrap_id (k:=.i64) (by show _∧_;omega)))) ?_;refine jU 1 ?_;refine jq (rd_convI rfl rfl Tryz.underlying5 Tryz.underlying3 ((((l.drop 1).getD i 0).toNat:Nat)) (wrap_id (k:=.i64) (by show _∧_;omega))) ?_;refine jq (rd_or rfl rfl rfl (valS (l.take (i+1+1))) ((by rw [hde,hvs];exact i64_join _ _ (by omega) (by omega) (by omega) (by omega)))) ?_;refine jU 840051 ?_
    have hb:getM l=(valS l,0):=by unfold getM;rw [if_neg (by omega),if_neg hni,if_neg (by omega)]
    have hv1:=valS_take_one l (by omega)
    refine jU 8519200 ?_
    refine jlend (i+1) ?_ ?_ (h5:=?_)
    ·show i+1+1≤l.length;omega
    ·show l.length-(i+1)<l.length-i;omega
    ·exact .cons (cI (by omega)) (.cons cZ .nil)
  refine jU 1 ?_;refine jq (jri (i:=1)) ?_;refine jU 5180005008000260 ?_;refine jcc (fun h36=>?_) fun h36=>?_
  ·refine jcs ?_;refine jcd (.rd 0 (.rd 1 (.rd 2 .done))) ?_;refine jU 88070704000000 ?_
   refine jR (jbr (jtr (jrt (hv:=?_))))
   have hb:getM l=(0,4):=by unfold getM;rw [if_neg (by omega),if_pos ((hid (by omega)).2 (by omega))]
   rw [hb];exact cZ
  have hni:¬ idle l=true:=by
   by_cases h1:1<l.length
   ·rw [hid h1];omega
   ·rw [idle_short l (by omega)];exact Bool.noConfusion
  refine jU 512316 ?_;refine jcc (fun h38=>?_) fun h38=>?_
  ·refine jcs ?_;refine jcd (.rd 0 (.rd 1 (.rd 2 .done))) ?_;refine jyq (jrde 0) ?_;refine jU 8807070 ?_
   refine jR (jbr (jtr (jrt (hv:=?_))))
   have hb:getM l=(0,1):=by unfold getM;rw [if_neg (by omega),if_neg hni,if_pos (by omega)]
   rw [hb];exact cZ
  refine jU 60200000016840010 ?_;refine jq (rd_convI rfl rfl Tryz.underlying5 Tryz.underlying303 (sgn (l.getD 0 0)) (i8_sgn _)) ?_;refine jq (rd_convI rfl rfl Tryz.underlying303 Tryz.underlying3 (sgn (l.getD 0 0)) (wrap_id (k:=.i64) (by show _∧_;omega))) ?_;refine jU 751 ?_
  have hb:getM l=(valS l,0):=by unfold getM;rw [if_neg (by omega),if_neg hni,if_neg (by omega)]
  have hv1:=valS_take_one l (by omega)
  refine jU 16 ?_;refine jq (jrsf (hz1:=(show (1:Int)=((1:Nat):Int) from rfl))) ?_;refine jU 20513 ?_;refine l_loop (α:=Nat) [4,6,54,55,56,57,58,59,60,61,62,63] (fun i=>[(54,.c (.int .i64 (i:Nat))),(4,.c (.int .i64 (valS (l.take (i+1)))))]) (fun _=>[]) (fun i=>i+1≤l.length) (fun i=>l.length-i) (0) ?_ (fun _=>rfl) ?_ ?_ ?_
  ·show 0+1≤l.length;omega
  ·exact .cons cZ (.cons (cI hv1.symm) .nil)
  ·(repeat (exact HEnt.nil))
  ·rintro i (hi:i+1≤l.length)
   have hb:getM l=(valS l,0):=by unfold getM;rw [if_neg (by omega),if_neg hni,if_neg (by omega)]
   have hv1:=valS_take_one l (by omega)
   refine jU 7526 ?_;refine jcc (fun h42=>?_) fun h42=>?_
   rotate_left
   ·refine jU 5111684000200020006000 ?_
    refine jR (jrt (hv:=?_))
    have hil:i+1=l.length:=by simp only [List.length_drop] at *;omega
    rw [hb,hil,List.take_length];exact cT cZ (CEnt.nilE rfl)
   refine jU 207810 ?_
   have hb:getM l=(valS l,0):=by unfold getM;rw [if_neg (by omega),if_neg hni,if_neg (by omega)]
   have hv1:=valS_take_one l (by omega)
   refine jcr ?_;refine jq (jri (i:=i) (hz:=by omega)) ?_;refine jU 5160 ?_
   have hdl:(l.drop 1).length=l.length-1:=List.length_drop
   have hde:(l.drop 1).getD i 0=l.getD (i+1) 0:=by simp [List.getD]
   have hvs:=valS_take_succ l i (by omega)
   have hsm:=valS_small (l.take (i+1)) (by rw [List.length_take];omega)
   have hcl:=(l.getD (i+1) 0).toNat_lt
   have hcd:=((l.drop 1).getD i 0).toNat_lt
   refine jU 1200 ?_;refine jq (rd_shl rfl rfl rfl (by (omega)) ((valS (l.take (i+1)) * 256)) ((by show IntKind.i64.wrap (valS (l.take (i+1)) * 256)=_;exact wrap_id (k:=.i64) (by show _∧_;omega)))) ?_;refine jU 1 ?_;refine jq (rd_convI rfl rfl Tryz.underlying5 Tryz.underlying3 ((((l.drop 1).getD i 0).toNat:Nat)) (wrap_id (k:=.i64) (by show _∧_;omega))) ?_;refine jq (rd_or rfl rfl rfl (valS (l.take (i+1+1))) ((by rw [hde,hvs];exact i64_join _ _ (by omega) (by omega) (by omega) (by omega)))) ?_;refine jU 840051 ?_
   have hb:getM l=(valS l,0):=by unfold getM;rw [if_neg (by omega),if_neg hni,if_neg (by omega)]
   have hv1:=valS_take_one l (by omega)
   refine jU 8519200 ?_
   refine jlend (i+1) ?_ ?_ (h5:=?_)
   ·show i+1+1≤l.length;omega
   ·show l.length-(i+1)<l.length-i;omega
   ·exact .cons (cI (by omega)) (.cons cZ .nil)
 refine jU 1 ?_;refine jq (jri (i:=1)) ?_;refine jU 18000260 ?_;refine jqsp 27 (fun g36_3=>?_) fun g36_3=>?_
 ·refine jU 7900051800080004444444444 ?_;refine jcd (.rd 0 (.rd 1 (.rd 2 .done))) ?_;refine jU 88070704000000 ?_
  refine jR (jbr (jtr (jrt (hv:=?_))))
  have hb:getM l=(0,4):=by unfold getM;rw [if_neg (by omega),if_pos ((hid (by omega)).2 (by omega))]
  rw [hb];exact cZ
 refine jU 126020000001 ?_;refine jqsp 32 (fun g36_4=>?_) fun g36_4=>?_
 rotate_left
 ·refine jU 3005180005005004444 ?_
  have hni:¬ idle l=true:=by
   by_cases h1:1<l.length
   ·rw [hid h1];omega
   ·rw [idle_short l (by omega)];exact Bool.noConfusion
  refine jU 512316 ?_;refine jcc (fun h38=>?_) fun h38=>?_
  ·refine jcs ?_;refine jcd (.rd 0 (.rd 1 (.rd 2 .done))) ?_;refine jyq (jrde 0) ?_;refine jU 8807070 ?_
   refine jR (jbr (jtr (jrt (hv:=?_))))
   have hb:getM l=(0,1):=by unfold getM;rw [if_neg (by omega),if_neg hni,if_pos (by omega)]
   rw [hb];exact cZ
  refine jU 60200000016840010 ?_;refine jq (rd_convI rfl rfl Tryz.underlying5 Tryz.underlying303 (sgn (l.getD 0 0)) (i8_sgn _)) ?_;refine jq (rd_convI rfl rfl Tryz.underlying303 Tryz.underlying3 (sgn (l.getD 0 0)) (wrap_id (k:=.i64) (by show _∧_;omega))) ?_;refine jU 751 ?_
  have hb:getM l=(valS l,0):=by unfold getM;rw [if_neg (by omega),if_neg hni,if_neg (by omega)]
  have hv1:=valS_take_one l (by omega)
  refine jU 16 ?_;refine jq (jrsf (hz1:=(show (1:Int)=((1:Nat):Int) from rfl))) ?_;refine jU 20513 ?_;refine l_loop (α:=Nat) [4,6,54,55,56,57,58,59,60,61,62,63] (fun i=>[(54,.c (.int .i64 (i:Nat))),(4,.c (.int .i64 (valS (l.take (i+1)))))]) (fun _=>[]) (fun i=>i+1≤l.length) (fun i=>l.length-i) (0) ?_ (fun _=>rfl) ?_ ?_ ?_
  ·show 0+1≤l.length;omega
  ·exact .cons cZ (.cons (cI hv1.symm) .nil)
  ·(repeat (exact HEnt.nil))
  ·rintro i (hi:i+1≤l.length)
   have hb:getM l=(valS l,0):=by unfold getM;rw [if_neg (by omega),if_neg hni,if_neg (by omega)]
   have hv1:=valS_take_one l (by omega)
   refine jU 7526 ?_;refine jcc (fun h42=>?_) fun h42=>?_
   rotate_left
   ·refine jU 5111684000200020006000 ?_
    refine jR (jrt (hv:=?_))
    have hil:i+1=l.length:=by simp only [List.length_drop] at *;omega
    rw [hb,hil,List.take_length];exact cT cZ (CEnt.nilE rfl)
   refine jU 207810 ?_
   have hb:getM l=(valS l,0):=by unfold getM;rw [if_neg (by omega),if_neg hni,if_neg (by omega)]
   have hv1:=valS_take_one l (by omega)
   refine jcr ?_;refine jq (jri (i:=i) (hz:=by omega)) ?_;refine jU 5160 ?_
   have hdl:(l.drop 1).length=l.length-1:=List.length_drop
   have hde:(l.drop 1).getD i 0=l.getD (i+1) 0:=by simp [List.getD]
   have hvs:=valS_take_succ l i (by omega)
   have hsm:=valS_small (l.take (i+1)) (by rw [List.length_take];omega)
   have hcl:=(l.getD (i+1) 0).toNat_lt
   have hcd:=((l.drop 1).getD i 0).toNat_lt
   refine jU 1200 ?_;refine jq (rd_shl rfl rfl rfl (by (omega)) ((valS (l.take (i+1)) * 256)) ((by show IntKind.i64.wrap (valS (l.take (i+1)) * 256)=_;exact wrap_id (k:=.i64) (by show _∧_;omega)))) ?_;refine jU 1 ?_;refine jq (rd_convI rfl rfl Tryz.underlying5 Tryz.underlying3 ((((l.drop 1).getD i 0).toNat:Nat)) (wrap_id (k:=.i64) (by show _∧_;omega))) ?_;refine jq (rd_or rfl rfl rfl (valS (l.take (i+1+1))) ((by rw [hde,hvs];exact i64_join _ _ (by omega) (by omega) (by omega) (by omega)))) ?_;refine jU 840051 ?_
   have hb:getM l=(valS l,0):=by unfold getM;rw [if_neg (by omega),if_neg hni,if_neg (by omega)]
   have hv1:=valS_take_one l (by omega)
   refine jU 8519200 ?_
   refine jlend (i+1) ?_ ?_ (h5:=?_)
   ·show i+1+1≤l.length;omega
   ·show l.length-(i+1)<l.length-i;omega
   ·exact .cons (cI (by omega)) (.cons cZ .nil)
 refine jU 1 ?_;refine jq (jri (i:=1)) ?_;refine jU 5180005008000260 ?_;refine jcc (fun h36=>?_) fun h36=>?_
 ·refine jcs ?_;refine jcd (.rd 0 (.rd 1 (.rd 2 .done))) ?_;refine jU 88070704000000 ?_
  refine jR (jbr (jtr (jrt (hv:=?_))))
  have hb:getM l=(0,4):=by unfold getM;rw [if_neg (by omega),if_pos ((hid (by omega)).2 (by omega))]
  rw [hb];exact cZ
 have hni:¬ idle l=true:=by
  by_cases h1:1<l.length
  ·rw [hid h1];omega
  ·rw [idle_short l (by omega)];exact Bool.noConfusion
 refine jU 512316 ?_;refine jcc (fun h38=>?_) fun h38=>?_
 ·refine jcs ?_;refine jcd (.rd 0 (.rd 1 (.rd 2 .done))) ?_;refine jyq (jrde 0) ?_;refine jU 8807070 ?_
  refine jR (jbr (jtr (jrt (hv:=?_))))
  have hb:getM l=(0,1):=by unfold getM;rw [if_neg (by omega),if_neg hni,if_pos (by omega)]
  rw [hb];exact cZ
 refine jU 60200000016840010 ?_;refine jq (rd_convI rfl rfl Tryz.underlying5 Tryz.underlying303 (sgn (l.getD 0 0)) (i8_sgn _)) ?_;refine jq (rd_convI rfl rfl Tryz.underlying303 Tryz.underlying3 (sgn (l.getD 0 0)) (wrap_id (k:=.i64) (by show _∧_;omega))) ?_;refine jU 751 ?_
 have hb:getM l=(valS l,0):=by unfold getM;rw [if_neg (by omega),if_neg hni,if_neg (by omega)]
 have hv1:=valS_take_one l (by omega)
 refine jU 16 ?_;refine jq (jrsf (hz1:=(show (1:Int)=((1:Nat):Int) from rfl))) ?_;refine jU 20513 ?_;refine l_loop (α:=Nat) [4,6,54,55,56,57,58,59,60,61,62,63] (fun i=>[(54,.c (.int .i64 (i:Nat))),(4,.c (.int .i64 (valS (l.take (i+1)))))]) (fun _=>[]) (fun i=>i+1≤l.length) (fun i=>l.length-i) (0) ?_ (fun _=>rfl) ?_ ?_ ?_
 ·show 0+1≤l.length;omega
 ·exact .cons cZ (.cons (cI hv1.symm) .nil)
 ·(repeat (exact HEnt.nil))
 ·rintro i (hi:i+1≤l.length)
  have hb:getM l=(valS l,0):=by unfold getM;rw [if_neg (by omega),if_neg hni,if_neg (by omega)]
  have hv1:=valS_take_one l (by omega)
  refine jU 7526 ?_;refine jcc (fun h42=>?_) fun h42=>?_
  rotate_left
  ·refine jU 5111684000200020006000 ?_
   refine jR (jrt (hv:=?_))
   have hil:i+1=l.length:=by simp only [List.length_drop] at *;omega
   rw [hb,hil,List.take_length];exact cT cZ (CEnt.nilE rfl)
  refine jU 207810 ?_
  have hb:getM l=(valS l,0):=by unfold getM;rw [if_neg (by omega),if_neg hni,if_neg (by omega)]
  have hv1:=valS_take_one l (by omega)
  refine jcr ?_;refine jq (jri (i:=i) (hz:=by omega)) ?_;refine jU 5160 ?_
  have hdl:(l.drop 1).length=l.length-1:=List.length_drop
  have hde:(l.drop 1).getD i 0=l.getD (i+1) 0:=by simp [List.getD]
  have hvs:=valS_take_succ l i (by omega)
  have hsm:=valS_small (l.take (i+1)) (by rw [List.length_take];omega)
  have hcl:=(l.getD (i+1) 0).toNat_lt
  have hcd:=((l.drop 1).getD i 0).toNat_lt
  refine jU 1200 ?_;refine jq (rd_shl rfl rfl rfl (by (omega)) ((valS (l.take (i+1)) * 256)) ((by show IntKind.i64.wrap (valS (l.take (i+1)) * 256)=_;exact wrap_id (k:=.i64) (by show _∧_;omega)))) ?_;refine jU 1 ?_;refine jq (rd_convI rfl rfl Tryz.underlying5 Tryz.underlying3 ((((l.drop 1).getD i 0).toNat:Nat)) (wrap_id (k:=.i64) (by show _∧_;omega))) ?_;refine jq (rd_or rfl rfl rfl (valS (l.take (i+1+1))) ((by rw [hde,hvs];exact i64_join _ _ (by omega) (by omega) (by omega) (by omega)))) ?_;refine jU 840051 ?_
  have hb:getM l=(valS l,0):=by unfold getM;rw [if_neg (by omega),if_neg hni,if_neg (by omega)]
  have hv1:=valS_take_one l (by omega)
  refine jU 8519200 ?_
  refine jlend (i+1) ?_ ?_ (h5:=?_)
  ·show i+1+1≤l.length;omega
  ·show l.length-(i+1)<l.length-i;omega
  ·exact .cons (cI (by omega)) (.cons cZ .nil)
theorem wrange_ac (l:List UInt8) (least most:Int):ACp gs Tryz.prog 184 [bsC l,.c (.int .i64 least),.c (.int .i64 most)] (.tup 2 (fl [.c (.int .i64 (rangeM l least most).1),.err (rangeM l least most).2])):=by
 refine ac_of 30 Tryz.func184 rfl rfl rfl (fun al w0 F0 St0=>?_)
 refine jU 165116 ?_
 refine jqe (jecP (wget_ac l) ?_)
 refine jU 51500000162075119009001 ?_;refine jcc (fun h52=>?_) fun h52=>?_
 ·refine jU 51116 ?_
  refine jR (jbr (jtr (jrt (hv:=?_))))
  have hb:rangeM l least most=(0,(getM l).2):=by unfold rangeM;rw [if_pos (by omega)]
  rw [hb];exact cZ
 refine jU 12116 ?_;refine jqsp 23 (fun g54=>?_) fun g54=>?_
 ·refine jU 79000518000444 ?_;refine jcd (.rd 0 (.rd 1 (.rd 2 .done))) ?_;refine jyq (jrde 0) ?_;refine jU 8807070 ?_
  refine jR (jbr (jtr (jrt (hv:=?_))))
  have hb:rangeM l least most=(0,1):=by unfold rangeM;rw [if_neg (by omega),if_pos (by omega)]
  rw [hb];exact cZ
 refine jU 51500211 ?_;refine jcc (fun h54=>?_) fun h54=>?_
 rotate_left
 ·refine jU 51116840010 ?_
  refine jR (jrt (hv:=?_))
  have hb:rangeM l least most=((getM l).1,0):=by unfold rangeM;rw [if_neg (by omega),if_neg (by omega)]
  rw [hb];exact cT cZ (CEnt.nilE rfl)
 refine jcs ?_;refine jcd (.rd 0 (.rd 1 (.rd 2 .done))) ?_;refine jyq (jrde 0) ?_;refine jU 8807070 ?_
 refine jR (jbr (jtr (jrt (hv:=?_))))
 have hb:rangeM l least most=(0,1):=by unfold rangeM;rw [if_neg (by omega),if_pos (by omega)]
 rw [hb];exact cZ
def lenN (n:Int):Nat:=((List.range 8).find? fun k=>stp k n).getD 7
def putN (n:Int):List UInt8:=(digs (lenN n+1) n).reverse
theorem lenN_is {n:Int} (h1:-9223372036854775808≤n) (h2:n≤9223372036854775807):IsLen n (lenN n):=by
 unfold lenN
 have h7:=stp_seven n h1 h2
 cases e:(List.range 8).find? fun k=>stp k n with
 | none =>
  have:=List.find?_eq_none.1 e 7 (by simp)
  exact absurd h7 this
 | some k =>
  rw [List.find?_range_eq_some] at e
  obtain ⟨e1,e2,e3⟩:=e
  have:=List.mem_range.1 e2
  exact ⟨by show k≤7;omega,e1,fun j hj=>by have:=e3 j hj;simpa using this⟩
theorem putN_of {n:Int} {k:Nat} (h1:-9223372036854775808≤n) (h2:n≤9223372036854775807) (h:IsLen n k):(digs (k+1) n).reverse=putN n:=by
 unfold putN
 rw [h.unique (lenN_is h1 h2)]
theorem putN_get {n:Int} (h1:-9223372036854775808≤n) (h2:n≤9223372036854775807):getM (putN n)=(n,0):=getM_put n _ (lenN_is h1 h2)
theorem putN_len (n:Int) (h1:-9223372036854775808≤n) (h2:n≤9223372036854775807):1≤(putN n).length∧(putN n).length≤8:=by
 have:=(lenN_is h1 h2).1
 unfold putN
 rw [List.length_reverse,digs_length]
 omega
theorem shr8 (a:Int):a.fdiv (2 ^ (min (8:Int).toNat IntKind.i64.bits))=a / 256:=by
 show a.fdiv 256=a / 256
 rw [Int.fdiv_eq_ediv_of_nonneg a (by decide)]
theorem byte_wrap (a:Int):IntKind.u8.wrap a=((byte a).toNat:Nat):=by rw [IntKind.wrap_u8,byte_toNat]
theorem digs_last (k:Nat) (n:Int):(((digs (k+1) n).getD k 0).toNat:Int)=sh k n % 256:=by rw [digs_get _ _ _ (by omega),byte_toNat]
set_option maxHeartbeats 1000000 in
theorem wput_ac {gs:List Nat} (n:Int) (h1:-9223372036854775808≤n) (h2:n≤9223372036854775807):ACp gs Tryz.prog 168 [.c (.int .i64 n)] (bsC (putN n)):=by
 have h7:=stp_seven n h1 h2
 refine ac_of 29 Tryz.func168 rfl rfl rfl (fun al w0 F0 St0=>?_)
 refine jU 16516 ?_;refine jq (rd_convI rfl rfl Tryz.underlying3 Tryz.underlying5 ((((byte n).toNat:Nat):Int)) (byte_wrap n)) ?_
 refine jqe (jebl 1 1 zr5 fun p1=>?_)
 refine jU 16751 ?_;refine jq (rd_shr rfl rfl rfl (by (omega)) (_) (rfl)) ?_;refine jU 2051 ?_;refine l_loop (α:=Nat×Option Nat) [3,4,10,11,12,13,14,15,16,17,18,19,20,21,22,23,24,25] (fun (k,g)=>[(3,.os 0 g 0 (digs (k+1) n).length 1),(4,.c (.int .i64 (sh (k+1) n)))]) (fun (k,g)=>[(g,.blk (digs (k+1) n).length (byF (digs (k+1) n)))]) (fun (k,g)=>k≤7∧∀ j,j<k→stp j n=false) (fun (k,g)=>8-k) ((0,p1)) ?_ (fun _=>rfl) ?_ ?_ ?_
 ·exact ⟨Nat.zero_le _,fun j hj=>absurd hj (Nat.not_lt_zero j)⟩
 ·exact .cons cZ (.cons (cI (shr8 n)) .nil)
 ·exact .blk rfl (fun j hj=>by obtain rfl:j=0:=(by rw [digs_length] at hj;omega);exact cZ) .nil
 ·rintro ⟨k,g⟩ ⟨(hk:k≤7),hno⟩
  have hdl:=digs_last k n
  have hdn:=digs_length (k+1) n
  refine jU 931167 ?_;refine jq (jri (i:=k) (hz:=by omega)) ?_;refine jU 150 ?_
  refine jqe (jecP (settled_ac (((digs (k+1) n).getD k 0).toNat:Nat) (sh (k+1) n)) ?_)
  refine jU 530 ?_;refine jcc (fun h19=>?_) fun h19=>?_
  rotate_left
  ·refine jU 84000200020006000 ?_
   have hst:stp k n=true:=by
    unfold stp
    have hh:=h19
    rw [hdl] at hh
    (simp at hh ⊢;omega)
   refine jU 16 ?_
   refine jqm (jmcH 0 (reverse8_ac _ (digs (k+1) n) (by omega)) ?_)
   rintro _ _ ⟨rfl,rfl⟩
   refine ⟨_,_,rfl,cZ,?_⟩
   refine jU 51165 ?_;refine jE (freeze 0 rfl) ?_;refine jE (thawB 2 ((digs (k+1) n).reverse) rfl rfl (by simp) rfl) ?_
   refine jR (jrt (hv:=CEnt.bs (putN_of h1 h2 ⟨hk,hst,hno⟩)))
  refine jU 207810 ?_
  have hst:stp k n=false:=by
   unfold stp
   have hh:=h19
   rw [hdl] at hh
   (simp at hh ⊢;omega)
  refine jU 11200 ?_;refine jq (rd_convI rfl rfl Tryz.underlying3 Tryz.underlying5 ((((byte (sh (k+1) n)).toNat:Nat):Int)) (byte_wrap _)) ?_
  refine jqe (jebl 1 1 zr5 fun p2=>?_)
  refine jqm (m_appendB (l2:=[byte (sh (k+1) n)]) rfl rfl rfl (Nat.le_refl _) (fun _ _=>cZ) (src_os rfl (.inl rfl) (by decide)) rfl (hh_bytes (.cons (cI (rfl)) .nil)) Tryz.underlying22 nu22 sz5 zr5 by5 rfl (by (simp;omega)) (leaf_fl rfl rfl) rfl rfl (fun p3=>?_))
  refine jU 1200840051 ?_;refine jq (rd_shr rfl rfl rfl (by (omega)) (_) (rfl)) ?_;refine jU 851 ?_
  refine jlend ((k+1,p3)) ?_ ?_ (h5:=?_) (h7:=?_)
  ·have hk7:k≠7:=fun e=>by
    rw [e] at hst;rw [hst] at h7;cases h7
   refine ⟨by omega,fun j hj=>?_⟩
   by_cases e:j=k
   ·rw [e];exact hst
   ·exact hno j (by omega)
  ·show 8-(k+1)<8-k;omega
  ·exact .cons (cO (by rw [← digs_succ])) (.cons (cI (shr8 _)) .nil)
  ·exact .blk (by rw [← digs_succ]) (fun j hj=>CEnt.of_eq (by rw [← digs_succ])) .nil
end
section
def fromM (b:List UInt8):Nat:=if (nextM b).e=0 then b.length-(nextM b).rest.length-(nextM b).body.length else 0
def toM (b:List UInt8):Nat:=if (nextM b).e=0 then b.length-(nextM b).rest.length else 0

theorem b8_self (a:UInt8) (n:Nat) (h:n % 256=a.toNat):b8 n=a:=by
 apply UInt8.toNat_inj.1
 rw [b8_mod,h]
theorem lenL_iff {c:UInt8} {l:List UInt8} (hl:1≤l.length∧l.length≤4) (hc:c.toNat=128+l.length):lenL (beN l)=c::l↔¬(beN l≤127∨(l.getD 0 0).toNat=0):=by
 match l,hl with
 | [x],_ =>
  have hx:=x.toNat_lt
  have e:beN [x]=x.toNat:=by simp [beN]
  rw [e]
  have c1:c=129:=UInt8.toNat_inj.1 (by rw [hc];rfl)
  subst c1
  unfold lenL
  split
  ·exact ⟨fun h=>by simp at h,fun h=>absurd (Or.inl (by omega)) h⟩
  ·exact ⟨fun _=>by simp;omega,fun _=>by rw [b8_self x _ (by omega)]⟩
 | [x,y],_ =>
  have hx:=x.toNat_lt
  have hy:=y.toNat_lt
  have e:beN [x,y]=x.toNat * 256+y.toNat:=by simp [beN]
  rw [e]
  have c1:c=130:=UInt8.toNat_inj.1 (by rw [hc];rfl)
  subst c1
  unfold lenL
  split
  ·exact ⟨fun h=>by simp at h,fun h=>absurd (Or.inl (by omega)) h⟩
  ·split
   ·exact ⟨fun h=>by simp at h,fun h=>absurd (Or.inr (by simp;omega)) h⟩
   ·rw [if_pos (by omega)]
    exact ⟨fun _=>by simp;omega,fun _=>by rw [b8_self x _ (by omega),b8_self y _ (by omega)]⟩
 | [x,y,z],_ =>
  have hx:=x.toNat_lt
  have hy:=y.toNat_lt
  have hz:=z.toNat_lt
  have e:beN [x,y,z]=(x.toNat * 256+y.toNat) * 256+z.toNat:=by simp [beN]
  rw [e]
  have c1:c=131:=UInt8.toNat_inj.1 (by rw [hc];rfl)
  subst c1
  unfold lenL
  split
  ·exact ⟨fun h=>by simp at h,fun h=>absurd (Or.inl (by omega)) h⟩
  ·split
   ·exact ⟨fun h=>by simp at h,fun h=>absurd (Or.inr (by simp;omega)) h⟩
   ·split
    ·exact ⟨fun h=>by simp at h,fun h=>absurd (Or.inr (by simp;omega)) h⟩
    ·rw [if_pos (by omega)]
     exact ⟨fun _=>by simp;omega,fun _=>by rw [b8_self x _ (by omega),b8_self y _ (by omega),b8_self z _ (by omega)]⟩
 | [x,y,z,t],_ =>
  have hx:=x.toNat_lt
  have hy:=y.toNat_lt
  have hz:=z.toNat_lt
  have ht:=t.toNat_lt
  have e:beN [x,y,z,t]=((x.toNat * 256+y.toNat) * 256+z.toNat) * 256+t.toNat:=by simp [beN]
  rw [e]
  have c1:c=132:=UInt8.toNat_inj.1 (by rw [hc];rfl)
  subst c1
  unfold lenL
  split
  ·exact ⟨fun h=>by simp at h,fun h=>absurd (Or.inl (by omega)) h⟩
  ·split
   ·exact ⟨fun h=>by simp at h,fun h=>absurd (Or.inr (by simp;omega)) h⟩
   ·split
    ·exact ⟨fun h=>by simp at h,fun h=>absurd (Or.inr (by simp;omega)) h⟩
    ·split
     ·exact ⟨fun h=>by simp at h,fun h=>absurd (Or.inr (by simp;omega)) h⟩
     ·exact ⟨fun _=>by simp;omega,fun _=>by rw [b8_self x _ (by omega),b8_self y _ (by omega),b8_self z _ (by omega),b8_self t _ (by omega)]⟩
theorem at_cons {b:List UInt8} {k:Nat} (h:1<b.length):(b.take (2+k)).drop 1=b.getD 1 0::(b.drop 2).take k:=by
 match b,h with
 | x::y::r,_=>simp [show 2+k=(k+1)+1 by omega]
theorem get_take {b:List UInt8} {k i:Nat} (h:i<k):((b.drop 2).take k).getD i 0=b.getD (2+i) 0:=by
 simp [List.getD,h]
theorem meas_short {b:List UInt8} (h:1<b.length) (hc:(b.getD 1 0).toNat<128):measM (b.drop 1)=⟨0,(b.getD 1 0).toNat,b.drop 2⟩:=by
 rw [measM_ne (c:=(b.getD 1 0).toNat) (r:=b.drop 2) (by simp;omega) (by simp [List.getD]) (by simp),if_pos (by omega)]
theorem meas_long {b:List UInt8} {k:Nat} (h:1<b.length) (hc:(b.getD 1 0).toNat=128+k):measM (b.drop 1)=if k=0∨4<k then ⟨4,0,[]⟩ else if b.length-2<k then ⟨2,0,[]⟩ else
  if lenL (beN ((b.drop 2).take k))=(b.take (2+k)).drop 1 then ⟨0,beN ((b.drop 2).take k),b.drop (2+k)⟩ else ⟨4,0,[]⟩:=by
 rw [measM_ne (c:=(b.getD 1 0).toNat) (r:=b.drop 2) (by simp;omega) (by simp [List.getD]) (by simp),if_neg (by omega)]
 by_cases h1:k=0∨4<k
 ·rw [if_pos h1,if_pos (by omega)]
 ·rw [if_neg h1,if_neg (by omega),List.length_drop,hc,show 128+k-128=k by omega]
  by_cases h2:b.length-2<k
  ·rw [if_pos h2,if_pos h2]
  ·rw [if_neg h2,if_neg h2,at_cons h,List.drop_drop]
   have hl:((b.drop 2).take k).length=k:=by simp;omega
   have hg:((b.drop 2).take k).getD 0 0=(b.drop 2).getD 0 0:=by simp [List.getD,show 0<k by omega]
   have:=lenL_iff (c:=b.getD 1 0) (l:=(b.drop 2).take k) (by omega) (by rw [hl];exact hc)
   rw [hg] at this
   by_cases h3:beN ((b.drop 2).take k)≤127∨((b.drop 2).getD 0 0).toNat=0
   ·rw [if_pos h3,if_neg (fun h=>this.1 h h3)]
   ·rw [if_neg h3,if_pos (this.2 h3)]
end
section
open Go.RowKit Cal
structure VV where
 kind:Int
 n:Int
 is:Bool
 b:List UInt8
 t:List UInt8
def VV.none:VV:=⟨0,0,false,[],[]⟩
structure W8 where
 fr:List (Int×List (List UInt8))
 d:List UInt8
 k:Nat
def failW (e:Nat) (s:W8):W8:=if s.k=0 then ⟨s.fr,s.d,e⟩ else s
def addW (b:List UInt8) (s:W8):W8:=match s.fr with
 | []=>⟨[],s.d++b,s.k⟩
 | x::r=>⟨(x.1,x.2++[b])::r,s.d,s.k⟩
def putW (tag:Int) (body:List UInt8) (e:Nat) (s:W8):W8 :=
 if (failW e s).k≠0 then failW e s else if putE tag body≠0 then ⟨s.fr,s.d,putE tag body⟩ else addW (putL tag body) s
def openW (tag:Int) (s:W8):W8:=if s.k≠0 then s else if madeM tag=false then ⟨s.fr,s.d,5⟩ else if s.fr.length=16 then ⟨s.fr,s.d,6⟩ else ⟨(tag,[])::s.fr,s.d,s.k⟩
def bodyF (x:Int×List (List UInt8)):List UInt8:=if x.1=49 then (sortL x.2).flatten else x.2.flatten
def closeV (s:W8):W8:=if s.k≠0 then s else match s.fr with
 | []=>⟨[],s.d,24⟩
 | x::r=>putW x.1 (bodyF x) 0 ⟨r,s.d,s.k⟩
def rawW (b:List UInt8) (s:W8):W8:=if (failW (depthM b).2 s).k=0 then addW b s else failW (depthM b).2 s
def doneK (s:W8):Nat:=if s.k≠0 then s.k else if s.fr≠[] then 24 else if 65536<s.d.length then 3 else 0
def doneB (s:W8):List UInt8:=if doneK s=0 then s.d else []
def bitsL (n:Int):List UInt8:=if n<0∨32767<n then [] else flagsL n.toNat
def bitsE (n:Int):Nat:=if n<0∨32767<n then 1 else 0
def bodyV (v:VV):Int×List UInt8×Nat :=
 if v.kind=3 then (2,putN v.n,0) else
 if v.kind=4 then (10,putN v.n,0) else
 if v.kind=5 then (1,[if v.is then 255 else 0],0) else
 if v.kind=6 then (4,v.b,0) else
 if v.kind=7 then (12,if askedM v.t v.n=0 then v.t else [],askedM v.t v.n) else
 if v.kind=8 then (6,putM v.t,(parseM v.t).2) else
 if v.kind=9 then (24,if inT v.n then bodyL (ofM v.n) else [],ofE v.n) else (3,bitsL v.n,bitsE v.n)
def doW (v:VV) (s:W8):W8 :=
 if v.kind=1 then openW v.n s else if v.kind=2 then closeV s else if v.kind=11 then rawW v.b s else putW (bodyV v).1 (bodyV v).2.1 (bodyV v).2.2 s
structure R8 where
 tags:List Int
 rows:List (List (List UInt8))
 e:Nat
def padR (m:Nat) (r:List (List (List UInt8))):List (List (List UInt8)):=r++List.replicate (m-r.length) []
def raddS (b:List UInt8) (s:R8):R8:=⟨s.tags,(padR (s.tags.length+1) s.rows).set s.tags.length ((padR (s.tags.length+1) s.rows).getD s.tags.length []++[b]),s.e⟩
def rputS (tag:Int) (b:List UInt8) (s:R8):R8:=if 65530<b.length then ⟨s.tags,s.rows,3⟩ else raddS (putL tag b) s
def ropenS (n:Int) (s:R8):R8:=if madeM n=false then ⟨s.tags,s.rows,5⟩ else if 16≤s.tags.length then ⟨s.tags,s.rows,6⟩ else ⟨s.tags++[n],(padR (s.tags.length+2) s.rows).set (s.tags.length+1) [],s.e⟩
def rcloseS (s:R8):R8:=if s.tags.length=0 then ⟨s.tags,s.rows,24⟩ else
 rputS (s.tags.getD (s.tags.length-1) 0) (bodyF (s.tags.getD (s.tags.length-1) 0,s.rows.getD s.tags.length [])) ⟨s.tags.take (s.tags.length-1),s.rows,s.e⟩
def rdoS (v:VV) (s:R8):R8 :=
 if s.e≠0 then s else if v.kind=1 then ropenS v.n s else if v.kind=2 then rcloseS s else
 if v.kind=11 then (if (depthM v.b).2≠0 then ⟨s.tags,s.rows,(depthM v.b).2⟩ else raddS v.b s) else
 if (bodyV v).2.2≠0 then ⟨s.tags,s.rows,(bodyV v).2.2⟩ else rputS (bodyV v).1 (bodyV v).2.1 s
def rdoneE (s:R8):Nat:=if s.e≠0 then s.e else if 0<s.tags.length then 24 else if 65536<(s.rows.getD 0 []).flatten.length then 3 else 0
def rdoneB (s:R8):List UInt8:=if rdoneE s=0 then (s.rows.getD 0 []).flatten else []
structure Same8 (r:R8) (s:W8):Prop where
 tags:r.tags=(s.fr.map Prod.fst).reverse
 e:r.e=s.k
 row0:(r.rows.getD 0 []).flatten=s.d
 row:∀ j,j<s.fr.length→r.rows.getD (j+1) []=((s.fr.map Prod.snd).reverse).getD j []
 len:r.tags.length≠0→r.tags.length<r.rows.length
 known:∀ x ∈ s.fr,madeM x.1=true
 lim:s.fr.length≤16
theorem same_zero:Same8 ⟨[],[],0⟩ ⟨[],[],0⟩:=⟨rfl,rfl,rfl,fun j h=>by simp at h,fun h=>by simp at h,fun _ h=>(by cases h),by decide⟩
theorem pad_len (m:Nat) (r:List (List (List UInt8))):(padR m r).length=max m r.length:=by simp [padR];omega
theorem pad_get (m:Nat) (r:List (List (List UInt8))) (j:Nat):(padR m r).getD j []=r.getD j []:=by
 simp only [padR,List.getD_eq_getElem?_getD,List.getElem?_append]
 split
 ·rfl
 ·rename_i h
  rw [List.getElem?_eq_none (l:=r) (by omega),List.getElem?_replicate]
  split <;> rfl
theorem set_get (l:List (List (List UInt8))) (i j:Nat) (x:List (List UInt8)) (hi:i<l.length):(l.set i x).getD j []=if j=i then x else l.getD j []:=by
 simp only [List.getD_eq_getElem?_getD,List.getElem?_set]
 by_cases h:i=j
 ·subst h;simp [hi]
 ·rw [if_neg h,if_neg (Ne.symm h)]
theorem same_add {r:R8} {s:W8} (h:Same8 r s) (b:List UInt8):Same8 (raddS b r) (addW b s):=by
 have hl:r.tags.length=s.fr.length:=by rw [h.tags];simp
 have hp:r.tags.length<(padR (r.tags.length+1) r.rows).length:=by rw [pad_len];omega
 obtain ⟨fr,d,k⟩:=s
 cases fr with
 | nil =>
  refine ⟨h.tags,h.e,?_,fun j hj=>by simp [addW] at hj,fun h0=>?_,h.known,h.lim⟩
  ·have h0:r.tags.length=0:=hl
   show List.flatten (List.getD (List.set _ _ _) _ _)=_
   rw [set_get _ _ _ _ hp,if_pos h0.symm,h0,pad_get,List.flatten_append,h.row0]
   simp [addW]
  ·exact absurd hl h0
 | cons x fr =>
  have hl':r.tags.length=fr.length+1:=hl
  refine ⟨?_,h.e,?_,fun j hj=>?_,fun _=>?_,fun y hy=>?_,h.lim⟩
  ·show r.tags=_
   rw [h.tags]
   simp [addW]
  ·show List.flatten (List.getD (List.set _ _ _) _ _)=_
   rw [set_get _ _ _ _ hp,if_neg (by omega),pad_get,h.row0]
   rfl
  ·have hj:j<fr.length+1:=hj
   show List.getD (List.set _ _ _) _ _=_
   rw [set_get _ _ _ _ hp]
   simp only [addW,List.map_cons,List.reverse_cons]
   have hr:=h.row j hj
   simp only [List.map_cons,List.reverse_cons] at hr
   by_cases e:j=fr.length
   ·rw [if_pos (by omega),pad_get,hl',← e,hr]
    simp [List.getD_eq_getElem?_getD,e]
   ·rw [if_neg (by omega),pad_get,hr]
    simp only [List.getD_eq_getElem?_getD]
    rw [List.getElem?_append_left (by simp;omega),List.getElem?_append_left (by simp;omega)]
  ·show r.tags.length<(List.set _ _ _).length
   rw [List.length_set]
   exact hp
  ·rcases List.mem_cons.1 hy with rfl|hy
   ·exact h.known x List.mem_cons_self
   ·exact h.known y (List.mem_cons_of_mem _ hy)
theorem made_known {t:Int} (h:madeM t=true):knownM t=true:=by unfold knownM;rw [h];rfl
theorem same_put {r:R8} {s:W8} (h:Same8 r s) (hk:s.k=0) {tag:Int} (ht:knownM tag=true) (b:List UInt8):Same8 (rputS tag b r) (putW tag b 0 s):=by
 have e0:failW 0 s=s:=by
  obtain ⟨fr,d,k⟩:=s
  obtain rfl:k=0:=hk
  rfl
 unfold putW
 rw [e0,if_neg (by omega)]
 unfold putE rputS
 rw [ht]
 simp only [Bool.true_eq_false,if_false]
 by_cases hb:65530<b.length
 ·rw [if_pos hb,if_pos hb,if_pos (by decide)]
  exact ⟨h.tags,rfl,h.row0,h.row,h.len,h.known,h.lim⟩
 ·rw [if_neg hb,if_neg hb,if_neg (by decide)]
  exact same_add h _
theorem same_open {r:R8} {s:W8} (h:Same8 r s) (hk:s.k=0) (n:Int):Same8 (ropenS n r) (openW n s):=by
 have hl:r.tags.length=s.fr.length:=by rw [h.tags];simp
 have hlim:=h.lim
 unfold ropenS openW
 rw [if_neg (show ¬ s.k≠0 by omega)]
 by_cases hm:madeM n=false
 ·rw [if_pos hm,if_pos hm]
  exact ⟨h.tags,rfl,h.row0,h.row,h.len,h.known,h.lim⟩
 ·rw [if_neg hm,if_neg hm]
  by_cases h16:s.fr.length=16
  ·rw [if_pos (by omega),if_pos h16]
   exact ⟨h.tags,rfl,h.row0,h.row,h.len,h.known,h.lim⟩
  ·rw [if_neg (by omega),if_neg h16]
   have hp:r.tags.length+1<(padR (r.tags.length+2) r.rows).length:=by rw [pad_len];omega
   refine ⟨?_,h.e,?_,fun j hj=>?_,fun _=>?_,fun y hy=>?_,?_⟩
   ·show r.tags++[n]=_
    rw [h.tags]
    simp
   ·show List.flatten (List.getD (List.set _ _ _) _ _)=_
    rw [set_get _ _ _ _ hp,if_neg (by omega),pad_get,h.row0]
   ·have hj:j<s.fr.length+1:=hj
    show List.getD (List.set _ _ _) _ _=_
    rw [set_get _ _ _ _ hp]
    simp only [List.map_cons,List.reverse_cons]
    by_cases e:j=s.fr.length
    ·rw [if_pos (by omega)]
     simp [List.getD_eq_getElem?_getD,e]
    ·rw [if_neg (by omega),pad_get,h.row j (by omega)]
     simp only [List.getD_eq_getElem?_getD]
     rw [List.getElem?_append_left (by simp;omega)]
   ·show (r.tags++[n]).length<(List.set _ _ _).length
    rw [List.length_set,List.length_append]
    exact hp
   ·rcases List.mem_cons.1 hy with rfl|hy
    ·simpa using hm
    ·exact h.known y hy
   ·show s.fr.length+1≤16
    omega
theorem same_close {r:R8} {s:W8} (h:Same8 r s) (hk:s.k=0):Same8 (rcloseS r) (closeV s):=by
 have hl:r.tags.length=s.fr.length:=by rw [h.tags];simp
 unfold rcloseS closeV
 rw [if_neg (show ¬ s.k≠0 by omega)]
 obtain ⟨fr,d,k⟩:=s
 cases fr with
 | nil =>
  rw [if_pos (show r.tags.length=0 from hl)]
  exact ⟨h.tags,rfl,h.row0,h.row,h.len,h.known,h.lim⟩
 | cons x fr =>
  have hl:r.tags.length=fr.length+1:=hl
  rw [if_neg (by omega)]
  have ht:r.tags=(fr.map Prod.fst).reverse++[x.1]:=by rw [h.tags];simp
  have e1:r.tags.getD (r.tags.length-1) 0=x.1:=by
   rw [hl,ht]
   simp [List.getD_eq_getElem?_getD]
  have e2:r.rows.getD r.tags.length []=x.2:=by
   rw [hl,h.row fr.length (by simp)]
   simp [List.getD_eq_getElem?_getD]
  rw [e1,e2]
  refine same_put (r:=⟨r.tags.take (r.tags.length-1),r.rows,r.e⟩) (s:=⟨fr,d,k⟩) ⟨?_,h.e,h.row0,fun j hj=>?_,fun h0=>?_,fun y hy=>h.known y (List.mem_cons_of_mem _ hy),?_⟩ hk (made_known (h.known x List.mem_cons_self)) _
  ·show r.tags.take _=_
   rw [hl,ht]
   simp
  ·have hj:j<fr.length:=hj
   show r.rows.getD (j+1) []=_
   rw [h.row j (by simp;omega)]
   simp only [List.map_cons,List.reverse_cons,List.getD_eq_getElem?_getD]
   rw [List.getElem?_append_left (by simp;omega)]
  ·show (r.tags.take _).length<r.rows.length
   have:=h.len (by omega)
   simp only [List.length_take]
   omega
  ·have:=h.lim
   simp at this ⊢
   omega
theorem same_do {r:R8} {s:W8} (h:Same8 r s) (v:VV):Same8 (rdoS v r) (doW v s):=by
 unfold rdoS doW
 have he:=h.e
 by_cases hk:s.k=0
 ·rw [if_neg (show ¬ r.e≠0 by omega)]
  split
  ·exact same_open h hk _
  ·split
   ·exact same_close h hk
   ·split
    ·unfold rawW
     have e:(failW (depthM v.b).2 s).k=(depthM v.b).2:=by unfold failW;rw [if_pos hk]
     rw [e]
     by_cases h0:(depthM v.b).2=0
     ·rw [if_neg (by omega),if_pos h0]
      exact same_add h _
     ·rw [if_pos h0,if_neg h0]
      unfold failW
      rw [if_pos hk]
      exact ⟨h.tags,rfl,h.row0,h.row,h.len,h.known,h.lim⟩
    ·by_cases h0:(bodyV v).2.2=0
     ·rw [if_neg (by omega),h0]
      refine same_put h hk ?_ _
      unfold bodyV
      repeat' split
      all_goals (first|rfl|decide)
     ·rw [if_pos h0]
      have e:failW (bodyV v).2.2 s=⟨s.fr,s.d,(bodyV v).2.2⟩:=by unfold failW;rw [if_pos hk]
      unfold putW
      rw [e,if_pos h0]
      exact ⟨h.tags,rfl,h.row0,h.row,h.len,h.known,h.lim⟩
 ·rw [if_pos (show r.e≠0 by omega)]
  have e1:∀ e,failW e s=s:=fun e=>by unfold failW;rw [if_neg hk]
  have e2:∀ t b e,putW t b e s=s:=fun t b e=>by unfold putW;rw [e1,if_pos hk]
  have e3:openW v.n s=s:=by unfold openW;rw [if_pos hk]
  have e4:closeV s=s:=by unfold closeV;rw [if_pos hk]
  have e5:rawW v.b s=s:=by unfold rawW;rw [e1,if_neg hk]
  rw [e2,e3,e4,e5,ite_self,ite_self,ite_self]
  exact h
theorem same_done {r:R8} {s:W8} (h:Same8 r s):rdoneE r=doneK s∧rdoneB r=doneB s:=by
 have hl:r.tags.length=s.fr.length:=by rw [h.tags];simp
 have e:rdoneE r=doneK s:=by
  unfold rdoneE doneK
  rw [h.e,h.row0,hl]
  cases s.fr <;> simp
 exact ⟨e,by unfold rdoneB doneB;rw [e,h.row0]⟩
end
end Am
end Go.Proofs.YthlpfjnkieaeeaaGreatDoor
