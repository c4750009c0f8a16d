/- What the law leans on, part 6: P05, P05b, P06, W06, W06b, P04n, P04b, W04n, P03n, P08, W03r, W03s, W07s, W07t -/
import Derived.Test.YtghminnpfnkbjaaGreatDoorM5RequestRead
import Derived.Lib.Join
import Derived.WalkKit
import Derived.Shelf.SlSortCmp.Kit1

set_option maxRecDepth 100000
set_option maxHeartbeats 8000000
namespace Go.Proofs.YtghminnpfnkbjaaGreatDoor
set_option linter.unusedVariables false
namespace Am
open Go.RowKit
theorem sA {q r:Z} {i:Nat} (h:i<q.length):(q++r).getD i 0=q.getD i 0:=by simp [List.getD,YL h]
theorem G0 {l:Z} (h:l≠[]):∃ q c,l=q++[c]:=⟨l.dropLast,l.getLast h,(Z7 h).symm⟩
def nl (x:UInt8):YD→YD
 | []=>[[x]]
 | p::r=>(x::p)::r
def aU (c:UInt8):Z→YD
 | []=>[[]]
 | x::l=>if x=c then []::aU c l else nl x (aU c l)
def jx (c:UInt8):YD→Z
 | []=>[]
 | [p]=>p
 | p::q::r=>p++c::jx c (q::r)
theorem pK (c:UInt8) (l:Z):aU c l≠[]:=by
 cases l with
 | nil=>simp [aU]
 | cons x l =>
  rw [aU]
  split
  ·simp
  ·cases aU c l <;> simp [nl]
theorem uo {c:UInt8}:∀ {l:Z},c ∉ l→aU c l=[l]
 | [],_=>rfl
 | x::l,h=>by
  have h1:x≠c:=fun e=>h (by simp [e])
  have h2:c ∉ l:=fun e=>h (by simp [e])
  rw [aU,YE h1,uo h2];rfl
theorem yL {c:UInt8}:∀ {p:Z} (r:Z),c ∉ p→aU c (p++c::r)=p::aU c r
 | [],r,_=>by simp [aU]
 | x::l,r,h=>by
  have h1:x≠c:=fun e=>h (by simp [e])
  have h2:c ∉ l:=fun e=>h (by simp [e])
  rw [List.cons_append,aU,YE h1,yL r h2];rfl
theorem Jm (c:UInt8) (x:UInt8):∀ ls:YD,ls≠[]→jx c (nl x ls)=x::jx c ls
 | [],h=>absurd rfl h
 | [p],_=>rfl
 | p::q::r,_=>rfl
theorem xa (c:UInt8):∀ l:Z,jx c (aU c l)=l
 | []=>rfl
 | x::l=>by
  rw [aU]
  have ih:=xa c l
  have hne:=pK c l
  split
  ·rename_i e
   subst e
   revert ih hne
   cases aU x l with
   | nil=>intro _ h;exact absurd rfl h
   | cons p r=>intro ih _;rw [jx,ih];rfl
  ·rw [Jm c x _ hne,ih]
theorem vR {c:UInt8}:∀ {ls:YD},ls≠[]→(∀ p ∈ ls,c ∉ p)→aU c (jx c ls)=ls
 | [],h,_=>absurd rfl h
 | [p],_,h=>by rw [jx,uo (h p (by simp))]
 | p::q::r,_,h=>by
  rw [jx,yL _ (h p (by simp)),vR (by simp) (fun x hx=>h x (by simp at hx ⊢;exact .inr hx))]
def Gy (p:Z):Bool:=decide ((qE p).2=0) && decide (p.length≤10)
def s8 (p:Z):Int:=((qE p).1:Nat)
def dj (l:List Int):Bool:=decide (2≤l.length) && decide (l.length≤16) && l.all (fun n=>decide (0≤n) && decide (n≤2147483647)) && decide (l.getD 0 0≤2) && (decide (l.getD 0 0=2) || decide (l.getD 1 0<40))
def bH (s:Z):List Int×Nat :=
 if ((aU 46 s).all Gy)=false then ([],4) else if dj ((aU 46 s).map s8)=false then ([],1) else ((aU 46 s).map s8,0)

def kH (m:Nat):Z:=if h:m=0 then [] else kH (m / 128)++[UInt8.ofNat (m % 128+128)]
termination_by m
decreasing_by omega
def fM (n:Nat):Z:=kH (n / 128)++[UInt8.ofNat (n % 128)]
theorem gE:kH 0=[]:=by rw [kH];simp
theorem iM {m:Nat} (h:m≠0):kH m=kH (m / 128)++[UInt8.ofNat (m % 128+128)]:=by rw [kH,b0x h]
theorem HU (k:Nat):∀ m,m<128 ^ k→(kH m).length≤k:=by
 induction k with
 | zero =>
   intro m h;have:m=0:=by simpa using h
   subst this;rw [gE];simp
 | succ k ih =>
  intro m h
  by_cases h0:m=0
  ·subst h0;rw [gE];simp
  ·rw [iM h0,YI]
   have:=ih (m / 128) (bix (by rw [a6x] at h;omega))
   simp;omega
theorem o0 {n:Nat} (h:n<34359738368):(fM n).length≤5:=by
 have:=HU 4 (n / 128) O
 simp [fM];omega
theorem Cm (n:Nat):0<(fM n).length:=by simp [fM]
def cX (l:Z):Nat:=l.foldl (fun a c=>a * 128+c.toNat % 128) 0
theorem gD (l:Z) (c:UInt8):cX (l++[c])=cX l * 128+c.toNat % 128:=by simp [cX]
theorem PN (m:Nat):cX (kH m)=m:=by
 induction m using Nat.strongRecOn with
 | ind m ih =>
  by_cases h0:m=0
  ·subst h0;rw [gE];rfl
  ·rw [iM h0,gD,ih _ O,YY]
   omega
theorem KG (n:Nat):cX (fM n)=n:=by
 rw [fM,gD,PN,YY]
 omega
theorem HV (m:Nat):∀ c ∈ kH m,128≤c.toNat:=by
 induction m using Nat.strongRecOn with
 | ind m ih =>
  by_cases h0:m=0
  ·subst h0;rw [gE];simp
  ·rw [iM h0]
   intro c hc
   rcases akx.1 hc with h|h
   ·exact ih _ O c h
   ·rw [Zs] at h;subst h;rw [YY];omega
theorem Ex (m:Nat) (h:m≠0):((kH m).getD 0 0).toNat≠128:=by
 induction m using Nat.strongRecOn with
 | ind m ih =>
  rw [iM h]
  by_cases h1:m / 128=0
  ·rw [h1,gE]
   simp only [List.nil_append,amx]
   rw [YY];omega
  ·have:=ih (m / 128) O h1
   have hp:0<(kH (m / 128)).length:=by rw [iM h1];simp
   rwa [sA hp]
def bn:Z→Nat
 | []=>0
 | c::l=>if c.toNat<128 then 1 else 1+bn l
theorem lj:∀ l:Z,bn l≤l.length
 | []=>YG _
 | c::l=>by
  have:=lj l
  rw [bn];split <;> simp <;> omega
theorem fN {l:Z} (h:l≠[]):0<bn l:=by
 cases l with
 | nil=>exact absurd rfl h
 | cons c l=>rw [bn];split <;> omega
theorem wa {l:Z} (h:∀ c ∈ l,128≤c.toNat) (x:UInt8) (hx:x.toNat<128) (r:Z):bn (l++x::r)=l.length+1:=by
 induction l with
 | nil=>simp [bn,hx]
 | cons c l ih =>
  have h1:=h c (by simp)
  rw [List.cons_append,bn,jK,ih (fun d hd=>h d (by simp [hd]))]
  simp;omega
def dM (run:Z) (most:Nat):Nat×Nat :=
 if 128≤(run.getD (run.length-1) 0).toNat then (0,2) else if (run.getD 0 0).toNat=128 then (0,4) else if most<cX run then (0,1) else (cX run,0)
def dq (most:Nat) (b:Z):List Nat×Nat :=
 if h:b=[] then ([],0) else
  if (dM (b.take (bn b)) most).2≠0 then ([],(dM (b.take (bn b)) most).2) else
   if (dq 2147483647 (b.drop (bn b))).2≠0 then ([],(dq 2147483647 (b.drop (bn b))).2) else
    ((dM (b.take (bn b)) most).1::(dq 2147483647 (b.drop (bn b))).1,0)
termination_by b.length
decreasing_by
 all_goals
  have:=fN h
  have:=Zh.2 h
  simp;omega
def cF:List Nat→List Int
 | []=>[]
 | n::r=>(min (n / 40) 2:Nat)::((n:Int)-40 * (min (n / 40) 2:Nat))::r.map Int.ofNat
def fG (b:Z):List Int×Nat :=
 if b=[] then ([],2) else if (dq 2147483727 b).2≠0 then ([],(dq 2147483727 b).2) else
  if dj (cF (dq 2147483727 b).1)=false then ([],1) else (cF (dq 2147483727 b).1,0)
def CI (l:List Int):Z:=fM (40 * l.getD 0 0+l.getD 1 0).toNat++((l.drop 2).map fun n=>fM n.toNat).flatten
theorem Qj (n:Nat) (r:Z):bn (fM n++r)=(fM n).length:=by
 rw [fM,Zb,bfx,wa (HV _) _ (by rw [YY];omega)]
 simp
theorem Rc {n most:Nat} (h:n≤most):dM (fM n) most=(n,0):=by
 have h1:(fM n).getD ((fM n).length-1) 0=UInt8.ofNat (n % 128):=by
  simp [fM,List.getD]
 have h2:((fM n).getD 0 0).toNat≠128:=by
  by_cases h0:n / 128=0
  ·rw [fM,h0,gE]
   simp only [List.nil_append,amx]
   rw [YY];omega
  ·have:=Ex _ h0
   have hp:0<(kH (n / 128)).length:=by rw [iM h0];simp
   rw [fM]
   rwa [sA hp]
 have h3:(UInt8.ofNat (n % 128)).toNat=n % 128:=by rw [YY];omega
 unfold dM
 rw [h1,h3,jK,YE h2,KG,jK]
theorem CR {n most:Nat} (h:n≤most) (r:Z) (l:List Nat) (hr:dq 2147483647 r=(l,0)):dq most (fM n++r)=(n::l,0):=by
 have hp:=Cm n
 rw [dq,b0x (by intro e;have:=Y3 List.length e;rw [YI,List.length_nil] at this;omega),Qj,List.take_left,List.drop_left,Rc h,hr]
 simp
theorem ME (l:List Nat) (h:∀ n ∈ l,n≤2147483647):dq 2147483647 ((l.map fM).flatten)=(l,0):=by
 induction l with
 | nil=>rw [dq];simp
 | cons n l ih =>
  rw [Zc,Zv]
  exact CR (h n (by simp)) _ _ (ih fun m hm=>h m (by simp [hm]))
theorem kk {l:List Int} (h:dj l=true):2≤l.length∧l.length≤16∧(∀ n ∈ l,0≤n∧n≤2147483647)∧l.getD 0 0≤2∧(l.getD 0 0=2∨l.getD 1 0<40):=by
 simp only [dj,YK,Zx,YP,Y8] at h
 obtain ⟨⟨⟨⟨h1,h2⟩,h3⟩,h4⟩,h5⟩:=h
 exact ⟨h1,h2,fun n hn=>h3 n hn,h4,h5⟩
theorem Pb {a b:Int} {r:List Nat} (h:0≤a∧a≤2) (hb:0≤b) (h2:a=2∨b<40):cF ((40 * a+b).toNat::r)=a::b::r.map Int.ofNat:=by
 have e:min ((40 * a+b).toNat / 40) 2=a.toNat:=by omega
 simp only [cF,e]
 refine congr (Y3 _ O) (congr (Y3 _ O) rfl)
theorem RP {l:List Int} (h:dj l=true):fG (CI l)=(l,0):=by
 obtain ⟨h1,h2,h3,h4,h5⟩:=kk h
 match l,h1 with
 | a::b::r,_ =>
  simp only [amx,anx] at h4 h5
  have ha:=h3 a (by simp)
  have hb:=h3 b (by simp)
  have hr:∀ n ∈ r.map Int.toNat,n≤2147483647:=fun n hn=>by
   obtain ⟨m,hm,rfl⟩:=aBx.1 hn
   have:=h3 m (by simp [hm]);omega
  have hn:=ME _ hr
  rw [Z9] at hn
  have hs:=CR (n:=(40 * a+b).toNat) (most:=2147483727) O _ _ hn
  have hput:CI (a::b::r)=fM (40 * a+b).toNat++(r.map (fM ∘ Int.toNat)).flatten:=rfl
  have hne:CI (a::b::r)≠[]:=fun e=>by
   have:=Y3 List.length e
   rw [hput] at this
   have hp:=Cm (40 * a+b).toNat
   rw [YI,List.length_nil] at this;omega
  have e:cF ((40 * a+b).toNat::r.map Int.toNat)=a::b::r:=by
   rw [Pb ⟨ha.1,h4⟩ hb.1 h5,Z9]
   refine Y3 _ (Y3 _ ?_)
   refine (aGx fun x hx=>?_).trans (bXx _)
   have:=h3 x (by simp [hx])
   simp;omega
  unfold fG
  rw [YE hne,hput,hs]
  simp only [ne_eq,not_true_eq_false,if_false,e,h]
  simp
theorem Qb (l:Z) (h:∀ c ∈ l,128≤c.toNat) (h2:l≠[]→(l.getD 0 0).toNat≠128):kH (cX l)=l:=by
 have key:∀ k,∀ l:Z,l.length=k→(∀ c ∈ l,128≤c.toNat)→(l≠[]→(l.getD 0 0).toNat≠128)→kH (cX l)=l∧(l≠[]→cX l≠0):=by
  intro k
  induction k with
  | zero =>
    intro l hl _ _;have:l=[]:=Zp.1 hl
    subst this;exact ⟨gE,fun h=>absurd rfl h⟩
  | succ k ih =>
   intro l hl hb hh
   obtain ⟨q,c,rfl⟩:=G0 (l:=l) (by intro e;rw [e] at hl;simp at hl)
   have hlq:q.length=k:=by simpa using hl
   have hc:=hb c (by simp)
   have hc2:=c.toNat_lt
   have hq:q≠[]→(q.getD 0 0).toNat≠128:=fun hne=>by
    have:=hh (by simp)
    have hp:0<q.length:=Zh.2 hne
    rwa [sA hp] at this
   obtain ⟨h5,h6⟩:=ih q hlq (fun d hd=>hb d (by simp [hd])) hq
   have hv:cX (q++[c])≠0:=by
    rw [gD]
    by_cases hq0:q=[]
    ·subst hq0
     have:=hh (by simp)
     simp at this
     show 0 * 128+_≠0
     omega
    ·have:=h6 hq0
     omega
   refine ⟨?_,fun _=>hv⟩
   rw [iM hv,gD,show (cX q * 128+c.toNat % 128) / 128=cX q by omega,h5]
   refine Y3 _ ?_
   rw [show (cX q * 128+c.toNat % 128) % 128+128=c.toNat by omega,aCx]
 exact (key _ l rfl h h2).1
theorem Lt {l:Z} (hne:l≠[]) (h:∀ i,i+1<l.length→128≤(l.getD i 0).toNat) (h1:(l.getD (l.length-1) 0).toNat<128) (h2:(l.getD 0 0).toNat≠128):fM (cX l)=l:=by
 obtain ⟨q,c,rfl⟩:=G0 hne
 have hc:c.toNat<128:=by simpa [List.getD] using h1
 have hb:∀ d ∈ q,128≤d.toNat:=fun d hd=>by
  obtain ⟨i,hi,rfl⟩:=acx hd
  have:=h i (by simp;omega)
  simpa [List.getD,YL hi,hi] using this
 have hq:q≠[]→(q.getD 0 0).toNat≠128:=fun hne=>by
  have hp:0<q.length:=Zh.2 hne
  rwa [sA hp] at h2
 rw [fM,gD,show (cX q * 128+c.toNat % 128) / 128=cX q by omega,show (cX q * 128+c.toNat % 128) % 128=c.toNat by omega,Qb q hb hq,aCx]
theorem v6:∀ (l:Z) (i:Nat),i+1<bn l→128≤(l.getD i 0).toNat
 | [],i,h=>by simp [bn] at h
 | c::l,i,h=>by
  rw [bn] at h
  split at h
  ·omega
  ·cases i with
   | zero=>simp;omega
   | succ i=>simpa using v6 l i O
theorem MF {b:Z} {most n:Nat} (hb:b≠[]) (h:dM (b.take (bn b)) most=(n,0)):fM n=b.take (bn b)∧n≤most:=by
 unfold dM at h
 have hp:=fN hb
 have hle:=lj b
 have hlen:(b.take (bn b)).length=bn b:=by simp;omega
 split at h
 ·simp at h
 split at h
 ·simp at h
 split at h
 ·simp at h
 simp at h
 subst h
 refine ⟨Lt (by intro e;rw [e] at hlen;simp at hlen;omega) (fun i hi=>?_) O (by assumption),by omega⟩
 rw [hlen] at hi
 have:=v6 b i hi
 simpa [List.getD,ZV,show i<bn b by omega] using this
theorem IY:∀ (k:Nat) (b:Z) (most:Nat) (l:List Nat),b.length≤k→dq most b=(l,0)→(l.map fM).flatten=b∧(∀ n ∈ l.drop 1,n≤2147483647)∧(∀ n,l.head?=some n→n≤most)∧(b≠[]→l≠[]):=by
 intro k
 induction k with
 | zero =>
  intro b most l hk h
  have:b=[]:=Zp.1 O
  subst this
  rw [dq] at h
  simp at h
  subst h
  simp
 | succ k ih =>
  intro b most l hk h
  by_cases hb:b=[]
  ·subst hb
   rw [dq] at h
   simp at h
   subst h
   simp
  ·rw [dq,b0x hb] at h
   split at h
   ·rename_i h1;simp at h;exact absurd h.2 h1
   rename_i h1
   split at h
   ·rename_i h2;simp at h;exact absurd h.2 h2
   rename_i h2
   have hp:=fN hb
   have hl:=Zh.2 hb
   obtain ⟨l',hl'⟩:∃ l',dq 2147483647 (b.drop (bn b))=(l',0):=⟨_,blx rfl (by simpa using h2)⟩
   obtain ⟨h3,h4,h5,_⟩:=ih (b.drop (bn b)) 2147483647 l' (by simp;omega) hl'
   obtain ⟨n,hn⟩:∃ n,dM (b.take (bn b)) most=(n,0):=⟨_,blx rfl (by simpa using h1)⟩
   obtain ⟨h6,h7⟩:=MF hb hn
   rw [hl',hn] at h
   simp at h
   subst h
   refine ⟨?_,?_,?_,fun _=>by simp⟩
   ·rw [Zc,Zv,h3,h6,Zu]
   ·intro m hm
    cases l' with
    | nil=>simp at hm
    | cons x r =>
     simp at hm
     rcases hm with rfl|hm
     ·exact h5 _ rfl
     ·exact h4 m (by simpa using hm)
   ·intro m hm;simp at hm;omega
theorem QW {b:Z} {l:List Int} (h:fG b=(l,0)):CI l=b∧dj l=true:=by
 unfold fG at h
 split at h
 ·simp at h
 rename_i hb
 split at h
 ·rename_i h1;simp at h;exact absurd h.2 h1
 rename_i h1
 split at h
 ·simp at h
 rename_i h2
 simp at h
 have hr:dj (cF (dq 2147483727 b).1)=true:=by simpa using h2
 obtain ⟨ns,hns⟩:∃ ns,dq 2147483727 b=(ns,0):=⟨_,blx rfl (by simpa using h1)⟩
 obtain ⟨h3,h4,h5,h6⟩:=IY b.length b _ ns (YG _) hns
 rw [hns] at h hr
 subst h
 refine ⟨?_,hr⟩
 cases ns with
 | nil=>exact absurd rfl (h6 hb)
 | cons n r =>
  rw [← h3]
  show fM _++_=_
  simp only [cF,amx,anx,b2x,bxx,Zc,Zv]
  refine congr (Y3 _ (Y3 _ ?_)) (Y3 _ ?_)
  ·omega
  ·rw [Z9]
   refine aGx fun x _=>?_
   simp
theorem Jr (c:UInt8):eB c=(decide (48≤c.toNat) && decide (c.toNat≤57)):=rfl
theorem JR {p:Z} (h:(qE p).2=0):mv (qE p).1=p:=by
 rw [Ol] at h ⊢
 split at h
 ·rename_i h1
  rw [YF h1]
  exact h1.2.2.2
 ·simp at h

def kG (l:List Int):Z:=jx 46 (l.map fun n=>mv n.toNat)
theorem OR (n:Nat):(46:UInt8) ∉ mv n:=fun h=>by
 have:=Y8.1 (DV n) _ h
 rw [Jr] at this
 simp at this
theorem Mv {n:Int} (h0:0≤n) (h:n≤2147483647):Gy (mv n.toNat)=true∧s8 (mv n.toNat)=n:=by
 have h1:=Om (n:=n.toNat) O
 have h2:=lf 9 n.toNat O
 simp only [Gy,s8,h1]
 refine ⟨by simp;omega,by show ((n.toNat:Nat):Int)=n;omega⟩
theorem EO {l:List Int} (h:dj l=true):bH (kG l)=(l,0):=by
 obtain ⟨h1,h2,h3,h4,h5⟩:=kk h
 have hs:aU 46 (kG l)=l.map fun n=>mv n.toNat:=vR (by cases l <;> simp at h1 ⊢) (fun p hp=>by
  obtain ⟨n,_,rfl⟩:=aBx.1 hp
  exact OR _)
 have ho:((l.map fun n=>mv n.toNat).all Gy)=true:=by
  rw [Y8]
  intro p hp
  obtain ⟨n,hn,rfl⟩:=aBx.1 hp
  exact (Mv (h3 n hn).1 (h3 n hn).2).1
 have hv:(l.map fun n=>mv n.toNat).map s8=l:=by
  rw [Z9]
  refine (aGx fun n hn=>?_).trans (bXx _)
  exact (Mv (h3 n hn).1 (h3 n hn).2).2
 unfold bH
 rw [hs,ho,hv,h]
 simp
theorem ph {s:Z} {l:List Int} (h:bH s=(l,0)):dj l=true∧(aU 46 s).all Gy=true∧l=(aU 46 s).map s8:=by
 unfold bH at h
 split at h
 ·simp at h
 rename_i h1
 split at h
 ·simp at h
 rename_i h2
 simp at h
 subst h
 exact ⟨by simpa using h2,by simpa using h1,rfl⟩
theorem Et {s:Z} {l:List Int} (h:bH s=(l,0)):kG l=s:=by
 obtain ⟨h1,h2,rfl⟩:=ph h
 unfold kG
 rw [Z9]
 have:(aU 46 s).map ((fun n=>mv n.toNat) ∘ s8)=aU 46 s:=by
  refine (aGx fun p hp=>?_).trans (bXx _)
  have h3:=Y8.1 h2 p hp
  simp only [Gy,YK,YP] at h3
  exact JR h3.1
 rw [this,xa]
def bK (b:Z):YD:=if h:b=[] then [] else b.take (bn b)::bK (b.drop (bn b))
termination_by b.length
decreasing_by
 have:=fN h
 have:=Zh.2 h
 simp;omega
theorem jF:bK []=[]:=by rw [bK];simp
theorem nH {b:Z} (h:b≠[]):bK b=b.take (bn b)::bK (b.drop (bn b)):=by rw [bK,b0x h]
theorem Lx:∀ (n:Nat) (b:Z),b.length≤n→∀ r ∈ bK b,0<r.length:=by
 intro n
 induction n with
 | zero =>
  intro b hb r hr
  have:b=[]:=Zp.1 O
  subst this
  rw [jF] at hr;cases hr
 | succ n ih =>
  intro b hb r hr
  by_cases h:b=[]
  ·subst h;rw [jF] at hr;cases hr
  ·rw [nH h] at hr
   have h1:=fN h
   have h2:=lj b
   rcases Zg.1 hr with rfl|hr
   ·rw [YS];omega
   ·exact ih _ (by rw [YN];omega) r hr
theorem Ly:∀ (n:Nat) (b:Z),b.length≤n→(bK b).length≤b.length:=by
 intro n
 induction n with
 | zero =>
  intro b hb
  have:b=[]:=Zp.1 O
  subst this
  rw [jF];exact YG _
 | succ n ih =>
  intro b hb
  by_cases h:b=[]
  ·subst h;rw [jF];exact YG _
  ·rw [nH h]
   have h1:=fN h
   have h2:=lj b
   have:=ih (b.drop (bn b)) (by rw [YN];omega)
   rw [YN] at this
   simp only [List.length_cons];omega
def wu (most:Nat):YD→List (Nat×Nat)
 | []=>[]
 | r::t=>dM r most::wu 2147483647 t
theorem CA:∀ (most:Nat) (l:YD),(wu most l).length=l.length
 | _,[]=>rfl
 | most,r::t=>by rw [wu,List.length_cons,CA,List.length_cons]
theorem CB:∀ (most:Nat) (l:YD) (k:Nat),k<l.length→(wu most l).getD k (0,0)=dM (l.getD k []) (if k=0 then most else 2147483647)
 | _,[],k,h=>absurd h (YW k)
 | most,r::t,0,_=>rfl
 | most,r::t,k+1,h=>by
  have:=CB 2147483647 t k (by simpa using h)
  rw [wu,anx,anx,this,YE (Nat.succ_ne_zero k)]
  split <;> rfl
def fw:List (Nat×Nat)→Nat
 | []=>0
 | x::t=>if x.2=0 then fw t else x.2
theorem DE {l r:List (Nat×Nat)} (h:fw l=0):fw (l++r)=fw r:=by
 induction l with
 | nil=>rfl
 | cons x t ih =>
  rw [fw] at h
  split at h
  ·rename_i hx
   rw [List.cons_append,fw,YF hx,ih h]
  ·rename_i hx;exact absurd h hx
theorem DC {l:List (Nat×Nat)} {k:Nat} (hk:k<l.length) (h:fw (l.take k)=0):fw (l.take (k+1))=(l.getD k (0,0)).2:=by
 rw [YO hk,DE h]
 simp only [fw,List.getD,YR hk,Zw]
 split <;> simp_all
theorem DD {l:List (Nat×Nat)} {k:Nat} (hk:k<l.length) (h:fw (l.take k)=0) (h2:(l.getD k (0,0)).2≠0):fw l=(l.getD k (0,0)).2:=by
 have e:fw (l.take k++l.drop k)=fw (l.drop k):=DE h
 rw [Zu] at e
 rw [e,Y5 hk,fw]
 simp only [List.getD,YR hk,Zw] at h2 ⊢
 rw [YE h2]
theorem MC:∀ (n:Nat) (b:Z) (most:Nat),b.length≤n→dq most b=if fw (wu most (bK b))=0 then ((wu most (bK b)).map (·.1),0) else ([],fw (wu most (bK b))):=by
 intro n
 induction n with
 | zero =>
  intro b most hb
  have:b=[]:=Zp.1 O
  subst this
  rw [dq,jF];rfl
 | succ n ih =>
  intro b most hb
  by_cases h:b=[]
  ·subst h;rw [dq,jF];rfl
  ·have h1:=fN h
   have h2:=lj b
   have hi:=ih (b.drop (bn b)) 2147483647 (by rw [YN];omega)
   rw [dq,b0x h,hi,nH h,wu,fw]
   by_cases e:(dM (b.take (bn b)) most).2=0
   ·rw [YE (by simp [e]),YF e]
    by_cases e2:fw (wu 2147483647 (bK (b.drop (bn b))))=0
    ·rw [YF e2,YF e2,YE (by simp),Zc]
    ·rw [YE e2,YE e2,YF e2]
   ·rw [YF e,YE e,YE e]
theorem Kh {l:List Nat} (n:Nat) (h:l≠[]):cF (l++[n])=cF l++[(n:Int)]:=by
 cases l with
 | nil=>exact absurd rfl h
 | cons a r=>simp [cF]
theorem Pc (l:List Nat):(cF l).length≤l.length+1∧(l≠[]→2≤(cF l).length):=by
 cases l with
 | nil=>exact ⟨by simp [cF],fun h=>absurd rfl h⟩
 | cons a r=>simp [cF]
def ja (s:Z):Z:=if (bH s).2=0 then CI (bH s).1 else []
def fo (b:Z):List (Nat×Nat):=wu 2147483727 (bK b)
theorem mX (b:Z):(fo b).length=(bK b).length:=CA _ _
theorem ze (b:Z):dq 2147483727 b=if fw (fo b)=0 then ((fo b).map (·.1),0) else ([],fw (fo b)):=MC b.length b 2147483727 (YG _)
theorem xh:fG []=([],2):=by unfold fG;rw [YF rfl]
theorem N8 {b:Z} (hb:b≠[]) (h:fw (fo b)≠0):fG b=([],fw (fo b)):=by
 unfold fG
 have:=ze b
 rw [YE h] at this
 rw [YE hb,this,YF h]
theorem JK {b:Z} (hb:b≠[]) (h:fw (fo b)=0):fG b=if dj (cF ((fo b).map (·.1)))=false then ([],1) else (cF ((fo b).map (·.1)),0):=by
 unfold fG
 have:=ze b
 rw [YF h] at this
 rw [YE hb,this,YE (by simp)]
def uj (l:List Int):Z×Nat:=if dj l=true then (kG l,0) else ([],1)
def ee (b:Z):Z×Nat:=if (fG b).2=0 then (kG (fG b).1,0) else ([],(fG b).2)
theorem N2 {b:Z} (hb:b≠[]) (h:fw (fo b)=0):ee b=uj (cF ((fo b).map (·.1))):=by
 unfold ee uj
 rw [JK hb h]
 cases dj (cF ((fo b).map (·.1))) <;> simp
theorem RR {b:Z} (hb:b≠[]) (h:fw (fo b)≠0):ee b=([],fw (fo b)):=by
 unfold ee
 rw [N8 hb h,YE h]
theorem RQ:ee []=([],2):=by unfold ee;rw [xh,YE jD]
theorem Dh (c:UInt8):∀ ls:YD,Lib.join ls [c]=jx c ls
 | []=>rfl
 | [p]=>Lib.join_one p [c]
 | p::q::r=>by
  have ih:=Dh c (q::r)
  rw [Lib.join_cons] at ih ⊢
  rw [jx,← ih]
  simp [Lib.joinTail]
theorem xb {c:UInt8} {m:Nat}:∀ {ls:YD},(∀ p ∈ ls,p.length≤m)→(jx c ls).length≤(m+1) * ls.length
 | [],_=>YT _
 | [p],h=>by have:=h p (by simp);simp [jx];omega
 | p::q::r,h=>by
  have h1:=h p (by simp)
  have ih:=xb (c:=c) (m:=m) (ls:=q::r) fun x hx=>h x (by simp at hx ⊢;exact .inr hx)
  rw [jx,YI,List.length_cons,List.length_cons,Nat.mul_succ]
  omega
theorem Rp (l:Z) (p:UInt8→Bool) (hp:∀ c,p c=decide (c.toNat<128)):(bn l:Int)=if dZ p l<0 then (l.length:Int) else dZ p l+1:=by
 induction l with
 | nil=>simp [bn,dZ]
 | cons c l ih =>
  have hb:=nh p l
  rw [bn,dZ,hp]
  by_cases hc:c.toNat<128
  ·simp [hc]
  ·simp only [hc,bIx,if_false,aOx]
   by_cases hn:dZ p l<0
   ·rw [YF hn] at ih
    rw [YF hn,YF jD]
    simp only [List.length_cons];omega
   ·rw [YE hn] at ih
    rw [YE hn,jK]
    omega
theorem Fm {s:Z} (h:(bH s).2=0):ee (CI (bH s).1)=(s,0):=by
 have hr:=(ph (s:=s) (l:=(bH s).1) (by rw [← h])).1
 have ht:=Et (s:=s) (l:=(bH s).1) (by rw [← h])
 unfold ee
 rw [RP hr,YF rfl,ht]
end Am
end Go.Proofs.YtghminnpfnkbjaaGreatDoor
namespace Go.Proofs.YtghminnpfnkbjaaGreatDoor.Cal
set_option linter.unusedVariables false

structure D6 where
 y:Int
 m:Int
 d:Int
 h:Int
 mi:Int
 s:Int

def mm (y:Int):Bool:=y % 4 == 0 && (y % 100 != 0 || y % 400 == 0)
def kO (y m:Int):Int :=
 if m=4∨m=6∨m=9∨m=11 then 30 else if m=2 then (if mm y then 29 else 28) else if m<1∨m>12 then 0 else 31
theorem Sk (y m:Int):0≤kO y m∧kO y m≤31:=by
 unfold kO;repeat' split
 all_goals omega
theorem sQ {y m d:Int} (h1:1≤d) (h2:d≤kO y m):1≤m∧m≤12:=by
 unfold kO at h2;repeat' split at h2
 all_goals omega
def bf (y:Int):Int:=365 * (y-1)+(y-1) / 4-(y-1) / 100+(y-1) / 400+306-719468
theorem Hc:bf 1970=0:=by decide
theorem Ss (y:Int):bf (y+1)=bf y+365+if mm y then 1 else 0:=by
 have e:(mm y=true)↔(y % 4=0∧(y % 100≠0∨y % 400=0)):=by simp [mm]
 by_cases h:mm y=true
 ·rw [YF h];rw [e] at h;unfold bf;omega
 ·rw [YE h];rw [e] at h;unfold bf;omega
theorem qx {a b:Int} (h:a≤b):bf a≤bf b:=by unfold bf;omega
def Ek (y m:Int):Int :=
 if m≤2 then 31 * (m-1) else (153 * (m-3)+2) / 5+59+(if mm y then 1 else 0)
theorem DW (y m:Int) (h1:1≤m) (h2:m≤12):Ek y (m+1)=Ek y m+kO y m:=by
 have:m=1∨m=2∨m=3∨m=4∨m=5∨m=6∨m=7∨m=8∨m=9∨m=10∨m=11∨m=12:=by omega
 rcases this with h|h|h|h|h|h|h|h|h|h|h|h <;> subst h <;> simp [Ek,kO] <;> split <;> omega
theorem OT (y:Int):bf y+Ek y 13=bf (y+1):=by
 rw [Ss];simp [Ek];split <;> omega
theorem sR {y a b:Int} (h0:1≤a) (h:a≤b) (h1:b≤13):Ek y a≤Ek y b:=by
 unfold Ek;repeat' split
 all_goals omega
theorem OS (y m:Int) (h1:1≤m) (h2:m≤13):0≤Ek y m∧Ek y m≤366:=by
 unfold Ek;repeat' split
 all_goals omega
def dn (y m d:Int):Int:=bf y+Ek y m+d-1

theorem Se (y m d:Int) (h1:1≤m) (h2:m≤12) :
  365 * (if m-3<0 then y-1 else y)+(if m-3<0 then y-1 else y) / 4-(if m-3<0 then y-1 else y) / 100+(if m-3<0 then y-1 else y) / 400+(153 * (if m-3<0 then m-3+12 else m-3)+2) / 5+d-1-719468=dn y m d:=by
 have e:(mm y=true)↔(y % 4=0∧(y % 100≠0∨y % 400=0)):=by simp [mm]
 by_cases h:m-3<0
 ·simp only [YF h]
  have:m=1∨m=2:=by omega
  rcases this with h|h <;> subst h <;> simp [dn,bf,Ek] <;> omega
 ·simp only [YE h]
  unfold dn bf Ek
  rw [jK]
  by_cases hl:mm y=true
  ·rw [YF hl];rw [e] at hl;omega
  ·rw [YE hl];rw [e] at hl;omega

def lV (x:D6):Prop:=1970≤x.y∧x.y≤9999∧1≤x.d∧x.d≤kO x.y x.m∧0≤x.h∧x.h<24∧0≤x.mi∧x.mi<60∧0≤x.s∧x.s<60
instance (x:D6):Decidable (lV x):=by unfold lV;infer_instance
def AJ (x:D6):Int:=((dn x.y x.m x.d * 24+x.h) * 60+x.mi) * 60+x.s

theorem OJ {y m d:Int} (h1:1970≤y) (h2:y≤9999) (h3:1≤d) (h4:d≤kO y m):bf y≤dn y m d∧dn y m d<bf (y+1)∧1≤m∧m≤12∧Ek y m≤dn y m d-bf y∧dn y m d-bf y<Ek y (m+1):=by
 obtain ⟨hm1,hm2⟩:=sQ h3 h4
 have h5:=DW y m hm1 hm2
 have h6:=OT y
 have h7:=sR (y:=y) (a:=m+1) (b:=13) O O O
 have h8:=OS y m hm1 O
 unfold dn
 omega
theorem Vc {y m d y' m' d':Int} (a1:1970≤y) (a2:y≤9999) (a3:1≤d) (a4:d≤kO y m) (b1:1970≤y') (b2:y'≤9999) (b3:1≤d') (b4:d'≤kO y' m') (h:dn y m d=dn y' m' d'):y=y'∧m=m'∧d=d':=by
 obtain ⟨p1,p2,p3,p4,p5,p6⟩:=OJ a1 a2 a3 a4
 obtain ⟨q1,q2,q3,q4,q5,q6⟩:=OJ b1 b2 b3 b4
 rw [h] at p1 p2 p5 p6
 have hy:y=y':=by
  rcases bDx y y' with hlt|heq|hlt
  ·have:=qx (a:=y+1) (b:=y') O;omega
  ·exact heq
  ·have:=qx (a:=y'+1) (b:=y) O;omega
 subst hy
 have hm:m=m':=by
  rcases bDx m m' with hlt|heq|hlt
  ·have:=sR (y:=y) (a:=m+1) (b:=m') O O O;omega
  ·exact heq
  ·have:=sR (y:=y) (a:=m'+1) (b:=m) O O O;omega
 subst hm
 refine ⟨rfl,rfl,?_⟩
 unfold dn at h
 omega

theorem WR (n:Int) (h0:0≤n) (h1:n<146097):∃ c r:Int,n=36524 * c+r∧0≤c∧c≤3∧0≤r∧(r<36524∨(c=3∧r=36524)):=by
 by_cases h:n=146096
 ·exact ⟨3,36524,by omega,by omega,by omega,by omega,.inr ⟨rfl,rfl⟩⟩
 ·exact ⟨n / 36524,n % 36524,by omega,by omega,by omega,by omega,.inl O⟩
theorem WQ (v:Int) (h0:0≤v) (h1:v<1461):∃ k e:Int,v=365 * k+e∧0≤k∧k≤3∧0≤e∧(e<365∨(k=3∧e=365)):=by
 by_cases h:v=1460
 ·exact ⟨3,365,by omega,by omega,by omega,by omega,.inr ⟨rfl,rfl⟩⟩
 ·exact ⟨v / 365,v % 365,by omega,by omega,by omega,by omega,.inl O⟩
theorem OL (c q v:Int) (hc:0≤c) (hc3:c≤3) (hq:0≤q) (hq24:q≤24) (hv:0≤v) (hv2:v≤1460):∃ z,(36524 * c+1461 * q+v) / 1460=25 * c+q+z∧((z=0∧24 * c+q+v<1460)∨(z=1∧1460≤24 * c+q+v)):=by
 by_cases h:24 * c+q+v<1460
 ·exact ⟨0,by omega,.inl ⟨rfl,h⟩⟩
 ·exact ⟨1,by omega,.inr ⟨rfl,by omega⟩⟩
theorem OK (c r:Int) (hc:0≤c) (hc3:c≤3) (h0:0≤r) (h:r<36524∨(c=3∧r=36524)):(36524 * c+r) / 36524-(36524 * c+r) / 146096=c:=by
 rcases h with h|⟨rfl,rfl⟩
 ·have e1:(36524 * c+r) / 36524=c:=by omega
  have e2:(36524 * c+r) / 146096=0:=by omega
  omega
 ·decide
theorem Kt (c q k e z:Int) (hc:0≤c) (hc3:c≤3) (hq:0≤q) (hq24:q≤24) (hk0:0≤k) (hk3:k≤3) (he0:0≤e) (he:e<365∨(k=3∧e=365)) (hz:(z=0∧24 * c+q+(365 * k+e)<1460)∨(z=1∧1460≤24 * c+q+(365 * k+e))) :
  ((36524 * c+1461 * q+(365 * k+e))-(25 * c+q+z)+c) / 365=100 * c+4 * q+k:=by
 have h1:0≤e-z∧e-z<365:=by
  rcases hz with ⟨rfl,hz⟩|⟨rfl,hz⟩ <;> rcases he with he|⟨rfl,rfl⟩ <;> omega
 have h2:(36524 * c+1461 * q+(365 * k+e))-(25 * c+q+z)+c=(100 * c+4 * q+k) * 365+(e-z):=by omega
 rw [h2]
 omega
theorem XP (a b c d:Int):a-b+c-d=a-b+(c-d):=by omega
theorem Pu (c q k e:Int) (hc:0≤c) (hc3:c≤3) (hq:0≤q) (hq24:q≤24) (hk0:0≤k) (hk3:k≤3) (he:e<365∨(k=3∧e=365)) (hr:1461 * q+(365 * k+e)<36524∨c=3) :
  36524 * c+(1461 * q+(365 * k+e))<365 * (100 * c+4 * q+k+1)+(100 * c+4 * q+k+1) / 4-(100 * c+4 * q+k+1) / 100+(if 100 * c+4 * q+k=399 then 1 else 0):=by
 by_cases hk:k=3
 ·subst hk
  have e10:(100 * c+4 * q+3+1) / 4=25 * c+q+1:=by clear he hr;omega
  rw [e10]
  have he':e≤365:=by omega
  clear he
  by_cases hq':q=24
  ·subst hq'
   have e11:(100 * c+4 * 24+3+1) / 100=c+1:=by clear hr;omega
   rw [e11]
   split
   ·clear hr;omega
   ·have:¬ c=3:=by rename_i h;omega
    have hr':=hr.resolve_right this
    clear hr
    omega
  ·have e11:(100 * c+4 * q+3+1) / 100=c:=by clear hr;omega
   rw [e11]
   clear hr
   split <;> omega
 ·have he':e<365:=by
   rcases he with h|h
   ·exact h
   ·exact absurd h.1 hk
  clear he hr
  have e10:(100 * c+4 * q+k+1) / 4=25 * c+q:=by omega
  have e11:(100 * c+4 * q+k+1) / 100=c:=by omega
  rw [e10,e11]
  split <;> omega
def yr (n:Int):Int:=(n-n / 1460+n / 36524-n / 146096) / 365
theorem Px {n c r q v k e:Int} (hn:n=36524 * c+r) (hc:0≤c) (hc3:c≤3) (hr0:0≤r) (hr:r<36524∨(c=3∧r=36524)) (hr2:r=1461 * q+v) (hq:0≤q) (hq24:q≤24) (hv:0≤v) (hv2:v<1461) (hv3:v=365 * k+e) (hk0:0≤k) (hk3:k≤3) (he0:0≤e) (he:e<365∨(k=3∧e=365)):yr n=100 * c+4 * q+k:=by
 obtain ⟨z,hz,hz2⟩:=OL c q v hc hc3 hq hq24 hv (Int.le_of_lt_add_one hv2)
 have e1:=OK c r hc hc3 hr0 hr
 show (n-n / 1460+n / 36524-n / 146096) / 365=_
 have e3:n / 36524-n / 146096=c:=by rw [hn];exact e1
 have e4:n / 1460=25 * c+q+z:=by rw [hn,hr2,← Int.add_assoc];exact hz
 have e5:=Kt c q k e z hc hc3 hq hq24 hk0 hk3 he0 he (by rw [← hv3];exact hz2)
 rw [XP,e3,e4,hn,hr2,hv3,← Int.add_assoc]
 exact e5
theorem WP (r:Int) (h0:0≤r) (h1:r≤36524):∃ q v:Int,r=1461 * q+v∧0≤q∧q≤24∧0≤v∧v<1461:=⟨r / 1461,r % 1461,by omega,by omega,by omega,by omega,by omega⟩
theorem Pw {c q k:Int} (hc:0≤c) (hc3:c≤3) (hq:0≤q) (hq24:q≤24) (hk0:0≤k) (hk3:k≤3):0≤100 * c+4 * q+k∧100 * c+4 * q+k≤399∧365 * (100 * c+4 * q+k)+(100 * c+4 * q+k) / 4-(100 * c+4 * q+k) / 100=36524 * c+1461 * q+365 * k:=by
 have e7:(100 * c+4 * q+k) / 4=25 * c+q:=by omega
 have e8:(100 * c+4 * q+k) / 100=c:=by clear e7;omega
 refine ⟨by clear e7 e8;omega,by clear e7 e8;omega,?_⟩
 rw [e7,e8]
 clear e7 e8
 omega
theorem Pv (n:Int) (h0:0≤n) (h1:n<146097) :
  0≤yr n∧yr n≤399∧365 * yr n+yr n / 4-yr n / 100≤n∧n<365 * (yr n+1)+(yr n+1) / 4-(yr n+1) / 100+(if yr n=399 then 1 else 0):=by
 obtain ⟨c,r,hn,hc,hc3,hr0,hr⟩:=WR n h0 h1
 have hr1:r≤36524:=by
  rcases hr with h|h
  ·exact b6x h
  ·exact Int.le_of_eq h.2
 obtain ⟨q,v,hr2,hq,hq24,hv,hv2⟩:=WP r hr0 hr1
 obtain ⟨k,e,hv3,hk0,hk3,he0,he⟩:=WQ v hv hv2
 rw [Px hn hc hc3 hr0 hr hr2 hq hq24 hv hv2 hv3 hk0 hk3 he0 he]
 have hup:=Pu c q k e hc hc3 hq hq24 hk0 hk3 he (by
  rw [← hv3,← hr2]
  rcases hr with h|h
  ·exact .inl h
  ·exact .inr h.1)
 rw [← hv3,← hr2,← hn] at hup
 obtain ⟨l1,l2,l3⟩:=Pw hc hc3 hq hq24 hk0 hk3
 refine ⟨l1,l2,?_,hup⟩
 rw [l3]
 clear hup l1 l2 l3 hr he
 omega

structure W2 where
 ages:Int
 y:Int
 m:Int
 d:Int
def cD (N:Int):W2 :=
 let n:=N+719468
 let r:=n % 146097
 let y:=yr r
 let n2:=r-(365 * y+y / 4-y / 100)
 let m:=(5 * n2+2) / 153
 ⟨n / 146097,y,m,n2-(153 * m+2) / 5+1⟩
def SJ (N:Int):Int:=(cD N).ages * 400+(cD N).y+if (cD N).m+3>12 then 1 else 0
def VA (N:Int):Int:=if (cD N).m+3>12 then (cD N).m+3-12 else (cD N).m+3
def Vg (N:Int):Int:=(cD N).d

theorem TJ (y:Int):(y+1) / 4=y / 4+if (y+1) % 4=0 then 1 else 0:=by split <;> omega
theorem KY (y:Int):(y+1) / 100=y / 100+if (y+1) % 100=0 then 1 else 0:=by split <;> omega
theorem Mi (N:Int) (h0:0≤N) (h1:N≤2932896):4≤(cD N).ages∧(cD N).ages≤24∧0≤(cD N).y∧(cD N).y≤399∧0≤(cD N).m∧(cD N).m≤11∧1≤(cD N).d∧(cD N).d≤31 ∧
  365 * (cD N).y+(cD N).y / 4-(cD N).y / 100+146097 * (cD N).ages+(153 * (cD N).m+2) / 5+(cD N).d-1=N+719468 ∧
  ((cD N).m=11→(cD N).d≤28+(if ((cD N).y+1) % 4=0∧(((cD N).y+1) % 100≠0∨((cD N).y+1) % 400=0) then 1 else 0))∧(((cD N).m=1∨(cD N).m=3∨(cD N).m=6∨(cD N).m=8)→(cD N).d≤30):=by
 obtain ⟨n,hn⟩:∃ n,n=N+719468:=⟨_,rfl⟩
 obtain ⟨r,hr⟩:∃ r,r=n % 146097:=⟨_,rfl⟩
 have hyo:=Pv r O O
 obtain ⟨y,hy⟩:∃ y,y=yr r:=⟨_,rfl⟩
 rw [← hy] at hyo
 obtain ⟨y0,y1,y2,y3⟩:=hyo
 obtain ⟨n2,hn2⟩:∃ n2,n2=r-(365 * y+y / 4-y / 100):=⟨_,rfl⟩
 obtain ⟨m,hm⟩:∃ m,m=(5 * n2+2) / 153:=⟨_,rfl⟩
 have e:cD N=⟨n / 146097,y,m,n2-(153 * m+2) / 5+1⟩:=by
  simp only [cD,← hn,← hr,← hy,← hn2,← hm]
 rw [e]
 simp only
 have hlen:0≤n2∧n2≤365:=by split at y3 <;> omega
 have hlast:n2=365→((y+1) % 4=0∧((y+1) % 100≠0∨(y+1) % 400=0)):=by
  intro h
  rw [TJ,KY] at y3
  by_cases h4:(y+1) % 4=0
  ·refine ⟨h4,?_⟩
   rw [YF h4] at y3
   by_cases h100:(y+1) % 100=0
   ·rw [YF h100] at y3
    by_cases h399:y=399
    ·subst h399;exact .inr jD
    ·rw [YE h399] at y3
     omega
   ·exact .inl h100
  ·rw [YE h4] at y3
   by_cases h399:y=399
   ·subst h399;exact absurd jD h4
   ·rw [YE h399] at y3
    split at y3 <;> omega
 have hm':0≤m∧m≤11:=by omega
 refine ⟨by omega,by omega,y0,y1,hm'.1,hm'.2,by omega,by omega,by omega,?_,by omega⟩
 intro h11
 subst h11
 split
 ·omega
 ·rename_i hno
  have:n2≠365:=fun h=>hno (hlast h)
  omega

theorem M7 (A Y:Int):mm (A * 400+Y)=mm Y:=by
 unfold mm
 have e4:(A * 400+Y) % 4=Y % 4:=by omega
 have e100:(A * 400+Y) % 100=Y % 100:=by omega
 have e400:(A * 400+Y) % 400=Y % 400:=by omega
 rw [e4,e100,e400]
theorem Vf (y M D:Int) (m1:0≤M) (m2:M≤11) (d2:D≤31) (h11:M=11→D≤28+if mm y then 1 else 0) (h30:M=1∨M=3∨M=6∨M=8→D≤30):D≤kO y (if M+3>12 then M+3-12 else M+3):=by
 by_cases e11:M=11
 ·subst e11
  have:=h11 rfl
  rw [YF jD]
  simp only [kO]
  rw [YE jD,YF jD]
  split at this <;> (rename_i hl;simp [hl];omega)
 ·clear h11
  have hne:(if M+3>12 then M+3-12 else M+3)≠2:=by split <;> omega
  have hr:¬ ((if M+3>12 then M+3-12 else M+3)<1∨(if M+3>12 then M+3-12 else M+3)>12):=by split <;> omega
  have h4:((if M+3>12 then M+3-12 else M+3)=4∨(if M+3>12 then M+3-12 else M+3)=6∨(if M+3>12 then M+3-12 else M+3)=9∨(if M+3>12 then M+3-12 else M+3)=11)→(M=1∨M=3∨M=6∨M=8):=by split <;> omega
  generalize (if M+3>12 then M+3-12 else M+3)=q at *
  unfold kO
  by_cases hq:q=4∨q=6∨q=9∨q=11
  ·rw [YF hq];exact h30 (h4 hq)
  ·rw [YE hq,YE hne,YE hr];exact d2
theorem Mx (N:Int) (h0:0≤N) (h1:N≤2932896):1970≤SJ N∧SJ N≤9999∧1≤Vg N∧Vg N≤kO (SJ N) (VA N)∧dn (SJ N) (VA N) (Vg N)=N:=by
 obtain ⟨a1,a2,y1,y2,m1,m2,d1,d2,hN,h11,h30⟩:=Mi N h0 h1
 obtain ⟨A,Y,M,D,hp⟩:∃ A Y M D,cD N=⟨A,Y,M,D⟩:=⟨_,_,_,_,rfl⟩
 have hy:SJ N=A * 400+Y+if M+3>12 then 1 else 0:=by simp only [SJ,hp]
 have hm:VA N=if M+3>12 then M+3-12 else M+3:=by simp only [VA,hp]
 have hd:Vg N=D:=by simp only [Vg,hp]
 rw [hp] at a1 a2 y1 y2 m1 m2 d1 d2 hN h11 h30
 simp only at a1 a2 y1 y2 m1 m2 d1 d2 hN h11 h30
 rw [hy,hm,hd]
 have key:dn (A * 400+Y+if M+3>12 then 1 else 0) (if M+3>12 then M+3-12 else M+3) D=N:=by
  rw [← Se _ _ _ (by split <;> omega) (by split <;> omega)]
  have e4:(A * 400+Y) / 4=100 * A+Y / 4:=by clear h11 h30 hN;omega
  have e100:(A * 400+Y) / 100=4 * A+Y / 100:=by clear h11 h30 hN e4;omega
  have e400:(A * 400+Y) / 400=A:=by clear h11 h30 hN e4 e100;omega
  by_cases h:M+3>12
  ·simp only [YF h]
   rw [jP,jP,show A * 400+Y+1-1=A * 400+Y by omega,e4,e100,e400,show M+3-12-3+12=M by omega]
   clear h11 h30 e4 e100 e400
   omega
  ·simp only [YE h]
   rw [jK,jK,Int.add_zero,e4,e100,e400,show M+3-3=M by omega]
   clear h11 h30 e4 e100 e400
   omega
 have hday:D≤kO (A * 400+Y+if M+3>12 then 1 else 0) (if M+3>12 then M+3-12 else M+3):=by
  refine Vf _ M D m1 m2 d2 (fun h=>?_) h30
  have:=h11 h
  subst h
  have e:(A * 400+Y+if (11:Int)+3>12 then 1 else 0)=A * 400+(Y+1):=by simp;omega
  rw [e,M7]
  simpa [mm] using this
 refine ⟨?_,?_,d1,hday,key⟩
 ·rcases Int.lt_or_le (A * 400+Y+if M+3>12 then 1 else 0) 1970 with h|h
  ·have e1:=sQ d1 hday
   have e2:=DW (A * 400+Y+if M+3>12 then 1 else 0) _ e1.1 e1.2
   have e3:=sR (y:=A * 400+Y+if M+3>12 then 1 else 0) (a:=(if M+3>12 then M+3-12 else M+3)+1) (b:=13) O O O
   have e4:=OT (A * 400+Y+if M+3>12 then 1 else 0)
   have e5:=qx (a:=(A * 400+Y+if M+3>12 then 1 else 0)+1) (b:=1970) O
   have e6:=Hc
   unfold dn at key
   omega
  ·exact h
 ·rcases Int.lt_or_le 9999 (A * 400+Y+if M+3>12 then 1 else 0) with h|h
  ·have e1:=sQ d1 hday
   have e3:=OS (A * 400+Y+if M+3>12 then 1 else 0) _ e1.1 O
   have e5:=qx (a:=10000) (b:=A * 400+Y+if M+3>12 then 1 else 0) O
   have e6:bf 10000=2932897:=by decide
   unfold dn at key
   omega
  ·exact h

def Fl (t:Int):Prop:=0≤t∧t≤253402300799
instance (t:Int):Decidable (Fl t):=by unfold Fl;infer_instance
def D6.zero:D6:=⟨0,0,0,0,0,0⟩
def ET (t:Int):D6:=⟨SJ (t / 86400),VA (t / 86400),Vg (t / 86400),t % 86400 / 3600,t % 86400 % 3600 / 60,t % 86400 % 60⟩
def Gz (t:Int):D6:=if Fl t then ET t else D6.zero
def Xa (t:Int):Nat:=if Fl t then 0 else 1
theorem zd {t:Int} (h:Fl t):lV (ET t)∧AJ (ET t)=t:=by
 obtain ⟨h0,h1⟩:=h
 obtain ⟨p1,p2,p3,p4,p5⟩:=Mx (t / 86400) O O
 refine ⟨⟨p1,p2,p3,p4,?_⟩,?_⟩
 ·simp only [ET];omega
 ·show ((dn (SJ (t / 86400)) (VA (t / 86400)) (Vg (t / 86400)) * 24+t % 86400 / 3600) * 60+t % 86400 % 3600 / 60) * 60+t % 86400 % 60=t
  rw [p5];omega
theorem Lv {x:D6} (h:lV x):Fl (AJ x):=by
 obtain ⟨a1,a2,a3,a4,a5,a6,a7,a8,a9,a10⟩:=h
 obtain ⟨p1,p2,_⟩:=OJ a1 a2 a3 a4
 have e1:=qx (a:=1970) (b:=x.y) a1
 have e2:=qx (a:=x.y+1) (b:=10000) O
 have e3:=Hc
 have e6:bf 10000=2932897:=by decide
 unfold Fl AJ
 omega
theorem Uu {x:D6} (h:lV x):ET (AJ x)=x:=by
 have ht:=Lv h
 obtain ⟨hr,hs⟩:=zd ht
 obtain ⟨a1,a2,a3,a4,a5,a6,a7,a8,a9,a10⟩:=h
 obtain ⟨b1,b2,b3,b4,b5,b6,b7,b8,b9,b10⟩:=hr
 generalize ET (AJ x)=z at *
 obtain ⟨y,m,d,hh,mi,s⟩:=x
 obtain ⟨y',m',d',hh',mi',s'⟩:=z
 simp only [AJ] at *
 have e1:s'=s:=by omega
 subst e1
 have e2:mi'=mi:=by omega
 subst e2
 have e3:hh'=hh:=by omega
 subst e3
 have e4:dn y' m' d'=dn y m d:=by omega
 obtain ⟨rfl,rfl,rfl⟩:=Vc b1 b2 b3 b4 a1 a2 a3 a4 e4
 rfl
end Go.Proofs.YtghminnpfnkbjaaGreatDoor.Cal
namespace Go.Proofs.YtghminnpfnkbjaaGreatDoor
set_option linter.unusedVariables false
namespace Am
open Go.RowKit
section
variable {gs:List Nat} [gQ gs]
open Go.RowKit Cal
set_option linter.unusedVariables false

set_option linter.unusedVariables false

def Dy (n p:Int):UInt8:=UInt8.ofNat (48+n / p % 10).toNat
def JS (n:Int) (ps:List Int):Z:=ps.map (Dy n)
theorem Ok {n p:Int} (h0:0≤n / p):((Dy n p).toNat:Int)=48+n / p % 10:=by
 unfold Dy
 rw [YY]
 omega
def fJ (x:D6):Z:=JS x.y [1000,100,10,1]++JS x.m [10,1]++JS x.d [10,1]++JS x.h [10,1]++JS x.mi [10,1]++JS x.s [10,1]++[90]
end
end Am
end Go.Proofs.YtghminnpfnkbjaaGreatDoor
namespace Go.Proofs.YtghminnpfnkbjaaGreatDoor
set_option linter.unusedVariables false

def vn (l:Z):Bool×Nat :=
 if l.length=0 then (false,2) else if 1<l.length∨((l.getD 0 0).toNat≠255∧(l.getD 0 0).toNat≠0) then (false,4) else (decide ((l.getD 0 0).toNat=255),0)
theorem NS (l:Z) (h:1<l.length):qD l=(((l.getD 0 0).toNat == 0 && decide ((l.getD 1 0).toNat<128)) || ((l.getD 0 0).toNat == 255 && decide (128≤(l.getD 1 0).toNat))):=by
 match l,h with
 | x::y::r,_=>rfl
theorem dl (l:Z) (h:l.length≤1):qD l=false:=by
 match l,h with
 | [],_=>rfl
 | [x],_=>rfl
 | x::y::r,h=>simp at h
theorem eY (l:Z) (h:0<l.length):fk (l.take 1)=Eh (l.getD 0 0):=by
 match l,h with
 | x::r,_=>simp [fk]
theorem iZ (l:Z) (k:Nat) (h:k+1<l.length):fk (l.take (k+1+1))=fk (l.take (k+1)) * 256+(l.getD (k+1) 0).toNat:=by
 rw [YO h,pF _ (by
  intro e
  have:=Y3 List.length e
  simp at this
  rw [this] at h
  simp at h)]
 simp [List.getD,h]
def aX (l:Z) (least most:Int):Int×Nat :=
 if (cg l).2≠0 then (0,(cg l).2) else if (cg l).1<least∨most<(cg l).1 then (0,1) else ((cg l).1,0)
theorem KK (V c:Int):IntKind.u64.wrap (IntKind.u64.wrap (V % 18446744073709551616 * 256)+c)=(V * 256+c) % 18446744073709551616:=by
 rw [IntKind.wrap_u64,IntKind.wrap_u64]
 omega
def vk (l:Z) (k:Nat):Int:=if k=0 then (if (l.getD 0 0).toNat<128 then 0 else -1) else fk (l.take k)
theorem PL (l:Z) (k:Nat) (h:k<l.length):vk l (k+1)=vk l k * 256+(l.getD k 0).toNat:=by
 cases k with
 | zero =>
  simp only [vk,if_true,Nat.zero_add,Nat.one_ne_zero,if_false]
  rw [eY l O]
  unfold Eh
  split <;> omega
 | succ k =>
  simp only [vk,Nat.add_one_ne_zero,if_false]
  exact iZ l k h
theorem B6 (l:Z) (h:l.length≤8):-9223372036854775808≤fk l∧fk l<9223372036854775808:=by
 by_cases h7:l.length≤7
 ·have:=qW l h7
  omega
 ·have e:l=l.take 7++[l.getD 7 0]:=by
   have:l.take (7+1)=l.take 7++[l[7]]:=YO O
   rw [Y0 O] at this
   have e7:l.getD 7 0=l[7]:=by simp [List.getD,show 7<l.length by omega]
   rw [e7]
   exact this
  have h2:=qW (l.take 7) (by simp;omega)
  have hc:=(l.getD 7 0).toNat_lt
  rw [e,pF _ (by intro e;have:=Y3 List.length e;simp at this;rw [this] at h7;simp at h7)]
  omega
end Go.Proofs.YtghminnpfnkbjaaGreatDoor
namespace Go.Proofs.YtghminnpfnkbjaaGreatDoor
open Go.RowKit

theorem OY (a:Int) (c:UInt8):oP (a * 256+c.toNat)=c:=by
 apply Zq.1
 have h1:=fh (a * 256+c.toNat)
 have:=c.toNat_lt
 omega
theorem OX (c:UInt8):oP (Eh c)=c:=by
 apply Zq.1
 have h1:=fh (Eh c)
 have:=c.toNat_lt
 unfold Eh at h1 ⊢
 split at h1 <;> rename_i hc
 ·rw [YF hc];omega
 ·rw [YE hc];omega
theorem F8 (l:Z):∀ j,j<l.length→sh j (fk l)=fk (l.take (l.length-j)):=by
 intro j
 induction j with
 | zero=>intro _;simp [sh]
 | succ j ih =>
  intro hj
  simp only [sh]
  rw [ih O]
  have e:l.length-j=(l.length-(j+1)-1)+1+1:=by omega
  rw [e,iZ l _ O,show l.length-(j+1)=l.length-(j+1)-1+1 by omega]
  have:=(l.getD (l.length-(j+1)-1+1) 0).toNat_lt
  simp only [Nat.add_sub_cancel]
  omega
theorem BI (l:Z) (j:Nat) (hj:j<l.length):oP (sh j (fk l))=l.getD (l.length-1-j) 0:=by
 rw [F8 l j hj]
 by_cases h1:l.length-j=1
 ·rw [h1,eY l O,OX,show l.length-1-j=0 by omega]
 ·have e:l.length-j=(l.length-1-j-1)+1+1:=by omega
  rw [e,iZ l _ O,OY,show l.length-1-j-1+1=l.length-1-j by omega]
theorem JZ (l:Z):(iv l.length (fk l)).reverse=l:=by
 refine aXx fun i=>?_
 by_cases hi:i<l.length
 ·have h1:=BD (fk l) l.length i hi
  rw [BI l _ O] at h1
  have e:l.length-1-(l.length-1-i)=i:=by omega
  rw [e] at h1
  have hl:i<(iv l.length (fk l)).reverse.length:=by simp [cV];exact hi
  rw [YR hl,YR hi]
  simp only [List.getD,YR hl,YR hi,Zw] at h1
  rw [h1]
 ·rw [Y6 (by simp [cV];omega),Y6 O]
theorem zQ {l:Z} (h:(cg l).2=0):0<l.length∧l.length≤8∧qD l=false∧(cg l).1=fk l:=by
 unfold cg at h ⊢
 split at h
 ·cases h
 ·rename_i h0
  split at h
  ·cases h
  ·rename_i hi
   split at h
   ·cases h
   ·rename_i h8
    rw [YE h0,YE hi,YE h8]
    exact ⟨by omega,by omega,by simpa using hi,rfl⟩
theorem N7 {l:Z} (h:(cg l).2=0):xN (cg l).1 (l.length-1)∧(iv (l.length-1+1) (cg l).1).reverse=l:=by
 obtain ⟨h1,h2,h3,h4⟩:=zQ h
 rw [h4,show l.length-1+1=l.length by omega]
 have hd:=JZ l
 have hs:xV (l.length-1) (fk l)=true:=by
  rw [pI,F8 l _ O,show l.length-(l.length-1)=1 by omega,eY l O]
  have:=(l.getD 0 0).toNat_lt
  unfold Eh
  split <;> omega
 refine ⟨⟨by omega,hs,fun j hj=>?_⟩,hd⟩
 cases he:xV j (fk l) with
 | false=>rfl
 | true =>
  have hm:=HH (fk l) j (l.length-2) O he
  have hid:=zI (fk l) (l.length-2) (by rw [show l.length-2+1=l.length-1 by omega];exact hs)
  rw [show l.length-2+2=l.length by omega,hd,h3,hm] at hid
  cases hid
theorem RT {l:Z} (h:(cg l).2=0):-9223372036854775808≤(cg l).1∧(cg l).1≤9223372036854775807:=by
 obtain ⟨_,h2,_,h4⟩:=zQ h
 have:=B6 l h2
 rw [h4]
 omega
end Go.Proofs.YtghminnpfnkbjaaGreatDoor
namespace Go.Proofs.YtghminnpfnkbjaaGreatDoor
set_option linter.unusedVariables false
namespace Am
open Go.RowKit
section
variable {gs:List Nat} [gQ gs]

theorem Ew {gs:List Nat} (h r:Int):cc gs Tryz.prog 160 [.c (.int .u8 h),.c (.int .i64 r)] (.c (.bool ((r == 0 && decide (h<128)) || (r == -1 && decide (128≤h))))):=by
 refine aj 19 Tryz.func160 fun al w0 F0 St0=>?_;refine U 1216516 ?_;refine aK 7 (fun g28=>?_) fun g28=>?_
 rotate_left
 ·refine U 121150044 ?_;refine aK 14 (fun g28_2=>?_) fun g28_2=>?_
  ·refine U 800070005150010000000021 ?_
   (refine cB ?_;simp [*];done)
  refine U 800070005150050044 ?_
  (refine cB ?_;simp [*];done)
 refine U 110000000021 ?_;refine aK 11 (fun g28_2=>?_) fun g28_2=>?_
 ·refine U 8000700051100000000444444 ?_
  (refine cB ?_;simp [*];done)
 refine U 121 ?_;refine aK 14 (fun g28_3=>?_) fun g28_3=>?_
 ·refine U 800070005150010000000021 ?_
  omega
 refine U 800070005150050044 ?_
 (refine cB ?_;simp [*];done)
theorem UQ (c:UInt8):IntKind.i8.wrap ((c.toNat:Nat):Int)=Eh c:=by
 have:=c.toNat_lt
 have e:IntKind.i8.wrap (c.toNat:Int)=((c.toNat:Int)+128) % 256-128:=by simp [IntKind.wrap,IntKind.bits,IntKind.signed];omega
 rw [e]
 unfold Eh
 split <;> omega
theorem TK (c:UInt8):-128≤Eh c∧Eh c≤127:=by
 have:=c.toNat_lt
 unfold Eh
 split <;> omega
theorem GR {l:Z} (h:1<l.length):qD l=true↔((l.getD 0 0).toNat=0∧(l.getD 1 0).toNat<128)∨((l.getD 0 0).toNat=255∧128≤(l.getD 1 0).toNat):=by
 rw [NS l h]
 simp only [Zx,YK,ZZ,YP]
theorem PJ (l:Z):cc gs Tryz.prog 174 [aV l] (.tup 2 (fl [.c (.int .i64 (cg l).1),.err (cg l).2])):=by
 refine fC 0 rfl fun hlen=>?_
 have hsg:=TK (l.getD 0 0)
 have hid:=fun h=>GR (l:=l) h
 refine aj 65 Tryz.func174 fun al w0 F0 St0=>?_;refine U 5116 ?_;refine dW (α:=Unit) [2,3,7,8,9,10,11,12,13,14,15,16,17,18,19,20,21,22,23,24,25,26,27,28,29,30,31,32,33,34,35,36,37,38,39,40,41,42,43,44,45] (fun _=>[]) (fun _=>[]) (fun _=>l.length≠0∧¬ qD l=true∧l.length≤8) (fun _=>rfl) ?_ ?_
 ·refine U 51231620 ?_;refine ap (fun h34=>?_) fun h34=>?_
  ·refine gY ?_;refine dY (.rd 0 (.rd 1 (.rd 2 .done))) ?_;refine aM (cK 1) ?_;refine U 80003000500070008807070 ?_
   have hb:cg l=(0,2):=by unfold cg;rw [jP]
   rw [hb];exact I
  refine U 12316 ?_;refine aK 16 (fun g36=>?_) fun g36=>?_
  rotate_left
  ·refine U 300515004444444444444444444444 ?_
   have hni:¬ qD l=true:=by
    by_cases h1:1<l.length
    ·rw [hid h1];omega
    ·rw [dl l O];exact Bool.noConfusion
   refine U 512316 ?_;refine ap (fun h38=>?_) fun h38=>?_
   rotate_left
   ·refine U 840010 ?_
    refine cU (()) ?_ (h5:=?_) (h7:=?_)
    ·refine ⟨by omega,?_,by omega⟩
     by_cases h1:1<l.length
     ·rw [hid h1];omega
     ·rw [dl l O];exact Bool.noConfusion
    ·exact .nil
    ·exact .nil
   refine gY ?_;refine dY (.rd 0 (.rd 1 (.rd 2 .done))) ?_;refine aM (cK 0) ?_;refine U 80003000500070008807070 ?_
   have hb:cg l=(0,1):=by unfold cg;rw [jK,YE hni,jP]
   rw [hb];exact I
  refine U 126020000001 ?_;refine aK 21 (fun g36_2=>?_) fun g36_2=>?_
  rotate_left
  ·refine U 12602000000115004444 ?_;refine aK 32 (fun g36_3=>?_) fun g36_3=>?_
   rotate_left
   ·refine U 300511000000005005004444 ?_
    have hni:¬ qD l=true:=by
     by_cases h1:1<l.length
     ·rw [hid h1];omega
     ·rw [dl l O];exact Bool.noConfusion
    refine U 512316 ?_;refine ap (fun h38=>?_) fun h38=>?_
    rotate_left
    ·refine U 840010 ?_
     refine cU (()) ?_ (h5:=?_) (h7:=?_)
     ·refine ⟨by omega,?_,by omega⟩
      by_cases h1:1<l.length
      ·rw [hid h1];omega
      ·rw [dl l O];exact Bool.noConfusion
     ·exact .nil
     ·exact .nil
    refine gY ?_;refine dY (.rd 0 (.rd 1 (.rd 2 .done))) ?_;refine aM (cK 0) ?_;refine U 80003000500070008807070 ?_
    have hb:cg l=(0,1):=by unfold cg;rw [jK,YE hni,jP]
    rw [hb];exact I
   refine U 1 ?_;refine jq (dU (i:=1)) ?_;refine U 51100000000500100000000260 ?_;refine ap (fun h36=>?_) fun h36=>?_
   ·refine gY ?_;refine dY (.rd 0 (.rd 1 (.rd 2 .done))) ?_;refine U 800030005000700088070704000000 ?_
    have hb:cg l=(0,4):=by unfold cg;rw [jK,YF ((hid O).2 O)]
    rw [hb];exact I
   have hni:¬ qD l=true:=by
    by_cases h1:1<l.length
    ·rw [hid h1];omega
    ·rw [dl l O];exact Bool.noConfusion
   refine U 512316 ?_;refine ap (fun h38=>?_) fun h38=>?_
   rotate_left
   ·refine U 840010 ?_
    refine cU (()) ?_ (h5:=?_) (h7:=?_)
    ·refine ⟨by omega,?_,by omega⟩
     by_cases h1:1<l.length
     ·rw [hid h1];omega
     ·rw [dl l O];exact Bool.noConfusion
    ·exact .nil
    ·exact .nil
   refine gY ?_;refine dY (.rd 0 (.rd 1 (.rd 2 .done))) ?_;refine aM (cK 0) ?_;refine U 80003000500070008807070 ?_
   have hb:cg l=(0,1):=by unfold cg;rw [jK,YE hni,jP]
   rw [hb];exact I
  refine U 1 ?_;refine jq (dU (i:=1)) ?_;refine U 1100000000260 ?_;refine aK 27 (fun g36_3=>?_) fun g36_3=>?_
  ·refine U 79000511000000001000000004444444444 ?_;refine dY (.rd 0 (.rd 1 (.rd 2 .done))) ?_;refine U 800030005000700088070704000000 ?_
   have hb:cg l=(0,4):=by unfold cg;rw [jK,YF ((hid O).2 O)]
   rw [hb];exact I
  refine U 126020000001 ?_;refine aK 32 (fun g36_4=>?_) fun g36_4=>?_
  rotate_left
  ·refine U 300511000000005005004444 ?_
   have hni:¬ qD l=true:=by
    by_cases h1:1<l.length
    ·rw [hid h1];omega
    ·rw [dl l O];exact Bool.noConfusion
   refine U 512316 ?_;refine ap (fun h38=>?_) fun h38=>?_
   rotate_left
   ·refine U 840010 ?_
    refine cU (()) ?_ (h5:=?_) (h7:=?_)
    ·refine ⟨by omega,?_,by omega⟩
     by_cases h1:1<l.length
     ·rw [hid h1];omega
     ·rw [dl l O];exact Bool.noConfusion
    ·exact .nil
    ·exact .nil
   refine gY ?_;refine dY (.rd 0 (.rd 1 (.rd 2 .done))) ?_;refine aM (cK 0) ?_;refine U 80003000500070008807070 ?_
   have hb:cg l=(0,1):=by unfold cg;rw [jK,YE hni,jP]
   rw [hb];exact I
  refine U 1 ?_;refine jq (dU (i:=1)) ?_;refine U 51100000000500100000000260 ?_;refine ap (fun h36=>?_) fun h36=>?_
  ·refine gY ?_;refine dY (.rd 0 (.rd 1 (.rd 2 .done))) ?_;refine U 800030005000700088070704000000 ?_
   have hb:cg l=(0,4):=by unfold cg;rw [jK,YF ((hid O).2 O)]
   rw [hb];exact I
  have hni:¬ qD l=true:=by
   by_cases h1:1<l.length
   ·rw [hid h1];omega
   ·rw [dl l O];exact Bool.noConfusion
  refine U 512316 ?_;refine ap (fun h38=>?_) fun h38=>?_
  rotate_left
  ·refine U 840010 ?_
   refine cU (()) ?_ (h5:=?_) (h7:=?_)
   ·refine ⟨by omega,?_,by omega⟩
    by_cases h1:1<l.length
    ·rw [hid h1];omega
    ·rw [dl l O];exact Bool.noConfusion
   ·exact .nil
   ·exact .nil
  refine gY ?_;refine dY (.rd 0 (.rd 1 (.rd 2 .done))) ?_;refine aM (cK 0) ?_;refine U 80003000500070008807070 ?_
  have hb:cg l=(0,1):=by unfold cg;rw [jK,YE hni,jP]
  rw [hb];exact I
 ·rintro u ⟨hl0,hni,hl8⟩
  refine U 60200000016 ?_;refine jq (cG rfl rfl Tryz.underlying5 Tryz.underlying265 (Eh (l.getD 0 0)) (UQ _)) ?_;refine jq (cG rfl rfl Tryz.underlying265 Tryz.underlying3 (Eh (l.getD 0 0)) (cC (k:=.i64) (by show _∧_;omega))) ?_;refine U 751 ?_
  have hb:cg l=(fk l,0):=by unfold cg;rw [jK,YE hni,jK]
  have hv1:=eY l O
  refine U 16 ?_;refine jq (qB (hz1:=(show (1:Int)=((1:Nat):Int) from rfl))) ?_;refine U 20513 ?_;refine ax (α:=Nat) [4,6,54,55,56,57,58,59,60,61,62,63] (fun i=>[(54,.c (.int .i64 (i:Nat))),(4,.c (.int .i64 (fk (l.take (i+1)))))]) (fun _=>[]) (fun i=>i+1≤l.length) (fun i=>l.length-i) (0) ?_ (fun _=>rfl) ?_ ?_ ?_
  ·show 0+1≤l.length;omega
  ·exact .cons I (.cons (cI hv1.symm) .nil)
  ·(repeat (exact aP.nil))
  ·rintro i (hi:i+1≤l.length)
   have hb:cg l=(fk l,0):=by unfold cg;rw [jK,YE hni,jK]
   have hv1:=eY l O
   refine U 7526 ?_;refine ap (fun h42=>?_) fun h42=>?_
   rotate_left
   ·refine U 800070005111684000200020006000 ?_
    have hil:i+1=l.length:=by simp only [YN] at *;omega
    rw [hb,hil,Za];exact cT I (aa.nilE rfl)
   refine U 207810 ?_
   have hb:cg l=(fk l,0):=by unfold cg;rw [jK,YE hni,jK]
   have hv1:=eY l O
   refine dP ?_;refine jq (dU (i:=i) (hz:=by omega)) ?_;refine U 5160 ?_
   have hdl:(l.drop 1).length=l.length-1:=YN
   have hde:(l.drop 1).getD i 0=l.getD (i+1) 0:=by simp [List.getD]
   have hvs:=iZ l i O
   have hsm:=qW (l.take (i+1)) (by rw [YS];omega)
   have hcl:=(l.getD (i+1) 0).toNat_lt
   have hcd:=((l.drop 1).getD i 0).toNat_lt
   refine U 1200 ?_;refine jq (ic rfl rfl rfl (by (omega)) ((fk (l.take (i+1)) * 256)) ((by show IntKind.i64.wrap (fk (l.take (i+1)) * 256)=_;exact cC (k:=.i64) (by show _∧_;omega)))) ?_;refine U 1 ?_;refine jq (cG rfl rfl Tryz.underlying5 Tryz.underlying3 ((((l.drop 1).getD i 0).toNat:Nat)) (cC (k:=.i64) (by show _∧_;omega))) ?_;refine jq (wB rfl rfl rfl (fk (l.take (i+1+1))) ((by rw [hde,hvs];exact NT _ _ O O O O))) ?_;refine U 840051 ?_
   have hb:cg l=(fk l,0):=by unfold cg;rw [jK,YE hni,jK]
   have hv1:=eY l O
   refine U 8519200 ?_
   refine aw (i+1) ?_ ?_ (h5:=?_)
   ·show i+1+1≤l.length;omega
   ·show l.length-(i+1)<l.length-i;omega
   ·exact .cons (cI O) (.cons I .nil)
theorem Hn (l:Z) (least most:Int):cc gs Tryz.prog 127 [aV l,.c (.int .i64 least),.c (.int .i64 most)] (.tup 2 (fl [.c (.int .i64 (aX l least most).1),.err (aX l least most).2])):=by
 refine aj 30 Tryz.func127 fun al w0 F0 St0=>?_;refine U 165116 ?_
 refine au (ar (PJ l) ?_)
 refine U 51500000162075119009001 ?_;refine ap (fun h52=>?_) fun h52=>?_
 ·refine U 800030005000700051116 ?_
  have hb:aX l least most=(0,(cg l).2):=by unfold aX;rw [jP]
  rw [hb];exact I
 refine U 12116 ?_;refine aK 23 (fun g54=>?_) fun g54=>?_
 ·refine U 7900051100000000444 ?_;refine dY (.rd 0 (.rd 1 (.rd 2 .done))) ?_;refine aM (cK 0) ?_;refine U 80003000500070008807070 ?_
  have hb:aX l least most=(0,1):=by unfold aX;rw [jK,jP]
  rw [hb];exact I
 refine U 51500211 ?_;refine ap (fun h54=>?_) fun h54=>?_
 rotate_left
 ·refine U 8000700051116840010 ?_
  have hb:aX l least most=((cg l).1,0):=by unfold aX;rw [jK,jK]
  rw [hb];exact cT I (aa.nilE rfl)
 refine gY ?_;refine dY (.rd 0 (.rd 1 (.rd 2 .done))) ?_;refine aM (cK 0) ?_;refine U 80003000500070008807070 ?_
 have hb:aX l least most=(0,1):=by unfold aX;rw [jK,jP]
 rw [hb];exact I
def UF (n:Int):Nat:=((List.range 8).find? fun k=>xV k n).getD 7
def kz (n:Int):Z:=(iv (UF n+1) n).reverse
theorem Bf {n:Int} (h1:-9223372036854775808≤n) (h2:n≤9223372036854775807):xN n (UF n):=by
 unfold UF
 have h7:=yH n h1 h2
 cases e:(List.range 8).find? fun k=>xV k n with
 | none =>
  have:=List.find?_eq_none.1 e 7 (by simp)
  exact absurd h7 this
 | some k =>
  rw [List.find?_range_eq_some] at e
  obtain ⟨e1,e2,e3⟩:=e
  have:=aqx.1 e2
  exact ⟨by show k≤7;omega,e1,fun j hj=>by have:=e3 j hj;simpa using this⟩
theorem Gs {n:Int} {k:Nat} (h1:-9223372036854775808≤n) (h2:n≤9223372036854775807) (h:xN n k):(iv (k+1) n).reverse=kz n:=by
 unfold kz
 rw [h.unique (Bf h1 h2)]
theorem Md {n:Int} (h1:-9223372036854775808≤n) (h2:n≤9223372036854775807):cg (kz n)=(n,0):=N6 n _ (Bf h1 h2)
theorem wD (n:Int) (h1:-9223372036854775808≤n) (h2:n≤9223372036854775807):1≤(kz n).length∧(kz n).length≤8:=by
 have:=(Bf h1 h2).1
 unfold kz
 rw [aFx,cV]
 omega
theorem V6 (a:Int):a.fdiv (2 ^ (min (8:Int).toNat IntKind.i64.bits))=a / 256:=by
 show a.fdiv 256=a / 256
 rw [Zz a jD]
theorem Ag (a:Int):IntKind.u8.wrap a=((oP a).toNat:Nat):=by rw [IntKind.wrap_u8,fh]
theorem J0 (k:Nat) (n:Int):(((iv (k+1) n).getD k 0).toNat:Int)=sh k n % 256:=by rw [xt _ _ _ O,fh]
theorem PH {gs:List Nat} (n:Int) (h1:-9223372036854775808≤n) (h2:n≤9223372036854775807):cc gs Tryz.prog 102 [.c (.int .i64 n)] (aV (kz n)):=by
 have h7:=yH n h1 h2
 refine aj 29 Tryz.func102 fun al w0 F0 St0=>?_;refine U 16516 ?_;refine jq (cG rfl rfl Tryz.underlying3 Tryz.underlying5 ((((oP n).toNat:Nat):Int)) (Ag n)) ?_
 refine au (aY 1 1 er fun p1=>?_)
 refine U 16751 ?_;refine jq (jI rfl rfl rfl (by (omega)) (_) (rfl)) ?_;refine U 2051 ?_;refine ax (α:=Nat×Option Nat) [3,4,10,11,12,13,14,15,16,17,18,19,20,21,22,23,24,25] (fun (k,g)=>[(3,.os 0 g 0 (iv (k+1) n).length 1),(4,.c (.int .i64 (sh (k+1) n)))]) (fun (k,g)=>[(g,.blk (iv (k+1) n).length (bc (iv (k+1) n)))]) (fun (k,g)=>k≤7∧∀ j,j<k→xV j n=false) (fun (k,g)=>8-k) ((0,p1)) ?_ (fun _=>rfl) ?_ ?_ ?_
 ·exact ⟨YT _,fun j hj=>absurd hj (YW j)⟩
 ·exact .cons I (.cons (cI (V6 n)) .nil)
 ·exact .blk rfl (fun j hj=>by obtain rfl:j=0:=(by rw [cV] at hj;omega);exact I) .nil
 ·rintro ⟨k,g⟩ ⟨(hk:k≤7),hno⟩
  have hdl:=J0 k n
  have hdn:=cV (k+1) n
  refine U 931167 ?_;refine jq (dU (i:=k) (hz:=by omega)) ?_;refine U 150 ?_
  refine au (ar (Ew (((iv (k+1) n).getD k 0).toNat:Nat) (sh (k+1) n)) ?_)
  refine U 530 ?_;refine ap (fun h19=>?_) fun h19=>?_
  rotate_left
  ·refine U 84000200020006000 ?_
   have hst:xV k n=true:=by
    unfold xV
    have hh:=h19
    rw [hdl] at hh
    (simp at hh ⊢;omega)
   refine U 16 ?_
   refine aq (aQ 0 (mf _ (iv (k+1) n) O) ?_)
   refine U 51165 ?_;refine jE (freeze 0 rfl) ?_;refine jE (ia 2 ((iv (k+1) n).reverse) rfl rfl (by simp) rfl) ?_
   refine jR (eA (hv:=aa.bs (Gs h1 h2 ⟨hk,hst,hno⟩)))
  refine U 207810 ?_
  have hst:xV k n=false:=by
   unfold xV
   have hh:=h19
   rw [hdl] at hh
   (simp at hh ⊢;omega)
  refine U 11200 ?_;refine jq (cG rfl rfl Tryz.underlying3 Tryz.underlying5 ((((oP (sh (k+1) n)).toNat:Nat):Int)) (Ag _)) ?_
  refine au (aY 1 1 er fun p2=>?_)
  refine aq (aR (l2:=[oP (sh (k+1) n)]) rfl rfl rfl (YG _) (fun _ _=>I) (aW rfl (.inl rfl) jD) rfl (ck (.cons (cI (rfl)) .nil)) Tryz.underlying23 fY ix er mx rfl (by (simp;omega)) (dz rfl rfl) rfl rfl (fun p3=>?_))
  refine U 1200840051 ?_;refine jq (jI rfl rfl rfl (by (omega)) (_) (rfl)) ?_;refine U 851 ?_
  refine aw ((k+1,p3)) ?_ ?_ (h5:=?_) (h7:=?_)
  ·have hk7:k≠7:=fun e=>by
    rw [e] at hst;rw [hst] at h7;cases h7
   refine ⟨by omega,fun j hj=>?_⟩
   by_cases e:j=k
   ·rw [e];exact hst
   ·exact hno j O
  ·show 8-(k+1)<8-k;omega
  ·exact .cons (cO (by rw [← ly])) (.cons (cI (V6 _)) .nil)
  ·exact .blk (by rw [← ly]) (fun j hj=>aa.of_eq (by rw [← ly])) .nil
end
def oD (b:Z):Nat:=if (af b).e=0 then b.length-(af b).rest.length-(af b).body.length else 0
def Aw (b:Z):Nat:=if (af b).e=0 then b.length-(af b).rest.length else 0

theorem kb (a:UInt8) (n:Nat) (h:n % 256=a.toNat):b8 n=a:=by
 apply Zq.1
 rw [fS,h]
theorem M3 {c:UInt8} {l:Z} (hl:1≤l.length∧l.length≤4) (hc:c.toNat=128+l.length):ie (mM l)=c::l↔¬(mM l≤127∨(l.getD 0 0).toNat=0):=by
 match l,hl with
 | [x],_ =>
  have hx:=x.toNat_lt
  have e:mM [x]=x.toNat:=by simp [mM]
  rw [e]
  have c1:c=129:=Zq.1 (by rw [hc];rfl)
  subst c1
  unfold ie
  split
  ·exact ⟨fun h=>by simp at h,fun h=>absurd (Or.inl O) h⟩
  ·exact ⟨fun _=>by simp;omega,fun _=>by rw [kb x _ O]⟩
 | [x,y],_ =>
  have hx:=x.toNat_lt
  have hy:=y.toNat_lt
  have e:mM [x,y]=x.toNat * 256+y.toNat:=by simp [mM]
  rw [e]
  have c1:c=130:=Zq.1 (by rw [hc];rfl)
  subst c1
  unfold ie
  split
  ·exact ⟨fun h=>by simp at h,fun h=>absurd (Or.inl O) h⟩
  ·split
   ·exact ⟨fun h=>by simp at h,fun h=>absurd (Or.inr (by simp;omega)) h⟩
   ·rw [jP]
    exact ⟨fun _=>by simp;omega,fun _=>by rw [kb x _ O,kb y _ O]⟩
 | [x,y,z],_ =>
  have hx:=x.toNat_lt
  have hy:=y.toNat_lt
  have hz:=z.toNat_lt
  have e:mM [x,y,z]=(x.toNat * 256+y.toNat) * 256+z.toNat:=by simp [mM]
  rw [e]
  have c1:c=131:=Zq.1 (by rw [hc];rfl)
  subst c1
  unfold ie
  split
  ·exact ⟨fun h=>by simp at h,fun h=>absurd (Or.inl O) h⟩
  ·split
   ·exact ⟨fun h=>by simp at h,fun h=>absurd (Or.inr (by simp;omega)) h⟩
   ·split
    ·exact ⟨fun h=>by simp at h,fun h=>absurd (Or.inr (by simp;omega)) h⟩
    ·rw [jP]
     exact ⟨fun _=>by simp;omega,fun _=>by rw [kb x _ O,kb y _ O,kb z _ O]⟩
 | [x,y,z,t],_ =>
  have hx:=x.toNat_lt
  have hy:=y.toNat_lt
  have hz:=z.toNat_lt
  have ht:=t.toNat_lt
  have e:mM [x,y,z,t]=((x.toNat * 256+y.toNat) * 256+z.toNat) * 256+t.toNat:=by simp [mM]
  rw [e]
  have c1:c=132:=Zq.1 (by rw [hc];rfl)
  subst c1
  unfold ie
  split
  ·exact ⟨fun h=>by simp at h,fun h=>absurd (Or.inl O) h⟩
  ·split
   ·exact ⟨fun h=>by simp at h,fun h=>absurd (Or.inr (by simp;omega)) h⟩
   ·split
    ·exact ⟨fun h=>by simp at h,fun h=>absurd (Or.inr (by simp;omega)) h⟩
    ·split
     ·exact ⟨fun h=>by simp at h,fun h=>absurd (Or.inr (by simp;omega)) h⟩
     ·exact ⟨fun _=>by simp;omega,fun _=>by rw [kb x _ O,kb y _ O,kb z _ O,kb t _ O]⟩
theorem Sz {b:Z} {k:Nat} (h:1<b.length):(b.take (2+k)).drop 1=b.getD 1 0::(b.drop 2).take k:=by
 match b,h with
 | x::y::r,_=>simp [show 2+k=(k+1)+1 by omega]
theorem N3 {b:Z} {k i:Nat} (h:i<k):((b.drop 2).take k).getD i 0=b.getD (2+i) 0:=by
 simp [List.getD,h]
theorem wR {b:Z} (h:1<b.length) (hc:(b.getD 1 0).toNat<128):cj (b.drop 1)=⟨0,(b.getD 1 0).toNat,b.drop 2⟩:=by
 rw [wS (c:=(b.getD 1 0).toNat) (r:=b.drop 2) (by simp;omega) (by simp [List.getD]) (by simp),jP]
theorem Jc {b:Z} {k:Nat} (h:1<b.length) (hc:(b.getD 1 0).toNat=128+k):cj (b.drop 1)=if k=0∨4<k then ⟨4,0,[]⟩ else if b.length-2<k then ⟨2,0,[]⟩ else
  if ie (mM ((b.drop 2).take k))=(b.take (2+k)).drop 1 then ⟨0,mM ((b.drop 2).take k),b.drop (2+k)⟩ else ⟨4,0,[]⟩:=by
 rw [wS (c:=(b.getD 1 0).toNat) (r:=b.drop 2) (by simp;omega) (by simp [List.getD]) (by simp),jK]
 by_cases h1:k=0∨4<k
 ·rw [YF h1,jP]
 ·rw [YE h1,jK,YN,hc,show 128+k-128=k by omega]
  by_cases h2:b.length-2<k
  ·rw [YF h2,YF h2]
  ·rw [YE h2,YE h2,Sz h,ZX]
   have hl:((b.drop 2).take k).length=k:=by simp;omega
   have hg:((b.drop 2).take k).getD 0 0=(b.drop 2).getD 0 0:=by simp [List.getD,show 0<k by omega]
   have:=M3 (c:=b.getD 1 0) (l:=(b.drop 2).take k) O (by rw [hl];exact hc)
   rw [hg] at this
   by_cases h3:mM ((b.drop 2).take k)≤127∨((b.drop 2).getD 0 0).toNat=0
   ·rw [YF h3,YE (fun h=>this.1 h h3)]
   ·rw [YE h3,YF (this.2 h3)]
section
open Go.RowKit Cal
structure VV where
 kind:Int
 n:Int
 is:Bool
 b:Z
 t:Z
def VV.none:VV:=⟨0,0,false,[],[]⟩
structure W8 where
 fr:List (Int×YD)
 d:Z
 k:Nat
def bZ (e:Nat) (s:W8):W8:=if s.k=0 then ⟨s.fr,s.d,e⟩ else s
def de (b:Z) (s:W8):W8:=match s.fr with
 | []=>⟨[],s.d++b,s.k⟩
 | x::r=>⟨(x.1,x.2++[b])::r,s.d,s.k⟩
def fD (tag:Int) (body:Z) (e:Nat) (s:W8):W8 :=
 if (bZ e s).k≠0 then bZ e s else if rh tag body≠0 then ⟨s.fr,s.d,rh tag body⟩ else de (bL tag body) s
def di (tag:Int) (s:W8):W8:=if s.k≠0 then s else if bQ tag=false then ⟨s.fr,s.d,5⟩ else if s.fr.length=16 then ⟨s.fr,s.d,6⟩ else ⟨(tag,[])::s.fr,s.d,s.k⟩
def nr (x:Int×YD):Z:=if x.1=49 then (ki x.2).flatten else x.2.flatten
def dN (s:W8):W8:=if s.k≠0 then s else match s.fr with
 | []=>⟨[],s.d,24⟩
 | x::r=>fD x.1 (nr x) 0 ⟨r,s.d,s.k⟩
def tk (b:Z) (s:W8):W8:=if (bZ (aN b).2 s).k=0 then de b s else bZ (aN b).2 s
def jl (s:W8):Nat:=if s.k≠0 then s.k else if s.fr≠[] then 24 else if 65536<s.d.length then 3 else 0
def uG (s:W8):Z:=if jl s=0 then s.d else []
def nt (n:Int):Z:=if n<0∨32767<n then [] else dD n.toNat
def sS (n:Int):Nat:=if n<0∨32767<n then 1 else 0
def bp (v:VV):Int×Z×Nat :=
 if v.kind=3 then (2,kz v.n,0) else
 if v.kind=4 then (10,kz v.n,0) else
 if v.kind=5 then (1,[if v.is then 255 else 0],0) else
 if v.kind=6 then (4,v.b,0) else
 if v.kind=7 then (12,if ay v.t v.n=0 then v.t else [],ay v.t v.n) else
 if v.kind=8 then (6,ja v.t,(bH v.t).2) else
 if v.kind=9 then (24,if Fl v.n then fJ (Gz v.n) else [],Xa v.n) else (3,nt v.n,sS v.n)
def mr (v:VV) (s:W8):W8 :=
 if v.kind=1 then di v.n s else if v.kind=2 then dN s else if v.kind=11 then tk v.b s else fD (bp v).1 (bp v).2.1 (bp v).2.2 s
structure R8 where
 tags:List Int
 rows:List (YD)
 e:Nat
def uW (m:Nat) (r:List (YD)):List (YD):=r++List.replicate (m-r.length) []
def Gr (b:Z) (s:R8):R8:=⟨s.tags,(uW (s.tags.length+1) s.rows).set s.tags.length ((uW (s.tags.length+1) s.rows).getD s.tags.length []++[b]),s.e⟩
def yO (tag:Int) (b:Z) (s:R8):R8:=if 65530<b.length then ⟨s.tags,s.rows,3⟩ else Gr (bL tag b) s
def AT (n:Int) (s:R8):R8:=if bQ n=false then ⟨s.tags,s.rows,5⟩ else if 16≤s.tags.length then ⟨s.tags,s.rows,6⟩ else ⟨s.tags++[n],(uW (s.tags.length+2) s.rows).set (s.tags.length+1) [],s.e⟩
def ve (s:R8):R8:=if s.tags.length=0 then ⟨s.tags,s.rows,24⟩ else
 yO (s.tags.getD (s.tags.length-1) 0) (nr (s.tags.getD (s.tags.length-1) 0,s.rows.getD s.tags.length [])) ⟨s.tags.take (s.tags.length-1),s.rows,s.e⟩
def oI (v:VV) (s:R8):R8 :=
 if s.e≠0 then s else if v.kind=1 then AT v.n s else if v.kind=2 then ve s else
 if v.kind=11 then (if (aN v.b).2≠0 then ⟨s.tags,s.rows,(aN v.b).2⟩ else Gr v.b s) else
 if (bp v).2.2≠0 then ⟨s.tags,s.rows,(bp v).2.2⟩ else yO (bp v).1 (bp v).2.1 s
structure nw (r:R8) (s:W8):Prop where
 tags:r.tags=(s.fr.map Prod.fst).reverse
 e:r.e=s.k
 row0:(r.rows.getD 0 []).flatten=s.d
 row:∀ j,j<s.fr.length→r.rows.getD (j+1) []=((s.fr.map Prod.snd).reverse).getD j []
 len:r.tags.length≠0→r.tags.length<r.rows.length
 known:∀ x ∈ s.fr,bQ x.1=true
 lim:s.fr.length≤16
theorem H0:nw ⟨[],[],0⟩ ⟨[],[],0⟩:=⟨rfl,rfl,rfl,fun j h=>by simp at h,fun h=>by simp at h,fun _ h=>(by cases h),by decide⟩
theorem r9 (m:Nat) (r:List (YD)):(uW m r).length=max m r.length:=by simp [uW];omega
theorem nL (m:Nat) (r:List (YD)) (j:Nat):(uW m r).getD j []=r.getD j []:=by
 simp only [uW,YH,ayx]
 split
 ·rfl
 ·rename_i h
  rw [Y6 (l:=r) O,ZL]
  split <;> rfl
theorem pM (l:List (YD)) (i j:Nat) (x:YD) (hi:i<l.length):(l.set i x).getD j []=if j=i then x else l.getD j []:=by
 simp only [YH,a9x]
 by_cases h:i=j
 ·subst h;simp [hi]
 ·rw [YE h,YE (Ne.symm h)]
theorem Co {r:R8} {s:W8} (h:nw r s) (b:Z):nw (Gr b r) (de b s):=by
 have hl:r.tags.length=s.fr.length:=by rw [h.tags];simp
 have hp:r.tags.length<(uW (r.tags.length+1) r.rows).length:=by rw [r9];omega
 obtain ⟨fr,d,k⟩:=s
 cases fr with
 | nil =>
  refine ⟨h.tags,h.e,?_,fun j hj=>by simp [de] at hj,fun h0=>?_,h.known,h.lim⟩
  ·have h0:r.tags.length=0:=hl
   show List.flatten (List.getD (List.set _ _ _) _ _)=_
   rw [pM _ _ _ _ hp,YF h0.symm,h0,nL,ZY,h.row0]
   simp [de]
  ·exact absurd hl h0
 | cons x fr =>
  have hl':r.tags.length=fr.length+1:=hl
  refine ⟨?_,h.e,?_,fun j hj=>?_,fun _=>?_,fun y hy=>?_,h.lim⟩
  ·show r.tags=_
   rw [h.tags]
   simp [de]
  ·show List.flatten (List.getD (List.set _ _ _) _ _)=_
   rw [pM _ _ _ _ hp,jK,nL,h.row0]
   rfl
  ·have hj:j<fr.length+1:=hj
   show List.getD (List.set _ _ _) _ _=_
   rw [pM _ _ _ _ hp]
   simp only [de,Zc,abx]
   have hr:=h.row j hj
   simp only [Zc,abx] at hr
   by_cases e:j=fr.length
   ·rw [jP,nL,hl',← e,hr]
    simp [e]
   ·rw [jK,nL,hr]
    simp only [YH]
    rw [YL (by simp;omega),YL (by simp;omega)]
  ·show r.tags.length<(List.set _ _ _).length
   rw [ZW]
   exact hp
  ·rcases Zg.1 hy with rfl|hy
   ·exact h.known x Y2
   ·exact h.known y (Y7 _ hy)
theorem rq {t:Int} (h:bQ t=true):bI t=true:=by unfold bI;rw [h];rfl
theorem Cn {r:R8} {s:W8} (h:nw r s) (hk:s.k=0) {tag:Int} (ht:bI tag=true) (b:Z):nw (yO tag b r) (fD tag b 0 s):=by
 have e0:bZ 0 s=s:=by
  obtain ⟨fr,d,k⟩:=s
  obtain rfl:k=0:=hk
  rfl
 unfold fD
 rw [e0,jK]
 unfold rh yO
 rw [ht]
 simp only [Bool.true_eq_false,if_false]
 by_cases hb:65530<b.length
 ·rw [YF hb,YF hb,YF jD]
  exact ⟨h.tags,rfl,h.row0,h.row,h.len,h.known,h.lim⟩
 ·rw [YE hb,YE hb,YE jD]
  exact Co h _
theorem H3 {r:R8} {s:W8} (h:nw r s) (hk:s.k=0) (n:Int):nw (AT n r) (di n s):=by
 have hl:r.tags.length=s.fr.length:=by rw [h.tags];simp
 have hlim:=h.lim
 unfold AT di
 rw [YE (show ¬ s.k≠0 by omega)]
 by_cases hm:bQ n=false
 ·rw [YF hm,YF hm]
  exact ⟨h.tags,rfl,h.row0,h.row,h.len,h.known,h.lim⟩
 ·rw [YE hm,YE hm]
  by_cases h16:s.fr.length=16
  ·rw [jP,YF h16]
   exact ⟨h.tags,rfl,h.row0,h.row,h.len,h.known,h.lim⟩
  ·rw [jK,YE h16]
   have hp:r.tags.length+1<(uW (r.tags.length+2) r.rows).length:=by rw [r9];omega
   refine ⟨?_,h.e,?_,fun j hj=>?_,fun _=>?_,fun y hy=>?_,?_⟩
   ·show r.tags++[n]=_
    rw [h.tags]
    simp
   ·show List.flatten (List.getD (List.set _ _ _) _ _)=_
    rw [pM _ _ _ _ hp,jK,nL,h.row0]
   ·have hj:j<s.fr.length+1:=hj
    show List.getD (List.set _ _ _) _ _=_
    rw [pM _ _ _ _ hp]
    simp only [Zc,abx]
    by_cases e:j=s.fr.length
    ·rw [jP]
     simp [e]
    ·rw [jK,nL,h.row j O]
     simp only [YH]
     rw [YL (by simp;omega)]
   ·show (r.tags++[n]).length<(List.set _ _ _).length
    rw [ZW,YI]
    exact hp
   ·rcases Zg.1 hy with rfl|hy
    ·simpa using hm
    ·exact h.known y hy
   ·show s.fr.length+1≤16
    omega
theorem Ey {r:R8} {s:W8} (h:nw r s) (hk:s.k=0):nw (ve r) (dN s):=by
 have hl:r.tags.length=s.fr.length:=by rw [h.tags];simp
 unfold ve dN
 rw [YE (show ¬ s.k≠0 by omega)]
 obtain ⟨fr,d,k⟩:=s
 cases fr with
 | nil =>
  rw [YF (show r.tags.length=0 from hl)]
  exact ⟨h.tags,rfl,h.row0,h.row,h.len,h.known,h.lim⟩
 | cons x fr =>
  have hl:r.tags.length=fr.length+1:=hl
  rw [jK]
  have ht:r.tags=(fr.map Prod.fst).reverse++[x.1]:=by rw [h.tags];simp
  have e1:r.tags.getD (r.tags.length-1) 0=x.1:=by
   rw [hl,ht]
   simp
  have e2:r.rows.getD r.tags.length []=x.2:=by
   rw [hl,h.row fr.length (by simp)]
   simp
  rw [e1,e2]
  refine Cn (r:=⟨r.tags.take (r.tags.length-1),r.rows,r.e⟩) (s:=⟨fr,d,k⟩) ⟨?_,h.e,h.row0,fun j hj=>?_,fun h0=>?_,fun y hy=>h.known y (Y7 _ hy),?_⟩ hk (rq (h.known x Y2)) _
  ·show r.tags.take _=_
   rw [hl,ht]
   simp
  ·have hj:j<fr.length:=hj
   show r.rows.getD (j+1) []=_
   rw [h.row j (by simp;omega)]
   simp only [Zc,abx,YH]
   rw [YL (by simp;omega)]
  ·show (r.tags.take _).length<r.rows.length
   have:=h.len O
   simp only [YS]
   omega
  ·have:=h.lim
   simp at this ⊢
   omega
theorem Ga {r:R8} {s:W8} (h:nw r s) (v:VV):nw (oI v r) (mr v s):=by
 unfold oI mr
 have he:=h.e
 by_cases hk:s.k=0
 ·rw [YE (show ¬ r.e≠0 by omega)]
  split
  ·exact H3 h hk _
  ·split
   ·exact Ey h hk
   ·split
    ·unfold tk
     have e:(bZ (aN v.b).2 s).k=(aN v.b).2:=by unfold bZ;rw [YF hk]
     rw [e]
     by_cases h0:(aN v.b).2=0
     ·rw [jK,YF h0]
      exact Co h _
     ·rw [YF h0,YE h0]
      unfold bZ
      rw [YF hk]
      exact ⟨h.tags,rfl,h.row0,h.row,h.len,h.known,h.lim⟩
    ·by_cases h0:(bp v).2.2=0
     ·rw [jK,h0]
      refine Cn h hk ?_ _
      unfold bp
      repeat' split
      all_goals (first|rfl|decide)
     ·rw [YF h0]
      have e:bZ (bp v).2.2 s=⟨s.fr,s.d,(bp v).2.2⟩:=by unfold bZ;rw [YF hk]
      unfold fD
      rw [e,YF h0]
      exact ⟨h.tags,rfl,h.row0,h.row,h.len,h.known,h.lim⟩
 ·rw [YF (show r.e≠0 by omega)]
  have e1:∀ e,bZ e s=s:=fun e=>by unfold bZ;rw [YE hk]
  have e2:∀ t b e,fD t b e s=s:=fun t b e=>by unfold fD;rw [e1,YF hk]
  have e3:di v.n s=s:=by unfold di;rw [YF hk]
  have e4:dN s=s:=by unfold dN;rw [YF hk]
  have e5:tk v.b s=s:=by unfold tk;rw [e1,YE hk]
  rw [e2,e3,e4,e5,ite_self,ite_self,ite_self]
  exact h
end
theorem MA {b:Z} {k:Nat} (h:af b=⟨k,0,[],[]⟩) (hk:k≠0):aa (.tup 4 (fl [.c (.int .i64 0),.c (.int .i64 0),.c (.int .i64 0),.c (.int .i64 (k:Nat))])) (.tup 4 (fl [.c (.int .i64 (af b).tag),.c (.int .i64 (oD b)),.c (.int .i64 (Aw b)),.c (.int .i64 (af b).e)])):=by
 unfold oD Aw
 rw [h,YE hk,YE hk]
 exact I
theorem XY {b body rest:Z} {t:Nat} {x y z:Int} (h:af b=⟨0,t,body,rest⟩) (hx:x=(t:Nat)) (hy:y=((b.length-rest.length-body.length:Nat):Int)) (hz:z=((b.length-rest.length:Nat):Int)):aa (.tup 4 (fl [.c (.int .i64 x),.c (.int .i64 y),.c (.int .i64 z),.c (.int .i64 0)])) (.tup 4 (fl [.c (.int .i64 (af b).tag),.c (.int .i64 (oD b)),.c (.int .i64 (Aw b)),.c (.int .i64 (af b).e)])):=by
 unfold oD Aw
 rw [h,YF rfl,YF rfl,hx,hy,hz]
 exact I
theorem wk {gs:List Nat} (b:Z) (hb:b.length≤10000000):cc gs Tryz.prog 175 [aV b] (.tup 4 (fl [.c (.int .i64 (af b).tag),.c (.int .i64 (oD b)),.c (.int .i64 (Aw b)),.c (.int .i64 (af b).e)])):=by
 refine aj 81 Tryz.func175 fun al w0 F0 St0=>?_;refine U 523167511116 ?_;refine ap (fun h43=>?_) fun h43=>?_
 ·refine U 511116 ?_
  refine jR (kq (eA (hv:=MA (k:=2) (by unfold af;rw [jP]) jD)))
 refine U 70000000602000000167810 ?_
 refine au (ar (Ij _) ?_)
 refine U 530 ?_;refine ap (fun h46=>?_) fun h46=>?_
 ·refine U 511116 ?_
  refine jR (kq (eA (hv:=MA (k:=5) (by unfold af;rw [jK,YF (by simpa using h46)]) jD)))
 refine U 7810 ?_
 obtain ⟨t,ht⟩:∃ t,t=(b.getD 0 0).toNat:=⟨_,rfl⟩
 have hk:bI (t:Nat)=true:=by rw [ht];simpa using h46
 have hN:=CY O ht hk rfl
 refine U 52316 ?_;refine ap (fun h49=>?_) fun h49=>?_
 ·refine U 800030007000511116 ?_
  have hm:cj (b.drop 1)=⟨2,0,[]⟩:=by unfold cj;rw [YF (by rw [YN];omega)]
  exact MA (k:=2) (by rw [hN,hm];rfl) jD
 refine U 16810 ?_;refine jq (dU (i:=1)) ?_;refine U 75117000000060 ?_
 obtain ⟨c,hc⟩:∃ c,c=(b.getD 1 0).toNat:=⟨_,rfl⟩
 have c8:c<256:=by rw [hc];exact (b.getD 1 0).toNat_lt
 refine jE (aS 6 (.c (.int .i64 (c:Nat))) (cI (by rw [hc]))) ?_;refine U 5216 ?_;refine ap (fun h53=>?_) fun h53=>?_
 rotate_left
 ·refine U 7810 ?_
  first
   | have hM2:=wR (b:=b) O O
   |(rw [jK,jK,YF (Z5.1 h66)] at hM;have hM2:=hM)
  rw [hM2] at hN
  dsimp only at hN
  rw [YE jD] at hN
  refine U 5216 ?_;refine ap (fun h70=>?_) fun h70=>?_
  ·refine U 511116 ?_
   refine jR (kq (eA (hv:=MA (k:=3) (by rw [hN,jP]) jD)))
  refine U 529131167810 ?_;refine ap (fun h73=>?_) fun h73=>?_
  ·refine U 511116 ?_
   refine jR (kq (eA (hv:=MA (k:=2) (by rw [hN,jK,YF (by rw [YN];omega)]) jD)))
  refine U 5111191117000000060200000016810 ?_
  refine jR (eA (hv:=XY (by rw [hN,jK,YE (by rw [YN];omega)]) (by rw [ht]) (by simp only [YN,YS];omega) (by simp only [YN];omega)))
 refine U 751916 ?_
 obtain ⟨k,hk8⟩:∃ k,c=128+k:=⟨c-128,by omega⟩
 have hM:=Jc (b:=b) (k:=k) O O
 refine jE (aS 8 (.c (.int .i64 (k:Nat))) (cI O)) ?_;refine U 1216 ?_;refine aK 32 (fun g55=>?_) fun g55=>?_
 ·refine U 80003000300070005111169000510000000044 ?_
  rw [jP] at hM
  exact MA (k:=4) (by rw [hN,hM];rfl) jD
 refine U 550021 ?_;refine ap (fun h55=>?_) fun h55=>?_
 ·refine U 8000300030007000511116 ?_
  rw [jP] at hM
  exact MA (k:=4) (by rw [hN,hM];rfl) jD
 refine U 52193167810 ?_;refine ap (fun h58=>?_) fun h58=>?_
 ·refine U 8000300030007000511116 ?_
  rw [jK,jP] at hM
  exact MA (k:=2) (by rw [hN,hM];rfl) jD
 refine U 810 ?_
 have hk4:1≤k∧k≤4:=by omega
 have htl:((b.drop 2).take k).length=k:=by simp;omega
 refine U 205167516 ?_;refine ax (α:=Nat) [6,9,41,42,43,44,45,46,47,48,49,50,51,52,53,54] (fun i=>[(6,.c (.int .i64 (mM (((b.drop 2).take k).take i):Nat))),(9,.c (.int .i64 (i:Nat)))]) (fun _=>[]) (fun i=>i≤k) (fun i=>k-i) (0) ?_ (fun _=>rfl) ?_ ?_ ?_
 ·exact YT _
 ·(repeat (first|exact bz.nil|refine bz.cons I ?_))
 ·(repeat (exact aP.nil))
 ·rintro i (hi:i≤k)
  refine U 521167 ?_;refine ap (fun h62=>?_) fun h62=>?_
  ·refine U 207810 ?_
   have hbn:=FK (((b.drop 2).take k).take i)
   have hbl:(((b.drop 2).take k).take i).length=i:=by simp;omega
   have hb3:mM (((b.drop 2).take k).take i)<16777216:=by
    rw [hbl] at hbn
    have:i≤3:=by omega
    have:=ZA (n:=256) jD this
    omega
   have hc8:=(b.getD (2+i) 0).toNat_lt
   refine U 91191200 ?_;refine jq (dU (i:=(2+i)) (hz:=by omega)) ?_;refine U 8519120084005197000000060 ?_
   refine aw (i+1) ?_ ?_ (h5:=?_)
   ·show i+1≤k;omega
   ·omega
   ·exact .cons (cI (by rw [D8 O,N3 O];omega)) (.cons I .nil)
  refine U 84000200020006000 ?_
  obtain rfl:k=i:=by omega
  have hb4:mM ((b.drop 2).take k)<4294967296:=by
   have h:=FK ((b.drop 2).take k)
   rw [htl] at h
   have:=ZA (n:=256) jD hk4.2
   omega
  refine jE (aS 6 (.c (.int .i64 (mM ((b.drop 2).take k):Nat))) (cI (by rw [List.take_take,Nat.min_self]))) ?_;refine U 751916 ?_;refine dY (.rd 0 (.rd 3 (.rd 4 (.rd 5 (.rd 6 (.one 1 (.rd 2 (.rd 7 .done)))))))) ?_;refine U 707070 ?_;refine aM (Nq (hz1:=(show (1:Int)=((1:Nat):Int) from rfl))) ?_;refine aM Fg ?_
  refine ir (ar (Qq (mM ((b.drop 2).take k)) O) ?_ (ho:=rfl) (he:=(.cons (se rfl (cI O)) .nil)))
  refine aM Fg ?_;refine aM Ff ?_;refine U 880 ?_;refine ap (fun h66=>?_) fun h66=>?_
  ·refine U 800030007000511116 ?_
   rw [jK,jK,YE h66] at hM
   exact MA (k:=4) (by rw [hN,hM];rfl) jD
  refine U 7810 ?_
  first
   | have hM2:=wR (b:=b) O O
   |(rw [jK,jK,YF (Z5.1 h66)] at hM;have hM2:=hM)
  rw [hM2] at hN
  dsimp only at hN
  rw [YE jD] at hN
  refine U 5216 ?_;refine ap (fun h70=>?_) fun h70=>?_
  ·refine U 511116 ?_
   refine jR (kq (eA (hv:=MA (k:=3) (by rw [hN,jP]) jD)))
  refine U 529131167810 ?_;refine ap (fun h73=>?_) fun h73=>?_
  ·refine U 511116 ?_
   refine jR (kq (eA (hv:=MA (k:=2) (by rw [hN,jK,YF (by rw [YN];omega)]) jD)))
  refine U 5111191117000000060200000016810 ?_
  refine jR (eA (hv:=XY (by rw [hN,jK,YE (by rw [YN];omega)]) (by rw [ht]) (by simp only [YN,YS];omega) (by simp only [YN];omega)))
theorem zt {rec:Nat→Z→Nat×Nat} {set:Bool} {lv:Nat}:∀ {fuel:Nat} {b last:Z} {dp:Nat},(fZ rec set lv fuel b last dp).2≠0→(fZ rec set lv fuel b last dp).1=0
 | 0,b,last,dp,h=>by simp [fZ] at h
 | fuel+1,b,last,dp,h=>by
  unfold fZ at h ⊢
  split
  ·rename_i h1;rw [YF h1] at h;exact absurd rfl h
  ·rename_i h1;rw [YE h1] at h
   split
   ·rfl
   ·rename_i h2;rw [YE h2] at h
    split
    ·rfl
    ·rename_i h3;rw [YE h3] at h
     split
     ·rfl
     ·rename_i h4;rw [YE h4] at h
      split
      ·rfl
      ·rename_i h5;rw [YE h5] at h
       exact zt h
theorem zq {rec:Nat→Z→Nat×Nat} {set:Bool} {lv:Nat}:∀ {fuel:Nat} {b last:Z} {dp:Nat},1≤dp→(fZ rec set lv fuel b last dp).2=0→1≤(fZ rec set lv fuel b last dp).1
 | 0,b,last,dp,hd,h=>hd
 | fuel+1,b,last,dp,hd,h=>by
  have hn:=ek b
  unfold fZ at h ⊢
  split
  ·exact hd
  ·rename_i h1;rw [YE h1] at h
   split
   ·rename_i h2;rw [YF h2] at h;exact absurd h h2
   ·rename_i h2;rw [YE h2] at h
    split
    ·rename_i h3;rw [YF h3] at h;exact absurd h jD
    ·rename_i h3;rw [YE h3] at h
     split
     ·rename_i h4;rw [YF h4] at h;exact absurd h h4
     ·rename_i h4;rw [YE h4] at h
      split
      ·rename_i h5;rw [YF h5] at h;exact absurd h jD
      ·rename_i h5;rw [YE h5] at h
       exact zq O h
theorem qU {lv tag:Nat} {body:Z} (h:(bm lv tag body).2=0):1≤(bm lv tag body).1:=by
 match lv with
 | 0=>simp [bm]
 | lv+1 =>
  unfold bm at h ⊢
  split
  ·simp
  ·rename_i h1;rw [YE h1] at h
   exact zq (YG _) h
def ym (lv:Nat) (set:Bool) (body:Z):Nat×Nat:=fZ (bm lv) set (lv+1) body.length body [] 1
theorem lE {b:Z} (h:(af b).e=0):Aw b=b.length-(af b).rest.length:=by unfold Aw;rw [YF h]
theorem zj {b:Z} (h:(af b).e=0):(af b).body=(b.take (Aw b)).drop (oD b)∧(af b).rest=b.drop (Aw b)∧oD b≤Aw b∧Aw b≤b.length:=by
 obtain ⟨n,k,hk,hr,hn,hkl,hb⟩:∃ n k,k≤b.length∧(af b).rest=(b.drop k).drop n∧n≤b.length-k∧k≤b.length∧(af b).body=(b.drop k).take n:=by
  have hm:∀ c:Z,(cj c).e=0→∃ k,k≤c.length∧(cj c).rest=c.drop k:=by
   intro c
   unfold cj
   split
   ·intro h;exact absurd h jD
   ·dsimp only
    split
    ·exact fun _=>⟨1,by omega,rfl⟩
    ·split
     ·intro h;exact absurd h jD
     ·split
      ·intro h;exact absurd h jD
      ·split
       ·intro h;exact absurd h jD
       ·rename_i h1 h2 h3 h4 h5
        rw [YN] at h4
        exact fun _=>⟨1+((c.getD 0 0).toNat-128),by omega,by dsimp only;rw [ZX]⟩
  unfold af at h ⊢
  split
  ·rename_i h1;rw [YF h1] at h;exact absurd h jD
  ·rename_i h1;rw [YE h1] at h
   split
   ·rename_i h2;rw [YF h2] at h;exact absurd h jD
   ·rename_i h2;rw [YE h2] at h
    dsimp only at h ⊢
    split
    ·rename_i h3;rw [YF h3] at h;exact absurd h h3
    ·rename_i h3;rw [YE h3] at h
     split
     ·rename_i h4;rw [YF h4] at h;exact absurd h jD
     ·rename_i h4;rw [YE h4] at h
      split
      ·rename_i h5;rw [YF h5] at h;exact absurd h jD
      ·rename_i h5
       obtain ⟨k,hk,hr⟩:=hm (b.drop 1) O
       rw [YN] at hk
       rw [hr,YN,YN] at h5
       exact ⟨(cj (b.drop 1)).n,1+k,by omega,by rw [hr,ZX],by omega,by omega,by rw [hr,ZX]⟩
 have e1:Aw b=k+n:=by
  rw [lE h,hr,YN,YN]
  omega
 have e2:oD b=k:=by
  unfold oD
  rw [YF h,hb,hr,YS,YN,YN]
  omega
 rw [e1,e2,hb,hr]
 refine ⟨?_,by rw [ZX],by omega,by omega⟩
 rw [List.drop_take]
 congr 1
 omega

theorem qV {lv tag:Nat} {body:Z} (h:bQ tag=false):bm lv tag body=(1,0):=by
 match lv with
 | 0=>rfl
 | lv+1=>unfold bm;rw [YF h]
theorem H5 {gs:List Nat}:∀ (lv:Nat) (set:Bool) (body:Z),lv≤16→body.length≤1000000→cc gs Tryz.prog 176 [aV body,.c (.int .i64 (lv:Nat)),.c (.bool set)] (.tup 2 (fl [.c (.int .i64 ((ym lv set body).1-1:Nat)),.c (.int .i64 (ym lv set body).2)])):=by
 intro lv
 induction lv using Nat.strongRecOn with
 | _ lv ih =>
 intro set body hlv hbody
 have ih':1≤lv→∀ (tag:Nat) (body:Z),bQ tag=true→body.length≤1000000→cc gs Tryz.prog 176 [aV body,.c (.int .i64 ((lv:Int)-1)),.c (.bool (decide (tag=49)))] (.tup 2 (fl [.c (.int .i64 ((bm lv tag body).1-1:Nat)),.c (.int .i64 (bm lv tag body).2)])):=fun h tag body hm hb=>by
  have:=ih (lv-1) O (decide (tag=49)) body O hb
  have e:bm lv tag body=ym (lv-1) (decide (tag=49)) body:=by
   obtain ⟨m,rfl⟩:∃ m,lv=m+1:=⟨lv-1,by omega⟩
   unfold bm ym
   rw [YE (by rw [hm];exact Bool.noConfusion)]
   rfl
  rw [e,show (lv:Int)-1=((lv-1:Nat):Int) by omega]
  exact this
 have hR:∀ t b,(bm lv t b).1≤lv+1∧(bm lv t b).2≤7:=fun t b=>pE lv t b
 refine aj 73 Tryz.func176 fun al w0 F0 St0=>?_;refine U 65165116 ?_
 refine au (aY 0 1 er fun p1=>?_)
 refine U 20751 ?_;refine jE (freeze 0 rfl) ?_;refine jE (kg 9 (fun i _=>bc [] i) rfl rfl O (fun a b ha hb=>absurd ha (YW a))) ?_;refine jE (cn (H':=[]) [] jD rfl) ?_;refine ax (α:=WS) [0,6,7,8,9,10,11,12,13,14,15,16,18,19,20,21,22,23,24,25,26,27,28,29,30,31,32,33,34,35,36,37,38,39,40,41,42,43,44,45,46,47,48,49,50,51,52,53,54,55,56,57,58,59,60,61,62,63,64,65,66,67,68,69,70,71] (fun x=>[(0,aV x.b),(8,.c (.int .i64 ((x.dp-1:Nat):Int))),(9,aV x.last)]) (fun _=>[]) (fun x=>1≤x.dp∧x.b.length≤x.f∧x.b.length≤1000000∧x.dp≤lv+2∧fZ (bm lv) set (lv+1) x.f x.b x.last x.dp=ym lv set body) (fun x=>x.f) (⟨body.length,body,[],1⟩) ?_ (fun _=>rfl) ?_ ?_ ?_
 ·exact ⟨YG _,YG _,hbody,by show 1≤lv+2;omega,rfl⟩
 ·(repeat (first|exact bz.nil|refine bz.cons I ?_))
 ·(repeat (exact aP.nil))
 ·rintro x ⟨hd1,hxf,hxb',hdp,hw⟩
  have hxb:x.b.length≤10000000:=by omega
  have hnb:=ek x.b
  refine U 523167 ?_;refine ap (fun h97=>?_) fun h97=>?_
  rotate_left
  ·refine U 800070005111684000200020006000 ?_
   obtain hnil:x.b=[]:=Y1 O
   rw [hnil,qa] at hw
   rw [← hw]
   exact I
  refine U 1620810 ?_
  refine au (ar (wk x.b hxb) ?_)
  refine U 52167511119009009009001 ?_;refine ap (fun h99=>?_) fun h99=>?_
  ·refine U 800030005000300050003000700051116 ?_
   rw [← hw,cd _ _ _ _ _ _ _ O hxf,jP]
   exact I
  refine U 7810 ?_
  have he:¬(af x.b).e≠0:=by omega
  have hcut:=zj (b:=x.b) O
  have htm:=lE (b:=x.b) O
  refine U 5216 ?_;refine ap (fun h102=>?_) fun h102=>?_
  ·refine U 80003000500030005000300070005116 ?_
   rw [← hw,cd _ _ _ _ _ _ _ O hxf,YE he,jP]
   exact I
  refine U 810 ?_
  have hW:=hR (af x.b).tag (af x.b).body
  refine U 167516 ?_
  refine au (ar (wn _) ?_)
  refine U 5 ?_;refine ap (fun h106=>?_) fun h106=>?_
  rotate_left
  ·refine U 77810 ?_
   have hw0:¬(bm lv (af x.b).tag (af x.b).body).2≠0:=by (rw [qV (Zl h106)];decide)
   have hw1:=qU (Z5.1 hw0)
   refine jE (aS 14 (.c (.int .i64 ((bm lv (af x.b).tag (af x.b).body).1:Nat))) (cI (by (rw [qV (Zl h106)];rfl)))) ?_;refine dY (.rd 0 (.rd 1 (.rd 2 (.rd 3 (.rd 4 (.rd 5 (.rd 6 (.rd 7 (.rd 8 (.rd 9 .done)))))))))) ?_;refine U 7070 ?_;refine Jk 53 (fun g113=>?_) fun g113=>?_
   rotate_left
   ·refine U 7810300880300000600600600600600600600 ?_
    have hset:¬(set=true∧Op.bytesLess (x.b.take (x.b.length-(af x.b).rest.length)) x.last=true):=by
     rintro ⟨h1,h2⟩
     rw [← htm] at h2
     (rw [h1] at g113;exact absurd g113 jD)
    refine U 52116 ?_;refine ap (fun h116=>?_) fun h116=>?_
    rotate_left
    ·refine U 112005190000000116810 ?_;refine jq qB ?_;refine U 840051 ?_
     refine aw (⟨x.f-1,(af x.b).rest,x.b.take (x.b.length-(af x.b).rest.length),max x.dp ((bm lv (af x.b).tag (af x.b).body).1+1)⟩) ?_ ?_ (h5:=?_)
     ·exact ⟨by dsimp only;omega,by dsimp only;omega,by dsimp only;omega,by dsimp only;omega,by
       dsimp only
       rw [← hw,cd _ _ _ _ _ _ _ O hxf,YE he,jK,YE hw0,YE hset]⟩
     ·dsimp only
      omega
     ·exact .cons (aa.bs hcut.2.1.symm) (.cons (cI (by dsimp only;omega)) (.cons (aa.bs (by rw [htm])) .nil))
    refine U 1120051900000001168511200 ?_;refine jq qB ?_;refine U 840051 ?_
    refine aw (⟨x.f-1,(af x.b).rest,x.b.take (x.b.length-(af x.b).rest.length),max x.dp ((bm lv (af x.b).tag (af x.b).body).1+1)⟩) ?_ ?_ (h5:=?_)
    ·exact ⟨by dsimp only;omega,by dsimp only;omega,by dsimp only;omega,by dsimp only;omega,by
      dsimp only
      rw [← hw,cd _ _ _ _ _ _ _ O hxf,YE he,jK,YE hw0,YE hset]⟩
    ·dsimp only
     omega
    ·exact .cons (aa.bs hcut.2.1.symm) (.cons (cI (by dsimp only;omega)) (.cons (aa.bs (by rw [htm])) .nil))
   refine U 7070 ?_;refine aM w9 ?_;refine U 300000007030000000 ?_;refine aM Ff ?_;refine U 8803000000 ?_;refine ap (fun h113=>?_) fun h113=>?_
   ·refine U 80003000500030005000300070005116 ?_
    rw [← hw,cd _ _ _ _ _ _ _ O hxf,YE he,jK,YE hw0,YF ⟨by assumption,by rw [← htm];simpa using h113⟩]
    exact I
   refine U 7810 ?_
   have hset:¬(set=true∧Op.bytesLess (x.b.take (x.b.length-(af x.b).rest.length)) x.last=true):=by
    rintro ⟨h1,h2⟩
    rw [← htm] at h2
    (rw [h2] at h113;exact absurd h113 jD)
   refine U 52116 ?_;refine ap (fun h116=>?_) fun h116=>?_
   rotate_left
   ·refine U 112005190000000116810 ?_;refine jq qB ?_;refine U 840051 ?_
    refine aw (⟨x.f-1,(af x.b).rest,x.b.take (x.b.length-(af x.b).rest.length),max x.dp ((bm lv (af x.b).tag (af x.b).body).1+1)⟩) ?_ ?_ (h5:=?_)
    ·exact ⟨by dsimp only;omega,by dsimp only;omega,by dsimp only;omega,by dsimp only;omega,by
      dsimp only
      rw [← hw,cd _ _ _ _ _ _ _ O hxf,YE he,jK,YE hw0,YE hset]⟩
    ·dsimp only
     omega
    ·exact .cons (aa.bs hcut.2.1.symm) (.cons (cI (by dsimp only;omega)) (.cons (aa.bs (by rw [htm])) .nil))
   refine U 1120051900000001168511200 ?_;refine jq qB ?_;refine U 840051 ?_
   refine aw (⟨x.f-1,(af x.b).rest,x.b.take (x.b.length-(af x.b).rest.length),max x.dp ((bm lv (af x.b).tag (af x.b).body).1+1)⟩) ?_ ?_ (h5:=?_)
   ·exact ⟨by dsimp only;omega,by dsimp only;omega,by dsimp only;omega,by dsimp only;omega,by
     dsimp only
     rw [← hw,cd _ _ _ _ _ _ _ O hxf,YE he,jK,YE hw0,YE hset]⟩
   ·dsimp only
    omega
   ·exact .cons (aa.bs hcut.2.1.symm) (.cons (cI (by dsimp only;omega)) (.cons (aa.bs (by rw [htm])) .nil))
  refine U 1116 ?_;refine jq Nq ?_;refine U 2191 ?_
  refine au (ar (ih' O (af x.b).tag (af x.b).body (Zj h106) O) ?_ (ho:=rfl) (he:=(.cons (se rfl (aa.bs hcut.1.symm)) (.cons (se rfl I) (.cons (se rfl (cB (decide_eq_decide.2 O))) .nil)))))
  refine U 521675119009001 ?_;refine ap (fun h108=>?_) fun h108=>?_
  ·refine U 8000300050003000500030003000700051116 ?_
   rw [← hw,cd _ _ _ _ _ _ _ O hxf,YE he,jK,jP]
   exact I
  refine U 7785191200810 ?_
  have hw0:¬(bm lv (af x.b).tag (af x.b).body).2≠0:=by omega
  have hw1:=qU (Z5.1 hw0)
  refine jE (aS 14 (.c (.int .i64 ((bm lv (af x.b).tag (af x.b).body).1:Nat))) (cI O)) ?_;refine dY (.rd 0 (.rd 1 (.rd 2 (.rd 3 (.rd 4 (.rd 5 (.rd 6 (.rd 7 (.rd 8 (.rd 9 .done)))))))))) ?_;refine U 7070 ?_;refine Jk 53 (fun g113=>?_) fun g113=>?_
  rotate_left
  ·refine U 7810300880300000600600600600600600600 ?_
   have hset:¬(set=true∧Op.bytesLess (x.b.take (x.b.length-(af x.b).rest.length)) x.last=true):=by
    rintro ⟨h1,h2⟩
    rw [← htm] at h2
    (rw [h1] at g113;exact absurd g113 jD)
   refine U 52116 ?_;refine ap (fun h116=>?_) fun h116=>?_
   rotate_left
   ·refine U 112005190000000116810 ?_;refine jq qB ?_;refine U 840051 ?_
    refine aw (⟨x.f-1,(af x.b).rest,x.b.take (x.b.length-(af x.b).rest.length),max x.dp ((bm lv (af x.b).tag (af x.b).body).1+1)⟩) ?_ ?_ (h5:=?_)
    ·exact ⟨by dsimp only;omega,by dsimp only;omega,by dsimp only;omega,by dsimp only;omega,by
      dsimp only
      rw [← hw,cd _ _ _ _ _ _ _ O hxf,YE he,jK,YE hw0,YE hset]⟩
    ·dsimp only
     omega
    ·exact .cons (aa.bs hcut.2.1.symm) (.cons (cI (by dsimp only;omega)) (.cons (aa.bs (by rw [htm])) .nil))
   refine U 1120051900000001168511200 ?_;refine jq qB ?_;refine U 840051 ?_
   refine aw (⟨x.f-1,(af x.b).rest,x.b.take (x.b.length-(af x.b).rest.length),max x.dp ((bm lv (af x.b).tag (af x.b).body).1+1)⟩) ?_ ?_ (h5:=?_)
   ·exact ⟨by dsimp only;omega,by dsimp only;omega,by dsimp only;omega,by dsimp only;omega,by
     dsimp only
     rw [← hw,cd _ _ _ _ _ _ _ O hxf,YE he,jK,YE hw0,YE hset]⟩
   ·dsimp only
    omega
   ·exact .cons (aa.bs hcut.2.1.symm) (.cons (cI (by dsimp only;omega)) (.cons (aa.bs (by rw [htm])) .nil))
  refine U 7070 ?_;refine aM w9 ?_;refine U 300000007030000000 ?_;refine aM Ff ?_;refine U 8803000000 ?_;refine ap (fun h113=>?_) fun h113=>?_
  ·refine U 80003000500030005000300070005116 ?_
   rw [← hw,cd _ _ _ _ _ _ _ O hxf,YE he,jK,YE hw0,YF ⟨by assumption,by rw [← htm];simpa using h113⟩]
   exact I
  refine U 7810 ?_
  have hset:¬(set=true∧Op.bytesLess (x.b.take (x.b.length-(af x.b).rest.length)) x.last=true):=by
   rintro ⟨h1,h2⟩
   rw [← htm] at h2
   (rw [h2] at h113;exact absurd h113 jD)
  refine U 52116 ?_;refine ap (fun h116=>?_) fun h116=>?_
  rotate_left
  ·refine U 112005190000000116810 ?_;refine jq qB ?_;refine U 840051 ?_
   refine aw (⟨x.f-1,(af x.b).rest,x.b.take (x.b.length-(af x.b).rest.length),max x.dp ((bm lv (af x.b).tag (af x.b).body).1+1)⟩) ?_ ?_ (h5:=?_)
   ·exact ⟨by dsimp only;omega,by dsimp only;omega,by dsimp only;omega,by dsimp only;omega,by
     dsimp only
     rw [← hw,cd _ _ _ _ _ _ _ O hxf,YE he,jK,YE hw0,YE hset]⟩
   ·dsimp only
    omega
   ·exact .cons (aa.bs hcut.2.1.symm) (.cons (cI (by dsimp only;omega)) (.cons (aa.bs (by rw [htm])) .nil))
  refine U 1120051900000001168511200 ?_;refine jq qB ?_;refine U 840051 ?_
  refine aw (⟨x.f-1,(af x.b).rest,x.b.take (x.b.length-(af x.b).rest.length),max x.dp ((bm lv (af x.b).tag (af x.b).body).1+1)⟩) ?_ ?_ (h5:=?_)
  ·exact ⟨by dsimp only;omega,by dsimp only;omega,by dsimp only;omega,by dsimp only;omega,by
    dsimp only
    rw [← hw,cd _ _ _ _ _ _ _ O hxf,YE he,jK,YE hw0,YE hset]⟩
  ·dsimp only
   omega
  ·exact .cons (aa.bs hcut.2.1.symm) (.cons (cI (by dsimp only;omega)) (.cons (aa.bs (by rw [htm])) .nil))
theorem Pf {b:Z} (h:(af b).e=0) (hr:(af b).rest=[]):((ym 16 false b).1-1,(ym 16 false b).2)=bm 16 (af b).tag (af b).body:=by
 have hb:b≠[]:=by rintro rfl;exact absurd h jD
 have hl:0<b.length:=Zh.2 hb
 unfold ym
 rw [cd _ _ _ _ _ _ _ hl (YG _),jK,YE jD]
 by_cases hw:(bm 16 (af b).tag (af b).body).2=0
 ·have:=qU hw
  rw [jK,YE (by simp),hr,qa]
  refine blx ?_ hw.symm
  show max 1 _-1=_
  omega
 ·rw [YF hw]
  refine blx ?_ rfl
  show 0-1=_
  have:(bm 16 (af b).tag (af b).body).1=0:=by
   unfold bm at hw ⊢
   split
   ·rename_i h1;rw [YF h1] at hw;exact absurd rfl hw
   ·rename_i h1;rw [YE h1] at hw;exact zt hw
  omega
theorem IM {gs:List Nat} (b:Z) (hb:b.length≤1000000):cc gs Tryz.prog 136 [aV b] (.tup 2 (fl [.c (.int .i64 (aN b).1),.c (.int .i64 (aN b).2)])):=by
 have hnb:=ek b
 refine aj 29 Tryz.func136 fun al w0 F0 St0=>?_;refine U 5231675116 ?_;refine ap (fun h127=>?_) fun h127=>?_
 ·refine U 8000300070005116 ?_
  unfold aN
  rw [jP]
  exact I
 refine U 16810 ?_
 refine au (ar (wk b O) ?_)
 refine U 52167511119009009009001 ?_;refine ap (fun h131=>?_) fun h131=>?_
 ·refine U 80003000700051116 ?_
  unfold aN
  rw [jK,jP]
  exact I
 refine U 5231167810 ?_;refine ap (fun h134=>?_) fun h134=>?_
 ·refine U 8000300070005116 ?_
  have htm:=lE (b:=b) O
  unfold aN
  rw [jK,jK,jP]
  exact I
 refine U 16810 ?_
 refine au (ar (H5 16 false b O hb) ?_)
 refine U 80007000511900900 ?_
 have htm:=lE (b:=b) O
 have hr:(af b).rest=[]:=Y1 O
 have:=Pf (b:=b) O hr
 have hd:aN b=((ym 16 false b).1-1,(ym 16 false b).2):=by
  unfold aN
  rw [jK,jK,jK,this]
 rw [hd]
 exact I
theorem rA (x:Int) (w:World):Calls Tryz.prog 261 #[.int .u8 x] w fun e w'=>e=.returned (.bool false)∧w'=w:=by
 go_enter Tryz.func261,Tryz.ntmps261
 go_wp2
 go_ret
 exact ⟨rfl,rfl⟩
theorem D0 (a b:UInt8) (w:World):Calls Tryz.prog 240 #[.int .u8 (a.toNat:Nat),.int .u8 (b.toNat:Nat)] w fun e w'=>e=.returned (.int .i64 (gx a b))∧w'=w:=by
 rcases a7x a.toNat b.toNat with h|h|h
 ·have HF:Hid (gx a b=-1):=by unfold gx;rw [YF h];rfl
  have h1:decide (((a.toNat:Nat):Int)<(b.toNat:Nat))=true:=by simp;omega
  go_enter Tryz.func240,Tryz.ntmps240
  go_wp2_with (go_at_call 261;refine (rA _ _).mono ?_;rintro e w' ⟨rfl,rfl⟩)
  go_ret
  exact ⟨by rw [HF.out];rfl,rfl⟩
 ·have HF:Hid (gx a b=0):=by unfold gx;rw [jK,jK];rfl
  have h1:decide (((a.toNat:Nat):Int)<(b.toNat:Nat))=false:=by simp;omega
  have h2:decide (((b.toNat:Nat):Int)<(a.toNat:Nat))=false:=by simp;omega
  go_enter Tryz.func240,Tryz.ntmps240
  go_wp2_with (go_at_call 261;refine (rA _ _).mono ?_;rintro e w' ⟨rfl,rfl⟩)
  go_ret
  exact ⟨by rw [HF.out];rfl,rfl⟩
 ·have HF:Hid (gx a b=1):=by unfold gx;rw [jK,YF h];rfl
  have h1:decide (((a.toNat:Nat):Int)<(b.toNat:Nat))=false:=by simp;omega
  have h2:decide (((b.toNat:Nat):Int)<(a.toNat:Nat))=true:=by simp;omega
  go_enter Tryz.func240,Tryz.ntmps240
  go_wp2_with (go_at_call 261;refine (rA _ _).mono ?_;rintro e w' ⟨rfl,rfl⟩)
  go_ret
  exact ⟨by rw [HF.out];rfl,rfl⟩
theorem Ha {w:World} {ao:Option Addr} {n cap:Nat} {l:Z} (h:Bs w (.slice ao n cap) l) {k:Nat} (hk:k<l.length):∃ b o,ao=some ⟨b,o,none⟩∧w.cell? ⟨b,o+k,none⟩=some (.int .u8 (l.getD k 0).toNat):=by
 obtain ⟨b,o,cap',e,h1,h2,h3⟩:=h.cons O
 injection e with e1 e2 e3
 exact ⟨b,o,e1,h3 k hk⟩
theorem BG {w:World} {v1 v2:Value} {l r:Z} (h1:Bs w v1 l) (h2:Bs w v2 r):Calls Tryz.prog 204 #[v1,v2] w fun e w'=>e=.returned (.int .i64 (eV l r))∧w'=w:=by
 obtain ⟨ao1,cap1,rfl,a1,a2,-,-⟩:=id h1
 obtain ⟨ao2,cap2,rfl,b1,b2,-,-⟩:=id h2
 have H1:=Lib.hid h1
 have H2:=Lib.hid h2
 clear h1 h2
 have L1:(l.length:Int)≤9223372036854775807:=by omega
 have A1:=Lib.hid a1;have A2:=Lib.hid a2;have B1:=Lib.hid b1;have B2:=Lib.hid b2
 clear a1 a2 b1 b2
 go_enter Tryz.func204,Tryz.ntmps204
 go_wp2
 go_loopw [11] (fun i wr=>∃ k:Nat,Hid (k≤l.length∧k≤r.length∧eV (l.drop k) (r.drop k)=eV l r)∧i=.int .i64 k∧wr=w) (fun i _=>l.length-(intOf i).toNat)
 case atStart=>exact ⟨0,⟨YT _,YT _,rfl⟩,rfl,rfl⟩
 case round =>
  obtain ⟨k,HK,rfl,rfl⟩:=hrel
  by_cases hk:k<l.length
  ·have q1:decide ((k:Int)<(l.length:Int))=true:=by simp;omega
   obtain ⟨p1,o1,rfl,c1⟩:=Ha H1.out hk
   by_cases hr:k<r.length
   ·have q2:decide ((r.length:Int)≤(k:Int))=false:=by simp;omega
    obtain ⟨p2,o2,rfl,c2⟩:=Ha H2.out hr
    have HS:=Lib.hid (t8 (l:=l) (r:=r) (i:=k) hk hr)
    have i1:(0:Int)≤(k:Int):=by omega
    have i2:(k:Int)<(l.length:Int):=by omega
    have i3:(k:Int)<(r.length:Int):=by omega
    generalize l.getD k 0=x at c1 HS
    generalize r.getD k 0=y at c2 HS
    by_cases hz:gx x y=0
    ·have HZ:=Lib.hid hz
     have q3:(gx x y != 0)=false:=by rw [hz];rfl
     clear hz
     go_wp2_with (go_at_call 240;refine (D0 _ _ _).mono ?_;rintro e w' ⟨rfl,rfl⟩)
     case roundEnd=>exact ⟨⟨k+1,⟨by omega,by omega,by rw [← HK.out.2.2,HS.out,YE (fun e=>e HZ.out)]⟩,by simp,trivial⟩,by simp [intOf];omega⟩
    ·have HF:Hid (eV l r=gx x y):=by show _=_;rw [← HK.out.2.2,HS.out,YF hz]
     have q3:(gx x y != 0)=true:=by simp [hz]
     clear hz
     go_wp2_with (go_at_call 240;refine (D0 _ _ _).mono ?_;rintro e w' ⟨rfl,rfl⟩)
     all_goals (go_ret;exact ⟨by rw [HF.out];rfl,rfl⟩)
   ·have HF:Hid (eV l r=1):=by
     show _=_
     rw [← HK.out.2.2,ZE (by omega:r.length≤k),Y5 hk];rfl
    have q2:decide ((r.length:Int)≤(k:Int))=true:=by simp;omega
    have i1:(0:Int)≤(k:Int):=by omega
    have i2:(k:Int)<(l.length:Int):=by omega
    go_wp2
    all_goals (go_ret;exact ⟨by rw [HF.out];rfl,rfl⟩)
  ·have q1:decide ((k:Int)<(l.length:Int))=false:=by simp;omega
   have hkl:k=l.length:=by have:=HK.out.1;omega
   by_cases hr:l.length<r.length
   ·have HF:Hid (eV l r=-1):=by
     show _=_
     rw [← HK.out.2.2,hkl,apx,Y5 hr];rfl
    have q2:decide ((l.length:Int)<(r.length:Int))=true:=by simp;omega
    go_wp2
    all_goals (go_ret;exact ⟨by rw [HF.out];rfl,rfl⟩)
   ·have HF:Hid (eV l r=0):=by
     show _=_
     have e:r.length=l.length:=by have:=HK.out.2.1;omega
     rw [← HK.out.2.2,hkl,apx,← e,apx];rfl
    have q2:decide ((l.length:Int)<(r.length:Int))=false:=by simp;omega
    go_wp2
    all_goals (go_ret;exact ⟨by rw [HF.out];rfl,rfl⟩)
section
open Go.Sort (SWO PermIn SortedIn putCells putRow mapBlock ahead grow onCells)
def oA (ls:YD) (j:Nat):CV:=aV (ls.getD j [])
section
variable {α:Type} [Inhabited α] {enc:α→Value} {w:World} {g n:Nat} {d:Array α} {os:Array Obj}
theorem oY {b:Nat} (hb:b<w.heap.size) (hn:b≠g):(sortWorld enc w g 0 n d os).heap[b]?=w.heap[b]?:=by
 show ((w.heap.modify g (onCells (putCells enc 0 d)))++os)[b]?=_
 rw [ZI (by simpa using hb),aex,YE (fun e=>hn e.symm)]
theorem Ld {cur:Array Value} {t:TypeId} {z:Nat×Nat} (h:w.heap[g]?=some (.cells cur t z)):(sortWorld enc w g 0 n d os).heap[g]?=some (.cells (putCells enc 0 d cur) t z):=by
 have hb:g<w.heap.size:=(Y4.1 h).1
 show ((w.heap.modify g (onCells (putCells enc 0 d)))++os)[g]?=_
 rw [ZI (by simpa using hb),aex,YF rfl,h]
 rfl
theorem Ev:w.heap.size≤(sortWorld enc w g 0 n d os).heap.size:=by
 show _≤((w.heap.modify g (onCells (putCells enc 0 d)))++os).size
 rw [Array.size_append,Array.size_modify]
 omega
end
theorem Qk {cs:Array Value} {m:Nat} {enc:Fin (m+1)→Value} {d:Array (Fin (m+1))} {i:Nat} (hi:i<d.size) (hc:d.size≤cs.size):(putCells enc 0 d cs).getD i undef=enc d[i]! := by
 have h2:i<(putCells enc 0 d cs).size:=by simp [putCells];omega
 rw [ZD,YV h2]
 simp [putCells,hi]
theorem Lg {gs:List Nat} {P:Program} {fs fc:FuncId}
  (hnone:∀ (p:Option Addr) (cap:Nat) (fv:Value) (w:World),Calls P fs #[.slice p 0 cap,fv] w fun e w'=>e=.returned (.tuple #[])∧w'=w)
  (hsort:∀ (m:Nat) (enc:Fin (m+1)→Value) (h1:OneCell enc) (cf:Fin (m+1)→Fin (m+1)→Int) (hO:SWO (ltOf cf)) (blk cap:Nat) (d:Array (Fin (m+1))) (w:World),CmpLays1 P fc #[] enc cf blk 0 d.size w→Go.Sort.Holds enc w blk 0 d→blk<w.heap.size→d.size<4611686018427387904 →
   Calls P fs #[.slice (some ⟨blk,0,none⟩) d.size cap,.func (.func fc) #[] #[]] w fun e w'=>e=.returned (.tuple #[])∧∃ d' n os,PermIn 0 d.size d d'∧SortedIn (ltOf cf) 0 d.size d'∧w'=sortWorld enc w blk 0 n d' os)
  (hcmp:∀ (w:World) (v1 v2:Value) (l r:Z),Bs w v1 l→Bs w v2 r→Calls P fc #[v1,v2] w fun e w'=>e=.returned (.int .i64 (eV l r))∧w'=w)
  (g:Option Nat) (ls:YD) (hl:ls.length≤1000000000):AC gs P fs [(g,.blk ls.length (oA ls))] [.os 0 g 0 ls.length 1,.c (.func (.func fc) #[] #[])] (fun r H'=>r=.c (.tuple #[])∧H'=[(g,.blk ls.length (oA (ki ls)))]):=by
 intro al w St F0 vals he hs hv
 obtain ⟨fp,hp⟩:=he.hp
 have v0:=hv 0
 have v1:vals.getD 1 undef=.func (.func fc) #[] #[]:=hv 1
 have hnil:ls.length=0→ki ls=ls:=fun h=>by
  have:ls=[]:=Y1 h
  subst this;simp [ki]
 have same:ls.length=0→dr al St w w.heap.size F0 [(g,.blk ls.length (oA (ki ls)))]:=fun h=>⟨fp,by rw [hnil h];exact hp⟩
 rw [ui hs,v1]
 by_cases hz:ls.length=0
 ·have hx:∃ p cap,vals.getD 0 undef=.slice p 0 cap:=by
   cases g with
   | none=>exact ⟨none,0,v0.2⟩
   | some b=>obtain ⟨cap,h1,_⟩:=v0;exact ⟨_,cap,by rw [h1,hz]⟩
  obtain ⟨p,cap,hx⟩:=hx
  rw [hx]
  refine (hnone p cap _ w).mono ?_
  rintro e w' ⟨rfl,rfl⟩
  exact ⟨_,_,_,St,rfl,⟨rfl,rfl⟩,rfl,jr.refl _ _,fun _ h=>h,fun _ h=>.inl h,he.s3,same hz⟩
 ·cases g with
  | none=>exact absurd v0.1 hz
  | some b =>
   obtain ⟨cap,h1,h2,h3,cur0,t0,z0,h4,h5⟩:=v0
   obtain ⟨hF,cur,t,k1,k2,k3⟩:=hp.rep 0 (some b) _ rfl
   have hF0:F0 b:=by
    rcases (hp.own 0 b ((hF b).2 rfl)).2.2 with h|h
    ·have:=(hp.own 0 b ((hF b).2 rfl)).1;omega
    ·exact h
   have hSt:∀ x,St x→x≠b:=fun x hx e=>(hp.own 0 b ((hF b).2 rfl)).2.1 (e ▸ hx)
   have hb:b<w.heap.size:=(Y4.1 k1).1
   obtain ⟨m,hm⟩:∃ m,ls.length=m+1:=⟨ls.length-1,by omega⟩
   let enc:Fin (m+1)→Value:=fun i=>cur.getD i.val undef
   let d:Array (Fin (m+1)):=Array.ofFn id
   have hd:d.size=ls.length:=by simp [d,hm]
   have hrep:∀ i:Fin (m+1),ba al St w (aV (ls.getD i.val [])) (enc i):=fun i=>k3 i.val O
   have hbs:∀ (w':World),eX St w w'→∀ i:Fin (m+1),Bs w' (enc i) (ls.getD i.val []):=fun w' hk i=>qw (pe (hrep i) hk)
   have hone:OneCell enc:=fun i=>by
    obtain ⟨ao,cap,e,_⟩:=hbs w (eX.refl _ _) i
    rw [e];rfl
   have hkeep:∀ (n:Nat) (d':Array (Fin (m+1))) (os:Array Obj),eX St w (sortWorld enc w b 0 n d' os):=fun n d' os x hx=>oY (he.s3 x hx) (hSt x hx)
   have hO:=OU (fun i:Fin (m+1)=>ls.getD i.val [])
   have hH:Go.Sort.Holds enc w b 0 d:=fun j hj=>by
    have hj2:j<cur.size:=by omega
    have e1:d[j]! = ⟨j,by omega⟩:=by simp [d,show j<m+1 by omega]
    refine ⟨?_,?_⟩
    ·simp only [World.cell?,k1,Nat.zero_add]
     rw [YE (by simp),e1]
     simp [enc,hj2]
    ·simp [World.frozen?,k1]
   have key:=hsort m enc hone (fun x y=>eV (ls.getD x.val []) (ls.getD y.val [])) hO b cap d w (fun n os dk hdk x y=>(hcmp _ _ _ _ _ (hbs _ (hkeep n dk os) x) (hbs _ (hkeep n dk os) y)).mono (by rintro e w' ⟨rfl,rfl⟩;exact ⟨rfl,0,#[],by simp [World.drewN]⟩)) hH hb O
   rw [h1,← hd]
   refine key.mono ?_
   rintro e w' ⟨rfl,d',n,os,hP,hS,rfl⟩
   have hd':d'.size=ls.length:=hP.1.trans hd
   have hms:(d'.toList.map fun i=>ls.getD i.val [])=ki ls:=by
    refine Lf ?_ ?_
    ·have h6:=hP.2.2
     have e1:(d'.extract 0 d.size).toList=d'.toList:=by rw [← hP.1];simp
     have e2:(d.extract 0 d.size).toList=d.toList:=by simp
     rw [e1,e2] at h6
     refine (h6.map _).trans ?_
     have e3:d.toList.map (fun i:Fin (m+1)=>ls.getD i.val [])=ls:=by
      apply agx
      ·simp [d,hm]
      ·intro i h7 h8
       rw [List.getElem_map,bjx]
       have e4:d[i]'(by rw [hd];exact h8)=⟨i,by omega⟩:=by simp only [d,Array.getElem_ofFn];rfl
       rw [e4];simp only [List.getD,YR h8,Zw]
     rw [e3]
    ·rw [List.pairwise_map,List.pairwise_iff_getElem]
     intro i j hi hj hij
     have h7:=hS i j (YT _) hij (by rw [← hP.1];simpa using hj)
     have hi2:i<d'.size:=by simpa using hi
     have hj2:j<d'.size:=by simpa using hj
     rw [getElem!_pos d' i hi2,getElem!_pos d' j hj2] at h7
     unfold ltOf at h7
     simp only [ZT,Int.not_lt] at h7
     have h8:=fy (ls.getD (d'[j]).val []) (ls.getD (d'[i]).val [])
     unfold C8
     rw [YP]
     simp only [bjx]
     omega
   have hw:=Ld (enc:=enc) (n:=n) (d:=d') (os:=os) k1
   have hsz:=Ev (enc:=enc) (w:=w) (g:=b) (n:=n) (d:=d') (os:=os)
   have hput:(putCells enc 0 d' cur).size=cur.size:=by simp [putCells]
   refine ⟨_,_,_,St,rfl,⟨rfl,rfl⟩,rfl,⟨rfl,rfl,rfl,hsz,fun x hx hn=>oY hx (fun e=>hn (e ▸ hF0)),fun x cx tx zx hx=>?_⟩,fun _ h=>h,fun _ h=>.inl h,fun x hx=>Zf (he.s3 x hx) hsz,fp,fun i g' r hi=>?_,hp.dis,fun i x hx=>?_,hp.out⟩
   ·by_cases e:x=b
    ·subst e
     rw [k1] at hx
     cases hx
     exact ⟨_,_,hw,hput⟩
    ·exact ⟨cx,zx,(oY (Y4.1 hx).1 e).trans hx,rfl⟩
   ·cases i with
    | zero =>
     cases hi
     refine ⟨hF,_,t,hw,by rw [hput];omega,fun i hi=>?_⟩
     have hi':i<d'.size:=by omega
     rw [Qk hi' O]
     have e:oA (ki ls) i=aV (ls.getD (d'[i]!).val []):=by
      unfold oA
      rw [← hms]
      simp [List.getD,hi']
     rw [e]
     exact pe (hrep _) (hkeep n d' os)
    | succ i=>simp at hi
   ·exact ⟨Zf (hp.own i x hx).1 hsz,(hp.own i x hx).2⟩
end
end Am
end Go.Proofs.YtghminnpfnkbjaaGreatDoor
