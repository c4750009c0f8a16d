/- What the law leans on, part 6: P07b, P04, Dec, P05, P05b, P06, W06, W06b, P04n, P04b, W04n, P03n, P08 -/
import Derived.Test.YthlpfjnkieaeeaaGreatDoorM5ObjectsRead
import Derived.Test.YthlpfjnkieaeeaaGreatDoorChecked
import Derived.Laws.BitsAllLaws
import Derived.IntWalk
import Derived.Lib.Join
import Derived.WalkKit

set_option maxRecDepth 100000
namespace Go.Proofs.YthlpfjnkieaeeaaGreatDoor
set_option linter.unusedVariables false
namespace Am
open Go.RowKit
section
theorem xI {m:Nat} (h:m<65536):(CZ m).length=1+(bl m+7) / 8:=by
 have:=(JX h).2
 unfold CZ
 split
 ·rename_i e;rw [e];rfl
 ·split
  ·simp;omega
  ·simp;omega
end
end Am
end Go.Proofs.YthlpfjnkieaeeaaGreatDoor
namespace Go.Proofs.YthlpfjnkieaeeaaGreatDoor
open Go.RowKit

def lf (n:Int):UInt8:=UInt8.ofNat (n % 256).toNat
theorem el (n:Int):((lf n).toNat:Int)=n % 256:=by
 have h0:0≤n % 256:=Int.emod_nonneg _ jD
 have h1:n % 256<256:=Int.emod_lt_of_pos _ jD
 have:(lf n).toNat=(n % 256).toNat:=by
  unfold lf
  rw [UInt8.toNat_ofNat']
  omega
 omega
def sh:Nat→Int→Int
 | 0,n=>n
 | k+1,n=>sh k n / 256
def dm (k:Nat) (n:Int):List UInt8:=(List.range k).map fun j=>lf (sh j n)
theorem bR (k:Nat) (n:Int):(dm k n).length=k:=by simp [dm]
theorem je (k:Nat) (n:Int):dm (k+1) n=dm k n++[lf (sh k n)]:=by simp [dm,List.range_succ]
theorem vO (k:Nat) (n:Int) (j:Nat) (h:j<k):(dm k n).getD j 0=lf (sh j n):=by simp [dm,List.getD,h]
def nM (j:Nat) (n:Int):Bool:=(sh (j+1) n == 0 && decide (sh j n % 256<128)) || (sh (j+1) n == -1 && decide (128≤sh j n % 256))
theorem oL (j:Nat) (n:Int):nM j n=true↔-128≤sh j n∧sh j n<128:=by
 simp only [nM,sh,Bool.or_eq_true,Bool.and_eq_true,beq_iff_eq,decide_eq_true_eq]
 constructor
 ·intro h;omega
 ·intro h;omega
theorem G1 (j:Nat) (n:Int) (h:nM j n=true):nM (j+1) n=true:=by
 rw [oL] at h ⊢
 simp only [sh]
 omega
theorem kv (n:Int) (j m:Nat) (hjm:j≤m) (h:nM j n=true):nM m n=true:=by
 induction m with
 | zero =>
   obtain rfl:j=0:=by omega
   exact h
 | succ m ih =>
  by_cases e:j=m+1
  ·subst e;exact h
  ·exact G1 m n (ih jO)
theorem rQ (n:Int) (h1:-9223372036854775808≤n) (h2:n≤9223372036854775807):nM 7 n=true:=by
 rw [oL]
 simp only [sh]
 omega
def wj (n:Int) (k:Nat):Prop:=k≤7∧nM k n=true∧∀ j,j<k→nM j n=false
theorem wj.unique {n:Int} {k m:Nat} (h:wj n k) (g:wj n m):k=m:=by
 rcases Nat.lt_trichotomy k m with h1|h1|h1
 ·have:=g.2.2 k h1;rw [h.2.1] at this;cases this
 ·exact h1
 ·have:=h.2.2 m h1;rw [g.2.1] at this;cases this

def BL (c:UInt8):Int:=if c.toNat<128 then c.toNat else (c.toNat:Int)-256
def eO (l:List UInt8):Int:=match l with
 | []=>0
 | c::r=>r.foldl (fun a b=>a * 256+b.toNat) (BL c)
theorem oH (l:List UInt8) (hl:l≠[]) (c:UInt8):eO (l++[c])=eO l * 256+c.toNat:=by
 cases l with
 | nil=>exact absurd rfl hl
 | cons x r=>simp [eO,List.foldl_append]
theorem BU (l:List UInt8):∀ m,l.length=m+1→-(128 * 256 ^ m)≤eO l∧eO l<128 * 256 ^ m:=by
 intro m
 induction m generalizing l with
 | zero =>
  intro h
  match l,h with
  | [c],_ =>
   have:=c.toNat_lt
   simp only [eO,List.foldl_nil,BL]
   split <;> omega
 | succ m ih =>
  intro h
  have hne:l≠[]:=by intro e;subst e;simp at h
  have e:l=l.dropLast++[l.getLast hne]:=(List.dropLast_concat_getLast hne).symm
  have hl:l.dropLast.length=m+1:=by simp;omega
  have hd:l.dropLast≠[]:=by intro e;rw [e] at hl;simp at hl
  have:=ih l.dropLast hl
  have hc:=(l.getLast hne).toNat_lt
  rw [e,oH _ hd]
  have hp:(256:Int) ^ (m+1)=256 ^ m * 256:=Int.pow_succ _ _
  rw [hp]
  generalize (256:Int) ^ m=p at this ⊢
  omega
theorem pM (l:List UInt8) (h:l.length≤7):-36028797018963968≤eO l∧eO l<36028797018963968:=by
 match l,h with
 | [],_=>show -36028797018963968≤(0:Int)∧(0:Int)<36028797018963968;omega
 | c::r,h =>
  simp only [List.length_cons] at h
  have:=BU (c::r) r.length rfl
  have hp:((256:Int) ^ r.length)≤256 ^ 6:=by
   have:r.length=0∨r.length=1∨r.length=2∨r.length=3∨r.length=4∨r.length=5∨r.length=6:=by omega
   rcases this with h|h|h|h|h|h|h <;> rw [h] <;> decide
  have e6:(256:Int) ^ 6=281474976710656:=by decide
  omega
theorem Eu (n:Int):∀ k,nM k n=true→eO (dm (k+1) n).reverse=n:=by
 intro k h
 have key:∀ j,j≤k→eO ((dm (k+1) n).reverse.take (j+1))=sh (k-j) n:=by
  intro j
  induction j with
  | zero =>
   intro _
   rw [je]
   simp only [List.reverse_append,List.reverse_cons,List.reverse_nil,List.nil_append,List.singleton_append,List.take_succ_cons,List.take_zero,eO,List.foldl_nil,BL,Nat.sub_zero]
   rw [oL] at h
   have:=el (sh k n)
   split <;> omega
  | succ j ih =>
   intro hj
   have hlen:j+1<(dm (k+1) n).reverse.length:=by simp [bR];omega
   rw [List.take_succ_eq_append_getElem hlen,oH _ (by intro e;have:=congrArg List.length e;simp [bR] at this),ih jO]
   have eg:(dm (k+1) n).reverse[j+1]=lf (sh (k-(j+1)) n):=by
    rw [List.getElem_reverse]
    have:=vO (k+1) n ((dm (k+1) n).length-1-(j+1)) (by rw [bR];omega)
    simp only [List.getD,bR] at this ⊢
    rw [List.getElem?_eq_getElem (by rw [bR];omega)] at this
    simp only [Option.getD_some] at this
    rw [show k-(j+1)=k+1-1-(j+1) by omega]
    exact this
   rw [eg,el,show k-j=(k-(j+1))+1 by omega]
   simp only [sh]
   omega
 have:=key k (Nat.le_refl _)
 rw [List.take_of_length_le (by simp [bR])] at this
 simpa [sh] using this

def mW (l:List UInt8):Bool:=match l with
 | a::b::_=>(a.toNat == 0 && decide (b.toNat<128)) || (a.toNat == 255 && decide (128≤b.toNat))
 | _=>false
def bT (l:List UInt8):Int×Nat :=
 if l.length=0 then (0,2) else if mW l=true then (0,4) else if 8<l.length then (0,1) else (eO l,0)

theorem wz (k:Nat) (n:Int):(dm (k+2) n).reverse=lf (sh (k+1) n)::lf (sh k n)::(dm k n).reverse:=by
 rw [je,je]
 simp
theorem fM (n:Int) (k:Nat) (h:nM (k+1) n=true):mW (dm (k+2) n).reverse=nM k n:=by
 rw [wz]
 rw [oL] at h
 have e:=oL k n
 rw [Bool.eq_iff_iff,e]
 simp only [mW,Bool.or_eq_true,Bool.and_eq_true,beq_iff_eq,decide_eq_true_eq]
 have h1:=el (sh (k+1) n)
 have h2:=el (sh k n)
 simp only [sh] at h h1 h2 ⊢
 omega
theorem I8 (n:Int) (k:Nat) (h:wj n k):bT (dm (k+1) n).reverse=(n,0):=by
 have hi:mW (dm (k+1) n).reverse=false:=by
  cases k with
  | zero=>simp [dm,mW]
  | succ k=>rw [fM n k h.2.1];exact h.2.2 k jO
 have:=h.1
 simp [bT,bR,hi,Eu n k h.2.1]
 omega
theorem IW (m c:Int) (h1:-36028797018963968≤m) (h2:m<36028797018963968) (h3:0≤c) (h4:c<256):bits .or .i64 (m * 256) c=m * 256+c:=by
 show IntKind.i64.wrap ((BitVec.ofInt 64 (m * 256) ||| BitVec.ofInt 64 c).toNat:Int)=_
 rw [BitVec.toNat_or,BitVec.toNat_ofInt,BitVec.toNat_ofInt]
 have e1:(c % ((2 ^ 64:Nat):Int)).toNat=c.toNat:=by
  have:((2 ^ 64:Nat):Int)=18446744073709551616:=by decide
  rw [this];omega
 have e2:(m * 256 % ((2 ^ 64:Nat):Int)).toNat=(m * 256 % 18446744073709551616).toNat:=by
  have:((2 ^ 64:Nat):Int)=18446744073709551616:=by decide
  rw [this]
 rw [e1,e2,nat_join 8 _ _ jO jO,IntKind.wrap_i64]
 omega
theorem rt (n:Int) (k i:Nat) (h:i<k):(dm k n).reverse.getD i 0=lf (sh (k-1-i) n):=by
 have hl:i<(dm k n).length:=by rw [bR];exact h
 simp only [List.getD,List.getElem?_reverse hl,bR]
 have:=vO k n (k-1-i) jO
 simpa [List.getD] using this
end Go.Proofs.YthlpfjnkieaeeaaGreatDoor
namespace Go.Proofs.YthlpfjnkieaeeaaGreatDoor
open Go.RowKit

def za (d:Nat):UInt8:=lf (48+d:Nat)
def kY (n:Nat):List UInt8:=if n<10 then [za n] else kY (n / 10)++[za (n % 10)]
termination_by n

def dx (c:UInt8):Bool:=decide (48≤c.toNat) && decide (c.toNat≤57)
def ik (l:List UInt8):Nat:=l.foldl (fun a c=>10 * a+(c.toNat-48)) 0
def lN (l:List UInt8):Nat×Nat:=if l.length=0∨18<l.length∨(1<l.length∧(l.getD 0 0).toNat=48)∨l.all dx=false then (0,4) else (ik l,0)

theorem eV {n:Nat} (h:n<10):kY n=[za n]:=by rw [kY,if_pos h]
theorem iG {n:Nat} (h:¬ n<10):kY n=kY (n / 10)++[za (n % 10)]:=by rw [kY,if_neg h]
theorem ja (n:Nat) (h:n<10):(za n).toNat=48+n:=by
 unfold za
 have:=el ((48+n:Nat):Int)
 omega
theorem jn (l:List UInt8) (c:UInt8):ik (l++[c])=10 * ik l+(c.toNat-48):=by simp [ik]

theorem ua {p:Nat→Prop} (h0:∀ n,n<10→p n) (h1:∀ n,¬ n<10→p (n / 10)→p n) (n:Nat):p n:=by
 induction n using Nat.strongRecOn with
 | ind n ih =>
  by_cases h:n<10
  ·exact h0 n h
  ·exact h1 n h (ih _ jO)

theorem zg (n:Nat):0<(kY n).length:=by
 by_cases h:n<10
 ·rw [eV h];simp
 ·rw [iG h];simp
theorem Bu (n:Nat):(kY n).all dx=true:=by
 induction n using ua with
 | h0 n h =>
  rw [eV h]
  have:=ja n h
  simp [dx,this];omega
 | h1 n h ih =>
  rw [iG h,List.all_append,ih]
  have:=ja (n % 10) jO
  simp [dx,this];omega
theorem Mr (n:Nat):ik (kY n)=n:=by
 induction n using ua with
 | h0 n h =>
  rw [eV h]
  have:=ja n h
  simp [ik,this]
 | h1 n h ih =>
  rw [iG h,jn,ih]
  have:=ja (n % 10) jO
  omega
theorem Br (n:Nat):1<(kY n).length→((kY n).getD 0 0).toNat≠48:=by
 induction n using ua with
 | h0 n h=>rw [eV h];simp
 | h1 n h ih =>
  intro _
  rw [iG h]
  have hp:=zg (n / 10)
  have e:(kY (n / 10)++[za (n % 10)]).getD 0 0=(kY (n / 10)).getD 0 0:=by
   simp only [List.getD,List.getElem?_append_left hp]
  rw [e]
  by_cases hs:n / 10<10
  ·rw [eV hs]
   have:=ja (n / 10) hs
   simp only [List.getD,List.getElem?_cons_zero,Option.getD_some]
   omega
  ·apply ih
   rw [iG hs]
   have:=zg (n / 10 / 10)
   simp
   omega
theorem kr (k:Nat):∀ n,n<10 ^ (k+1)→(kY n).length≤k+1:=by
 induction k with
 | zero=>intro n h;rw [eV (by simpa using h)];simp
 | succ k ih =>
  intro n h
  by_cases hs:n<10
  ·rw [eV hs];simp
  ·rw [iG hs]
   have:=ih (n / 10) (by rw [Nat.pow_succ] at h;omega)
   simp;omega
theorem us {p:List UInt8→Prop} (h0:p []) (h1:∀ l c,p l→p (l++[c])) (l:List UInt8):p l:=by
 have h:∀ l:List UInt8,p l.reverse:=by
  intro l
  induction l with
  | nil=>exact h0
  | cons c l ih=>rw [List.reverse_cons];exact h1 _ _ ih
 have:=h l.reverse
 rwa [List.reverse_reverse] at this
theorem wa {l:List UInt8} {c:UInt8} (h:(l++[c]).all dx=true):l.all dx=true∧48≤c.toNat∧c.toNat≤57:=by
 simp only [List.all_append,List.all_cons,List.all_nil,Bool.and_true,Bool.and_eq_true,dx,decide_eq_true_eq] at h
 exact ⟨by simpa [dx] using h.1,h.2⟩
theorem xC {l:List UInt8} {c:UInt8} (h:0<l.length):(l++[c]).getD 0 0=l.getD 0 0:=by
 simp only [List.getD,List.getElem?_append_left h]
theorem Dp (l:List UInt8):l.all dx=true→ik l<10 ^ l.length:=by
 induction l using us with
 | h0=>intro _;simp [ik]
 | h1 l c ih =>
  intro h
  obtain ⟨h1,h2,h3⟩:=wa h
  have:=ih h1
  rw [jn,List.length_append,List.length_singleton,Nat.pow_succ]
  omega
theorem rK {l:List UInt8} (h:l.all dx=true) (hl:l.length≤17):ik l<100000000000000000 :=
 Nat.lt_of_lt_of_le (Dp l h) (Nat.le_trans (Nat.pow_le_pow_right jD hl) jD)
theorem Ev {l:List UInt8} (h:l.all dx=true) (hl:l.length≤18):ik l<1000000000000000000 :=
 Nat.lt_of_lt_of_le (Dp l h) (Nat.le_trans (Nat.pow_le_pow_right jD hl) jD)
theorem GO (l:List UInt8):0<l.length→l.all dx=true→(l.getD 0 0).toNat≠48→0<ik l:=by
 induction l using us with
 | h0=>simp
 | h1 l c ih =>
  intro _ h hh
  obtain ⟨h1,h2,h3⟩:=wa h
  rw [jn]
  by_cases hl:l=[]
  ·subst hl
   simp only [List.nil_append,List.getD,List.getElem?_cons_zero,Option.getD_some] at hh
   omega
  ·have hp:=List.length_pos_iff.2 hl
   rw [xC hp] at hh
   have:=ih hp h1 hh
   omega
theorem Bc {c:UInt8} (h2:48≤c.toNat):za (c.toNat-48)=c:=by
 unfold za
 apply UInt8.toNat_inj.1
 have:=el ((48+(c.toNat-48):Nat):Int)
 have:=c.toNat_lt
 omega
theorem JH (l:List UInt8):0<l.length→l.all dx=true→(1<l.length→(l.getD 0 0).toNat≠48)→kY (ik l)=l:=by
 induction l using us with
 | h0=>simp
 | h1 l c ih =>
  intro _ h hh
  obtain ⟨h1,h2,h3⟩:=wa h
  rw [jn]
  by_cases hl:l=[]
  ·subst hl
   show kY (10 * 0+(c.toNat-48))=[c]
   rw [Nat.mul_zero,Nat.zero_add,eV jO,Bc h2]
  ·have hp:=List.length_pos_iff.2 hl
   rw [xC hp] at hh
   have h0:=hh (by simp;omega)
   have hv:=GO l hp h1 h0
   rw [iG jO,show (10 * ik l+(c.toNat-48)) / 10=ik l by omega,show (10 * ik l+(c.toNat-48)) % 10=c.toNat-48 by omega,Bc h2,ih hp h1 (fun _=>h0)]
theorem Jg {n:Nat} (h:n<1000000000000000000):lN (kY n)=(n,0):=by
 have h1:=zg n
 have h2:=kr 17 n h
 have h3:=Br n
 unfold lN
 rw [if_neg,Mr]
 rintro (h|h|⟨h,h'⟩|h)
 ·omega
 ·omega
 ·exact h3 h h'
 ·rw [Bu] at h;cases h
theorem vC (l:List UInt8):lN l=if 1≤l.length∧l.length≤18∧l.all dx=true∧kY (ik l)=l then (ik l,0) else (0,4):=by
 unfold lN
 split
 ·rename_i h
  rw [if_neg]
  rintro ⟨h1,h2,h3,h4⟩
  rcases h with h|h|⟨h,h'⟩|h
  ·omega
  ·omega
  ·rw [← h4] at h h'
   exact Br _ h h'
  ·rw [h3] at h;cases h
 ·rename_i h
  have h1:¬ l.length=0:=fun e=>h (.inl e)
  have h2:¬ 18<l.length:=fun e=>h (.inr (.inl e))
  have h3:l.all dx=true:=by
   cases e:l.all dx with
   | true=>rfl
   | false=>exact absurd (.inr (.inr (.inr e))) h
  have h4:1<l.length→(l.getD 0 0).toNat≠48:=fun a b=>h (.inr (.inr (.inl ⟨a,b⟩)))
  rw [if_pos ⟨by omega,by omega,h3,JH l jO h3 h4⟩]
theorem JI {m:Nat} (h:0<m) (o:List UInt8):(if m=0 then [] else kY m)++o.reverse=(if m / 10=0 then [] else kY (m / 10))++(o++[za (m % 10)]).reverse:=by
 rw [jK,List.reverse_append,List.reverse_singleton,List.singleton_append]
 by_cases hs:m<10
 ·rw [eV hs,jP,show m % 10=m by omega];rfl
 ·rw [iG hs,jK,List.append_assoc];rfl
theorem Gl (n:Nat):kY n=(if n / 10=0 then [] else kY (n / 10))++[za (n % 10)].reverse:=by
 by_cases hs:n<10
 ·rw [eV hs,jP,show n % 10=n by omega];rfl
 ·rw [iG hs,jK];rfl
theorem t8 (n:Nat):((za (n % 10)).toNat:Int)=48+(n:Int) % 10:=by
 have:=ja (n % 10) jO
 omega
theorem wP (l:List UInt8) (i:Nat) (h:i<l.length):l.take (i+1)=l.take i++[l.getD i 0]:=by
 rw [List.take_succ_eq_append_getElem h]
 simp [List.getD,List.getElem?_eq_getElem h]
theorem jg {l:List UInt8} {i:Nat} (hi:i<l.length) (h:dx (l.getD i 0)=false):l.all dx=false:=by
 cases e:l.all dx with
 | false=>rfl
 | true =>
  rw [List.all_eq_true] at e
  have:=e (l.getD i 0) (by simp [List.getD,List.getElem?_eq_getElem hi])
  rw [h] at this
  cases this
end Go.Proofs.YthlpfjnkieaeeaaGreatDoor
namespace Go.Proofs.YthlpfjnkieaeeaaGreatDoor
set_option linter.unusedVariables false
namespace Am
open Go.RowKit
section
theorem rc {q r:List UInt8} {i:Nat} (h:i<q.length):(q++r).getD i 0=q.getD i 0:=by simp [List.getD,List.getElem?_append_left h]
theorem Ea {l:List UInt8} (h:l≠[]):∃ q c,l=q++[c]:=⟨l.dropLast,l.getLast h,(List.dropLast_concat_getLast h).symm⟩
def mj (x:UInt8):List (List UInt8)→List (List UInt8)
 | []=>[[x]]
 | p::r=>(x::p)::r
def aB (c:UInt8):List UInt8→List (List UInt8)
 | []=>[[]]
 | x::l=>if x=c then []::aB c l else mj x (aB c l)
def iR (c:UInt8):List (List UInt8)→List UInt8
 | []=>[]
 | [p]=>p
 | p::q::r=>p++c::iR c (q::r)
theorem oO (c:UInt8) (l:List UInt8):aB c l≠[]:=by
 cases l with
 | nil=>simp [aB]
 | cons x l =>
  rw [aB]
  split
  ·simp
  ·cases aB c l <;> simp [mj]
theorem nN {c:UInt8}:∀ {l:List UInt8},c ∉ l→aB c l=[l]
 | [],_=>rfl
 | x::l,h=>by
  have h1:x≠c:=fun e=>h (by simp [e])
  have h2:c ∉ l:=fun e=>h (by simp [e])
  rw [aB,if_neg h1,nN h2];rfl
theorem rR {c:UInt8}:∀ {p:List UInt8} (r:List UInt8),c ∉ p→aB c (p++c::r)=p::aB c r
 | [],r,_=>by simp [aB]
 | x::l,r,h=>by
  have h1:x≠c:=fun e=>h (by simp [e])
  have h2:c ∉ l:=fun e=>h (by simp [e])
  rw [List.cons_append,aB,if_neg h1,rR r h2];rfl
theorem FO (c:UInt8) (x:UInt8):∀ ls:List (List UInt8),ls≠[]→iR c (mj x ls)=x::iR c ls
 | [],h=>absurd rfl h
 | [p],_=>rfl
 | p::q::r,_=>rfl
theorem vm (c:UInt8):∀ l:List UInt8,iR c (aB c l)=l
 | []=>rfl
 | x::l=>by
  rw [aB]
  have ih:=vm c l
  have hne:=oO c l
  split
  ·rename_i e
   subst e
   revert ih hne
   cases aB x l with
   | nil=>intro _ h;exact absurd rfl h
   | cons p r=>intro ih _;rw [iR,ih];rfl
  ·rw [FO c x _ hne,ih]
theorem ur {c:UInt8}:∀ {ls:List (List UInt8)},ls≠[]→(∀ p ∈ ls,c ∉ p)→aB c (iR c ls)=ls
 | [],h,_=>absurd rfl h
 | [p],_,h=>by rw [iR,nN (h p (by simp))]
 | p::q::r,_,h=>by
  rw [iR,rR _ (h p (by simp)),ur (by simp) (fun x hx=>h x (by simp at hx ⊢;exact .inr hx))]
def xk (p:List UInt8):Bool:=decide ((lN p).2=0) && decide (p.length≤10)
def nL (p:List UInt8):Int:=((lN p).1:Nat)
def cC (l:List Int):Bool:=decide (2≤l.length) && decide (l.length≤16) && l.all (fun n=>decide (0≤n) && decide (n≤2147483647)) && decide (l.getD 0 0≤2) && (decide (l.getD 0 0=2) || decide (l.getD 1 0<40))
def bB (s:List UInt8):List Int×Nat :=
 if ((aB 46 s).all xk)=false then ([],4) else if cC ((aB 46 s).map nL)=false then ([],1) else ((aB 46 s).map nL,0)

def gD (m:Nat):List UInt8:=if h:m=0 then [] else gD (m / 128)++[UInt8.ofNat (m % 128+128)]
termination_by m
decreasing_by omega
def dV (n:Nat):List UInt8:=gD (n / 128)++[UInt8.ofNat (n % 128)]
theorem eD:gD 0=[]:=by rw [gD];simp
theorem fK {m:Nat} (h:m≠0):gD m=gD (m / 128)++[UInt8.ofNat (m % 128+128)]:=by rw [gD,dif_neg h]
theorem wT (k:Nat):∀ m,m<128 ^ k→(gD m).length≤k:=by
 induction k with
 | zero =>
   intro m h;have:m=0:=by simpa using h
   subst this;rw [eD];simp
 | succ k ih =>
  intro m h
  by_cases h0:m=0
  ·subst h0;rw [eD];simp
  ·rw [fK h0,List.length_append]
   have:=ih (m / 128) (Nat.div_lt_of_lt_mul (by rw [Nat.pow_succ] at h;omega))
   simp;omega
theorem jt {n:Nat} (h:n<34359738368):(dV n).length≤5:=by
 have:=wT 4 (n / 128) jO
 simp [dV];omega
theorem z7 (n:Nat):0<(dV n).length:=by simp [dV]
def cA (l:List UInt8):Nat:=l.foldl (fun a c=>a * 128+c.toNat % 128) 0
theorem gc (l:List UInt8) (c:UInt8):cA (l++[c])=cA l * 128+c.toNat % 128:=by simp [cA]
theorem KC (m:Nat):cA (gD m)=m:=by
 induction m using Nat.strongRecOn with
 | ind m ih =>
  by_cases h0:m=0
  ·subst h0;rw [eD];rfl
  ·rw [fK h0,gc,ih _ jO,UInt8.toNat_ofNat']
   omega
theorem GN (n:Nat):cA (dV n)=n:=by
 rw [dV,gc,KC,UInt8.toNat_ofNat']
 omega
theorem EF (m:Nat):∀ c ∈ gD m,128≤c.toNat:=by
 induction m using Nat.strongRecOn with
 | ind m ih =>
  by_cases h0:m=0
  ·subst h0;rw [eD];simp
  ·rw [fK h0]
   intro c hc
   rcases List.mem_append.1 hc with h|h
   ·exact ih _ jO c h
   ·rw [List.mem_singleton] at h;subst h;rw [UInt8.toNat_ofNat'];omega
theorem BZ (m:Nat) (h:m≠0):((gD m).getD 0 0).toNat≠128:=by
 induction m using Nat.strongRecOn with
 | ind m ih =>
  rw [fK h]
  by_cases h1:m / 128=0
  ·rw [h1,eD]
   simp only [List.nil_append,List.getD_cons_zero]
   rw [UInt8.toNat_ofNat'];omega
  ·have:=ih (m / 128) jO h1
   have hp:0<(gD (m / 128)).length:=by rw [fK h1];simp
   rwa [rc hp]
def bn:List UInt8→Nat
 | []=>0
 | c::l=>if c.toNat<128 then 1 else 1+bn l
theorem kw:∀ l:List UInt8,bn l≤l.length
 | []=>Nat.le_refl _
 | c::l=>by
  have:=kw l
  rw [bn];split <;> simp <;> omega
theorem fx {l:List UInt8} (h:l≠[]):0<bn l:=by
 cases l with
 | nil=>exact absurd rfl h
 | cons c l=>rw [bn];split <;> omega
theorem uy {l:List UInt8} (h:∀ c ∈ l,128≤c.toNat) (x:UInt8) (hx:x.toNat<128) (r:List UInt8):bn (l++x::r)=l.length+1:=by
 induction l with
 | nil=>simp [bn,hx]
 | cons c l ih =>
  have h1:=h c (by simp)
  rw [List.cons_append,bn,jK,ih (fun d hd=>h d (by simp [hd]))]
  simp;omega
def dC (run:List UInt8) (most:Nat):Nat×Nat :=
 if 128≤(run.getD (run.length-1) 0).toNat then (0,2) else if (run.getD 0 0).toNat=128 then (0,4) else if most<cA run then (0,1) else (cA run,0)
def cL (most:Nat) (b:List UInt8):List Nat×Nat :=
 if h:b=[] then ([],0) else
  if (dC (b.take (bn b)) most).2≠0 then ([],(dC (b.take (bn b)) most).2) else
   if (cL 2147483647 (b.drop (bn b))).2≠0 then ([],(cL 2147483647 (b.drop (bn b))).2) else
    ((dC (b.take (bn b)) most).1::(cL 2147483647 (b.drop (bn b))).1,0)
termination_by b.length
decreasing_by
 all_goals
  have:=fx h
  have:=List.length_pos_iff.2 h
  simp;omega
def cw:List Nat→List Int
 | []=>[]
 | n::r=>(min (n / 40) 2:Nat)::((n:Int)-40 * (min (n / 40) 2:Nat))::r.map Int.ofNat
def fg (b:List UInt8):List Int×Nat :=
 if b=[] then ([],2) else if (cL 2147483727 b).2≠0 then ([],(cL 2147483727 b).2) else
  if cC (cw (cL 2147483727 b).1)=false then ([],1) else (cw (cL 2147483727 b).1,0)
def yI (l:List Int):List UInt8:=dV (40 * l.getD 0 0+l.getD 1 0).toNat++((l.drop 2).map fun n=>dV n.toNat).flatten
theorem KT (n:Nat) (r:List UInt8):bn (dV n++r)=(dV n).length:=by
 rw [dV,List.append_assoc,List.singleton_append,uy (EF _) _ (by rw [UInt8.toNat_ofNat'];omega)]
 simp
theorem LA {n most:Nat} (h:n≤most):dC (dV n) most=(n,0):=by
 have h1:(dV n).getD ((dV n).length-1) 0=UInt8.ofNat (n % 128):=by
  simp [dV,List.getD]
 have h2:((dV n).getD 0 0).toNat≠128:=by
  by_cases h0:n / 128=0
  ·rw [dV,h0,eD]
   simp only [List.nil_append,List.getD_cons_zero]
   rw [UInt8.toNat_ofNat'];omega
  ·have:=BZ _ h0
   have hp:0<(gD (n / 128)).length:=by rw [fK h0];simp
   rw [dV]
   rwa [rc hp]
 have h3:(UInt8.ofNat (n % 128)).toNat=n % 128:=by rw [UInt8.toNat_ofNat'];omega
 unfold dC
 rw [h1,h3,jK,if_neg h2,GN,jK]
theorem AD {n most:Nat} (h:n≤most) (r:List UInt8) (l:List Nat) (hr:cL 2147483647 r=(l,0)):cL most (dV n++r)=(n::l,0):=by
 have hp:=z7 n
 rw [cL,dif_neg (by intro e;have:=congrArg List.length e;rw [List.length_append,List.length_nil] at this;omega),KT,List.take_left,List.drop_left,LA h,hr]
 simp
theorem Ii (l:List Nat) (h:∀ n ∈ l,n≤2147483647):cL 2147483647 ((l.map dV).flatten)=(l,0):=by
 induction l with
 | nil=>rw [cL];simp
 | cons n l ih =>
  rw [List.map_cons,List.flatten_cons]
  exact AD (h n (by simp)) _ _ (ih fun m hm=>h m (by simp [hm]))
theorem ip {l:List Int} (h:cC l=true):2≤l.length∧l.length≤16∧(∀ n ∈ l,0≤n∧n≤2147483647)∧l.getD 0 0≤2∧(l.getD 0 0=2∨l.getD 1 0<40):=by
 simp only [cC,Bool.and_eq_true,Bool.or_eq_true,decide_eq_true_eq,List.all_eq_true] at h
 obtain ⟨⟨⟨⟨h1,h2⟩,h3⟩,h4⟩,h5⟩:=h
 exact ⟨h1,h2,fun n hn=>h3 n hn,h4,h5⟩
theorem J9 {a b:Int} {r:List Nat} (h:0≤a∧a≤2) (hb:0≤b) (h2:a=2∨b<40):cw ((40 * a+b).toNat::r)=a::b::r.map Int.ofNat:=by
 have e:min ((40 * a+b).toNat / 40) 2=a.toNat:=by omega
 simp only [cw,e]
 refine congr (congrArg _ jO) (congr (congrArg _ jO) rfl)
theorem L6 {l:List Int} (h:cC l=true):fg (yI l)=(l,0):=by
 obtain ⟨h1,h2,h3,h4,h5⟩:=ip h
 match l,h1 with
 | a::b::r,_ =>
  simp only [List.getD_cons_zero,List.getD_cons_succ] at h4 h5
  have ha:=h3 a (by simp)
  have hb:=h3 b (by simp)
  have hr:∀ n ∈ r.map Int.toNat,n≤2147483647:=fun n hn=>by
   obtain ⟨m,hm,rfl⟩:=List.mem_map.1 hn
   have:=h3 m (by simp [hm]);omega
  have hn:=Ii _ hr
  rw [List.map_map] at hn
  have hs:=AD (n:=(40 * a+b).toNat) (most:=2147483727) jO _ _ hn
  have hput:yI (a::b::r)=dV (40 * a+b).toNat++(r.map (dV ∘ Int.toNat)).flatten:=rfl
  have hne:yI (a::b::r)≠[]:=fun e=>by
   have:=congrArg List.length e
   rw [hput] at this
   have hp:=z7 (40 * a+b).toNat
   rw [List.length_append,List.length_nil] at this;omega
  have e:cw ((40 * a+b).toNat::r.map Int.toNat)=a::b::r:=by
   rw [J9 ⟨ha.1,h4⟩ hb.1 h5,List.map_map]
   refine congrArg _ (congrArg _ ?_)
   refine (List.map_congr_left fun x hx=>?_).trans (List.map_id _)
   have:=h3 x (by simp [hx])
   simp;omega
  unfold fg
  rw [if_neg hne,hput,hs]
  simp only [ne_eq,not_true_eq_false,if_false,e,h]
  simp
theorem KL (l:List UInt8) (h:∀ c ∈ l,128≤c.toNat) (h2:l≠[]→(l.getD 0 0).toNat≠128):gD (cA l)=l:=by
 have key:∀ k,∀ l:List UInt8,l.length=k→(∀ c ∈ l,128≤c.toNat)→(l≠[]→(l.getD 0 0).toNat≠128)→gD (cA l)=l∧(l≠[]→cA l≠0):=by
  intro k
  induction k with
  | zero =>
    intro l hl _ _;have:l=[]:=List.length_eq_zero_iff.1 hl
    subst this;exact ⟨eD,fun h=>absurd rfl h⟩
  | succ k ih =>
   intro l hl hb hh
   obtain ⟨q,c,rfl⟩:=Ea (l:=l) (by intro e;rw [e] at hl;simp at hl)
   have hlq:q.length=k:=by simpa using hl
   have hc:=hb c (by simp)
   have hc2:=c.toNat_lt
   have hq:q≠[]→(q.getD 0 0).toNat≠128:=fun hne=>by
    have:=hh (by simp)
    have hp:0<q.length:=List.length_pos_iff.2 hne
    rwa [rc hp] at this
   obtain ⟨h5,h6⟩:=ih q hlq (fun d hd=>hb d (by simp [hd])) hq
   have hv:cA (q++[c])≠0:=by
    rw [gc]
    by_cases hq0:q=[]
    ·subst hq0
     have:=hh (by simp)
     simp at this
     show 0 * 128+_≠0
     omega
    ·have:=h6 hq0
     omega
   refine ⟨?_,fun _=>hv⟩
   rw [fK hv,gc,show (cA q * 128+c.toNat % 128) / 128=cA q by omega,h5]
   refine congrArg _ ?_
   rw [show (cA q * 128+c.toNat % 128) % 128+128=c.toNat by omega,UInt8.ofNat_toNat]
 exact (key _ l rfl h h2).1
theorem Hb {l:List UInt8} (hne:l≠[]) (h:∀ i,i+1<l.length→128≤(l.getD i 0).toNat) (h1:(l.getD (l.length-1) 0).toNat<128) (h2:(l.getD 0 0).toNat≠128):dV (cA l)=l:=by
 obtain ⟨q,c,rfl⟩:=Ea hne
 have hc:c.toNat<128:=by simpa [List.getD] using h1
 have hb:∀ d ∈ q,128≤d.toNat:=fun d hd=>by
  obtain ⟨i,hi,rfl⟩:=List.getElem_of_mem hd
  have:=h i (by simp;omega)
  simpa [List.getD,List.getElem?_append_left hi,hi] using this
 have hq:q≠[]→(q.getD 0 0).toNat≠128:=fun hne=>by
  have hp:0<q.length:=List.length_pos_iff.2 hne
  rwa [rc hp] at h2
 rw [dV,gc,show (cA q * 128+c.toNat % 128) / 128=cA q by omega,show (cA q * 128+c.toNat % 128) % 128=c.toNat by omega,KL q hb hq,UInt8.ofNat_toNat]
theorem ux:∀ (l:List UInt8) (i:Nat),i+1<bn l→128≤(l.getD i 0).toNat
 | [],i,h=>by simp [bn] at h
 | c::l,i,h=>by
  rw [bn] at h
  split at h
  ·omega
  ·cases i with
   | zero=>simp;omega
   | succ i=>simpa using ux l i jO
theorem Ij {b:List UInt8} {most n:Nat} (hb:b≠[]) (h:dC (b.take (bn b)) most=(n,0)):dV n=b.take (bn b)∧n≤most:=by
 unfold dC at h
 have hp:=fx hb
 have hle:=kw b
 have hlen:(b.take (bn b)).length=bn b:=by simp;omega
 split at h
 ·simp at h
 split at h
 ·simp at h
 split at h
 ·simp at h
 simp at h
 subst h
 refine ⟨Hb (by intro e;rw [e] at hlen;simp at hlen;omega) (fun i hi=>?_) jO (by assumption),by omega⟩
 rw [hlen] at hi
 have:=ux b i hi
 simpa [List.getD,List.getElem?_take,show i<bn b by omega] using this
theorem Fy:∀ (k:Nat) (b:List UInt8) (most:Nat) (l:List Nat),b.length≤k→cL most b=(l,0)→(l.map dV).flatten=b∧(∀ n ∈ l.drop 1,n≤2147483647)∧(∀ n,l.head?=some n→n≤most)∧(b≠[]→l≠[]):=by
 intro k
 induction k with
 | zero =>
  intro b most l hk h
  have:b=[]:=List.length_eq_zero_iff.1 jO
  subst this
  rw [cL] at h
  simp at h
  subst h
  simp
 | succ k ih =>
  intro b most l hk h
  by_cases hb:b=[]
  ·subst hb
   rw [cL] at h
   simp at h
   subst h
   simp
  ·rw [cL,dif_neg hb] at h
   split at h
   ·rename_i h1;simp at h;exact absurd h.2 h1
   rename_i h1
   split at h
   ·rename_i h2;simp at h;exact absurd h.2 h2
   rename_i h2
   have hp:=fx hb
   have hl:=List.length_pos_iff.2 hb
   obtain ⟨l',hl'⟩:∃ l',cL 2147483647 (b.drop (bn b))=(l',0):=⟨_,Prod.ext rfl (by simpa using h2)⟩
   obtain ⟨h3,h4,h5,_⟩:=ih (b.drop (bn b)) 2147483647 l' (by simp;omega) hl'
   obtain ⟨n,hn⟩:∃ n,dC (b.take (bn b)) most=(n,0):=⟨_,Prod.ext rfl (by simpa using h1)⟩
   obtain ⟨h6,h7⟩:=Ij hb hn
   rw [hl',hn] at h
   simp at h
   subst h
   refine ⟨?_,?_,?_,fun _=>by simp⟩
   ·rw [List.map_cons,List.flatten_cons,h3,h6,List.take_append_drop]
   ·intro m hm
    cases l' with
    | nil=>simp at hm
    | cons x r =>
     simp at hm
     rcases hm with rfl|hm
     ·exact h5 _ rfl
     ·exact h4 m (by simpa using hm)
   ·intro m hm;simp at hm;omega
theorem Lo {b:List UInt8} {l:List Int} (h:fg b=(l,0)):yI l=b∧cC l=true:=by
 unfold fg at h
 split at h
 ·simp at h
 rename_i hb
 split at h
 ·rename_i h1;simp at h;exact absurd h.2 h1
 rename_i h1
 split at h
 ·simp at h
 rename_i h2
 simp at h
 have hr:cC (cw (cL 2147483727 b).1)=true:=by simpa using h2
 obtain ⟨ns,hns⟩:∃ ns,cL 2147483727 b=(ns,0):=⟨_,Prod.ext rfl (by simpa using h1)⟩
 obtain ⟨h3,h4,h5,h6⟩:=Fy b.length b _ ns (Nat.le_refl _) hns
 rw [hns] at h hr
 subst h
 refine ⟨?_,hr⟩
 cases ns with
 | nil=>exact absurd rfl (h6 hb)
 | cons n r =>
  rw [← h3]
  show dV _++_=_
  simp only [cw,List.getD_cons_zero,List.getD_cons_succ,List.drop_succ_cons,List.drop_zero,List.map_cons,List.flatten_cons]
  refine congr (congrArg _ (congrArg _ ?_)) (congrArg _ ?_)
  ·omega
  ·rw [List.map_map]
   refine List.map_congr_left fun x _=>?_
   simp
theorem FR (c:UInt8):dx c=(decide (48≤c.toNat) && decide (c.toNat≤57)):=rfl
theorem Gb {p:List UInt8} (h:(lN p).2=0):kY (lN p).1=p:=by
 rw [vC] at h ⊢
 split at h
 ·rename_i h1
  rw [if_pos h1]
  exact h1.2.2.2
 ·simp at h

def kh (l:List Int):List UInt8:=iR 46 (l.map fun n=>kY n.toNat)
theorem JJ (n:Nat):(46:UInt8) ∉ kY n:=fun h=>by
 have:=List.all_eq_true.1 (Bu n) _ h
 rw [FR] at this
 simp at this
theorem H4 {n:Int} (h0:0≤n) (h:n≤2147483647):xk (kY n.toNat)=true∧nL (kY n.toNat)=n:=by
 have h1:=Jg (n:=n.toNat) jO
 have h2:=kr 9 n.toNat jO
 simp only [xk,nL,h1]
 refine ⟨by simp;omega,by show ((n.toNat:Nat):Int)=n;omega⟩
theorem Cr {l:List Int} (h:cC l=true):bB (kh l)=(l,0):=by
 obtain ⟨h1,h2,h3,h4,h5⟩:=ip h
 have hs:aB 46 (kh l)=l.map fun n=>kY n.toNat:=ur (by cases l <;> simp at h1 ⊢) (fun p hp=>by
  obtain ⟨n,_,rfl⟩:=List.mem_map.1 hp
  exact JJ _)
 have ho:((l.map fun n=>kY n.toNat).all xk)=true:=by
  rw [List.all_eq_true]
  intro p hp
  obtain ⟨n,hn,rfl⟩:=List.mem_map.1 hp
  exact (H4 (h3 n hn).1 (h3 n hn).2).1
 have hv:(l.map fun n=>kY n.toNat).map nL=l:=by
  rw [List.map_map]
  refine (List.map_congr_left fun n hn=>?_).trans (List.map_id _)
  exact (H4 (h3 n hn).1 (h3 n hn).2).2
 unfold bB
 rw [hs,ho,hv,h]
 simp
theorem ob {s:List UInt8} {l:List Int} (h:bB s=(l,0)):cC l=true∧(aB 46 s).all xk=true∧l=(aB 46 s).map nL:=by
 unfold bB at h
 split at h
 ·simp at h
 rename_i h1
 split at h
 ·simp at h
 rename_i h2
 simp at h
 subst h
 exact ⟨by simpa using h2,by simpa using h1,rfl⟩
theorem BV {s:List UInt8} {l:List Int} (h:bB s=(l,0)):kh l=s:=by
 obtain ⟨h1,h2,rfl⟩:=ob h
 unfold kh
 rw [List.map_map]
 have:(aB 46 s).map ((fun n=>kY n.toNat) ∘ nL)=aB 46 s:=by
  refine (List.map_congr_left fun p hp=>?_).trans (List.map_id _)
  have h3:=List.all_eq_true.1 h2 p hp
  simp only [xk,Bool.and_eq_true,decide_eq_true_eq] at h3
  exact Gb h3.1
 rw [this,vm]
end
section
def bJ (b:List UInt8):List (List UInt8):=if h:b=[] then [] else b.take (bn b)::bJ (b.drop (bn b))
termination_by b.length
decreasing_by
 have:=fx h
 have:=List.length_pos_iff.2 h
 simp;omega
theorem iX:bJ []=[]:=by rw [bJ];simp
theorem mA {b:List UInt8} (h:b≠[]):bJ b=b.take (bn b)::bJ (b.drop (bn b)):=by rw [bJ,dif_neg h]
theorem Hd:∀ (n:Nat) (b:List UInt8),b.length≤n→∀ r ∈ bJ b,0<r.length:=by
 intro n
 induction n with
 | zero =>
  intro b hb r hr
  have:b=[]:=List.length_eq_zero_iff.1 jO
  subst this
  rw [iX] at hr;cases hr
 | succ n ih =>
  intro b hb r hr
  by_cases h:b=[]
  ·subst h;rw [iX] at hr;cases hr
  ·rw [mA h] at hr
   have h1:=fx h
   have h2:=kw b
   rcases List.mem_cons.1 hr with rfl|hr
   ·rw [List.length_take];omega
   ·exact ih _ (by rw [List.length_drop];omega) r hr
theorem He:∀ (n:Nat) (b:List UInt8),b.length≤n→(bJ b).length≤b.length:=by
 intro n
 induction n with
 | zero =>
  intro b hb
  have:b=[]:=List.length_eq_zero_iff.1 jO
  subst this
  rw [iX];exact Nat.le_refl _
 | succ n ih =>
  intro b hb
  by_cases h:b=[]
  ·subst h;rw [iX];exact Nat.le_refl _
  ·rw [mA h]
   have h1:=fx h
   have h2:=kw b
   have:=ih (b.drop (bn b)) (by rw [List.length_drop];omega)
   rw [List.length_drop] at this
   simp only [List.length_cons];omega
def uJ (most:Nat):List (List UInt8)→List (Nat×Nat)
 | []=>[]
 | r::t=>dC r most::uJ 2147483647 t
theorem Ae:∀ (most:Nat) (l:List (List UInt8)),(uJ most l).length=l.length
 | _,[]=>rfl
 | most,r::t=>by rw [uJ,List.length_cons,Ae,List.length_cons]
theorem Af:∀ (most:Nat) (l:List (List UInt8)) (k:Nat),k<l.length→(uJ most l).getD k (0,0)=dC (l.getD k []) (if k=0 then most else 2147483647)
 | _,[],k,h=>absurd h (Nat.not_lt_zero k)
 | most,r::t,0,_=>rfl
 | most,r::t,k+1,h=>by
  have:=Af 2147483647 t k (by simpa using h)
  rw [uJ,List.getD_cons_succ,List.getD_cons_succ,this,if_neg (Nat.succ_ne_zero k)]
  split <;> rfl
def eU:List (Nat×Nat)→Nat
 | []=>0
 | x::t=>if x.2=0 then eU t else x.2
theorem Bh {l r:List (Nat×Nat)} (h:eU l=0):eU (l++r)=eU r:=by
 induction l with
 | nil=>rfl
 | cons x t ih =>
  rw [eU] at h
  split at h
  ·rename_i hx
   rw [List.cons_append,eU,if_pos hx,ih h]
  ·rename_i hx;exact absurd h hx
theorem Bf {l:List (Nat×Nat)} {k:Nat} (hk:k<l.length) (h:eU (l.take k)=0):eU (l.take (k+1))=(l.getD k (0,0)).2:=by
 rw [List.take_succ_eq_append_getElem hk,Bh h]
 simp only [eU,List.getD,List.getElem?_eq_getElem hk,Option.getD_some]
 split <;> simp_all
theorem Bg {l:List (Nat×Nat)} {k:Nat} (hk:k<l.length) (h:eU (l.take k)=0) (h2:(l.getD k (0,0)).2≠0):eU l=(l.getD k (0,0)).2:=by
 have e:eU (l.take k++l.drop k)=eU (l.drop k):=Bh h
 rw [List.take_append_drop] at e
 rw [e,List.drop_eq_getElem_cons hk,eU]
 simp only [List.getD,List.getElem?_eq_getElem hk,Option.getD_some] at h2 ⊢
 rw [if_neg h2]
theorem Ig:∀ (n:Nat) (b:List UInt8) (most:Nat),b.length≤n→cL most b=if eU (uJ most (bJ b))=0 then ((uJ most (bJ b)).map (·.1),0) else ([],eU (uJ most (bJ b))):=by
 intro n
 induction n with
 | zero =>
  intro b most hb
  have:b=[]:=List.length_eq_zero_iff.1 jO
  subst this
  rw [cL,iX];rfl
 | succ n ih =>
  intro b most hb
  by_cases h:b=[]
  ·subst h;rw [cL,iX];rfl
  ·have h1:=fx h
   have h2:=kw b
   have hi:=ih (b.drop (bn b)) 2147483647 (by rw [List.length_drop];omega)
   rw [cL,dif_neg h,hi,mA h,uJ,eU]
   by_cases e:(dC (b.take (bn b)) most).2=0
   ·rw [if_neg (by simp [e]),if_pos e]
    by_cases e2:eU (uJ 2147483647 (bJ (b.drop (bn b))))=0
    ·rw [if_pos e2,if_pos e2,if_neg (by simp),List.map_cons]
    ·rw [if_neg e2,if_neg e2,if_pos e2]
   ·rw [if_pos e,if_neg e,if_neg e]
theorem Gw {l:List Nat} (n:Nat) (h:l≠[]):cw (l++[n])=cw l++[(n:Int)]:=by
 cases l with
 | nil=>exact absurd rfl h
 | cons a r=>simp [cw]
theorem Ka (l:List Nat):(cw l).length≤l.length+1∧(l≠[]→2≤(cw l).length):=by
 cases l with
 | nil=>exact ⟨by simp [cw],fun h=>absurd rfl h⟩
 | cons a r=>simp [cw]
def gT (s:List UInt8):List UInt8:=if (bB s).2=0 then yI (bB s).1 else []
def eQ (b:List UInt8):List (Nat×Nat):=uJ 2147483727 (bJ b)
theorem lW (b:List UInt8):(eQ b).length=(bJ b).length:=Ae _ _
theorem xl (b:List UInt8):cL 2147483727 b=if eU (eQ b)=0 then ((eQ b).map (·.1),0) else ([],eU (eQ b)):=Ig b.length b 2147483727 (Nat.le_refl _)
theorem vw:fg []=([],2):=by unfold fg;rw [if_pos rfl]
theorem Ja {b:List UInt8} (hb:b≠[]) (h:eU (eQ b)≠0):fg b=([],eU (eQ b)):=by
 unfold fg
 have:=xl b
 rw [if_neg h] at this
 rw [if_neg hb,this,if_pos h]
theorem F9 {b:List UInt8} (hb:b≠[]) (h:eU (eQ b)=0):fg b=if cC (cw ((eQ b).map (·.1)))=false then ([],1) else (cw ((eQ b).map (·.1)),0):=by
 unfold fg
 have:=xl b
 rw [if_pos h] at this
 rw [if_neg hb,this,if_neg (by simp)]
def sR (l:List Int):List UInt8×Nat:=if cC l=true then (kh l,0) else ([],1)
def dM (b:List UInt8):List UInt8×Nat:=if (fg b).2=0 then (kh (fg b).1,0) else ([],(fg b).2)
theorem IY {b:List UInt8} (hb:b≠[]) (h:eU (eQ b)=0):dM b=sR (cw ((eQ b).map (·.1))):=by
 unfold dM sR
 rw [F9 hb h]
 cases cC (cw ((eQ b).map (·.1))) <;> simp
theorem L8 {b:List UInt8} (hb:b≠[]) (h:eU (eQ b)≠0):dM b=([],eU (eQ b)):=by
 unfold dM
 rw [Ja hb h,if_neg h]
theorem L7:dM []=([],2):=by unfold dM;rw [vw,if_neg jD]
theorem A0 (c:UInt8):∀ ls:List (List UInt8),Lib.join ls [c]=iR c ls
 | []=>rfl
 | [p]=>Lib.join_one p [c]
 | p::q::r=>by
  have ih:=A0 c (q::r)
  rw [Lib.join_cons] at ih ⊢
  rw [iR,← ih]
  simp [Lib.joinTail]
theorem vn {c:UInt8} {m:Nat}:∀ {ls:List (List UInt8)},(∀ p ∈ ls,p.length≤m)→(iR c ls).length≤(m+1) * ls.length
 | [],_=>Nat.zero_le _
 | [p],h=>by have:=h p (by simp);simp [iR];omega
 | p::q::r,h=>by
  have h1:=h p (by simp)
  have ih:=vn (c:=c) (m:=m) (ls:=q::r) fun x hx=>h x (by simp at hx ⊢;exact .inr hx)
  rw [iR,List.length_append,List.length_cons,List.length_cons,Nat.mul_succ]
  omega
theorem LN (l:List UInt8) (p:UInt8→Bool) (hp:∀ c,p c=decide (c.toNat<128)):(bn l:Int)=if ee p l<0 then (l.length:Int) else ee p l+1:=by
 induction l with
 | nil=>simp [bn,ee]
 | cons c l ih =>
  have hb:=mf p l
  rw [bn,ee,hp]
  by_cases hc:c.toNat<128
  ·simp [hc]
  ·simp only [hc,decide_false,if_false,Bool.false_eq_true]
   by_cases hn:ee p l<0
   ·rw [if_pos hn] at ih
    rw [if_pos hn,if_pos jD]
    simp only [List.length_cons];omega
   ·rw [if_neg hn] at ih
    rw [if_neg hn,jK]
    omega
theorem CW {s:List UInt8} (h:(bB s).2=0):dM (yI (bB s).1)=(s,0):=by
 have hr:=(ob (s:=s) (l:=(bB s).1) (by rw [← h])).1
 have ht:=BV (s:=s) (l:=(bB s).1) (by rw [← h])
 unfold dM
 rw [L6 hr,if_pos rfl,ht]
end
end Am
end Go.Proofs.YthlpfjnkieaeeaaGreatDoor
namespace Go.Proofs.YthlpfjnkieaeeaaGreatDoor.Cal
set_option linter.unusedVariables false

structure D6 where
 y:Int
 m:Int
 d:Int
 h:Int
 mi:Int
 s:Int

def iQ (y:Int):Bool:=y % 4 == 0 && (y % 100 != 0 || y % 400 == 0)
theorem mb (y:Int):iQ y=decide (y % 4=0∧(y % 100≠0∨y % 400=0)):=by
 rw [Bool.eq_iff_iff];simp [iQ]
theorem wL (a b:Int):a.tmod b=0↔a % b=0:=by
 rw [← Int.dvd_iff_tmod_eq_zero,Int.dvd_iff_emod_eq_zero]
def dS (y m:Int):Int :=
 if m=4∨m=6∨m=9∨m=11 then 30 else if m=2 then (if iQ y then 29 else 28) else if m<1∨m>12 then 0 else 31
theorem lB (y m:Int):0≤dS y m∧dS y m≤31:=by
 unfold dS;repeat' split
 all_goals omega
theorem cM {y m d:Int} (h1:1≤d) (h2:d≤dS y m):1≤m∧m≤12:=by
 unfold dS at h2;repeat' split at h2
 all_goals omega
def bf (y:Int):Int:=365 * (y-1)+(y-1) / 4-(y-1) / 100+(y-1) / 400+306-719468
theorem rC:bf 1970=0:=by decide
theorem zl (y:Int):bf (y+1)=bf y+365+if iQ y then 1 else 0:=by
 have e:(iQ y=true)↔(y % 4=0∧(y % 100≠0∨y % 400=0)):=by simp [iQ]
 by_cases h:iQ y=true
 ·rw [if_pos h];rw [e] at h;unfold bf;omega
 ·rw [if_neg h];rw [e] at h;unfold bf;omega
theorem nc {a b:Int} (h:a≤b):bf a≤bf b:=by unfold bf;omega
theorem JY (y:Int) (h1:1970≤y) (h2:y≤10000):0≤bf y∧bf y≤2932897:=by unfold bf;omega
def pA (y m:Int):Int :=
 if m≤2 then 31 * (m-1) else (153 * (m-3)+2) / 5+59+(if iQ y then 1 else 0)
theorem ru (y:Int):pA y 1=0:=by simp [pA]
theorem oy (y m:Int) (h1:1≤m) (h2:m≤12):pA y (m+1)=pA y m+dS y m:=by
 have:m=1∨m=2∨m=3∨m=4∨m=5∨m=6∨m=7∨m=8∨m=9∨m=10∨m=11∨m=12:=by omega
 rcases this with h|h|h|h|h|h|h|h|h|h|h|h <;> subst h <;> simp [pA,dS] <;> split <;> omega
theorem zh (y:Int):bf y+pA y 13=bf (y+1):=by
 rw [zl];simp [pA];split <;> omega
theorem rx {y a b:Int} (h0:1≤a) (h:a≤b) (h1:b≤13):pA y a≤pA y b:=by
 unfold pA;repeat' split
 all_goals omega
theorem vR (y m:Int) (h1:1≤m) (h2:m≤13):0≤pA y m∧pA y m≤366:=by
 unfold pA;repeat' split
 all_goals omega
def dn (y m d:Int):Int:=bf y+pA y m+d-1

theorem Ef (y m d:Int) (h1:1≤m) (h2:m≤12) :
  365 * (if m-3<0 then y-1 else y)+(if m-3<0 then y-1 else y) / 4-(if m-3<0 then y-1 else y) / 100+(if m-3<0 then y-1 else y) / 400+(153 * (if m-3<0 then m-3+12 else m-3)+2) / 5+d-1-719468=dn y m d:=by
 have e:(iQ y=true)↔(y % 4=0∧(y % 100≠0∨y % 400=0)):=by simp [iQ]
 by_cases h:m-3<0
 ·simp only [if_pos h]
  have:m=1∨m=2:=by omega
  rcases this with h|h <;> subst h <;> simp [dn,bf,pA] <;> omega
 ·simp only [if_neg h]
  unfold dn bf pA
  rw [jK]
  by_cases hl:iQ y=true
  ·rw [if_pos hl];rw [e] at hl;omega
  ·rw [if_neg hl];rw [e] at hl;omega

def bE (x:D6):Prop:=1970≤x.y∧x.y≤9999∧1≤x.d∧x.d≤dS x.y x.m∧0≤x.h∧x.h<24∧0≤x.mi∧x.mi<60∧0≤x.s∧x.s<60
instance (x:D6):Decidable (bE x):=by unfold bE;infer_instance
def my (x:D6):Int:=((dn x.y x.m x.d * 24+x.h) * 60+x.mi) * 60+x.s

theorem JD {y m d:Int} (h1:1970≤y) (h2:y≤9999) (h3:1≤d) (h4:d≤dS y m):bf y≤dn y m d∧dn y m d<bf (y+1)∧1≤m∧m≤12∧pA y m≤dn y m d-bf y∧dn y m d-bf y<pA y (m+1):=by
 obtain ⟨hm1,hm2⟩:=cM h3 h4
 have h5:=oy y m hm1 hm2
 have h6:=zh y
 have h7:=rx (y:=y) (a:=m+1) (b:=13) jO jO jO
 have h8:=vR y m hm1 jO
 unfold dn
 omega
theorem Ou {y m d y' m' d':Int} (a1:1970≤y) (a2:y≤9999) (a3:1≤d) (a4:d≤dS y m) (b1:1970≤y') (b2:y'≤9999) (b3:1≤d') (b4:d'≤dS y' m') (h:dn y m d=dn y' m' d'):y=y'∧m=m'∧d=d':=by
 obtain ⟨p1,p2,p3,p4,p5,p6⟩:=JD a1 a2 a3 a4
 obtain ⟨q1,q2,q3,q4,q5,q6⟩:=JD b1 b2 b3 b4
 rw [h] at p1 p2 p5 p6
 have hy:y=y':=by
  rcases Int.lt_trichotomy y y' with hlt|heq|hlt
  ·have:=nc (a:=y+1) (b:=y') jO;omega
  ·exact heq
  ·have:=nc (a:=y'+1) (b:=y) jO;omega
 subst hy
 have hm:m=m':=by
  rcases Int.lt_trichotomy m m' with hlt|heq|hlt
  ·have:=rx (y:=y) (a:=m+1) (b:=m') jO jO jO;omega
  ·exact heq
  ·have:=rx (y:=y) (a:=m'+1) (b:=m) jO jO jO;omega
 subst hm
 refine ⟨rfl,rfl,?_⟩
 unfold dn at h
 omega

theorem PM (n:Int) (h0:0≤n) (h1:n<146097):∃ c r:Int,n=36524 * c+r∧0≤c∧c≤3∧0≤r∧(r<36524∨(c=3∧r=36524)):=by
 by_cases h:n=146096
 ·exact ⟨3,36524,by omega,by omega,by omega,by omega,.inr ⟨rfl,rfl⟩⟩
 ·exact ⟨n / 36524,n % 36524,by omega,by omega,by omega,by omega,.inl jO⟩
theorem PL (v:Int) (h0:0≤v) (h1:v<1461):∃ k e:Int,v=365 * k+e∧0≤k∧k≤3∧0≤e∧(e<365∨(k=3∧e=365)):=by
 by_cases h:v=1460
 ·exact ⟨3,365,by omega,by omega,by omega,by omega,.inr ⟨rfl,rfl⟩⟩
 ·exact ⟨v / 365,v % 365,by omega,by omega,by omega,by omega,.inl jO⟩
theorem JF (c q v:Int) (hc:0≤c) (hc3:c≤3) (hq:0≤q) (hq24:q≤24) (hv:0≤v) (hv2:v≤1460):∃ z,(36524 * c+1461 * q+v) / 1460=25 * c+q+z∧((z=0∧24 * c+q+v<1460)∨(z=1∧1460≤24 * c+q+v)):=by
 by_cases h:24 * c+q+v<1460
 ·exact ⟨0,by omega,.inl ⟨rfl,h⟩⟩
 ·exact ⟨1,by omega,.inr ⟨rfl,by omega⟩⟩
theorem JE (c r:Int) (hc:0≤c) (hc3:c≤3) (h0:0≤r) (h:r<36524∨(c=3∧r=36524)):(36524 * c+r) / 36524-(36524 * c+r) / 146096=c:=by
 rcases h with h|⟨rfl,rfl⟩
 ·have e1:(36524 * c+r) / 36524=c:=by omega
  have e2:(36524 * c+r) / 146096=0:=by omega
  omega
 ·decide
theorem GD (c q k e z:Int) (hc:0≤c) (hc3:c≤3) (hq:0≤q) (hq24:q≤24) (hk0:0≤k) (hk3:k≤3) (he0:0≤e) (he:e<365∨(k=3∧e=365)) (hz:(z=0∧24 * c+q+(365 * k+e)<1460)∨(z=1∧1460≤24 * c+q+(365 * k+e))) :
  ((36524 * c+1461 * q+(365 * k+e))-(25 * c+q+z)+c) / 365=100 * c+4 * q+k:=by
 have h1:0≤e-z∧e-z<365:=by
  rcases hz with ⟨rfl,hz⟩|⟨rfl,hz⟩ <;> rcases he with he|⟨rfl,rfl⟩ <;> omega
 have h2:(36524 * c+1461 * q+(365 * k+e))-(25 * c+q+z)+c=(100 * c+4 * q+k) * 365+(e-z):=by omega
 rw [h2]
 omega
theorem QD (a b c d:Int):a-b+c-d=a-b+(c-d):=by omega
theorem Kn (c q k e:Int) (hc:0≤c) (hc3:c≤3) (hq:0≤q) (hq24:q≤24) (hk0:0≤k) (hk3:k≤3) (he:e<365∨(k=3∧e=365)) (hr:1461 * q+(365 * k+e)<36524∨c=3) :
  36524 * c+(1461 * q+(365 * k+e))<365 * (100 * c+4 * q+k+1)+(100 * c+4 * q+k+1) / 4-(100 * c+4 * q+k+1) / 100+(if 100 * c+4 * q+k=399 then 1 else 0):=by
 by_cases hk:k=3
 ·subst hk
  have e10:(100 * c+4 * q+3+1) / 4=25 * c+q+1:=by clear he hr;omega
  rw [e10]
  have he':e≤365:=by omega
  clear he
  by_cases hq':q=24
  ·subst hq'
   have e11:(100 * c+4 * 24+3+1) / 100=c+1:=by clear hr;omega
   rw [e11]
   split
   ·clear hr;omega
   ·have:¬ c=3:=by rename_i h;omega
    have hr':=hr.resolve_right this
    clear hr
    omega
  ·have e11:(100 * c+4 * q+3+1) / 100=c:=by clear hr;omega
   rw [e11]
   clear hr
   split <;> omega
 ·have he':e<365:=by
   rcases he with h|h
   ·exact h
   ·exact absurd h.1 hk
  clear he hr
  have e10:(100 * c+4 * q+k+1) / 4=25 * c+q:=by omega
  have e11:(100 * c+4 * q+k+1) / 100=c:=by omega
  rw [e10,e11]
  split <;> omega
def yr (n:Int):Int:=(n-n / 1460+n / 36524-n / 146096) / 365
theorem Kp {n c r q v k e:Int} (hn:n=36524 * c+r) (hc:0≤c) (hc3:c≤3) (hr0:0≤r) (hr:r<36524∨(c=3∧r=36524)) (hr2:r=1461 * q+v) (hq:0≤q) (hq24:q≤24) (hv:0≤v) (hv2:v<1461) (hv3:v=365 * k+e) (hk0:0≤k) (hk3:k≤3) (he0:0≤e) (he:e<365∨(k=3∧e=365)):yr n=100 * c+4 * q+k:=by
 obtain ⟨z,hz,hz2⟩:=JF c q v hc hc3 hq hq24 hv (Int.le_of_lt_add_one hv2)
 have e1:=JE c r hc hc3 hr0 hr
 show (n-n / 1460+n / 36524-n / 146096) / 365=_
 have e3:n / 36524-n / 146096=c:=by rw [hn];exact e1
 have e4:n / 1460=25 * c+q+z:=by rw [hn,hr2,← Int.add_assoc];exact hz
 have e5:=GD c q k e z hc hc3 hq hq24 hk0 hk3 he0 he (by rw [← hv3];exact hz2)
 rw [QD,e3,e4,hn,hr2,hv3,← Int.add_assoc]
 exact e5
theorem PK (r:Int) (h0:0≤r) (h1:r≤36524):∃ q v:Int,r=1461 * q+v∧0≤q∧q≤24∧0≤v∧v<1461:=⟨r / 1461,r % 1461,by omega,by omega,by omega,by omega,by omega⟩
theorem Ko {c q k:Int} (hc:0≤c) (hc3:c≤3) (hq:0≤q) (hq24:q≤24) (hk0:0≤k) (hk3:k≤3):0≤100 * c+4 * q+k∧100 * c+4 * q+k≤399∧365 * (100 * c+4 * q+k)+(100 * c+4 * q+k) / 4-(100 * c+4 * q+k) / 100=36524 * c+1461 * q+365 * k:=by
 have e7:(100 * c+4 * q+k) / 4=25 * c+q:=by omega
 have e8:(100 * c+4 * q+k) / 100=c:=by clear e7;omega
 refine ⟨by clear e7 e8;omega,by clear e7 e8;omega,?_⟩
 rw [e7,e8]
 clear e7 e8
 omega
theorem tK (n:Int) (h0:0≤n) (h1:n<146097) :
  0≤yr n∧yr n≤399∧365 * yr n+yr n / 4-yr n / 100≤n∧n<365 * (yr n+1)+(yr n+1) / 4-(yr n+1) / 100+(if yr n=399 then 1 else 0):=by
 obtain ⟨c,r,hn,hc,hc3,hr0,hr⟩:=PM n h0 h1
 have hr1:r≤36524:=by
  rcases hr with h|h
  ·exact Int.le_of_lt h
  ·exact Int.le_of_eq h.2
 obtain ⟨q,v,hr2,hq,hq24,hv,hv2⟩:=PK r hr0 hr1
 obtain ⟨k,e,hv3,hk0,hk3,he0,he⟩:=PL v hv hv2
 rw [Kp hn hc hc3 hr0 hr hr2 hq hq24 hv hv2 hv3 hk0 hk3 he0 he]
 have hup:=Kn c q k e hc hc3 hq hq24 hk0 hk3 he (by
  rw [← hv3,← hr2]
  rcases hr with h|h
  ·exact .inl h
  ·exact .inr h.1)
 rw [← hv3,← hr2,← hn] at hup
 obtain ⟨l1,l2,l3⟩:=Ko hc hc3 hq hq24 hk0 hk3
 refine ⟨l1,l2,?_,hup⟩
 rw [l3]
 clear hup l1 l2 l3 hr he
 omega

theorem Pp (r:Int) (h0:0≤r) (h1:r<146097):0≤r-(365 * yr r+yr r / 4-yr r / 100)∧r-(365 * yr r+yr r / 4-yr r / 100)≤365:=by
 obtain ⟨y0,y1,y2,y3⟩:=tK r h0 h1
 generalize yr r=y at *
 split at y3 <;> omega
structure PT where
 ages:Int
 y:Int
 m:Int
 d:Int
def cc (N:Int):PT :=
 let n:=N+719468
 let r:=n % 146097
 let y:=yr r
 let n2:=r-(365 * y+y / 4-y / 100)
 let m:=(5 * n2+2) / 153
 ⟨n / 146097,y,m,n2-(153 * m+2) / 5+1⟩
def Gz (N:Int):Int:=(cc N).ages * 400+(cc N).y+if (cc N).m+3>12 then 1 else 0
def Kh (N:Int):Int:=if (cc N).m+3>12 then (cc N).m+3-12 else (cc N).m+3
def JK (N:Int):Int:=(cc N).d

theorem Ns (y:Int):(y+1) / 4=y / 4+if (y+1) % 4=0 then 1 else 0:=by split <;> omega
theorem G0 (y:Int):(y+1) / 100=y / 100+if (y+1) % 100=0 then 1 else 0:=by split <;> omega
theorem HY (N:Int) (h0:0≤N) (h1:N≤2932896):4≤(cc N).ages∧(cc N).ages≤24∧0≤(cc N).y∧(cc N).y≤399∧0≤(cc N).m∧(cc N).m≤11∧1≤(cc N).d∧(cc N).d≤31 ∧
  365 * (cc N).y+(cc N).y / 4-(cc N).y / 100+146097 * (cc N).ages+(153 * (cc N).m+2) / 5+(cc N).d-1=N+719468 ∧
  ((cc N).m=11→(cc N).d≤28+(if ((cc N).y+1) % 4=0∧(((cc N).y+1) % 100≠0∨((cc N).y+1) % 400=0) then 1 else 0))∧(((cc N).m=1∨(cc N).m=3∨(cc N).m=6∨(cc N).m=8)→(cc N).d≤30):=by
 obtain ⟨n,hn⟩:∃ n,n=N+719468:=⟨_,rfl⟩
 obtain ⟨r,hr⟩:∃ r,r=n % 146097:=⟨_,rfl⟩
 have hyo:=tK r jO jO
 obtain ⟨y,hy⟩:∃ y,y=yr r:=⟨_,rfl⟩
 rw [← hy] at hyo
 obtain ⟨y0,y1,y2,y3⟩:=hyo
 obtain ⟨n2,hn2⟩:∃ n2,n2=r-(365 * y+y / 4-y / 100):=⟨_,rfl⟩
 obtain ⟨m,hm⟩:∃ m,m=(5 * n2+2) / 153:=⟨_,rfl⟩
 have e:cc N=⟨n / 146097,y,m,n2-(153 * m+2) / 5+1⟩:=by
  simp only [cc,← hn,← hr,← hy,← hn2,← hm]
 rw [e]
 simp only
 have hlen:0≤n2∧n2≤365:=by split at y3 <;> omega
 have hlast:n2=365→((y+1) % 4=0∧((y+1) % 100≠0∨(y+1) % 400=0)):=by
  intro h
  rw [Ns,G0] at y3
  by_cases h4:(y+1) % 4=0
  ·refine ⟨h4,?_⟩
   rw [if_pos h4] at y3
   by_cases h100:(y+1) % 100=0
   ·rw [if_pos h100] at y3
    by_cases h399:y=399
    ·subst h399;exact .inr jD
    ·rw [if_neg h399] at y3
     omega
   ·exact .inl h100
  ·rw [if_neg h4] at y3
   by_cases h399:y=399
   ·subst h399;exact absurd jD h4
   ·rw [if_neg h399] at y3
    split at y3 <;> omega
 have hm':0≤m∧m≤11:=by omega
 refine ⟨by omega,by omega,y0,y1,hm'.1,hm'.2,by omega,by omega,by omega,?_,by omega⟩
 intro h11
 subst h11
 split
 ·omega
 ·rename_i hno
  have:n2≠365:=fun h=>hno (hlast h)
  omega

theorem Iy (A Y:Int):iQ (A * 400+Y)=iQ Y:=by
 unfold iQ
 have e4:(A * 400+Y) % 4=Y % 4:=by omega
 have e100:(A * 400+Y) % 100=Y % 100:=by omega
 have e400:(A * 400+Y) % 400=Y % 400:=by omega
 rw [e4,e100,e400]
theorem Ow (y M D:Int) (m1:0≤M) (m2:M≤11) (d2:D≤31) (h11:M=11→D≤28+if iQ y then 1 else 0) (h30:M=1∨M=3∨M=6∨M=8→D≤30):D≤dS y (if M+3>12 then M+3-12 else M+3):=by
 by_cases e11:M=11
 ·subst e11
  have:=h11 rfl
  rw [if_pos jD]
  simp only [dS]
  rw [if_neg jD,if_pos jD]
  split at this <;> (rename_i hl;simp [hl];omega)
 ·clear h11
  have hne:(if M+3>12 then M+3-12 else M+3)≠2:=by split <;> omega
  have hr:¬ ((if M+3>12 then M+3-12 else M+3)<1∨(if M+3>12 then M+3-12 else M+3)>12):=by split <;> omega
  have h4:((if M+3>12 then M+3-12 else M+3)=4∨(if M+3>12 then M+3-12 else M+3)=6∨(if M+3>12 then M+3-12 else M+3)=9∨(if M+3>12 then M+3-12 else M+3)=11)→(M=1∨M=3∨M=6∨M=8):=by split <;> omega
  generalize (if M+3>12 then M+3-12 else M+3)=q at *
  unfold dS
  by_cases hq:q=4∨q=6∨q=9∨q=11
  ·rw [if_pos hq];exact h30 (h4 hq)
  ·rw [if_neg hq,if_neg hne,if_neg hr];exact d2
theorem Ib (N:Int) (h0:0≤N) (h1:N≤2932896):1970≤Gz N∧Gz N≤9999∧1≤JK N∧JK N≤dS (Gz N) (Kh N)∧dn (Gz N) (Kh N) (JK N)=N:=by
 obtain ⟨a1,a2,y1,y2,m1,m2,d1,d2,hN,h11,h30⟩:=HY N h0 h1
 obtain ⟨A,Y,M,D,hp⟩:∃ A Y M D,cc N=⟨A,Y,M,D⟩:=⟨_,_,_,_,rfl⟩
 have hy:Gz N=A * 400+Y+if M+3>12 then 1 else 0:=by simp only [Gz,hp]
 have hm:Kh N=if M+3>12 then M+3-12 else M+3:=by simp only [Kh,hp]
 have hd:JK N=D:=by simp only [JK,hp]
 rw [hp] at a1 a2 y1 y2 m1 m2 d1 d2 hN h11 h30
 simp only at a1 a2 y1 y2 m1 m2 d1 d2 hN h11 h30
 rw [hy,hm,hd]
 have key:dn (A * 400+Y+if M+3>12 then 1 else 0) (if M+3>12 then M+3-12 else M+3) D=N:=by
  rw [← Ef _ _ _ (by split <;> omega) (by split <;> omega)]
  have e4:(A * 400+Y) / 4=100 * A+Y / 4:=by clear h11 h30 hN;omega
  have e100:(A * 400+Y) / 100=4 * A+Y / 100:=by clear h11 h30 hN e4;omega
  have e400:(A * 400+Y) / 400=A:=by clear h11 h30 hN e4 e100;omega
  by_cases h:M+3>12
  ·simp only [if_pos h]
   rw [jP,jP,show A * 400+Y+1-1=A * 400+Y by omega,e4,e100,e400,show M+3-12-3+12=M by omega]
   clear h11 h30 e4 e100 e400
   omega
  ·simp only [if_neg h]
   rw [jK,jK,Int.add_zero,e4,e100,e400,show M+3-3=M by omega]
   clear h11 h30 e4 e100 e400
   omega
 have hday:D≤dS (A * 400+Y+if M+3>12 then 1 else 0) (if M+3>12 then M+3-12 else M+3):=by
  refine Ow _ M D m1 m2 d2 (fun h=>?_) h30
  have:=h11 h
  subst h
  have e:(A * 400+Y+if (11:Int)+3>12 then 1 else 0)=A * 400+(Y+1):=by simp;omega
  rw [e,Iy]
  simpa [iQ] using this
 refine ⟨?_,?_,d1,hday,key⟩
 ·rcases Int.lt_or_le (A * 400+Y+if M+3>12 then 1 else 0) 1970 with h|h
  ·have e1:=cM d1 hday
   have e2:=oy (A * 400+Y+if M+3>12 then 1 else 0) _ e1.1 e1.2
   have e3:=rx (y:=A * 400+Y+if M+3>12 then 1 else 0) (a:=(if M+3>12 then M+3-12 else M+3)+1) (b:=13) jO jO jO
   have e4:=zh (A * 400+Y+if M+3>12 then 1 else 0)
   have e5:=nc (a:=(A * 400+Y+if M+3>12 then 1 else 0)+1) (b:=1970) jO
   have e6:=rC
   unfold dn at key
   omega
  ·exact h
 ·rcases Int.lt_or_le 9999 (A * 400+Y+if M+3>12 then 1 else 0) with h|h
  ·have e1:=cM d1 hday
   have e3:=vR (A * 400+Y+if M+3>12 then 1 else 0) _ e1.1 jO
   have e5:=nc (a:=10000) (b:=A * 400+Y+if M+3>12 then 1 else 0) jO
   have e6:bf 10000=2932897:=by decide
   unfold dn at key
   omega
  ·exact h

def ol (t:Int):Prop:=0≤t∧t≤253402300799
instance (t:Int):Decidable (ol t):=by unfold ol;infer_instance
def D6.zero:D6:=⟨0,0,0,0,0,0⟩
def u5 (t:Int):D6:=⟨Gz (t / 86400),Kh (t / 86400),JK (t / 86400),t % 86400 / 3600,t % 86400 % 3600 / 60,t % 86400 % 60⟩
def kA (t:Int):D6:=if ol t then u5 t else D6.zero
def Az (t:Int):Nat:=if ol t then 0 else 1
theorem o9 {t:Int} (h:ol t):bE (u5 t)∧my (u5 t)=t:=by
 obtain ⟨h0,h1⟩:=h
 obtain ⟨p1,p2,p3,p4,p5⟩:=Ib (t / 86400) jO jO
 refine ⟨⟨p1,p2,p3,p4,?_⟩,?_⟩
 ·simp only [u5];omega
 ·show ((dn (Gz (t / 86400)) (Kh (t / 86400)) (JK (t / 86400)) * 24+t % 86400 / 3600) * 60+t % 86400 % 3600 / 60) * 60+t % 86400 % 60=t
  rw [p5];omega
theorem yq {x:D6} (h:bE x):ol (my x):=by
 obtain ⟨a1,a2,a3,a4,a5,a6,a7,a8,a9,a10⟩:=h
 obtain ⟨p1,p2,_⟩:=JD a1 a2 a3 a4
 have e1:=nc (a:=1970) (b:=x.y) a1
 have e2:=nc (a:=x.y+1) (b:=10000) jO
 have e3:=rC
 have e6:bf 10000=2932897:=by decide
 unfold ol my
 omega
theorem Cv {x:D6} (h:bE x):u5 (my x)=x:=by
 have ht:=yq h
 obtain ⟨hr,hs⟩:=o9 ht
 obtain ⟨a1,a2,a3,a4,a5,a6,a7,a8,a9,a10⟩:=h
 obtain ⟨b1,b2,b3,b4,b5,b6,b7,b8,b9,b10⟩:=hr
 generalize u5 (my x)=z at *
 obtain ⟨y,m,d,hh,mi,s⟩:=x
 obtain ⟨y',m',d',hh',mi',s'⟩:=z
 simp only [my] at *
 have e1:s'=s:=by omega
 subst e1
 have e2:mi'=mi:=by omega
 subst e2
 have e3:hh'=hh:=by omega
 subst e3
 have e4:dn y' m' d'=dn y m d:=by omega
 obtain ⟨rfl,rfl,rfl⟩:=Ou b1 b2 b3 b4 a1 a2 a3 a4 e4
 rfl
end Go.Proofs.YthlpfjnkieaeeaaGreatDoor.Cal
namespace Go.Proofs.YthlpfjnkieaeeaaGreatDoor
set_option linter.unusedVariables false
namespace Am
open Go.RowKit
section
variable {gs:List Nat} [fZ gs]
open Go.RowKit Cal
set_option linter.unusedVariables false

def dF (x:D6) (i:Nat):CV:=match i with|0=>.c (.int .i64 x.y)|1=>.c (.int .i64 x.m)|2=>.c (.int .i64 x.d)|3=>.c (.int .i64 x.h)|4=>.c (.int .i64 x.mi)|_=>.c (.int .i64 x.s)
def vQ (x:D6):CV:=.agg 6 (dF x)

theorem PH {g:List Nat} (t:Int):bM g Tryz.prog 255 [.c (.int .i64 t)] (.c (.bool (decide (ol t)))):=by
 refine ai 9 Tryz.func255 fun al w0 F0 St0=>?_;refine jU 1216516 ?_;refine ay 5 (fun g27=>?_) fun g27=>?_
 ·refine jU 800070005110000000021 ?_;refine cB ?_
  (simp [ol, *];done)
 refine jU 800070005150044 ?_;refine cB ?_
 (simp [ol, *];done)
theorem LP {g:List Nat} (y:Int):bM g Tryz.prog 294 [.c (.int .i64 y)] (.c (.bool (iQ y))):=by
 refine ai 16 Tryz.func294 fun al w0 F0 St0=>?_;refine jU 16516 ?_;refine jq (oZ rfl rfl rfl (by (omega))) ?_;refine jU 12 ?_;refine ay 6 (fun g30=>?_) fun g30=>?_
 rotate_left
 ·refine jU 800070005150044444444 ?_;refine cB ?_
  simp only [wL] at *
  rw [mb]
  (simp [*];done)
 refine jU 1 ?_;refine jq (oZ rfl rfl rfl (by (omega))) ?_;refine jU 12 ?_;refine ay 10 (fun g30_2=>?_) fun g30_2=>?_
 ·refine jU 8000700051100000000100000000444 ?_;refine cB ?_
  simp only [ne_eq,wL] at *
  rw [mb]
  (simp [*];done)
 refine jU 1 ?_;refine jq (oZ rfl rfl rfl (by (omega))) ?_;refine jU 80007000511000000005002 ?_;refine cB ?_
 simp only [ne_eq,wL,Decidable.not_not] at *
 rw [mb]
 (simp [*];done)
theorem uG {g:List Nat} (y:Int):bM g Tryz.prog 251 [.c (.int .i64 y)] (.c (.bool (iQ y))):=by
 refine ai 14 Tryz.func251 fun al w0 F0 St0=>?_;refine jU 167516 ?_;refine jq (oZ rfl rfl rfl (by (omega))) ?_;refine jU 52 ?_;refine aq (fun h13=>?_) fun h13=>?_
 ·refine jU 800030007000516 ?_;refine cB ?_
  simp only [wL] at *
  rw [mb]
  (simp [*];omega)
 refine jU 16810 ?_;refine jq (oZ rfl rfl rfl (by (omega))) ?_;refine jU 12 ?_;refine ay 9 (fun g16=>?_) fun g16=>?_
 ·refine jU 1 ?_;refine jq (oZ rfl rfl rfl (by (omega))) ?_;refine jU 80007000511000000002 ?_;refine cB ?_
  simp only [ne_eq,wL] at *
  rw [mb]
  (simp [*];done)
 refine jU 8000700051500444 ?_;refine cB ?_
 simp only [wL] at *
 rw [mb]
 (simp [*];done)
theorem Mu {g:List Nat} (y m:Int):bM g Tryz.prog 274 [.c (.int .i64 y),.c (.int .i64 m)] (.c (.int .i64 (dS y m))):=by
 refine ai 21 Tryz.func274 fun al w0 F0 St0=>?_;refine jU 51267205167516 ?_;refine aq (fun h35=>?_) fun h35=>?_
 ·refine jU 80003000500070005169000810 ?_;refine cI ?_
  (simp [dS, *];done)
 refine jU 5126 ?_;refine aq (fun h35_2=>?_) fun h35_2=>?_
 ·refine jU 80003000500070005169000810 ?_;refine cI ?_
  (simp [dS, *];done)
 refine jU 5126 ?_;refine aq (fun h35_3=>?_) fun h35_3=>?_
 ·refine jU 80003000500070005169000810 ?_;refine cI ?_
  (simp [dS, *];done)
 refine jU 8512200 ?_;refine aq (fun h35_4=>?_) fun h35_4=>?_
 ·refine jU 8000300050007000516 ?_;refine cI ?_
  (simp [dS, *];done)
 refine jU 5126 ?_;refine aq (fun h37=>?_) fun h37=>?_
 ·refine jU 167 ?_
  refine ak (ap (LP _) ?_)
  refine jU 5 ?_;refine aq (fun h38=>?_) fun h38=>?_
  ·refine jU 80003000500030007000516 ?_;refine cI ?_
   (simp [dS, *];done)
  refine jU 8000300050007000516810 ?_;refine cI ?_
  (simp [dS, *];done)
 refine jU 12167840010 ?_;refine ay 17 (fun g43=>?_) fun g43=>?_
 ·refine jU 8000300070005169000510000000044 ?_;refine cI ?_
  (simp [dS, *];done)
 refine jU 550021 ?_;refine aq (fun h43=>?_) fun h43=>?_
 ·refine jU 800030007000516 ?_;refine cI ?_
  (simp [dS, *];done)
 refine jU 80007000516810 ?_;refine cI ?_
 (simp [dS, *];done)
theorem lY {g:List Nat} (y m:Int):bM g Tryz.prog 252 [.c (.int .i64 y),.c (.int .i64 m)] (.c (.int .i64 (dS y m))):=by
 refine ai 24 Tryz.func252 fun al w0 F0 St0=>?_;refine jU 12167516 ?_;refine ay 8 (fun g20=>?_) fun g20=>?_
 ·refine jU 8000300070005169000510000000044 ?_;refine cI ?_
  (simp [dS, *];omega)
 refine jU 550021 ?_;refine aq (fun h20=>?_) fun h20=>?_
 ·refine jU 800030007000516 ?_;refine cI ?_
  (simp [dS, *];omega)
 refine jU 6810 ?_
 refine ak (aU 12 1 nj fun p1=>?_)
 refine jU 1216751 ?_;refine ay 15 (fun g24=>?_) fun g24=>?_
 rotate_left
 ·refine jU 810300550044 ?_;refine jE (xQ (aS.blk rfl (fun j hj=>lA [31,28,31,30,31,30,31,31,30,31,30,31] j hj) .nil)) ?_;refine jU 8000700051507009116 ?_;refine cI ?_
  have hm':m=1∨m=2∨m=3∨m=4∨m=5∨m=6∨m=7∨m=8∨m=9∨m=10∨m=11∨m=12:=by omega
  rcases hm' with h|h|h|h|h|h|h|h|h|h|h|h <;> subst h <;> simp_all [dS]
 refine jU 1 ?_
 refine ak (ap (uG _) ?_)
 refine jU 5100000000 ?_;refine aq (fun h24=>?_) fun h24=>?_
 ·refine jU 800030007000516 ?_;refine cI ?_
  (simp [dS, *];done)
 refine jU 810 ?_;refine jE (xQ (aS.blk rfl (fun j hj=>lA [31,28,31,30,31,30,31,31,30,31,30,31] j hj) .nil)) ?_;refine jU 8000700051507009116 ?_;refine cI ?_
 have hm':m=1∨m=2∨m=3∨m=4∨m=5∨m=6∨m=7∨m=8∨m=9∨m=10∨m=11∨m=12:=by omega
 rcases hm' with h|h|h|h|h|h|h|h|h|h|h|h <;> subst h <;> simp_all [dS]
theorem Hn {g:List Nat} (x:D6):bM g Tryz.prog 261 [vQ x] (.c (.bool (decide (bE x)))):=by
 refine ai 56 Tryz.func261 fun al w0 F0 St0=>?_;refine cy ?_
 refine ak (cE 6 fun p1=>?_)
 refine jU 751 ?_;refine ff (.rd 0 (.rd 1 (.rd 2 (.rd 3 (.rd 4 (.rd 5 (.rd 6 (.rd 7 (.rd 8 (.rd 9 (.rd 10 (.rd 11 (.rd 12 (.rd 13 (.rd 14 (.rd 15 (.rd 16 (.rd 17 (.rd 18 (.rd 19 (.one 20 (.rd 21 (.rd 22 (.rd 23 (.rd 24 (.rd 25 (.rd 26 (.rd 27 (.rd 28 (.rd 29 (.rd 30 (.rd 31 (.rd 32 (.rd 33 (.rd 34 (.rd 35 (.rd 36 (.rd 37 (.rd 38 (.rd 39 (.rd 40 (.rd 41 (.rd 42 (.rd 43 (.rd 44 (.rd 45 (.rd 46 (.rd 47 (.rd 48 (.rd 49 (.rd 50 (.rd 51 (.rd 52 (.rd 53 .done)))))))))))))))))))))))))))))))))))))))))))))))))))))) ?_;refine jU 7080010000900000 ?_;refine gG 6 (fun g51=>?_) fun g51=>?_
 rotate_left
 ·refine jU 6006006006006006007030000060060060070300000600600600 ?_;refine pY ?_;refine jU 8000700088070300000600600600703000006006006007030000060060060070300000600600600703000006006006007030000060060060070300000600 ?_;refine cB ?_
  (simp [bE, *];done)
 refine jU 70300000080010000900000 ?_;refine gG 11 (fun g51_2=>?_) fun g51_2=>?_
 rotate_left
 ·refine jU 60060060060060060070300000600600600 ?_;refine pY ?_;refine jU 8000700088070300000600600600703000006006006007030000060060060070300000600600600703000006006006007030000060060060070300000600 ?_;refine cB ?_
  (simp [bE, *];done)
 refine bV (da 2 1 false) ?_;refine jU 70300000080010000 ?_;refine gG 16 (fun g51_3=>?_) fun g51_3=>?_
 rotate_left
 ·refine jU 600600600600600600 ?_;refine pY ?_;refine jU 8000700088070300000600600600703000006006006007030000060060060070300000600600600703000006006006007030000060060060070300000600 ?_;refine cB ?_
  (simp [bE, *];done)
 refine bV (da 2 1 false) ?_;refine jU 1000080000001000090000010000 ?_
 refine kO (ap (Mu _ _) ?_)
 refine jU 703000000800 ?_;refine gG 26 (fun g51_4=>?_) fun g51_4=>?_
 rotate_left
 ·refine jU 80007000880703000006006006007030000060060060070300000600600600703000006006006007030000060060060070300000600600600 ?_;refine cB ?_
  (simp [bE, *];done)
 refine bV (da 3 1 false) ?_;refine jU 70300000080010000 ?_;refine gG 31 (fun g51_5=>?_) fun g51_5=>?_
 rotate_left
 ·refine jU 800070008807030000060060060070300000600600600703000006006006007030000060060060070300000600600600 ?_;refine cB ?_
  (simp [bE, *];done)
 refine bV (da 3 1 false) ?_;refine jU 70300000080010000 ?_;refine gG 36 (fun g51_6=>?_) fun g51_6=>?_
 rotate_left
 ·refine jU 8000700088070300000600600600703000006006006007030000060060060070300000600600600 ?_;refine cB ?_
  (simp [bE, *];done)
 refine bV (da 4 1 false) ?_;refine jU 70300000080010000 ?_;refine gG 41 (fun g51_7=>?_) fun g51_7=>?_
 rotate_left
 ·refine jU 80007000880703000006006006007030000060060060070300000600600600 ?_;refine cB ?_
  (simp [bE, *];done)
 refine bV (da 4 1 false) ?_;refine jU 70300000080010000 ?_;refine gG 46 (fun g51_8=>?_) fun g51_8=>?_
 rotate_left
 ·refine jU 800070008807030000060060060070300000600600600 ?_;refine cB ?_
  (simp [bE, *];done)
 refine bV (da 5 1 false) ?_;refine jU 70300000080010000 ?_;refine gG 51 (fun g51_9=>?_) fun g51_9=>?_
 ·refine bV (da 5 1 false) ?_;refine jU 8000700088070300000080010000 ?_;refine cB ?_
  (simp [bE, *];done)
 refine jU 8000700088070300000600600600 ?_;refine cB ?_
 (simp [bE, *];done)

theorem KO (x:D6):bM gs Tryz.prog 234 [vQ x] (.tup 2 (fl [.c (.int .i64 (if bE x then my x else 0)),.err (if bE x then 0 else 1)])):=by
 refine ai 56 Tryz.func234 fun al w0 F0 St0=>?_;refine cy ?_
 refine ak (cE 6 fun p1=>?_)
 refine jU 67511 ?_;refine eL (aV 6) ?_
 refine ak (ap (Hn x) ?_)
 refine jU 530 ?_;refine aq (fun h78=>?_) fun h78=>?_
 ·refine iy ?_;refine ff (.rd 0 (.rd 1 (.rd 2 .done))) ?_;refine bV (dy 0) ?_;refine jU 8000300070008807070 ?_
  rw [if_neg h78,if_neg h78]
  exact cZ
 refine jU 7810 ?_
 have hr:=Decidable.not_not.1 h78
 obtain ⟨q1,q2,q3,q4,q5,q6,q7,q8,q9,q10⟩:=id hr
 have qm:=cM q3 q4
 have qd:=lB x.y x.m
 have qe:=Ef x.y x.m x.d qm.1 qm.2
 have qs:=yq hr
 unfold ol my at qs
 refine ff (.rd 0 (.rd 1 (.rd 2 (.rd 3 (.rd 4 (.rd 5 (.rd 6 .done))))))) ?_;refine jU 5216788070703000010000800000010000900000 ?_;refine aq (fun h82=>?_) fun h82=>?_
 rotate_left
 ·refine jU 810 ?_
  generalize hdn:dn x.y x.m x.d=N at *
  refine jU 8000700051195060000009950700000099505000000916519995010009600000991960000019600000196000001916 ?_
  rw [if_pos hr,if_pos hr]
  refine cT (cI ?_) ab.nil
  unfold my
  rw [hdn]
  simp only [if_neg h82] at qe
  omega
 refine jU 85119191200 ?_
 generalize hdn:dn x.y x.m x.d=N at *
 refine jU 8000700051195060000009950700000099505000000916519995010009600000991960000019600000196000001916 ?_
 rw [if_pos hr,if_pos hr]
 refine cT (cI ?_) ab.nil
 unfold my
 rw [hdn]
 simp only [if_pos h82] at qe
 omega

set_option maxHeartbeats 1000000 in
theorem N2 (t:Int):bM gs Tryz.prog 221 [.c (.int .i64 t)] (.tup 2 (fl [vQ (kA t),.err (Az t)])):=by
 refine ai 84 Tryz.func221 fun al w0 F0 St0=>?_;refine cy ?_
 refine ak (bD (n:=6) wE rfl fun p1=>?_)
 refine jU 16751 ?_
 refine ak (ap (PH _) ?_)
 refine jU 530 ?_;refine aq (fun h56=>?_) fun h56=>?_
 ·refine iy ?_;refine jI (.rd 0 (.rd 1 (.one 2 (.rd 3 .done)))) ?_;refine ig (ae (n:=6) rfl wE HV rfl rfl) ?_;refine ig (dy 0) ?_
  refine iL (ax 6 ?_)
  refine jU 8700000400000 ?_
  refine jR (ii (cX (hres:=bH rfl (bz 6) aG) (hv:=?_)))
  unfold kA Az
  rw [if_neg h56,if_neg h56]
  exact cT (ab.agg6 cZ cZ cZ cZ cZ cZ) cZ
 refine jU 810 ?_
 have hr:=Decidable.not_not.1 h56
 obtain ⟨r1,r2⟩:=id hr
 refine jU 51960000016 ?_
 obtain ⟨n,hn⟩:∃ n,n=t / 86400+719468:=⟨_,rfl⟩
 have n0:719468≤n∧n≤3652364:=by omega
 refine jE (bF 4 (.c (.int .i64 n)) (cI hn.symm)) ?_;refine jU 511000000165160000016 ?_
 obtain ⟨r,hrr⟩:∃ r,r=n % 146097:=⟨_,rfl⟩
 have r0:0≤r∧r<146097:=by omega
 refine jE (bF 4 (.c (.int .i64 r)) (cI hrr.symm)) ?_;refine jU 5160000096000001960000019600000116 ?_
 obtain ⟨y,hy⟩:∃ y,y=yr r:=⟨_,rfl⟩
 have y0:0≤y∧y≤399:=by rw [hy];exact ⟨(tK r r0.1 r0.2).1,(tK r r0.1 r0.2).2.1⟩
 refine jE (bF 6 (.c (.int .i64 y)) (cI (by rw [hy];rfl))) ?_;refine jU 51996000001960000019116 ?_
 obtain ⟨n2,hn2⟩:∃ n2,n2=r-(365 * y+y / 4-y / 100):=⟨_,rfl⟩
 have q0:0≤n2∧n2≤365:=by rw [hn2,hy];exact Pp r r0.1 r0.2
 refine jE (bF 4 (.c (.int .i64 n2)) (cI hn2.symm)) ?_;refine jU 516000009916 ?_
 obtain ⟨m,hm⟩:∃ m,m=(5 * n2+2) / 153:=⟨_,rfl⟩
 have m0:0≤m∧m≤11:=by omega
 refine jE (bF 7 (.c (.int .i64 m)) (cI hm.symm)) ?_;refine jU 9960000099119191916 ?_;refine jq (ae (n:=6) rfl wE HV rfl rfl) ?_
 refine ak (bD (n:=6) wE rfl fun p2=>?_)
 refine ar (ax 6 ?_)
 refine jU 5250100675 ?_;refine aq (fun h67=>?_) fun h67=>?_
 rotate_left
 ·refine jU 810 ?_
  have hp:cc (t / 86400)=⟨n / 146097,y,m,n2-(153 * m+2) / 5+1⟩:=by
   simp only [cc,← hn,← hrr,← hy,← hn2,← hm]
  have ho:kA t=u5 t:=if_pos hr
  have he:Az t=0:=if_pos hr
  refine jU 500000010000001600000100000016000001651100000016 ?_
  refine ar (ax 1 ?_)
  refine jU 7000000 ?_
  refine ar (ax 1 ?_)
  refine jU 6000000 ?_
  refine ar (ax 1 ?_)
  refine jU 65 ?_;refine eL (aV 6) ?_
  refine ar (ax 6 ?_)
  refine jU 51 ?_
  refine jR (cX (hres:=bH rfl (bz 6) aG) (hv:=?_))
  rw [ho,he]
  refine cT (ab.agg6 (cI ?_) (cI ?_) (cI ?_) (cI ?_) (cI ?_) (cI ?_)) ab.nil
  ·show _=Gz (t / 86400)
   simp only [Gz,hp]
   rw [if_neg h67,Int.add_zero]
  ·show _=Kh (t / 86400)
   simp only [Kh,hp]
   rw [if_neg h67]
  ·show _=JK (t / 86400)
   simp only [JK,hp]
  ·rfl
  ·rfl
  ·show _=t % 86400 % 60
   rfl
 refine jU 1009501006 ?_
 refine ar (ax 1 ?_)
 refine jU 90950902005 ?_
 refine ar (ax 1 ?_)
 refine jU 85 ?_
 have hp:cc (t / 86400)=⟨n / 146097,y,m,n2-(153 * m+2) / 5+1⟩:=by
  simp only [cc,← hn,← hrr,← hy,← hn2,← hm]
 have ho:kA t=u5 t:=if_pos hr
 have he:Az t=0:=if_pos hr
 refine jU 500000010000001600000100000016000001651100000016 ?_
 refine ar (ax 1 ?_)
 refine jU 7000000 ?_
 refine ar (ax 1 ?_)
 refine jU 6000000 ?_
 refine ar (ax 1 ?_)
 refine jU 65 ?_;refine eL (aV 6) ?_
 refine ar (ax 6 ?_)
 refine jU 51 ?_
 refine jR (cX (hres:=bH rfl (bz 6) aG) (hv:=?_))
 rw [ho,he]
 refine cT (ab.agg6 (cI ?_) (cI ?_) (cI ?_) (cI ?_) (cI ?_) (cI ?_)) ab.nil
 ·show _=Gz (t / 86400)
  simp only [Gz,hp]
  rw [if_pos h67]
 ·show _=Kh (t / 86400)
  simp only [Kh,hp]
  rw [if_pos h67]
 ·show _=JK (t / 86400)
  simp only [JK,hp]
 ·rfl
 ·rfl
 ·show _=t % 86400 % 60
  rfl
end
section
variable {gs:List Nat} [fZ gs]
open Go.RowKit Cal
set_option linter.unusedVariables false

def iN (n p:Int):UInt8:=UInt8.ofNat (48+n / p % 10).toNat
def jc (n:Int) (ps:List Int):List UInt8:=ps.map (iN n)
theorem rg {n p:Int} (h0:0≤n / p):((iN n p).toNat:Int)=48+n / p % 10:=by
 unfold iN
 rw [UInt8.toNat_ofNat']
 omega
theorem xL {n:Int} {ps:List Int} {l:List UInt8} {i:Nat} (h:i<ps.length):l++jc n (ps.take (i+1))=l++jc n (ps.take i)++[iN n (ps.getD i 0)]:=by
 have e:ps.take (i+1)=ps.take i++[ps.getD i 0]:=by
  rw [List.take_succ_eq_append_getElem h]
  simp [List.getD,h]
 rw [e,jc,List.map_append,← List.append_assoc]
 rfl
theorem vz {gs:List Nat} (g:Option Nat) (l:List UInt8) (n:Int) (ps:List Int) (h0:0≤n) (h9:n≤9223372036854775807) (hp:∀ p ∈ ps,1≤p) (hl:l.length+ps.length≤140737488355328) :
  AC gs Tryz.prog 222 [(g,.blk l.length (ft l))] [.os 0 g 0 l.length 1,.c (.int .i64 n),wl ps] (we (l++jc n ps).length 1 (l++jc n ps).length (ft (l++jc n ps))):=by
 refine ai 26 Tryz.func222 fun al w0 F0 St0=>?_;refine jU 20513167516 ?_;refine aF (α:=Nat×Option Nat) [0,8,11,12,13,14,15,16,17,18,19,20,21,22,23,24] (fun (i,g)=>[(0,.os 0 g 0 (l++jc n (ps.take i)).length 1),(11,.c (.int .i64 (i:Nat)))]) (fun (i,g)=>[(g,.blk (l++jc n (ps.take i)).length (ft (l++jc n (ps.take i))))]) (fun i=>i.1≤ps.length) (fun i=>ps.length-i.1) ((0,g)) ?_ (fun _=>rfl) ?_ ?_ ?_
 ·simp
 ·simp only [List.take_zero,jc,List.map_nil,List.append_nil]
  (repeat (first|exact bZ.nil|refine bZ.cons cZ ?_))
 ·show aS [(g,bp.blk l.length (ft l))] [(g,.blk (l++jc n (ps.take 0)).length (ft (l++jc n (ps.take 0))))]
  simp only [List.take_zero,jc,List.map_nil,List.append_nil]
  exact .same .nil
 ·rintro ⟨i,g'⟩ (hi:i≤ps.length)
  refine jU 7526 ?_;refine aq (fun h91=>?_) fun h91=>?_
  rotate_left
  ·refine jU 7000511684000200020006000 ?_
   have e:ps.take i=ps:=List.take_of_length_le jO
   exact vK 0 (.inl rfl) (aA rfl (aP rfl)) rfl (by rw [e]) (by rw [e];exact Nat.le_refl _) (fun _=>by rw [e]) (fun _ _=>by rw [e];exact cZ)
  refine jU 51607006207810 ?_
  have hlt:i<ps.length:=by omega
  have hpi:1≤ps.getD i 0:=by
   rw [List.getD_eq_getElem?_getD,List.getElem?_eq_getElem hlt]
   exact hp _ (List.getElem_mem hlt)
  have hq0:0≤n / ps.getD i 0:=Int.ediv_nonneg h0 jO
  have hq1:n / ps.getD i 0≤n:=Int.ediv_le_self _ h0
  have hle:(jc n (ps.take i)).length=i:=by simp [jc];omega
  refine jU 80000091000000600000111200 ?_
  refine ak (aU 1 1 f7 fun p1=>?_)
  refine ar (bC (l2:=[iN n (ps.getD i 0)]) rfl rfl rfl (Nat.le_refl _) (fun _ _=>cZ) (aY rfl (.inl rfl) jD) rfl (dt (.cons (cI ((by rw [rg hq0]))) .nil)) Tryz.underlying22 iM qi f7 rB rfl (by (simp;omega)) (eM rfl rfl) rfl rfl (fun p2=>?_))
  refine jU 8519200840051 ?_
  refine aw ((i+1,p2)) ?_ ?_ (h5:=?_) (h7:=?_)
  ·exact hlt
  ·omega
  ·simp only [xL hlt]
   (repeat (first|exact bZ.nil|refine bZ.cons cZ ?_))
  ·simp only [xL hlt]
   exact .same .nil

def cW (x:D6):List UInt8:=jc x.y [1000,100,10,1]++jc x.m [10,1]++jc x.d [10,1]++jc x.h [10,1]++jc x.mi [10,1]++jc x.s [10,1]++[90]
def nB (x:D6):List Int:=[x.m,x.d,x.h,x.mi,x.s]
def lq (x:D6) (i:Nat):List UInt8:=jc x.y [1000,100,10,1]++((nB x).take i).flatMap fun n=>jc n [10,1]
theorem xb {x:D6} {i:Nat} (h:i<(nB x).length):lq x (i+1)=lq x i++jc ((nB x).getD i 0) [10,1]:=by
 have e:(nB x).take (i+1)=(nB x).take i++[(nB x).getD i 0]:=by
  rw [List.take_succ_eq_append_getElem h]
  simp [List.getD,h]
 unfold lq
 rw [e,List.flatMap_append,← List.append_assoc]
 simp
theorem xc (x:D6) {i:Nat} (h:i≤5):(lq x i).length=4+2 * i:=by
 rcases i with _|_|_|_|_|_|i <;> simp [lq,nB,jc] <;> omega
theorem Fw {t:Int} (h:ol t):bE (kA t):=by
 rw [kA,if_pos h];exact (o9 h).1
theorem DL {x:D6} (h:bE x) {i:Nat} (hi:i<(nB x).length):0≤(nB x).getD i 0∧(nB x).getD i 0≤99:=by
 obtain ⟨q1,q2,q3,q4,q5,q6,q7,q8,q9,q10⟩:=id h
 have:=lB x.y x.m
 have qm:=cM q3 q4
 rcases i with _|_|_|_|_|i
 ·show 0≤x.m∧x.m≤99;omega
 ·show 0≤x.d∧x.d≤99;omega
 ·show 0≤x.h∧x.h≤99;omega
 ·show 0≤x.mi∧x.mi≤99;omega
 ·show 0≤x.s∧x.s≤99;omega
 ·simp [nB] at hi;omega
theorem Au (x:D6):lq x 5++[90]=cW x:=by simp [lq,nB,cW]
theorem NU (t:Int):bM gs Tryz.prog 174 [.c (.int .i64 t)] (.tup 2 (fl [bu (if ol t then cW (kA t) else []),.err (Az t)])):=by
 refine ai 45 Tryz.func174 fun al w0 F0 St0=>?_;refine jU 165116 ?_
 refine ak (ap (N2 t) ?_)
 refine jU 9009001 ?_
 refine ak (bD (n:=6) wE rfl fun p1=>?_)
 refine ar (ax 6 ?_)
 refine jU 550000016751 ?_;refine aq (fun h100=>?_) fun h100=>?_
 ·refine jU 80003000700051116 ?_
  have hn:¬ ol t:=fun h=>h100 (if_pos h)
  rw [if_neg hn]
  exact cT cN cZ
 refine jU 810 ?_
 have hp0:[]++jc (kA t).y [1000,100,10,1]=lq (kA t) 0:=by simp [lq]
 have q0:ol t:=by unfold Az at h100;by_cases h:ol t <;> simp_all
 have hr:bE (kA t):=Fw q0
 obtain ⟨y1,y2,_⟩:=id hr
 have q1:0≤(kA t).y:=by omega
 have q2:(kA t).y≤9999:=by omega
 refine jU 50906 ?_
 refine ak (aU 4 1 nj fun p2=>?_)
 refine bg (freeze 1 rfl) ?_;refine bg (gv (ft [])) ?_
 refine ar (PA 2 (vz none [] (kA t).y [1000,100,10,1] q1 jO jD jD) (fun p3=>?_) (ho:=rfl) (he:=(.cons (mz rfl) (.cons (se rfl cZ) (.cons (Dy [1000,100,10,1] rfl rfl rfl jD (fun a ha=>by rw [Nat.zero_add];exact lA [1000,100,10,1] a ha)) .nil)))))
 refine jU 506000000507000000505000000501000501006751 ?_
 refine ak (aU 5 1 nj fun p4=>?_)
 refine jU 3 ?_;refine bg (xQ (.same (.same (.same (.blk rfl (fun j hj=>lA (nB (kA t)) j hj) .nil))))) ?_;refine jU 2051 ?_;refine aF (α:=Nat×Option Nat) [6,8,33,34,35,36,37,38,39,40,41] (fun (i,g)=>[(6,.os 2 g 0 (lq (kA t) i).length 1),(33,.c (.int .i64 (i:Nat)))]) (fun (i,g)=>[(p1,.blk 6 (dF (kA t))),(p2,.dead),(g,.blk (lq (kA t) i).length (ft (lq (kA t) i))),(p4,.blk 5 (kQ (nB (kA t))))]) (fun i=>i.1≤5) (fun i=>5-i.1) ((0,p3)) ?_ (fun _=>rfl) ?_ ?_ ?_
 ·simp
 ·exact .cons (cO (congrArg List.length hp0)) (.cons cZ .nil)
 ·refine .blk rfl (fun j hj=>by rcases j with _|_|_|_|_|_|j <;> first|exact cZ|omega) (.frzDead (.blk (congrArg List.length hp0) (fun j hj=>ab.of_eq (congrArg (ft · j) hp0)) (.same .nil)))
 ·rintro ⟨i,g'⟩ (hi:i≤5)
  refine jU 7526 ?_;refine aq (fun h104=>?_) fun h104=>?_
  rotate_left
  ·refine jU 84000200020006000 ?_
   have hlen:=xc (kA t) hi
   have hi5:i=5:=by omega
   have he:Az t=0:=if_pos q0
   refine jU 16 ?_
   refine ak (aU 1 1 f7 fun p5=>?_)
   refine ar (bC (l2:=[90]) rfl rfl rfl (Nat.le_refl _) (fun _ _=>cZ) (aY rfl (.inl rfl) jD) rfl (dt (.cons (cI (rfl)) .nil)) Tryz.underlying22 iM qi f7 rB rfl (by (simp;omega)) (eM rfl rfl) rfl rfl (fun p6=>?_))
   refine bg (freeze 2 rfl) ?_;refine bg (eP 44 (fun a _=>ft (cW (kA t)) a) rfl rfl jO (fun a b ha hb=>ab.of_eq (by rw [show 0+(a * 1+b)=a by omega,← Au,hi5]))) ?_;refine jU 80007000511 ?_
   rw [if_pos q0,he]
   exact cT (ab.rs (by rw [hi5,Au]) (fun _ _ _ _=>cZ)) ab.nil
  refine jU 51507006207810 ?_
  have hlt:i<(nB (kA t)).length:=by simp [nB];omega
  refine jE (bF 8 (.c (.int .i64 ((nB (kA t)).getD i 0))) cZ) ?_;refine jU 11200 ?_
  refine ak (aU 2 1 nj fun p5=>?_)
  refine bg (freeze 4 rfl) ?_
  refine ar (PA 2 (vz g' (lq (kA t) i) ((nB (kA t)).getD i 0) [10,1] (DL hr hlt).1 (by have:=(DL hr hlt).2;omega) jD (by show (lq (kA t) i).length+2≤_;rw [xc _ hi];omega)) (fun p6=>?_) (ho:=rfl) (he:=(.cons (se rfl (cO rfl)) (.cons (se rfl cZ) (.cons (Dy [10,1] rfl rfl rfl jD (fun a ha=>by rw [Nat.zero_add];exact lA [10,1] a ha)) .nil)))))
  refine jU 8519200840051 ?_
  refine aw ((i+1,p6)) ?_ ?_ (h5:=?_) (h7:=?_)
  ·omega
  ·omega
  ·simp only [xb hlt]
   (repeat (first|exact bZ.nil|refine bZ.cons cZ ?_))
  ·simp only [xb hlt]
   (repeat (first|exact aS.nil|refine aS.same ?_))
end
end Am
end Go.Proofs.YthlpfjnkieaeeaaGreatDoor
namespace Go.Proofs.YthlpfjnkieaeeaaGreatDoor
set_option linter.unusedVariables false

def tX (l:List UInt8):Bool×Nat :=
 if l.length=0 then (false,2) else if 1<l.length∨((l.getD 0 0).toNat≠255∧(l.getD 0 0).toNat≠0) then (false,4) else (decide ((l.getD 0 0).toNat=255),0)
theorem IV (l:List UInt8) (h:1<l.length):mW l=(((l.getD 0 0).toNat == 0 && decide ((l.getD 1 0).toNat<128)) || ((l.getD 0 0).toNat == 255 && decide (128≤(l.getD 1 0).toNat))):=by
 match l,h with
 | x::y::r,_=>rfl
theorem cF (l:List UInt8) (h:l.length≤1):mW l=false:=by
 match l,h with
 | [],_=>rfl
 | [x],_=>rfl
 | x::y::r,h=>simp at h
theorem eC (l:List UInt8) (h:0<l.length):eO (l.take 1)=BL (l.getD 0 0):=by
 match l,h with
 | x::r,_=>simp [eO]
theorem ij (l:List UInt8) (k:Nat) (h:k+1<l.length):eO (l.take (k+1+1))=eO (l.take (k+1)) * 256+(l.getD (k+1) 0).toNat:=by
 rw [List.take_succ_eq_append_getElem h,oH _ (by
  intro e
  have:=congrArg List.length e
  simp at this
  rw [this] at h
  simp at h)]
 simp [List.getD,h]
def aI (l:List UInt8) (least most:Int):Int×Nat :=
 if (bT l).2≠0 then (0,(bT l).2) else if (bT l).1<least∨most<(bT l).1 then (0,1) else ((bT l).1,0)
theorem GQ (V c:Int):IntKind.u64.wrap (IntKind.u64.wrap (V % 18446744073709551616 * 256)+c)=(V * 256+c) % 18446744073709551616:=by
 rw [IntKind.wrap_u64,IntKind.wrap_u64]
 omega
def vk (l:List UInt8) (k:Nat):Int:=if k=0 then (if (l.getD 0 0).toNat<128 then 0 else -1) else eO (l.take k)
theorem KA (l:List UInt8) (k:Nat) (h:k<l.length):vk l (k+1)=vk l k * 256+(l.getD k 0).toNat:=by
 cases k with
 | zero =>
  simp only [vk,if_true,Nat.zero_add,Nat.one_ne_zero,if_false]
  rw [eC l jO]
  unfold BL
  split <;> omega
 | succ k =>
  simp only [vk,Nat.add_one_ne_zero,if_false]
  exact ij l k h
theorem zI (l:List UInt8) (h:l.length≤8):-9223372036854775808≤eO l∧eO l<9223372036854775808:=by
 by_cases h7:l.length≤7
 ·have:=pM l h7
  omega
 ·have e:l=l.take 7++[l.getD 7 0]:=by
   have:l.take (7+1)=l.take 7++[l[7]]:=List.take_succ_eq_append_getElem jO
   rw [List.take_of_length_le jO] at this
   have e7:l.getD 7 0=l[7]:=by simp [List.getD,show 7<l.length by omega]
   rw [e7]
   exact this
  have h2:=pM (l.take 7) (by simp;omega)
  have hc:=(l.getD 7 0).toNat_lt
  rw [e,oH _ (by intro e;have:=congrArg List.length e;simp at this;rw [this] at h7;simp at h7)]
  omega
end Go.Proofs.YthlpfjnkieaeeaaGreatDoor
namespace Go.Proofs.YthlpfjnkieaeeaaGreatDoor
open Go.RowKit

theorem JR (a:Int) (c:UInt8):lf (a * 256+c.toNat)=c:=by
 apply UInt8.toNat_inj.1
 have h1:=el (a * 256+c.toNat)
 have:=c.toNat_lt
 omega
theorem JQ (c:UInt8):lf (BL c)=c:=by
 apply UInt8.toNat_inj.1
 have h1:=el (BL c)
 have:=c.toNat_lt
 unfold BL at h1 ⊢
 split at h1 <;> rename_i hc
 ·rw [if_pos hc];omega
 ·rw [if_neg hc];omega
theorem Dv (l:List UInt8):∀ j,j<l.length→sh j (eO l)=eO (l.take (l.length-j)):=by
 intro j
 induction j with
 | zero=>intro _;simp [sh]
 | succ j ih =>
  intro hj
  simp only [sh]
  rw [ih jO]
  have e:l.length-j=(l.length-(j+1)-1)+1+1:=by omega
  rw [e,ij l _ jO,show l.length-(j+1)=l.length-(j+1)-1+1 by omega]
  have:=(l.getD (l.length-(j+1)-1+1) 0).toNat_lt
  simp only [Nat.add_sub_cancel]
  omega
theorem zk (l:List UInt8) (j:Nat) (hj:j<l.length):lf (sh j (eO l))=l.getD (l.length-1-j) 0:=by
 rw [Dv l j hj]
 by_cases h1:l.length-j=1
 ·rw [h1,eC l jO,JQ,show l.length-1-j=0 by omega]
 ·have e:l.length-j=(l.length-1-j-1)+1+1:=by omega
  rw [e,ij l _ jO,JR,show l.length-1-j-1+1=l.length-1-j by omega]
theorem Gi (l:List UInt8):(dm l.length (eO l)).reverse=l:=by
 refine List.ext_getElem? fun i=>?_
 by_cases hi:i<l.length
 ·have h1:=rt (eO l) l.length i hi
  rw [zk l _ jO] at h1
  have e:l.length-1-(l.length-1-i)=i:=by omega
  rw [e] at h1
  have hl:i<(dm l.length (eO l)).reverse.length:=by simp [bR];exact hi
  rw [List.getElem?_eq_getElem hl,List.getElem?_eq_getElem hi]
  simp only [List.getD,List.getElem?_eq_getElem hl,List.getElem?_eq_getElem hi,Option.getD_some] at h1
  rw [h1]
 ·rw [List.getElem?_eq_none (by simp [bR];omega),List.getElem?_eq_none jO]
theorem xG {l:List UInt8} (h:(bT l).2=0):0<l.length∧l.length≤8∧mW l=false∧(bT l).1=eO l:=by
 unfold bT at h ⊢
 split at h
 ·cases h
 ·rename_i h0
  split at h
  ·cases h
  ·rename_i hi
   split at h
   ·cases h
   ·rename_i h8
    rw [if_neg h0,if_neg hi,if_neg h8]
    exact ⟨by omega,by omega,by simpa using hi,rfl⟩
theorem I9 {l:List UInt8} (h:(bT l).2=0):wj (bT l).1 (l.length-1)∧(dm (l.length-1+1) (bT l).1).reverse=l:=by
 obtain ⟨h1,h2,h3,h4⟩:=xG h
 rw [h4,show l.length-1+1=l.length by omega]
 have hd:=Gi l
 have hs:nM (l.length-1) (eO l)=true:=by
  rw [oL,Dv l _ jO,show l.length-(l.length-1)=1 by omega,eC l jO]
  have:=(l.getD 0 0).toNat_lt
  unfold BL
  split <;> omega
 refine ⟨⟨by omega,hs,fun j hj=>?_⟩,hd⟩
 cases he:nM j (eO l) with
 | false=>rfl
 | true =>
  have hm:=kv (eO l) j (l.length-2) jO he
  have hid:=fM (eO l) (l.length-2) (by rw [show l.length-2+1=l.length-1 by omega];exact hs)
  rw [show l.length-2+2=l.length by omega,hd,h3,hm] at hid
  cases hid
theorem Ma {l:List UInt8} (h:(bT l).2=0):-9223372036854775808≤(bT l).1∧(bT l).1≤9223372036854775807:=by
 obtain ⟨_,h2,_,h4⟩:=xG h
 have:=zI l h2
 rw [h4]
 omega
end Go.Proofs.YthlpfjnkieaeeaaGreatDoor
namespace Go.Proofs.YthlpfjnkieaeeaaGreatDoor
set_option linter.unusedVariables false
namespace Am
open Go.RowKit
section
variable {gs:List Nat} [fZ gs]

theorem BY {gs:List Nat} (h r:Int):bM gs Tryz.prog 217 [.c (.int .u8 h),.c (.int .i64 r)] (.c (.bool ((r == 0 && decide (h<128)) || (r == -1 && decide (128≤h))))):=by
 refine ai 19 Tryz.func217 fun al w0 F0 St0=>?_;refine jU 1216516 ?_;refine ay 7 (fun g28=>?_) fun g28=>?_
 rotate_left
 ·refine jU 121150044 ?_;refine ay 14 (fun g28_2=>?_) fun g28_2=>?_
  ·refine jU 800070005150010000000021 ?_
   (refine cB ?_;simp [*];done)
  refine jU 800070005150050044 ?_
  (refine cB ?_;simp [*];done)
 refine jU 110000000021 ?_;refine ay 11 (fun g28_2=>?_) fun g28_2=>?_
 ·refine jU 8000700051100000000444444 ?_
  (refine cB ?_;simp [*];done)
 refine jU 121 ?_;refine ay 14 (fun g28_3=>?_) fun g28_3=>?_
 ·refine jU 800070005150010000000021 ?_
  omega
 refine jU 800070005150050044 ?_
 (refine cB ?_;simp [*];done)
theorem Oi (c:UInt8):IntKind.i8.wrap ((c.toNat:Nat):Int)=BL c:=by
 have:=c.toNat_lt
 have e:IntKind.i8.wrap (c.toNat:Int)=((c.toNat:Int)+128) % 256-128:=by simp [IntKind.wrap,IntKind.bits,IntKind.signed];omega
 rw [e]
 unfold BL
 split <;> omega
theorem Nt (c:UInt8):-128≤BL c∧BL c≤127:=by
 have:=c.toNat_lt
 unfold BL
 split <;> omega
theorem y9 {l:List UInt8} (h:1<l.length):mW l=true↔((l.getD 0 0).toNat=0∧(l.getD 1 0).toNat<128)∨((l.getD 0 0).toNat=255∧128≤(l.getD 1 0).toNat):=by
 rw [IV l h]
 simp only [Bool.or_eq_true,Bool.and_eq_true,beq_iff_eq,decide_eq_true_eq]
set_option maxHeartbeats 1000000 in
theorem Ky (l:List UInt8):bM gs Tryz.prog 229 [bu l] (.tup 2 (fl [.c (.int .i64 (bT l).1),.err (bT l).2])):=by
 refine kg 0 rfl fun hlen=>?_
 have hsg:=Nt (l.getD 0 0)
 have hid:=fun h=>y9 (l:=l) h
 refine ai 65 Tryz.func229 fun al w0 F0 St0=>?_;refine jU 5116 ?_;refine eW (α:=Unit) [2,3,7,8,9,10,11,12,13,14,15,16,17,18,19,20,21,22,23,24,25,26,27,28,29,30,31,32,33,34,35,36,37,38,39,40,41,42,43,44,45] (fun _=>[]) (fun _=>[]) (fun _=>l.length≠0∧¬ mW l=true∧l.length≤8) (fun _=>rfl) ?_ ?_
 ·refine jU 51231620 ?_;refine aq (fun h34=>?_) fun h34=>?_
  ·refine iy ?_;refine ff (.rd 0 (.rd 1 (.rd 2 .done))) ?_;refine bV (dy 1) ?_;refine jU 80003000500070008807070 ?_
   have hb:bT l=(0,2):=by unfold bT;rw [jP]
   rw [hb];exact cZ
  refine jU 12316 ?_;refine ay 16 (fun g36=>?_) fun g36=>?_
  rotate_left
  ·refine jU 300515004444444444444444444444 ?_
   have hni:¬ mW l=true:=by
    by_cases h1:1<l.length
    ·rw [hid h1];omega
    ·rw [cF l jO];exact Bool.noConfusion
   refine jU 512316 ?_;refine aq (fun h38=>?_) fun h38=>?_
   rotate_left
   ·refine jU 840010 ?_
    refine dh (()) ?_ (h5:=?_) (h7:=?_)
    ·refine ⟨by omega,?_,by omega⟩
     by_cases h1:1<l.length
     ·rw [hid h1];omega
     ·rw [cF l jO];exact Bool.noConfusion
    ·exact .nil
    ·exact .nil
   refine iy ?_;refine ff (.rd 0 (.rd 1 (.rd 2 .done))) ?_;refine bV (dy 0) ?_;refine jU 80003000500070008807070 ?_
   have hb:bT l=(0,1):=by unfold bT;rw [jK,if_neg hni,jP]
   rw [hb];exact cZ
  refine jU 126020000001 ?_;refine ay 21 (fun g36_2=>?_) fun g36_2=>?_
  rotate_left
  ·refine jU 12602000000115004444 ?_;refine ay 32 (fun g36_3=>?_) fun g36_3=>?_
   rotate_left
   ·refine jU 300511000000005005004444 ?_
    have hni:¬ mW l=true:=by
     by_cases h1:1<l.length
     ·rw [hid h1];omega
     ·rw [cF l jO];exact Bool.noConfusion
    refine jU 512316 ?_;refine aq (fun h38=>?_) fun h38=>?_
    rotate_left
    ·refine jU 840010 ?_
     refine dh (()) ?_ (h5:=?_) (h7:=?_)
     ·refine ⟨by omega,?_,by omega⟩
      by_cases h1:1<l.length
      ·rw [hid h1];omega
      ·rw [cF l jO];exact Bool.noConfusion
     ·exact .nil
     ·exact .nil
    refine iy ?_;refine ff (.rd 0 (.rd 1 (.rd 2 .done))) ?_;refine bV (dy 0) ?_;refine jU 80003000500070008807070 ?_
    have hb:bT l=(0,1):=by unfold bT;rw [jK,if_neg hni,jP]
    rw [hb];exact cZ
   refine jU 1 ?_;refine jq (fb (i:=1)) ?_;refine jU 51100000000500100000000260 ?_;refine aq (fun h36=>?_) fun h36=>?_
   ·refine iy ?_;refine ff (.rd 0 (.rd 1 (.rd 2 .done))) ?_;refine jU 800030005000700088070704000000 ?_
    have hb:bT l=(0,4):=by unfold bT;rw [jK,if_pos ((hid jO).2 jO)]
    rw [hb];exact cZ
   have hni:¬ mW l=true:=by
    by_cases h1:1<l.length
    ·rw [hid h1];omega
    ·rw [cF l jO];exact Bool.noConfusion
   refine jU 512316 ?_;refine aq (fun h38=>?_) fun h38=>?_
   rotate_left
   ·refine jU 840010 ?_
    refine dh (()) ?_ (h5:=?_) (h7:=?_)
    ·refine ⟨by omega,?_,by omega⟩
     by_cases h1:1<l.length
     ·rw [hid h1];omega
     ·rw [cF l jO];exact Bool.noConfusion
    ·exact .nil
    ·exact .nil
   refine iy ?_;refine ff (.rd 0 (.rd 1 (.rd 2 .done))) ?_;refine bV (dy 0) ?_;refine jU 80003000500070008807070 ?_
   have hb:bT l=(0,1):=by unfold bT;rw [jK,if_neg hni,jP]
   rw [hb];exact cZ
  refine jU 1 ?_;refine jq (fb (i:=1)) ?_;refine jU 1100000000260 ?_;refine ay 27 (fun g36_3=>?_) fun g36_3=>?_
  ·refine jU 79000511000000001000000004444444444 ?_;refine ff (.rd 0 (.rd 1 (.rd 2 .done))) ?_;refine jU 800030005000700088070704000000 ?_
   have hb:bT l=(0,4):=by unfold bT;rw [jK,if_pos ((hid jO).2 jO)]
   rw [hb];exact cZ
  refine jU 126020000001 ?_;refine ay 32 (fun g36_4=>?_) fun g36_4=>?_
  rotate_left
  ·refine jU 300511000000005005004444 ?_
   have hni:¬ mW l=true:=by
    by_cases h1:1<l.length
    ·rw [hid h1];omega
    ·rw [cF l jO];exact Bool.noConfusion
   refine jU 512316 ?_;refine aq (fun h38=>?_) fun h38=>?_
   rotate_left
   ·refine jU 840010 ?_
    refine dh (()) ?_ (h5:=?_) (h7:=?_)
    ·refine ⟨by omega,?_,by omega⟩
     by_cases h1:1<l.length
     ·rw [hid h1];omega
     ·rw [cF l jO];exact Bool.noConfusion
    ·exact .nil
    ·exact .nil
   refine iy ?_;refine ff (.rd 0 (.rd 1 (.rd 2 .done))) ?_;refine bV (dy 0) ?_;refine jU 80003000500070008807070 ?_
   have hb:bT l=(0,1):=by unfold bT;rw [jK,if_neg hni,jP]
   rw [hb];exact cZ
  refine jU 1 ?_;refine jq (fb (i:=1)) ?_;refine jU 51100000000500100000000260 ?_;refine aq (fun h36=>?_) fun h36=>?_
  ·refine iy ?_;refine ff (.rd 0 (.rd 1 (.rd 2 .done))) ?_;refine jU 800030005000700088070704000000 ?_
   have hb:bT l=(0,4):=by unfold bT;rw [jK,if_pos ((hid jO).2 jO)]
   rw [hb];exact cZ
  have hni:¬ mW l=true:=by
   by_cases h1:1<l.length
   ·rw [hid h1];omega
   ·rw [cF l jO];exact Bool.noConfusion
  refine jU 512316 ?_;refine aq (fun h38=>?_) fun h38=>?_
  rotate_left
  ·refine jU 840010 ?_
   refine dh (()) ?_ (h5:=?_) (h7:=?_)
   ·refine ⟨by omega,?_,by omega⟩
    by_cases h1:1<l.length
    ·rw [hid h1];omega
    ·rw [cF l jO];exact Bool.noConfusion
   ·exact .nil
   ·exact .nil
  refine iy ?_;refine ff (.rd 0 (.rd 1 (.rd 2 .done))) ?_;refine bV (dy 0) ?_;refine jU 80003000500070008807070 ?_
  have hb:bT l=(0,1):=by unfold bT;rw [jK,if_neg hni,jP]
  rw [hb];exact cZ
 ·rintro u ⟨hl0,hni,hl8⟩
  refine jU 60200000016 ?_;refine jq (fH rfl rfl Tryz.underlying5 Tryz.underlying303 (BL (l.getD 0 0)) (Oi _)) ?_;refine jq (fH rfl rfl Tryz.underlying303 Tryz.underlying3 (BL (l.getD 0 0)) (gx (k:=.i64) (by show _∧_;omega))) ?_;refine jU 751 ?_
  have hb:bT l=(eO l,0):=by unfold bT;rw [jK,if_neg hni,jK]
  have hv1:=eC l jO
  refine jU 16 ?_;refine jq (nF (hz1:=(show (1:Int)=((1:Nat):Int) from rfl))) ?_;refine jU 20513 ?_;refine aF (α:=Nat) [4,6,54,55,56,57,58,59,60,61,62,63] (fun i=>[(54,.c (.int .i64 (i:Nat))),(4,.c (.int .i64 (eO (l.take (i+1)))))]) (fun _=>[]) (fun i=>i+1≤l.length) (fun i=>l.length-i) (0) ?_ (fun _=>rfl) ?_ ?_ ?_
  ·show 0+1≤l.length;omega
  ·exact .cons cZ (.cons (cI hv1.symm) .nil)
  ·(repeat (exact aS.nil))
  ·rintro i (hi:i+1≤l.length)
   have hb:bT l=(eO l,0):=by unfold bT;rw [jK,if_neg hni,jK]
   have hv1:=eC l jO
   refine jU 7526 ?_;refine aq (fun h42=>?_) fun h42=>?_
   rotate_left
   ·refine jU 800070005111684000200020006000 ?_
    have hil:i+1=l.length:=by simp only [List.length_drop] at *;omega
    rw [hb,hil,List.take_length];exact cT cZ (ab.nilE rfl)
   refine jU 207810 ?_
   have hb:bT l=(eO l,0):=by unfold bT;rw [jK,if_neg hni,jK]
   have hv1:=eC l jO
   refine cy ?_;refine jq (fb (i:=i) (hz:=by omega)) ?_;refine jU 5160 ?_
   have hdl:(l.drop 1).length=l.length-1:=List.length_drop
   have hde:(l.drop 1).getD i 0=l.getD (i+1) 0:=by simp [List.getD]
   have hvs:=ij l i jO
   have hsm:=pM (l.take (i+1)) (by rw [List.length_take];omega)
   have hcl:=(l.getD (i+1) 0).toNat_lt
   have hcd:=((l.drop 1).getD i 0).toNat_lt
   refine jU 1200 ?_;refine jq (Hv rfl rfl rfl (by (omega)) ((eO (l.take (i+1)) * 256)) ((by show IntKind.i64.wrap (eO (l.take (i+1)) * 256)=_;exact gx (k:=.i64) (by show _∧_;omega)))) ?_;refine jU 1 ?_;refine jq (fH rfl rfl Tryz.underlying5 Tryz.underlying3 ((((l.drop 1).getD i 0).toNat:Nat)) (gx (k:=.i64) (by show _∧_;omega))) ?_;refine jq (O4 rfl rfl rfl (eO (l.take (i+1+1))) ((by rw [hde,hvs];exact IW _ _ jO jO jO jO))) ?_;refine jU 840051 ?_
   have hb:bT l=(eO l,0):=by unfold bT;rw [jK,if_neg hni,jK]
   have hv1:=eC l jO
   refine jU 8519200 ?_
   refine aw (i+1) ?_ ?_ (h5:=?_)
   ·show i+1+1≤l.length;omega
   ·show l.length-(i+1)<l.length-i;omega
   ·exact .cons (cI jO) (.cons cZ .nil)
theorem wG (l:List UInt8) (least most:Int):bM gs Tryz.prog 184 [bu l,.c (.int .i64 least),.c (.int .i64 most)] (.tup 2 (fl [.c (.int .i64 (aI l least most).1),.err (aI l least most).2])):=by
 refine ai 30 Tryz.func184 fun al w0 F0 St0=>?_;refine jU 165116 ?_
 refine ak (ap (Ky l) ?_)
 refine jU 51500000162075119009001 ?_;refine aq (fun h52=>?_) fun h52=>?_
 ·refine jU 800030005000700051116 ?_
  have hb:aI l least most=(0,(bT l).2):=by unfold aI;rw [jP]
  rw [hb];exact cZ
 refine jU 12116 ?_;refine ay 23 (fun g54=>?_) fun g54=>?_
 ·refine jU 7900051100000000444 ?_;refine ff (.rd 0 (.rd 1 (.rd 2 .done))) ?_;refine bV (dy 0) ?_;refine jU 80003000500070008807070 ?_
  have hb:aI l least most=(0,1):=by unfold aI;rw [jK,jP]
  rw [hb];exact cZ
 refine jU 51500211 ?_;refine aq (fun h54=>?_) fun h54=>?_
 rotate_left
 ·refine jU 8000700051116840010 ?_
  have hb:aI l least most=((bT l).1,0):=by unfold aI;rw [jK,jK]
  rw [hb];exact cT cZ (ab.nilE rfl)
 refine iy ?_;refine ff (.rd 0 (.rd 1 (.rd 2 .done))) ?_;refine bV (dy 0) ?_;refine jU 80003000500070008807070 ?_
 have hb:aI l least most=(0,1):=by unfold aI;rw [jK,jP]
 rw [hb];exact cZ
def Ob (n:Int):Nat:=((List.range 8).find? fun k=>nM k n).getD 7
def fa (n:Int):List UInt8:=(dm (Ob n+1) n).reverse
theorem yP {n:Int} (h1:-9223372036854775808≤n) (h2:n≤9223372036854775807):wj n (Ob n):=by
 unfold Ob
 have h7:=rQ n h1 h2
 cases e:(List.range 8).find? fun k=>nM k n with
 | none =>
  have:=List.find?_eq_none.1 e 7 (by simp)
  exact absurd h7 this
 | some k =>
  rw [List.find?_range_eq_some] at e
  obtain ⟨e1,e2,e3⟩:=e
  have:=List.mem_range.1 e2
  exact ⟨by show k≤7;omega,e1,fun j hj=>by have:=e3 j hj;simpa using this⟩
theorem mH {n:Int} {k:Nat} (h1:-9223372036854775808≤n) (h2:n≤9223372036854775807) (h:wj n k):(dm (k+1) n).reverse=fa n:=by
 unfold fa
 rw [h.unique (yP h1 h2)]
theorem At {n:Int} (h1:-9223372036854775808≤n) (h2:n≤9223372036854775807):bT (fa n)=(n,0):=I8 n _ (yP h1 h2)
theorem n8 (n:Int) (h1:-9223372036854775808≤n) (h2:n≤9223372036854775807):1≤(fa n).length∧(fa n).length≤8:=by
 have:=(yP h1 h2).1
 unfold fa
 rw [List.length_reverse,bR]
 omega
theorem O2 (a:Int):a.fdiv (2 ^ (min (8:Int).toNat IntKind.i64.bits))=a / 256:=by
 show a.fdiv 256=a / 256
 rw [Int.fdiv_eq_ediv_of_nonneg a jD]
theorem x7 (a:Int):IntKind.u8.wrap a=((lf a).toNat:Nat):=by rw [IntKind.wrap_u8,el]
theorem Gj (k:Nat) (n:Int):(((dm (k+1) n).getD k 0).toNat:Int)=sh k n % 256:=by rw [vO _ _ _ jO,el]
set_option maxHeartbeats 1000000 in
theorem Kw {gs:List Nat} (n:Int) (h1:-9223372036854775808≤n) (h2:n≤9223372036854775807):bM gs Tryz.prog 168 [.c (.int .i64 n)] (bu (fa n)):=by
 have h7:=rQ n h1 h2
 refine ai 29 Tryz.func168 fun al w0 F0 St0=>?_;refine jU 16516 ?_;refine jq (fH rfl rfl Tryz.underlying3 Tryz.underlying5 ((((lf n).toNat:Nat):Int)) (x7 n)) ?_
 refine ak (aU 1 1 f7 fun p1=>?_)
 refine jU 16751 ?_;refine jq (uU rfl rfl rfl (by (omega)) (_) (rfl)) ?_;refine jU 2051 ?_;refine aF (α:=Nat×Option Nat) [3,4,10,11,12,13,14,15,16,17,18,19,20,21,22,23,24,25] (fun (k,g)=>[(3,.os 0 g 0 (dm (k+1) n).length 1),(4,.c (.int .i64 (sh (k+1) n)))]) (fun (k,g)=>[(g,.blk (dm (k+1) n).length (ft (dm (k+1) n)))]) (fun (k,g)=>k≤7∧∀ j,j<k→nM j n=false) (fun (k,g)=>8-k) ((0,p1)) ?_ (fun _=>rfl) ?_ ?_ ?_
 ·exact ⟨Nat.zero_le _,fun j hj=>absurd hj (Nat.not_lt_zero j)⟩
 ·exact .cons cZ (.cons (cI (O2 n)) .nil)
 ·exact .blk rfl (fun j hj=>by obtain rfl:j=0:=(by rw [bR] at hj;omega);exact cZ) .nil
 ·rintro ⟨k,g⟩ ⟨(hk:k≤7),hno⟩
  have hdl:=Gj k n
  have hdn:=bR (k+1) n
  refine jU 931167 ?_;refine jq (fb (i:=k) (hz:=by omega)) ?_;refine jU 150 ?_
  refine ak (ap (BY (((dm (k+1) n).getD k 0).toNat:Nat) (sh (k+1) n)) ?_)
  refine jU 530 ?_;refine aq (fun h19=>?_) fun h19=>?_
  rotate_left
  ·refine jU 84000200020006000 ?_
   have hst:nM k n=true:=by
    unfold nM
    have hh:=h19
    rw [hdl] at hh
    (simp at hh ⊢;omega)
   refine jU 16 ?_
   refine ar (aJ 0 (ll _ (dm (k+1) n) jO) ?_)
   refine jU 51165 ?_;refine jE (freeze 0 rfl) ?_;refine jE (kE 2 ((dm (k+1) n).reverse) rfl rfl (by simp) rfl) ?_
   refine jR (cX (hv:=ab.bs (mH h1 h2 ⟨hk,hst,hno⟩)))
  refine jU 207810 ?_
  have hst:nM k n=false:=by
   unfold nM
   have hh:=h19
   rw [hdl] at hh
   (simp at hh ⊢;omega)
  refine jU 11200 ?_;refine jq (fH rfl rfl Tryz.underlying3 Tryz.underlying5 ((((lf (sh (k+1) n)).toNat:Nat):Int)) (x7 _)) ?_
  refine ak (aU 1 1 f7 fun p2=>?_)
  refine ar (bC (l2:=[lf (sh (k+1) n)]) rfl rfl rfl (Nat.le_refl _) (fun _ _=>cZ) (aY rfl (.inl rfl) jD) rfl (dt (.cons (cI (rfl)) .nil)) Tryz.underlying22 iM qi f7 rB rfl (by (simp;omega)) (eM rfl rfl) rfl rfl (fun p3=>?_))
  refine jU 1200840051 ?_;refine jq (uU rfl rfl rfl (by (omega)) (_) (rfl)) ?_;refine jU 851 ?_
  refine aw ((k+1,p3)) ?_ ?_ (h5:=?_) (h7:=?_)
  ·have hk7:k≠7:=fun e=>by
    rw [e] at hst;rw [hst] at h7;cases h7
   refine ⟨by omega,fun j hj=>?_⟩
   by_cases e:j=k
   ·rw [e];exact hst
   ·exact hno j jO
  ·show 8-(k+1)<8-k;omega
  ·exact .cons (cO (by rw [← je])) (.cons (cI (O2 _)) .nil)
  ·exact .blk (by rw [← je]) (fun j hj=>ab.of_eq (by rw [← je])) .nil
end
section
def nu (b:List UInt8):Nat:=if (ah b).e=0 then b.length-(ah b).rest.length-(ah b).body.length else 0
def yi (b:List UInt8):Nat:=if (ah b).e=0 then b.length-(ah b).rest.length else 0

theorem jk (a:UInt8) (n:Nat) (h:n % 256=a.toNat):b8 n=a:=by
 apply UInt8.toNat_inj.1
 rw [eX,h]
theorem Ix {c:UInt8} {l:List UInt8} (hl:1≤l.length∧l.length≤4) (hc:c.toNat=128+l.length):gF (lO l)=c::l↔¬(lO l≤127∨(l.getD 0 0).toNat=0):=by
 match l,hl with
 | [x],_ =>
  have hx:=x.toNat_lt
  have e:lO [x]=x.toNat:=by simp [lO]
  rw [e]
  have c1:c=129:=UInt8.toNat_inj.1 (by rw [hc];rfl)
  subst c1
  unfold gF
  split
  ·exact ⟨fun h=>by simp at h,fun h=>absurd (Or.inl jO) h⟩
  ·exact ⟨fun _=>by simp;omega,fun _=>by rw [jk x _ jO]⟩
 | [x,y],_ =>
  have hx:=x.toNat_lt
  have hy:=y.toNat_lt
  have e:lO [x,y]=x.toNat * 256+y.toNat:=by simp [lO]
  rw [e]
  have c1:c=130:=UInt8.toNat_inj.1 (by rw [hc];rfl)
  subst c1
  unfold gF
  split
  ·exact ⟨fun h=>by simp at h,fun h=>absurd (Or.inl jO) h⟩
  ·split
   ·exact ⟨fun h=>by simp at h,fun h=>absurd (Or.inr (by simp;omega)) h⟩
   ·rw [jP]
    exact ⟨fun _=>by simp;omega,fun _=>by rw [jk x _ jO,jk y _ jO]⟩
 | [x,y,z],_ =>
  have hx:=x.toNat_lt
  have hy:=y.toNat_lt
  have hz:=z.toNat_lt
  have e:lO [x,y,z]=(x.toNat * 256+y.toNat) * 256+z.toNat:=by simp [lO]
  rw [e]
  have c1:c=131:=UInt8.toNat_inj.1 (by rw [hc];rfl)
  subst c1
  unfold gF
  split
  ·exact ⟨fun h=>by simp at h,fun h=>absurd (Or.inl jO) h⟩
  ·split
   ·exact ⟨fun h=>by simp at h,fun h=>absurd (Or.inr (by simp;omega)) h⟩
   ·split
    ·exact ⟨fun h=>by simp at h,fun h=>absurd (Or.inr (by simp;omega)) h⟩
    ·rw [jP]
     exact ⟨fun _=>by simp;omega,fun _=>by rw [jk x _ jO,jk y _ jO,jk z _ jO]⟩
 | [x,y,z,t],_ =>
  have hx:=x.toNat_lt
  have hy:=y.toNat_lt
  have hz:=z.toNat_lt
  have ht:=t.toNat_lt
  have e:lO [x,y,z,t]=((x.toNat * 256+y.toNat) * 256+z.toNat) * 256+t.toNat:=by simp [lO]
  rw [e]
  have c1:c=132:=UInt8.toNat_inj.1 (by rw [hc];rfl)
  subst c1
  unfold gF
  split
  ·exact ⟨fun h=>by simp at h,fun h=>absurd (Or.inl jO) h⟩
  ·split
   ·exact ⟨fun h=>by simp at h,fun h=>absurd (Or.inr (by simp;omega)) h⟩
   ·split
    ·exact ⟨fun h=>by simp at h,fun h=>absurd (Or.inr (by simp;omega)) h⟩
    ·split
     ·exact ⟨fun h=>by simp at h,fun h=>absurd (Or.inr (by simp;omega)) h⟩
     ·exact ⟨fun _=>by simp;omega,fun _=>by rw [jk x _ jO,jk y _ jO,jk z _ jO,jk t _ jO]⟩
theorem MB {b:List UInt8} {k:Nat} (h:1<b.length):(b.take (2+k)).drop 1=b.getD 1 0::(b.drop 2).take k:=by
 match b,h with
 | x::y::r,_=>simp [show 2+k=(k+1)+1 by omega]
theorem IZ {b:List UInt8} {k i:Nat} (h:i<k):((b.drop 2).take k).getD i 0=b.getD (2+i) 0:=by
 simp [List.getD,h]
theorem vb {b:List UInt8} (h:1<b.length) (hc:(b.getD 1 0).toNat<128):cd (b.drop 1)=⟨0,(b.getD 1 0).toNat,b.drop 2⟩:=by
 rw [vc (c:=(b.getD 1 0).toNat) (r:=b.drop 2) (by simp;omega) (by simp [List.getD]) (by simp),jP]
theorem FD {b:List UInt8} {k:Nat} (h:1<b.length) (hc:(b.getD 1 0).toNat=128+k):cd (b.drop 1)=if k=0∨4<k then ⟨4,0,[]⟩ else if b.length-2<k then ⟨2,0,[]⟩ else
  if gF (lO ((b.drop 2).take k))=(b.take (2+k)).drop 1 then ⟨0,lO ((b.drop 2).take k),b.drop (2+k)⟩ else ⟨4,0,[]⟩:=by
 rw [vc (c:=(b.getD 1 0).toNat) (r:=b.drop 2) (by simp;omega) (by simp [List.getD]) (by simp),jK]
 by_cases h1:k=0∨4<k
 ·rw [if_pos h1,jP]
 ·rw [if_neg h1,jK,List.length_drop,hc,show 128+k-128=k by omega]
  by_cases h2:b.length-2<k
  ·rw [if_pos h2,if_pos h2]
  ·rw [if_neg h2,if_neg h2,MB h,List.drop_drop]
   have hl:((b.drop 2).take k).length=k:=by simp;omega
   have hg:((b.drop 2).take k).getD 0 0=(b.drop 2).getD 0 0:=by simp [List.getD,show 0<k by omega]
   have:=Ix (c:=b.getD 1 0) (l:=(b.drop 2).take k) jO (by rw [hl];exact hc)
   rw [hg] at this
   by_cases h3:lO ((b.drop 2).take k)≤127∨((b.drop 2).getD 0 0).toNat=0
   ·rw [if_pos h3,if_neg (fun h=>this.1 h h3)]
   ·rw [if_neg h3,if_pos (this.2 h3)]
end
section
open Go.RowKit Cal
structure VV where
 kind:Int
 n:Int
 is:Bool
 b:List UInt8
 t:List UInt8
def VV.none:VV:=⟨0,0,false,[],[]⟩
structure W8 where
 fr:List (Int×List (List UInt8))
 d:List UInt8
 k:Nat
def cj (e:Nat) (s:W8):W8:=if s.k=0 then ⟨s.fr,s.d,e⟩ else s
def cG (b:List UInt8) (s:W8):W8:=match s.fr with
 | []=>⟨[],s.d++b,s.k⟩
 | x::r=>⟨(x.1,x.2++[b])::r,s.d,s.k⟩
def eZ (tag:Int) (body:List UInt8) (e:Nat) (s:W8):W8 :=
 if (cj e s).k≠0 then cj e s else if pT tag body≠0 then ⟨s.fr,s.d,pT tag body⟩ else cG (dl tag body) s
def dw (tag:Int) (s:W8):W8:=if s.k≠0 then s else if bG tag=false then ⟨s.fr,s.d,5⟩ else if s.fr.length=16 then ⟨s.fr,s.d,6⟩ else ⟨(tag,[])::s.fr,s.d,s.k⟩
def k8 (x:Int×List (List UInt8)):List UInt8:=if x.1=49 then (fQ x.2).flatten else x.2.flatten
def db (s:W8):W8:=if s.k≠0 then s else match s.fr with
 | []=>⟨[],s.d,24⟩
 | x::r=>eZ x.1 (k8 x) 0 ⟨r,s.d,s.k⟩
def Fl (b:List UInt8) (s:W8):W8:=if (cj (af b).2 s).k=0 then cG b s else cj (af b).2 s
def iF (s:W8):Nat:=if s.k≠0 then s.k else if s.fr≠[] then 24 else if 65536<s.d.length then 3 else 0
def pH (s:W8):List UInt8:=if iF s=0 then s.d else []
def x9 (n:Int):List UInt8:=if n<0∨32767<n then [] else CZ n.toNat
def M6 (n:Int):Nat:=if n<0∨32767<n then 1 else 0
def aH (v:VV):Int×List UInt8×Nat :=
 if v.kind=3 then (2,fa v.n,0) else
 if v.kind=4 then (10,fa v.n,0) else
 if v.kind=5 then (1,[if v.is then 255 else 0],0) else
 if v.kind=6 then (4,v.b,0) else
 if v.kind=7 then (12,if aN v.t v.n=0 then v.t else [],aN v.t v.n) else
 if v.kind=8 then (6,gT v.t,(bB v.t).2) else
 if v.kind=9 then (24,if ol v.n then cW (kA v.n) else [],Az v.n) else (3,x9 v.n,M6 v.n)
def jj (v:VV) (s:W8):W8 :=
 if v.kind=1 then dw v.n s else if v.kind=2 then db s else if v.kind=11 then Fl v.b s else eZ (aH v).1 (aH v).2.1 (aH v).2.2 s
structure R8 where
 tags:List Int
 rows:List (List (List UInt8))
 e:Nat
def eu (m:Nat) (r:List (List (List UInt8))):List (List (List UInt8)):=r++List.replicate (m-r.length) []
def ki (b:List UInt8) (s:R8):R8:=⟨s.tags,(eu (s.tags.length+1) s.rows).set s.tags.length ((eu (s.tags.length+1) s.rows).getD s.tags.length []++[b]),s.e⟩
def lk (tag:Int) (b:List UInt8) (s:R8):R8:=if 65530<b.length then ⟨s.tags,s.rows,3⟩ else ki (dl tag b) s
def mE (n:Int) (s:R8):R8:=if bG n=false then ⟨s.tags,s.rows,5⟩ else if 16≤s.tags.length then ⟨s.tags,s.rows,6⟩ else ⟨s.tags++[n],(eu (s.tags.length+2) s.rows).set (s.tags.length+1) [],s.e⟩
def mG (s:R8):R8:=if s.tags.length=0 then ⟨s.tags,s.rows,24⟩ else
 lk (s.tags.getD (s.tags.length-1) 0) (k8 (s.tags.getD (s.tags.length-1) 0,s.rows.getD s.tags.length [])) ⟨s.tags.take (s.tags.length-1),s.rows,s.e⟩
def cD (v:VV) (s:R8):R8 :=
 if s.e≠0 then s else if v.kind=1 then mE v.n s else if v.kind=2 then mG s else
 if v.kind=11 then (if (af v.b).2≠0 then ⟨s.tags,s.rows,(af v.b).2⟩ else ki v.b s) else
 if (aH v).2.2≠0 then ⟨s.tags,s.rows,(aH v).2.2⟩ else lk (aH v).1 (aH v).2.1 s
def fN (s:R8):Nat:=if s.e≠0 then s.e else if 0<s.tags.length then 24 else if 65536<(s.rows.getD 0 []).flatten.length then 3 else 0
def pS (s:R8):List UInt8:=if fN s=0 then (s.rows.getD 0 []).flatten else []
structure lF (r:R8) (s:W8):Prop where
 tags:r.tags=(s.fr.map Prod.fst).reverse
 e:r.e=s.k
 row0:(r.rows.getD 0 []).flatten=s.d
 row:∀ j,j<s.fr.length→r.rows.getD (j+1) []=((s.fr.map Prod.snd).reverse).getD j []
 len:r.tags.length≠0→r.tags.length<r.rows.length
 known:∀ x ∈ s.fr,bG x.1=true
 lim:s.fr.length≤16
theorem EG:lF ⟨[],[],0⟩ ⟨[],[],0⟩:=⟨rfl,rfl,rfl,fun j h=>by simp at h,fun h=>by simp at h,fun _ h=>(by cases h),by decide⟩
theorem mJ (m:Nat) (r:List (List (List UInt8))):(eu m r).length=max m r.length:=by simp [eu];omega
theorem fW (m:Nat) (r:List (List (List UInt8))) (j:Nat):(eu m r).getD j []=r.getD j []:=by
 simp only [eu,List.getD_eq_getElem?_getD,List.getElem?_append]
 split
 ·rfl
 ·rename_i h
  rw [List.getElem?_eq_none (l:=r) jO,List.getElem?_replicate]
  split <;> rfl
theorem oP (l:List (List (List UInt8))) (i j:Nat) (x:List (List UInt8)) (hi:i<l.length):(l.set i x).getD j []=if j=i then x else l.getD j []:=by
 simp only [List.getD_eq_getElem?_getD,List.getElem?_set]
 by_cases h:i=j
 ·subst h;simp [hi]
 ·rw [if_neg h,if_neg (Ne.symm h)]
theorem Aa {r:R8} {s:W8} (h:lF r s) (b:List UInt8):lF (ki b r) (cG b s):=by
 have hl:r.tags.length=s.fr.length:=by rw [h.tags];simp
 have hp:r.tags.length<(eu (r.tags.length+1) r.rows).length:=by rw [mJ];omega
 obtain ⟨fr,d,k⟩:=s
 cases fr with
 | nil =>
  refine ⟨h.tags,h.e,?_,fun j hj=>by simp [cG] at hj,fun h0=>?_,h.known,h.lim⟩
  ·have h0:r.tags.length=0:=hl
   show List.flatten (List.getD (List.set _ _ _) _ _)=_
   rw [oP _ _ _ _ hp,if_pos h0.symm,h0,fW,List.flatten_append,h.row0]
   simp [cG]
  ·exact absurd hl h0
 | cons x fr =>
  have hl':r.tags.length=fr.length+1:=hl
  refine ⟨?_,h.e,?_,fun j hj=>?_,fun _=>?_,fun y hy=>?_,h.lim⟩
  ·show r.tags=_
   rw [h.tags]
   simp [cG]
  ·show List.flatten (List.getD (List.set _ _ _) _ _)=_
   rw [oP _ _ _ _ hp,jK,fW,h.row0]
   rfl
  ·have hj:j<fr.length+1:=hj
   show List.getD (List.set _ _ _) _ _=_
   rw [oP _ _ _ _ hp]
   simp only [cG,List.map_cons,List.reverse_cons]
   have hr:=h.row j hj
   simp only [List.map_cons,List.reverse_cons] at hr
   by_cases e:j=fr.length
   ·rw [jP,fW,hl',← e,hr]
    simp [List.getD_eq_getElem?_getD,e]
   ·rw [jK,fW,hr]
    simp only [List.getD_eq_getElem?_getD]
    rw [List.getElem?_append_left (by simp;omega),List.getElem?_append_left (by simp;omega)]
  ·show r.tags.length<(List.set _ _ _).length
   rw [List.length_set]
   exact hp
  ·rcases List.mem_cons.1 hy with rfl|hy
   ·exact h.known x List.mem_cons_self
   ·exact h.known y (List.mem_cons_of_mem _ hy)
theorem mQ {t:Int} (h:bG t=true):bP t=true:=by unfold bP;rw [h];rfl
theorem z8 {r:R8} {s:W8} (h:lF r s) (hk:s.k=0) {tag:Int} (ht:bP tag=true) (b:List UInt8):lF (lk tag b r) (eZ tag b 0 s):=by
 have e0:cj 0 s=s:=by
  obtain ⟨fr,d,k⟩:=s
  obtain rfl:k=0:=hk
  rfl
 unfold eZ
 rw [e0,jK]
 unfold pT lk
 rw [ht]
 simp only [Bool.true_eq_false,if_false]
 by_cases hb:65530<b.length
 ·rw [if_pos hb,if_pos hb,if_pos jD]
  exact ⟨h.tags,rfl,h.row0,h.row,h.len,h.known,h.lim⟩
 ·rw [if_neg hb,if_neg hb,if_neg jD]
  exact Aa h _
theorem EH {r:R8} {s:W8} (h:lF r s) (hk:s.k=0) (n:Int):lF (mE n r) (dw n s):=by
 have hl:r.tags.length=s.fr.length:=by rw [h.tags];simp
 have hlim:=h.lim
 unfold mE dw
 rw [if_neg (show ¬ s.k≠0 by omega)]
 by_cases hm:bG n=false
 ·rw [if_pos hm,if_pos hm]
  exact ⟨h.tags,rfl,h.row0,h.row,h.len,h.known,h.lim⟩
 ·rw [if_neg hm,if_neg hm]
  by_cases h16:s.fr.length=16
  ·rw [jP,if_pos h16]
   exact ⟨h.tags,rfl,h.row0,h.row,h.len,h.known,h.lim⟩
  ·rw [jK,if_neg h16]
   have hp:r.tags.length+1<(eu (r.tags.length+2) r.rows).length:=by rw [mJ];omega
   refine ⟨?_,h.e,?_,fun j hj=>?_,fun _=>?_,fun y hy=>?_,?_⟩
   ·show r.tags++[n]=_
    rw [h.tags]
    simp
   ·show List.flatten (List.getD (List.set _ _ _) _ _)=_
    rw [oP _ _ _ _ hp,jK,fW,h.row0]
   ·have hj:j<s.fr.length+1:=hj
    show List.getD (List.set _ _ _) _ _=_
    rw [oP _ _ _ _ hp]
    simp only [List.map_cons,List.reverse_cons]
    by_cases e:j=s.fr.length
    ·rw [jP]
     simp [List.getD_eq_getElem?_getD,e]
    ·rw [jK,fW,h.row j jO]
     simp only [List.getD_eq_getElem?_getD]
     rw [List.getElem?_append_left (by simp;omega)]
   ·show (r.tags++[n]).length<(List.set _ _ _).length
    rw [List.length_set,List.length_append]
    exact hp
   ·rcases List.mem_cons.1 hy with rfl|hy
    ·simpa using hm
    ·exact h.known y hy
   ·show s.fr.length+1≤16
    omega
theorem B0 {r:R8} {s:W8} (h:lF r s) (hk:s.k=0):lF (mG r) (db s):=by
 have hl:r.tags.length=s.fr.length:=by rw [h.tags];simp
 unfold mG db
 rw [if_neg (show ¬ s.k≠0 by omega)]
 obtain ⟨fr,d,k⟩:=s
 cases fr with
 | nil =>
  rw [if_pos (show r.tags.length=0 from hl)]
  exact ⟨h.tags,rfl,h.row0,h.row,h.len,h.known,h.lim⟩
 | cons x fr =>
  have hl:r.tags.length=fr.length+1:=hl
  rw [jK]
  have ht:r.tags=(fr.map Prod.fst).reverse++[x.1]:=by rw [h.tags];simp
  have e1:r.tags.getD (r.tags.length-1) 0=x.1:=by
   rw [hl,ht]
   simp [List.getD_eq_getElem?_getD]
  have e2:r.rows.getD r.tags.length []=x.2:=by
   rw [hl,h.row fr.length (by simp)]
   simp [List.getD_eq_getElem?_getD]
  rw [e1,e2]
  refine z8 (r:=⟨r.tags.take (r.tags.length-1),r.rows,r.e⟩) (s:=⟨fr,d,k⟩) ⟨?_,h.e,h.row0,fun j hj=>?_,fun h0=>?_,fun y hy=>h.known y (List.mem_cons_of_mem _ hy),?_⟩ hk (mQ (h.known x List.mem_cons_self)) _
  ·show r.tags.take _=_
   rw [hl,ht]
   simp
  ·have hj:j<fr.length:=hj
   show r.rows.getD (j+1) []=_
   rw [h.row j (by simp;omega)]
   simp only [List.map_cons,List.reverse_cons,List.getD_eq_getElem?_getD]
   rw [List.getElem?_append_left (by simp;omega)]
  ·show (r.tags.take _).length<r.rows.length
   have:=h.len jO
   simp only [List.length_take]
   omega
  ·have:=h.lim
   simp at this ⊢
   omega
theorem Dz {r:R8} {s:W8} (h:lF r s) (v:VV):lF (cD v r) (jj v s):=by
 unfold cD jj
 have he:=h.e
 by_cases hk:s.k=0
 ·rw [if_neg (show ¬ r.e≠0 by omega)]
  split
  ·exact EH h hk _
  ·split
   ·exact B0 h hk
   ·split
    ·unfold Fl
     have e:(cj (af v.b).2 s).k=(af v.b).2:=by unfold cj;rw [if_pos hk]
     rw [e]
     by_cases h0:(af v.b).2=0
     ·rw [jK,if_pos h0]
      exact Aa h _
     ·rw [if_pos h0,if_neg h0]
      unfold cj
      rw [if_pos hk]
      exact ⟨h.tags,rfl,h.row0,h.row,h.len,h.known,h.lim⟩
    ·by_cases h0:(aH v).2.2=0
     ·rw [jK,h0]
      refine z8 h hk ?_ _
      unfold aH
      repeat' split
      all_goals (first|rfl|decide)
     ·rw [if_pos h0]
      have e:cj (aH v).2.2 s=⟨s.fr,s.d,(aH v).2.2⟩:=by unfold cj;rw [if_pos hk]
      unfold eZ
      rw [e,if_pos h0]
      exact ⟨h.tags,rfl,h.row0,h.row,h.len,h.known,h.lim⟩
 ·rw [if_pos (show r.e≠0 by omega)]
  have e1:∀ e,cj e s=s:=fun e=>by unfold cj;rw [if_neg hk]
  have e2:∀ t b e,eZ t b e s=s:=fun t b e=>by unfold eZ;rw [e1,if_pos hk]
  have e3:dw v.n s=s:=by unfold dw;rw [if_pos hk]
  have e4:db s=s:=by unfold db;rw [if_pos hk]
  have e5:Fl v.b s=s:=by unfold Fl;rw [e1,if_neg hk]
  rw [e2,e3,e4,e5,ite_self,ite_self,ite_self]
  exact h
theorem EI {r:R8} {s:W8} (h:lF r s):fN r=iF s∧pS r=pH s:=by
 have hl:r.tags.length=s.fr.length:=by rw [h.tags];simp
 have e:fN r=iF s:=by
  unfold fN iF
  rw [h.e,h.row0,hl]
  cases s.fr <;> simp
 exact ⟨e,by unfold pS pH;rw [e,h.row0]⟩
end
end Am
end Go.Proofs.YthlpfjnkieaeeaaGreatDoor
