/- What the law leans on, part 6 -/
import Derived.Test.YtghminnpfnkbjaaGreatDoorM5RequestBody
import Derived.Test.YtghminnpfnkbjaaGreatDoorChecked
import Derived.Laws.BitsAllLaws
import Derived.IntWalk
import Derived.Lib.Join
import Derived.WalkKit
set_option maxRecDepth 100000
set_option maxHeartbeats 8000000
set_option linter.unusedVariables false
variable {gs:List Nat}
open Go.Proofs.Tryz
namespace Go.Proofs.YtghminnpfnkbjaaGreatDoor
namespace Am
open Go.RowKit
theorem el {n:Nat} (h:n<256):(UInt8.ofNat n).toNat=n:=by
 simp;omega
theorem zI {a b:UInt8} (h:a.toNat=b.toNat):a=b:=akx.1 h
theorem tf {m:Nat} (h:m<256) (h0:0<m):re (dw m)=(8-iy m % 8) % 8∧0<iy m∧(8-(8+iy m) % 8) % 8=(8-iy m % 8) % 8:=by
 have:=lZ (n:=256) (p:=fun m=>decide (0<m→re (dw m)=(8-iy m % 8) % 8∧0<iy m)) (by decide +kernel) h
 have:=(a9x this) h0
 exact ⟨this.1,this.2,by omega⟩
theorem PH {m:Nat} (h:m<256):bl m=iy m:=by unfold bl;rw [jK]
theorem VS {m:Nat} (h:256≤m):bl m=8+iy (m / 256):=by unfold bl;rw [Zz h]
theorem Gt:cn 0=[0]:=by decide
theorem AQ {m:Nat} (h:m<256) (h0:0<m):cn m=[UInt8.ofNat ((8-iy m % 8) % 8),UInt8.ofNat (dw m)]:=by
 have h1:=tf h h0
 have h2:=qC h
 unfold cn
 rw [PH h,jK,Zz h2.2.1,aQx h]
theorem AP {m:Nat} (h:m<65536) (h0:256≤m):cn m=[UInt8.ofNat ((8-iy (m / 256) % 8) % 8),UInt8.ofNat (dw (m % 256)),UInt8.ofNat (dw (m / 256))]:=by
 have h1:=tf (m:=m / 256) O O
 unfold cn
 rw [VS h0,jK,jK,h1.2.2]
theorem nv {m:Nat} (h:m<65536):(cn m).length=1+(bl m+7) / 8:=by
 have:=(tX h).2
 unfold cn
 split
 ·rename_i e;rw [e];rfl
 ·split
  ·simp;omega
  ·simp;omega
theorem uK (n x y z:Nat) (b:I) (hn:b.length=n) (hx:(b.getD 0 0).toNat=x) (hl:(b.getD (n-1) 0).toNat=z) (hy:(b.getD 1 0).toNat=y):bW b=if n=0 then (0,2) else
  if 8≤x∨3<n∨(n=1∧0<x) then (0,4) else if n=1 then (0,0) else if re z≠x then (0,4) else
  if 32768≤dw y+256 * (if n=3 then dw (b.getD 2 0).toNat else 0) then (0,1) else (dw y+256 * (if n=3 then dw (b.getD 2 0).toNat else 0),0):=by
 subst hn hx hl hy
 rfl
theorem Ao (x y:UInt8):bW [x,y]=if 8≤x.toNat then (0,4) else if re y.toNat≠x.toNat then (0,4) else (dw y.toNat,0):=by
 have hy:=eL (i:=y.toNat) y.toNat_lt
 rw [uK 2 x.toNat y.toNat y.toNat [x,y] rfl rfl rfl rfl,Zy (by decide:¬ (2:Nat)=0)]
 by_cases h:8≤x.toNat
 ·rw [Zz (Or.inl h),Zz h]
 ·rw [jK,Zy (by decide:¬ (2:Nat)=1),Zy h,Zy (by decide:¬ (2:Nat)=3),c9x,afx,Zy (show ¬ 32768≤dw y.toNat by omega)]
theorem An (x y z:UInt8):bW [x,y,z]=if 8≤x.toNat then (0,4) else if re z.toNat≠x.toNat then (0,4) else if 32768≤dw y.toNat+256 * dw z.toNat then (0,1) else (dw y.toNat+256 * dw z.toNat,0):=by
 rw [uK 3 x.toNat y.toNat z.toNat [x,y,z] rfl rfl rfl rfl,Zy (by decide:¬ (3:Nat)=0)]
 by_cases h:8≤x.toNat
 ·rw [Zz (Or.inl h),Zz h]
 ·rw [jK,Zy (by decide:¬ (3:Nat)=1),Zy h,Zz (rfl:(3:Nat)=3)]
  rfl
theorem F6 {m:Nat} (h:m<32768):bW (cn m)=(m,0):=by
 by_cases h0:m=0
 ·subst h0;rw [Gt];decide
 ·by_cases h1:m<256
  ·have h2:=tf h1 O
   have h3:=eL h1
   rw [AQ h1 O,Ao,el (n:=(8-iy m % 8) % 8) O,el h3,h2.1,ni h1,jK,jK]
  ·have h2:=tf (m:=m / 256) O O
   have h3:=eL (i:=m % 256) O
   have h4:=eL (i:=m / 256) O
   rw [AP O O,An,el (n:=(8-iy (m / 256) % 8) % 8) O,el h3,el h4,h2.1,ni (i:=m % 256) O,ni (i:=m / 256) O,jK,jK,jK,show m % 256+256 * (m / 256)=m by omega]
theorem DJ {y:Nat} (hy:y<256) (h:re y<8):0<dw y∧(8-iy (dw y) % 8) % 8=re y:=by
 have:=lZ (n:=256) (p:=fun y=>decide (re y<8→0<dw y∧(8-iy (dw y) % 8) % 8=re y)) (by decide +kernel) hy
 exact (a9x this) h
theorem Gu {b:I} (h:(bW b).2=0):cn (bW b).1=b:=by
 match b with
 | []=>exact absurd h jD
 | [x] =>
  have h8:=x.toNat_lt
  have:x=0:=by
   refine zI ?_;refine byx fun hn=>?_
   have hn:x.toNat≠0:=hn
   have e:bW [x]=(0,4):=by
    rw [uK 1 x.toNat 0 x.toNat [x] rfl rfl rfl rfl,Zy (by decide:¬ (1:Nat)=0),jP]
   rw [e] at h;exact absurd h jD
  subst this;decide
 | [x,y] =>
  have hx:=x.toNat_lt
  have hy:y.toNat<256:=y.toNat_lt
  rw [Ao] at h ⊢
  split at h
  exact absurd h (by show ¬ (4:Nat)=0;decide)
  ·rename_i h1
   rw [Zy h1]
   split at h
   exact absurd h (by show ¬ (4:Nat)=0;decide)
   ·rename_i h2
    rw [Zy h2]
    have h4:re y.toNat=x.toNat:=a1x h2
    have h6:=DJ hy O
    have h7:=eL hy
    show cn (dw y.toNat)=_
    rw [AQ h7 h6.1,ni hy,h6.2,h4]
    rw [zI (a:=UInt8.ofNat x.toNat) (b:=x) (el O),zI (a:=UInt8.ofNat y.toNat) (b:=y) (el hy)]
 | [x,y,z] =>
  have hx:=x.toNat_lt
  have hy:y.toNat<256:=y.toNat_lt
  have hz:z.toNat<256:=z.toNat_lt
  rw [An] at h ⊢
  split at h
  exact absurd h (by show ¬ (4:Nat)=0;decide)
  ·rename_i h1
   rw [Zy h1]
   split at h
   exact absurd h (by show ¬ (4:Nat)=0;decide)
   ·rename_i h2
    rw [Zy h2]
    split at h
    exact absurd h (by show ¬ (1:Nat)=0;decide)
    ·rename_i h3
     rw [Zy h3]
     have h4:re z.toNat=x.toNat:=a1x h2
     have h6:=DJ hz O
     have h7:=eL hy
     have h8:=eL hz
     show cn (dw y.toNat+256 * dw z.toNat)=_
     rw [AP O O,show (dw y.toNat+256 * dw z.toNat) / 256=dw z.toNat by omega,show (dw y.toNat+256 * dw z.toNat) % 256=dw y.toNat by omega,ni hy,ni hz,h6.2,h4]
     rw [zI (a:=UInt8.ofNat x.toNat) (b:=x) (el O),zI (a:=UInt8.ofNat y.toNat) (b:=y) (el hy),zI (a:=UInt8.ofNat z.toNat) (b:=z) (el hz)]
 | x::y::z::q::l =>
  have e:bW (x::y::z::q::l)=(0,4):=by
   unfold bW
   rw [Zy (by simp),Zz (.inr (.inl (by simp)))]
  rw [e] at h;exact absurd h jD
def Ff (M i:Nat):Nat:=M % 2 ^ (min i 8)
def H5 (M i:Nat):Nat:=M / 256 % 2 ^ (i-8)
def gF (M n i j:Nat):Nat:=if j=0 then (8-n % 8) % 8 else if j=1 then dw (Ff M i) else dw (H5 M i)
theorem Vg (M i:Nat):Ff M i<256:=Z4 (aNx _ (cqx _)) (apx (n:=2) jD (Nat.min_le_right i 8))
theorem Vx {M i:Nat} (h:M<65536):H5 M i<256:=bPx (Nat.mod_le _ _) O
theorem XB {M n i j:Nat} (h:M<65536):gF M n i j<256:=by
 unfold gF
 split
 omega
 ·split
  exact eL (Vg _ _)
  exact eL (Vx h)
theorem Sz {M n j:Nat} (hj:j≠0):gF M n 0 j=0:=by
 unfold gF Ff H5
 rw [Zy hj]
 simp only [Nat.zero_min,Nat.zero_sub,Nat.pow_zero,clx]
 split<;>rfl
theorem VD {M n i j:Nat} (hb:M / 2 ^ i % 2=0):gF M n (i+1) j=gF M n i j:=by
 have hl:Ff M (i+1)=Ff M i:=by
  unfold Ff
  by_cases h:i<8
  ·rw [bdx O,bdx O,pD,hb,aKx,afx]
  ·rw [b5x O,b5x O]
 have hh:H5 M (i+1)=H5 M i:=by
  unfold H5
  by_cases h:i<8
  ·rw [show i+1-8=i-8 by omega]
  ·rw [show i+1-8=(i-8)+1 by omega,pD,bOx,show 256 * 2 ^ (i-8)=2 ^ i by rw [show i=8+(i-8) by omega,cFx];simp,hb,aKx,afx]
 unfold gF;rw [hl,hh]
theorem TX {M n i j:Nat} (hb:M / 2 ^ i % 2=1) (hi:i<16) (hj:j≤2):gF M n (i+1) j=if j=1+i / 8 then gF M n i j+2 ^ (7-i % 8) else gF M n i j:=by
 by_cases h:i<8
 ·have hl:Ff M (i+1)=Ff M i+2 ^ i:=by
   unfold Ff
   rw [bdx O,bdx O,pD,hb,dbx]
  have hh:H5 M (i+1)=H5 M i:=by
   unfold H5;rw [show i+1-8=i-8 by omega]
  have hlt:Ff M i<2 ^ i:=by unfold Ff;rw [bdx O];exact aNx _ (cqx _)
  have hr:=Dn h hlt
  unfold gF
  rw [hl,hh,hr,show i / 8=0 by omega,show i % 8=i by omega]
  by_cases h0:j=0
  ·rw [Zz h0,jK,Zz h0]
  ·rw [Zy h0,Zy h0]
   by_cases h1:j=1
   ·rw [Zz h1,jP,Zz h1]
   ·rw [Zy h1,jK,Zy h1]
 ·have hl:Ff M (i+1)=Ff M i:=by
   unfold Ff
   rw [b5x O,b5x O]
  have hh:H5 M (i+1)=H5 M i+2 ^ (i-8):=by
   unfold H5
   rw [show i+1-8=(i-8)+1 by omega,pD,bOx,show 256 * 2 ^ (i-8)=2 ^ i by rw [show i=8+(i-8) by omega,cFx];simp,hb,dbx]
  have hlt:H5 M i<2 ^ (i-8):=aNx _ (cqx _)
  have hr:=Dn (show i-8<8 by omega) hlt
  unfold gF
  rw [hl,hh,hr,show i / 8=1 by omega,show i % 8=i-8 by omega]
  by_cases h0:j=0
  ·rw [Zz h0,jK,Zz h0]
  ·rw [Zy h0,Zy h0]
   by_cases h1:j=1
   ·rw [Zz h1,jK,Zz h1]
   ·rw [Zy h1,jP,Zy h1]
theorem VE {M j:Nat} (h:M<65536) (hj:j<1+(bl M+7) / 8):gF M (bl M) (bl M) j=((cn M).getD j 0).toNat:=by
 have ⟨⟨h1,h2⟩,h3⟩:=tX h
 by_cases h0:j=0
 ·subst h0
  unfold gF cn
  rw [Zz rfl,aLx,el O]
 ·have hn:bl M≠0:=fun e=>by rw [e] at hj;omega
  unfold gF cn
  rw [Zy h0,Zy hn]
  by_cases h8:bl M≤8
  ·have hM:M<256:=Z4 h1 (apx (n:=2) jD h8)
   have:j=1:=by omega
   subst this
   rw [Zz rfl,Zz h8]
   simp only [aTx,aLx]
   unfold Ff
   rw [bdx h8,aQx h1,aQx hM,el (eL hM)]
  ·rw [Zy h8]
   by_cases hj1:j=1
   ·subst hj1
    rw [Zz rfl]
    simp only [aTx,aLx]
    unfold Ff
    rw [b5x O,el (eL O)]
   ·have:j=2:=by omega
    subst this
    rw [Zy jD]
    simp only [aTx,aLx]
    unfold H5
    have:M / 256<2 ^ (bl M-8):=by
     have e:2 ^ bl M=256 * 2 ^ (bl M-8):=by rw [show bl M=8+(bl M-8) by omega,cFx];simp
     rw [e] at h1
     exact b0x h1
    rw [aQx this,el (eL O)]
end Am
end Go.Proofs.YtghminnpfnkbjaaGreatDoor
namespace Go.Proofs.YtghminnpfnkbjaaGreatDoor
open Go.RowKit
def me (n:Int):UInt8:=UInt8.ofNat (n % 256).toNat
theorem eI (n:Int):((me n).toNat:Int)=n % 256:=by
 have h0:0≤n % 256:=Int.emod_nonneg _ jD
 have h1:n % 256<256:=Int.emod_lt_of_pos _ jD
 have:(me n).toNat=(n % 256).toNat:=by
  unfold me
  rw [ZT]
  omega
 omega
def sh:Nat→Int→Int
 | 0,n=>n
 | k+1,n=>sh k n / 256
def dC (k:Nat) (n:Int):I:=(List.range k).map fun j=>me (sh j n)
theorem bZ (k:Nat) (n:Int):(dC k n).length=k:=by simp [dC]
theorem jY (k:Nat) (n:Int):dC (k+1) n=dC k n++[me (sh k n)]:=by simp [dC,bSx]
theorem yw (k:Nat) (n:Int) (j:Nat) (h:j<k):(dC k n).getD j 0=me (sh j n):=by simp [dC,List.getD,h]
def pc (j:Nat) (n:Int):Bool:=(sh (j+1) n == 0 && decide (sh j n % 256<128)) || (sh (j+1) n == -1 && decide (128≤sh j n % 256))
theorem qe (j:Nat) (n:Int):pc j n=true↔-128≤sh j n∧sh j n<128:=by
 simp only [pc,sh,atx,ZE,aUx,ZJ]
 constructor
 ·intro h;omega
 ·intro h;omega
theorem Md (j:Nat) (n:Int) (h:pc j n=true):pc (j+1) n=true:=by
 rw [qe] at h ⊢
 simp only [sh]
 omega
theorem lr (n:Int) (j m:Nat) (hjm:j≤m) (h:pc j n=true):pc m n=true:=by
 induction m with
 | zero =>
   obtain rfl:j=0:=by omega
   exact h
 | succ m ih =>
  by_cases e:j=m+1
  ·subst e;exact h
  exact Md m n (ih O)
theorem um (n:Int) (h1:-9223372036854775808≤n) (h2:n≤9223372036854775807):pc 7 n=true:=by
 rw [qe]
 simp only [sh]
 omega
def yT (n:Int) (k:Nat):Prop:=k≤7∧pc k n=true∧∀ j,j<k→pc j n=false
theorem yT.unique {n:Int} {k m:Nat} (h:yT n k) (g:yT n m):k=m:=by
 rcases bYx k m with h1|h1|h1
 ·have:=g.2.2 k h1;rw [h.2.1] at this;cases this
 exact h1
 ·have:=h.2.2 m h1;rw [g.2.1] at this;cases this
def Ft (c:UInt8):Int:=if c.toNat<128 then c.toNat else (c.toNat:Int)-256
def gu (l:I):Int:=match l with
 | []=>0
 | c::r=>r.foldl (fun a b=>a * 256+b.toNat) (Ft c)
theorem qa (l:I) (hl:l≠[]) (c:UInt8):gu (l++[c])=gu l * 256+c.toNat:=by
 cases l with
 | nil=>exact absurd rfl hl
 | cons x r=>simp [gu]
theorem Fm (l:I):∀ m,l.length=m+1→-(128 * 256 ^ m)≤gu l∧gu l<128 * 256 ^ m:=by
 intro m
 induction m generalizing l with
 | zero =>
  intro h
  match l,h with
  | [c],_ =>
   have:=c.toNat_lt
   simp only [gu,b1x,Ft]
   split<;>omega
 | succ m ih =>
  intro h
  have hne:l≠[]:=by intro e;subst e;simp at h
  have e:l=l.dropLast++[l.getLast hne]:=(a5x hne).symm
  have hl:l.dropLast.length=m+1:=by simp;omega
  have hd:l.dropLast≠[]:=by intro e;rw [e] at hl;simp at hl
  have:=ih l.dropLast hl
  have hc:=(l.getLast hne).toNat_lt
  rw [e,qa _ hd]
  have hp:(256:Int) ^ (m+1)=256 ^ m * 256:=Int.pow_succ _ _
  rw [hp]
  generalize (256:Int) ^ m=p at this ⊢
  omega
theorem rG (l:I) (h:l.length≤7):-36028797018963968≤gu l∧gu l<36028797018963968:=by
 match l,h with
 | [],_=>show -36028797018963968≤(0:Int)∧(0:Int)<36028797018963968;omega
 | c::r,h =>
  simp only [List.length_cons] at h
  have:=Fm (c::r) r.length rfl
  have hp:((256:Int) ^ r.length)≤256 ^ 6:=by
   have:r.length=0∨r.length=1∨r.length=2∨r.length=3∨r.length=4∨r.length=5∨r.length=6:=by omega
   rcases this with h|h|h|h|h|h|h<;>rw [h]<;>decide
  have e6:(256:Int) ^ 6=281474976710656:=by decide
  omega
theorem IC (n:Int):∀ k,pc k n=true→gu (dC (k+1) n).reverse=n:=by
 intro k h
 have key:∀ j,j≤k→gu ((dC (k+1) n).reverse.take (j+1))=sh (k-j) n:=by
  intro j
  induction j with
  | zero =>
   intro _
   rw [jY]
   simp only [csx,bax,List.reverse_nil,List.nil_append,cgx,List.take_succ_cons,cXx,gu,b1x,Ft,aJx]
   rw [qe] at h
   have:=eI (sh k n)
   split<;>omega
  | succ j ih =>
   intro hj
   have hlen:j+1<(dC (k+1) n).reverse.length:=by simp [bZ];omega
   rw [ZH hlen,qa _ (by intro e;have:=ZV List.length e;simp [bZ] at this),ih O]
   have eg:(dC (k+1) n).reverse[j+1]=me (sh (k-(j+1)) n):=by
    rw [cWx]
    have:=yw (k+1) n ((dC (k+1) n).length-1-(j+1)) (by rw [bZ];omega)
    simp only [List.getD,bZ] at this ⊢
    rw [ZM (by rw [bZ];omega)] at this
    simp only [asx] at this
    rw [show k-(j+1)=k+1-1-(j+1) by omega]
    exact this
   rw [eg,eI,show k-j=(k-(j+1))+1 by omega]
   simp only [sh]
   omega
 have:=key k (ZA _)
 rw [ZY (by simp [bZ])] at this
 simpa [sh] using this
def o5 (l:I):Bool:=match l with
 | a::b::_=>(a.toNat == 0 && decide (b.toNat<128)) || (a.toNat == 255 && decide (128≤b.toNat))
 | _=>false
def dE (l:I):Int×Nat :=
 if l.length=0 then (0,2) else if o5 l=true then (0,4) else if 8<l.length then (0,1) else (gu l,0)
theorem zm (k:Nat) (n:Int):(dC (k+2) n).reverse=me (sh (k+1) n)::me (sh k n)::(dC k n).reverse:=by
 rw [jY,jY]
 simp
theorem gq (n:Int) (k:Nat) (h:pc (k+1) n=true):o5 (dC (k+2) n).reverse=pc k n:=by
 rw [zm]
 rw [qe] at h
 have e:=qe k n
 rw [bmx,e]
 simp only [o5,atx,ZE,aUx,ZJ]
 have h1:=eI (sh (k+1) n)
 have h2:=eI (sh k n)
 simp only [sh] at h h1 h2 ⊢
 omega
theorem OO (n:Int) (k:Nat) (h:yT n k):dE (dC (k+1) n).reverse=(n,0):=by
 have hi:o5 (dC (k+1) n).reverse=false:=by
  cases k with
  | zero=>simp [dC,o5]
  | succ k=>rw [gq n k h.2.1];exact h.2.2 k O
 have:=h.1
 simp [dE,bZ,hi,IC n k h.2.1]
 omega
theorem OC (m c:Int) (h1:-36028797018963968≤m) (h2:m<36028797018963968) (h3:0≤c) (h4:c<256):bits .or .i64 (m * 256) c=m * 256+c:=by
 show IntKind.i64.wrap ((BitVec.ofInt 64 (m * 256) ||| BitVec.ofInt 64 c).toNat:Int)=_
 rw [BitVec.toNat_or,BitVec.toNat_ofInt,BitVec.toNat_ofInt]
 have e1:(c % ((2 ^ 64:Nat):Int)).toNat=c.toNat:=by
  have:((2 ^ 64:Nat):Int)=18446744073709551616:=by decide
  rw [this];omega
 have e2:(m * 256 % ((2 ^ 64:Nat):Int)).toNat=(m * 256 % 18446744073709551616).toNat:=by
  have:((2 ^ 64:Nat):Int)=18446744073709551616:=by decide
  rw [this]
 rw [e1,e2,nat_join 8 _ _ O O,IntKind.wrap_i64]
 omega
theorem tR (n:Int) (k i:Nat) (h:i<k):(dC k n).reverse.getD i 0=me (sh (k-1-i) n):=by
 have hl:i<(dC k n).length:=by rw [bZ];exact h
 simp only [List.getD,cfx hl,bZ]
 have:=yw k n (k-1-i) O
 simpa [List.getD] using this
end Go.Proofs.YtghminnpfnkbjaaGreatDoor
namespace Go.Proofs.YtghminnpfnkbjaaGreatDoor
open Go.RowKit
def Ch (d:Nat):UInt8:=me (48+d:Nat)
def mD (n:Nat):I:=if n<10 then [Ch n] else mD (n / 10)++[Ch (n % 10)]
termination_by n
def dM (c:UInt8):Bool:=decide (48≤c.toNat) && decide (c.toNat≤57)
def i9 (l:I):Nat:=l.foldl (fun a c=>10 * a+(c.toNat-48)) 0
def mV (l:I):Nat×Nat:=if l.length=0∨18<l.length∨(1<l.length∧(l.getD 0 0).toNat=48)∨l.all dM=false then (0,4) else (i9 l,0)
theorem fB {n:Nat} (h:n<10):mD n=[Ch n]:=by rw [mD,Zz h]
theorem jp {n:Nat} (h:¬ n<10):mD n=mD (n / 10)++[Ch (n % 10)]:=by rw [mD,Zy h]
theorem jV (n:Nat) (h:n<10):(Ch n).toNat=48+n:=by
 unfold Ch
 have:=eI ((48+n:Nat):Int)
 omega
theorem kp (l:I) (c:UInt8):i9 (l++[c])=10 * i9 l+(c.toNat-48):=by simp [i9]
theorem wK {p:Nat→Prop} (h0:∀ n,n<10→p n) (h1:∀ n,¬ n<10→p (n / 10)→p n) (n:Nat):p n:=by
 induction n using Nat.strongRecOn with
 | ind n ih =>
  by_cases h:n<10
  exact h0 n h
  exact h1 n h (ih _ O)
theorem Cm (n:Nat):0<(mD n).length:=by
 by_cases h:n<10
 ·rw [fB h];simp
 ·rw [jp h];simp
theorem EQ (n:Nat):(mD n).all dM=true:=by
 induction n using wK with
 | h0 n h =>
  rw [fB h]
  have:=jV n h
  simp [dM,this];omega
 | h1 n h ih =>
  rw [jp h,bTx,ih]
  have:=jV (n % 10) O
  simp [dM,this];omega
theorem SU (n:Nat):i9 (mD n)=n:=by
 induction n using wK with
 | h0 n h =>
  rw [fB h]
  have:=jV n h
  simp [i9,this]
 | h1 n h ih =>
  rw [jp h,kp,ih]
  have:=jV (n % 10) O
  omega
theorem EO (n:Nat):1<(mD n).length→((mD n).getD 0 0).toNat≠48:=by
 induction n using wK with
 | h0 n h=>rw [fB h];simp
 | h1 n h ih =>
  intro _
  rw [jp h]
  have hp:=Cm (n / 10)
  have e:(mD (n / 10)++[Ch (n % 10)]).getD 0 0=(mD (n / 10)).getD 0 0:=by
   simp only [List.getD,ZF hp]
  rw [e]
  by_cases hs:n / 10<10
  ·rw [fB hs]
   have:=jV (n / 10) hs
   simp only [List.getD,aFx,asx]
   omega
  ·apply ih
   rw [jp hs]
   have:=Cm (n / 10 / 10)
   simp
   omega
theorem qR (k:Nat):∀ n,n<10 ^ (k+1)→(mD n).length≤k+1:=by
 induction k with
 | zero=>intro n h;rw [fB (by simpa using h)];simp
 | succ k ih =>
  intro n h
  by_cases hs:n<10
  ·rw [fB hs];simp
  ·rw [jp hs]
   have:=ih (n / 10) (by rw [bNx] at h;omega)
   simp;omega
theorem xd {p:I→Prop} (h0:p []) (h1:∀ l c,p l→p (l++[c])) (l:I):p l:=by
 have h:∀ l:I,p l.reverse:=by
  intro l
  induction l with
  | nil=>exact h0
  | cons c l ih=>rw [bax];exact h1 _ _ ih
 have:=h l.reverse
 rwa [List.reverse_reverse] at this
theorem yJ {l:I} {c:UInt8} (h:(l++[c]).all dM=true):l.all dM=true∧48≤c.toNat∧c.toNat≤57:=by
 simp only [bTx,a4x,List.all_nil,Bool.and_true,ZE,dM,ZJ] at h
 exact ⟨by simpa [dM] using h.1,h.2⟩
theorem AG {l:I} {c:UInt8} (h:0<l.length):(l++[c]).getD 0 0=l.getD 0 0:=by
 simp only [List.getD,ZF h]
theorem G2 (l:I):l.all dM=true→i9 l<10 ^ l.length:=by
 induction l using xd with
 | h0=>intro _;simp [i9]
 | h1 l c ih =>
  intro h
  have ⟨h1,h2,h3⟩:=yJ h
  have:=ih h1
  rw [kp,ZD,aEx,bNx]
  omega
theorem ui {l:I} (h:l.all dM=true) (hl:l.length≤17):i9 l<100000000000000000 :=
 Z4 (G2 l h) (Z7 (apx jD hl) jD)
theorem ID {l:I} (h:l.all dM=true) (hl:l.length≤18):i9 l<1000000000000000000 :=
 Z4 (G2 l h) (Z7 (apx jD hl) jD)
theorem LO (l:I):0<l.length→l.all dM=true→(l.getD 0 0).toNat≠48→0<i9 l:=by
 induction l using xd with
 | h0=>simp
 | h1 l c ih =>
  intro _ h hh
  have ⟨h1,h2,h3⟩:=yJ h
  rw [kp]
  by_cases hl:l=[]
  ·subst hl
   simp only [List.nil_append,List.getD,aFx,asx] at hh
   omega
  ·have hp:=aax.2 hl
   rw [AG hp] at hh
   have:=ih hp h1 hh
   omega
theorem Et {c:UInt8} (h2:48≤c.toNat):Ch (c.toNat-48)=c:=by
 unfold Ch
 apply akx.1
 have:=eI ((48+(c.toNat-48):Nat):Int)
 have:=c.toNat_lt
 omega
theorem Ps (l:I):0<l.length→l.all dM=true→(1<l.length→(l.getD 0 0).toNat≠48)→mD (i9 l)=l:=by
 induction l using xd with
 | h0=>simp
 | h1 l c ih =>
  intro _ h hh
  have ⟨h1,h2,h3⟩:=yJ h
  rw [kp]
  by_cases hl:l=[]
  ·subst hl
   show mD (10 * 0+(c.toNat-48))=[c]
   rw [c9x,Nat.zero_add,fB O,Et h2]
  ·have hp:=aax.2 hl
   rw [AG hp] at hh
   have h0:=hh (by simp;omega)
   have hv:=LO l hp h1 h0
   rw [jp O,show (10 * i9 l+(c.toNat-48)) / 10=i9 l by omega,show (10 * i9 l+(c.toNat-48)) % 10=c.toNat-48 by omega,Et h2,ih hp h1 (fun _=>h0)]
theorem O4 {n:Nat} (h:n<1000000000000000000):mV (mD n)=(n,0):=by
 have h1:=Cm n
 have h2:=qR 17 n h
 have h3:=EO n
 unfold mV
 rw [Zy,SU]
 rintro (h|h|⟨h,h'⟩|h)
 omega
 omega
 exact h3 h h'
 ·rw [EQ] at h;cases h
theorem yn (l:I):mV l=if 1≤l.length∧l.length≤18∧l.all dM=true∧mD (i9 l)=l then (i9 l,0) else (0,4):=by
 unfold mV
 split
 ·rename_i h
  rw [Zy]
  rintro ⟨h1,h2,h3,h4⟩
  rcases h with h|h|⟨h,h'⟩|h
  omega
  omega
  ·rw [← h4] at h h'
   exact EO _ h h'
  ·rw [h3] at h;cases h
 ·rename_i h
  have h1:¬ l.length=0:=fun e=>h (.inl e)
  have h2:¬ 18<l.length:=fun e=>h (.inr (.inl e))
  have h3:l.all dM=true:=by
   cases e:l.all dM with
   | true=>rfl
   | false=>exact absurd (.inr (.inr (.inr e))) h
  have h4:1<l.length→(l.getD 0 0).toNat≠48:=fun a b=>h (.inr (.inr (.inl ⟨a,b⟩)))
  rw [Zz ⟨by omega,by omega,h3,Ps l O h3 h4⟩]
theorem Pt {m:Nat} (h:0<m) (o:I):(if m=0 then [] else mD m)++o.reverse=(if m / 10=0 then [] else mD (m / 10))++(o++[Ch (m % 10)]).reverse:=by
 rw [jK,csx,List.reverse_singleton,cgx]
 by_cases hs:m<10
 ·rw [fB hs,jP,show m % 10=m by omega];rfl
 ·rw [jp hs,jK,Z8];rfl
theorem KW (n:Nat):mD n=(if n / 10=0 then [] else mD (n / 10))++[Ch (n % 10)].reverse:=by
 by_cases hs:n<10
 ·rw [fB hs,jP,show n % 10=n by omega];rfl
 ·rw [jp hs,jK];rfl
theorem wG (n:Nat):((Ch (n % 10)).toNat:Int)=48+(n:Int) % 10:=by
 have:=jV (n % 10) O
 omega
theorem zK (l:I) (i:Nat) (h:i<l.length):l.take (i+1)=l.take i++[l.getD i 0]:=by
 rw [ZH h]
 simp [List.getD,ZM h]
theorem kb {l:I} {i:Nat} (hi:i<l.length) (h:dM (l.getD i 0)=false):l.all dM=false:=by
 cases e:l.all dM with
 | false=>rfl
 | true =>
  rw [Z1] at e
  have:=e (l.getD i 0) (by simp [List.getD,ZM hi])
  rw [h] at this
  cases this
end Go.Proofs.YtghminnpfnkbjaaGreatDoor
namespace Go.Proofs.YtghminnpfnkbjaaGreatDoor
namespace Am
open Go.RowKit
theorem tz {q r:I} {i:Nat} (h:i<q.length):(q++r).getD i 0=q.getD i 0:=by simp [List.getD,ZF h]
theorem Ib {l:I} (h:l≠[]):∃ q c,l=q++[c]:=⟨l.dropLast,l.getLast h,(a5x h).symm⟩
def nC (x:UInt8):Zx→Zx
 | []=>[[x]]
 | p::r=>(x::p)::r
def aC (c:UInt8):I→Zx
 | []=>[[]]
 | x::l=>if x=c then []::aC c l else nC x (aC c l)
def mx (c:UInt8):Zx→I
 | []=>[]
 | [p]=>p
 | p::q::r=>p++c::mx c (q::r)
theorem qg (c:UInt8) (l:I):aC c l≠[]:=by
 cases l with
 | nil=>simp [aC]
 | cons x l =>
  rw [aC]
  split
  ·simp
  ·cases aC c l<;>simp [nC]
theorem pe {c:UInt8}:∀ {l:I},c ∉ l→aC c l=[l]
 | [],_=>rfl
 | x::l,h=>by
  have h1:x≠c:=fun e=>h (by simp [e])
  have h2:c ∉ l:=fun e=>h (by simp [e])
  rw [aC,Zy h1,pe h2];rfl
theorem uo {c:UInt8}:∀ {p:I} (r:I),c ∉ p→aC c (p++c::r)=p::aC c r
 | [],r,_=>by simp [aC]
 | x::l,r,h=>by
  have h1:x≠c:=fun e=>h (by simp [e])
  have h2:c ∉ l:=fun e=>h (by simp [e])
  rw [List.cons_append,aC,Zy h1,uo r h2];rfl
theorem Kk (c:UInt8) (x:UInt8):∀ ls:Zx,ls≠[]→mx c (nC x ls)=x::mx c ls
 | [],h=>absurd rfl h
 | [p],_=>rfl
 | p::q::r,_=>rfl
theorem yb (c:UInt8):∀ l:I,mx c (aC c l)=l
 | []=>rfl
 | x::l=>by
  rw [aC]
  have ih:=yb c l
  have hne:=qg c l
  split
  ·rename_i e
   subst e
   revert ih hne
   cases aC x l with
   | nil=>intro _ h;exact absurd rfl h
   | cons p r=>intro ih _;rw [mx,ih];rfl
  ·rw [Kk c x _ hne,ih]
theorem xc {c:UInt8}:∀ {ls:Zx},ls≠[]→(∀ p ∈ ls,c ∉ p)→aC c (mx c ls)=ls
 | [],h,_=>absurd rfl h
 | [p],_,h=>by rw [mx,pe (h p (by simp))]
 | p::q::r,_,h=>by
  rw [mx,uo _ (h p (by simp)),xc (by simp) (fun x hx=>h x (by simp at hx ⊢;exact .inr hx))]
def Ae (p:I):Bool:=decide ((mV p).2=0) && decide (p.length≤10)
def o9 (p:I):Int:=((mV p).1:Nat)
def dz (l:List Int):Bool:=decide (2≤l.length) && decide (l.length≤16) && l.all (fun n=>decide (0≤n) && decide (n≤2147483647)) && decide (l.getD 0 0≤2) && (decide (l.getD 0 0=2) || decide (l.getD 1 0<40))
def bq (s:I):List Int×Nat :=
 if ((aC 46 s).all Ae)=false then ([],4) else if dz ((aC 46 s).map o9)=false then ([],1) else ((aC 46 s).map o9,0)
def ik (m:Nat):I:=if h:m=0 then [] else ik (m / 128)++[UInt8.ofNat (m % 128+128)]
termination_by m
decreasing_by omega
def ez (n:Nat):I:=ik (n / 128)++[UInt8.ofNat (n % 128)]
theorem fg:ik 0=[]:=by rw [ik];simp
theorem gj {m:Nat} (h:m≠0):ik m=ik (m / 128)++[UInt8.ofNat (m % 128+128)]:=by rw [ik,dcx h]
theorem zN (k:Nat):∀ m,m<128 ^ k→(ik m).length≤k:=by
 induction k with
 | zero =>
   intro m h;have:m=0:=by simpa using h
   subst this;rw [fg];simp
 | succ k ih =>
  intro m h
  by_cases h0:m=0
  ·subst h0;rw [fg];simp
  ·rw [gj h0,ZD]
   have:=ih (m / 128) (b0x (by rw [bNx] at h;omega))
   simp;omega
theorem ku {n:Nat} (h:n<34359738368):(ez n).length≤5:=by
 have:=zN 4 (n / 128) O
 simp [ez];omega
theorem Dc (n:Nat):0<(ez n).length:=by simp [ez]
def eE (l:I):Nat:=l.foldl (fun a c=>a * 128+c.toNat % 128) 0
theorem iF (l:I) (c:UInt8):eE (l++[c])=eE l * 128+c.toNat % 128:=by simp [eE]
theorem Qs (m:Nat):eE (ik m)=m:=by
 induction m using Nat.strongRecOn with
 | ind m ih =>
  by_cases h0:m=0
  ·subst h0;rw [fg];rfl
  ·rw [gj h0,iF,ih _ O,ZT]
   omega
theorem LM (n:Nat):eE (ez n)=n:=by
 rw [ez,iF,Qs,ZT]
 omega
theorem IV (m:Nat):∀ c ∈ ik m,128≤c.toNat:=by
 induction m using Nat.strongRecOn with
 | ind m ih =>
  by_cases h0:m=0
  ·subst h0;rw [fg];simp
  ·rw [gj h0]
   intro c hc
   rcases bcx.1 hc with h|h
   exact ih _ O c h
   ·rw [agx] at h;subst h;rw [ZT];omega
theorem Fv (m:Nat) (h:m≠0):((ik m).getD 0 0).toNat≠128:=by
 induction m using Nat.strongRecOn with
 | ind m ih =>
  rw [gj h]
  by_cases h1:m / 128=0
  ·rw [h1,fg]
   simp only [List.nil_append,aLx]
   rw [ZT];omega
  ·have:=ih (m / 128) O h1
   have hp:0<(ik (m / 128)).length:=by rw [gj h1];simp
   rwa [tz hp]
def bP:I→Nat
 | []=>0
 | c::l=>if c.toNat<128 then 1 else 1+bP l
theorem lu:∀ l:I,bP l≤l.length
 | []=>ZA _
 | c::l=>by
  have:=lu l
  rw [bP];split<;>simp<;>omega
theorem gN {l:I} (h:l≠[]):0<bP l:=by
 cases l with
 | nil=>exact absurd rfl h
 | cons c l=>rw [bP];split<;>omega
theorem Fx {l:I} (h:∀ c ∈ l,128≤c.toNat) (x:UInt8) (hx:x.toNat<128) (r:I):bP (l++x::r)=l.length+1:=by
 induction l with
 | nil=>simp [bP,hx]
 | cons c l ih =>
  have h1:=h c (by simp)
  rw [List.cons_append,bP,jK,ih (fun d hd=>h d (by simp [hd]))]
  simp;omega
def fI (run:I) (most:Nat):Nat×Nat :=
 if 128≤(run.getD (run.length-1) 0).toNat then (0,2) else if (run.getD 0 0).toNat=128 then (0,4) else if most<eE run then (0,1) else (eE run,0)
def fN (most:Nat) (b:I):List Nat×Nat :=
 if h:b=[] then ([],0) else
  if (fI (b.take (bP b)) most).2≠0 then ([],(fI (b.take (bP b)) most).2) else
   if (fN 2147483647 (b.drop (bP b))).2≠0 then ([],(fN 2147483647 (b.drop (bP b))).2) else
    ((fI (b.take (bP b)) most).1::(fN 2147483647 (b.drop (bP b))).1,0)
termination_by b.length
decreasing_by
 all_goals
  have:=gN h
  have:=aax.2 h
  simp;omega
def eK:List Nat→List Int
 | []=>[]
 | n::r=>(min (n / 40) 2:Nat)::((n:Int)-40 * (min (n / 40) 2:Nat))::r.map Int.ofNat
def sf (b:I):List Int×Nat :=
 if b=[] then ([],2) else if (fN 2147483727 b).2≠0 then ([],(fN 2147483727 b).2) else
  if dz (eK (fN 2147483727 b).1)=false then ([],1) else (eK (fN 2147483727 b).1,0)
def BP (l:List Int):I:=ez (40 * l.getD 0 0+l.getD 1 0).toNat++((l.drop 2).map fun n=>ez n.toNat).flatten
theorem QT (n:Nat) (r:I):bP (ez n++r)=(ez n).length:=by
 rw [ez,Z8,cgx,Fx (IV _) _ (by rw [ZT];omega)]
 simp
theorem RN {n most:Nat} (h:n≤most):fI (ez n) most=(n,0):=by
 have h1:(ez n).getD ((ez n).length-1) 0=UInt8.ofNat (n % 128):=by
  simp [ez,List.getD]
 have h2:((ez n).getD 0 0).toNat≠128:=by
  by_cases h0:n / 128=0
  ·rw [ez,h0,fg]
   simp only [List.nil_append,aLx]
   rw [ZT];omega
  ·have:=Fv _ h0
   have hp:0<(ik (n / 128)).length:=by rw [gj h0];simp
   rw [ez]
   rwa [tz hp]
 have h3:(UInt8.ofNat (n % 128)).toNat=n % 128:=by rw [ZT];omega
 unfold fI
 rw [h1,h3,jK,Zy h2,LM,jK]
theorem DI {n most:Nat} (h:n≤most) (r:I) (l:List Nat) (hr:fN 2147483647 r=(l,0)):fN most (ez n++r)=(n::l,0):=by
 have hp:=Dc n
 rw [fN,dcx (by intro e;have:=ZV List.length e;rw [ZD,List.length_nil] at this;omega),QT,cYx,List.drop_left,RN h,hr]
 simp
theorem Ny (l:List Nat) (h:∀ n ∈ l,n≤2147483647):fN 2147483647 ((l.map ez).flatten)=(l,0):=by
 induction l with
 | nil=>rw [fN];simp
 | cons n l ih =>
  rw [Z6,arx]
  exact DI (h n (by simp)) _ _ (ih fun m hm=>h m (by simp [hm]))
theorem kz {l:List Int} (h:dz l=true):2≤l.length∧l.length≤16∧(∀ n ∈ l,0≤n∧n≤2147483647)∧l.getD 0 0≤2∧(l.getD 0 0=2∨l.getD 1 0<40):=by
 simp only [dz,ZE,atx,ZJ,Z1] at h
 have ⟨⟨⟨⟨h1,h2⟩,h3⟩,h4⟩,h5⟩:=h
 exact ⟨h1,h2,fun n hn=>h3 n hn,h4,h5⟩
theorem PL {a b:Int} {r:List Nat} (h:0≤a∧a≤2) (hb:0≤b) (h2:a=2∨b<40):eK ((40 * a+b).toNat::r)=a::b::r.map Int.ofNat:=by
 have e:min ((40 * a+b).toNat / 40) 2=a.toNat:=by omega
 simp only [eK,e]
 refine congr (ZV _ O) (congr (ZV _ O) rfl)
theorem Ss {l:List Int} (h:dz l=true):sf (BP l)=(l,0):=by
 have ⟨h1,h2,h3,h4,h5⟩:=kz h
 match l,h1 with
 | a::b::r,_ =>
  simp only [aLx,aTx] at h4 h5
  have ha:=h3 a (by simp)
  have hb:=h3 b (by simp)
  have hr:∀ n ∈ r.map Int.toNat,n≤2147483647:=fun n hn=>by
   obtain ⟨m,hm,rfl⟩:=bBx.1 hn
   have:=h3 m (by simp [hm]);omega
  have hn:=Ny _ hr
  rw [a8x] at hn
  have hs:=DI (n:=(40 * a+b).toNat) (most:=2147483727) O _ _ hn
  have hput:BP (a::b::r)=ez (40 * a+b).toNat++(r.map (ez ∘ Int.toNat)).flatten:=rfl
  have hne:BP (a::b::r)≠[]:=fun e=>by
   have:=ZV List.length e
   rw [hput] at this
   have hp:=Dc (40 * a+b).toNat
   rw [ZD,List.length_nil] at this;omega
  have e:eK ((40 * a+b).toNat::r.map Int.toNat)=a::b::r:=by
   rw [PL ⟨ha.1,h4⟩ hb.1 h5,a8x]
   refine ZV _ (ZV _ ?_)
   refine (bFx fun x hx=>?_).trans (cZx _)
   have:=h3 x (by simp [hx])
   simp;omega
  unfold sf
  rw [Zy hne,hput,hs]
  simp only [ne_eq,not_true_eq_false,if_false,e,h]
  simp
theorem QM (l:I) (h:∀ c ∈ l,128≤c.toNat) (h2:l≠[]→(l.getD 0 0).toNat≠128):ik (eE l)=l:=by
 have key:∀ k,∀ l:I,l.length=k→(∀ c ∈ l,128≤c.toNat)→(l≠[]→(l.getD 0 0).toNat≠128)→ik (eE l)=l∧(l≠[]→eE l≠0):=by
  intro k
  induction k with
  | zero =>
    intro l hl _ _;have:l=[]:=alx.1 hl
    subst this;exact ⟨fg,fun h=>absurd rfl h⟩
  | succ k ih =>
   intro l hl hb hh
   obtain ⟨q,c,rfl⟩:=Ib (l:=l) (by intro e;rw [e] at hl;simp at hl)
   have hlq:q.length=k:=by simpa using hl
   have hc:=hb c (by simp)
   have hc2:=c.toNat_lt
   have hq:q≠[]→(q.getD 0 0).toNat≠128:=fun hne=>by
    have:=hh (by simp)
    have hp:0<q.length:=aax.2 hne
    rwa [tz hp] at this
   obtain ⟨h5,h6⟩:=ih q hlq (fun d hd=>hb d (by simp [hd])) hq
   have hv:eE (q++[c])≠0:=by
    rw [iF]
    by_cases hq0:q=[]
    ·subst hq0
     have:=hh (by simp)
     simp at this
     show 0 * 128+_≠0
     omega
    ·have:=h6 hq0
     omega
   refine ⟨?_,fun _=>hv⟩
   rw [gj hv,iF,show (eE q * 128+c.toNat % 128) / 128=eE q by omega,h5]
   refine ZV _ ?_
   rw [show (eE q * 128+c.toNat % 128) % 128+128=c.toNat by omega,bCx]
 exact (key _ l rfl h h2).1
theorem Mw {l:I} (hne:l≠[]) (h:∀ i,i+1<l.length→128≤(l.getD i 0).toNat) (h1:(l.getD (l.length-1) 0).toNat<128) (h2:(l.getD 0 0).toNat≠128):ez (eE l)=l:=by
 obtain ⟨q,c,rfl⟩:=Ib hne
 have hc:c.toNat<128:=by simpa [List.getD] using h1
 have hb:∀ d ∈ q,128≤d.toNat:=fun d hd=>by
  obtain ⟨i,hi,rfl⟩:=bbx hd
  have:=h i (by simp;omega)
  simpa [List.getD,ZF hi,hi] using this
 have hq:q≠[]→(q.getD 0 0).toNat≠128:=fun hne=>by
  have hp:0<q.length:=aax.2 hne
  rwa [tz hp] at h2
 rw [ez,iF,show (eE q * 128+c.toNat % 128) / 128=eE q by omega,show (eE q * 128+c.toNat % 128) % 128=c.toNat by omega,QM q hb hq,bCx]
theorem xi:∀ (l:I) (i:Nat),i+1<bP l→128≤(l.getD i 0).toNat
 | [],i,h=>by simp [bP] at h
 | c::l,i,h=>by
  rw [bP] at h
  split at h
  omega
  ·cases i with
   | zero=>simp;omega
   | succ i=>simpa using xi l i O
theorem Nz {b:I} {most n:Nat} (hb:b≠[]) (h:fI (b.take (bP b)) most=(n,0)):ez n=b.take (bP b)∧n≤most:=by
 unfold fI at h
 have hp:=gN hb
 have hle:=lu b
 have hlen:(b.take (bP b)).length=bP b:=by simp;omega
 split at h
 ·simp at h
 split at h
 ·simp at h
 split at h
 ·simp at h
 simp at h
 subst h
 refine ⟨Mw (by intro e;rw [e] at hlen;simp at hlen;omega) (fun i hi=>?_) O (by assumption),by omega⟩
 rw [hlen] at hi
 have:=xi b i hi
 simpa [List.getD,aXx,show i<bP b by omega] using this
theorem JW:∀ (k:Nat) (b:I) (most:Nat) (l:List Nat),b.length≤k→fN most b=(l,0)→(l.map ez).flatten=b∧(∀ n ∈ l.drop 1,n≤2147483647)∧(∀ n,l.head?=some n→n≤most)∧(b≠[]→l≠[]):=by
 intro k
 induction k with
 | zero =>
  intro b most l hk h
  have:b=[]:=alx.1 O
  subst this
  rw [fN] at h
  simp at h
  subst h
  simp
 | succ k ih =>
  intro b most l hk h
  by_cases hb:b=[]
  ·subst hb
   rw [fN] at h
   simp at h
   subst h
   simp
  ·rw [fN,dcx hb] at h
   split at h
   ·rename_i h1;simp at h;exact absurd h.2 h1
   rename_i h1
   split at h
   ·rename_i h2;simp at h;exact absurd h.2 h2
   rename_i h2
   have hp:=gN hb
   have hl:=aax.2 hb
   obtain ⟨l',hl'⟩:∃ l',fN 2147483647 (b.drop (bP b))=(l',0):=⟨_,czx rfl (by simpa using h2)⟩
   obtain ⟨h3,h4,h5,_⟩:=ih (b.drop (bP b)) 2147483647 l' (by simp;omega) hl'
   obtain ⟨n,hn⟩:∃ n,fI (b.take (bP b)) most=(n,0):=⟨_,czx rfl (by simpa using h1)⟩
   have ⟨h6,h7⟩:=Nz hb hn
   rw [hl',hn] at h
   simp at h
   subst h
   refine ⟨?_,?_,?_,fun _=>by simp⟩
   ·rw [Z6,arx,h3,h6,amx]
   ·intro m hm
    cases l' with
    | nil=>simp at hm
    | cons x r =>
     simp at hm
     rcases hm with rfl|hm
     exact h5 _ rfl
     exact h4 m (by simpa using hm)
   ·intro m hm;simp at hm;omega
theorem Rw {b:I} {l:List Int} (h:sf b=(l,0)):BP l=b∧dz l=true:=by
 unfold sf at h
 split at h
 ·simp at h
 rename_i hb
 split at h
 ·rename_i h1;simp at h;exact absurd h.2 h1
 rename_i h1
 split at h
 ·simp at h
 rename_i h2
 simp at h
 have hr:dz (eK (fN 2147483727 b).1)=true:=by simpa using h2
 obtain ⟨ns,hns⟩:∃ ns,fN 2147483727 b=(ns,0):=⟨_,czx rfl (by simpa using h1)⟩
 obtain ⟨h3,h4,h5,h6⟩:=JW b.length b _ ns (ZA _) hns
 rw [hns] at h hr
 subst h
 refine ⟨?_,hr⟩
 cases ns with
 | nil=>exact absurd rfl (h6 hb)
 | cons n r =>
  rw [← h3]
  show ez _++_=_
  simp only [eK,aLx,aTx,c4x,cUx,Z6,arx]
  refine congr (ZV _ (ZV _ ?_)) (ZV _ ?_)
  omega
  ·rw [a8x]
   refine bFx fun x _=>?_
   simp
theorem Kq (c:UInt8):dM c=(decide (48≤c.toNat) && decide (c.toNat≤57)):=rfl
theorem KM {p:I} (h:(mV p).2=0):mD (mV p).1=p:=by
 rw [yn] at h ⊢
 split at h
 ·rename_i h1
  rw [Zz h1]
  exact h1.2.2.2
 ·simp at h
def w5 (l:List Int):I:=mx 46 (l.map fun n=>mD n.toNat)
theorem Pu (n:Nat):(46:UInt8) ∉ mD n:=fun h=>by
 have:=Z1.1 (EQ n) _ h
 rw [Kq] at this
 simp at this
theorem Nq {n:Int} (h0:0≤n) (h:n≤2147483647):Ae (mD n.toNat)=true∧o9 (mD n.toNat)=n:=by
 have h1:=O4 (n:=n.toNat) O
 have h2:=qR 9 n.toNat O
 simp only [Ae,o9,h1]
 refine ⟨by simp;omega,by show ((n.toNat:Nat):Int)=n;omega⟩
theorem FP {l:List Int} (h:dz l=true):bq (w5 l)=(l,0):=by
 have ⟨h1,h2,h3,h4,h5⟩:=kz h
 have hs:aC 46 (w5 l)=l.map fun n=>mD n.toNat:=xc (by cases l<;>simp at h1 ⊢) (fun p hp=>by
  obtain ⟨n,_,rfl⟩:=bBx.1 hp
  exact Pu _)
 have ho:((l.map fun n=>mD n.toNat).all Ae)=true:=by
  rw [Z1]
  intro p hp
  obtain ⟨n,hn,rfl⟩:=bBx.1 hp
  exact (Nq (h3 n hn).1 (h3 n hn).2).1
 have hv:(l.map fun n=>mD n.toNat).map o9=l:=by
  rw [a8x]
  refine (bFx fun n hn=>?_).trans (cZx _)
  exact (Nq (h3 n hn).1 (h3 n hn).2).2
 unfold bq
 rw [hs,ho,hv,h]
 simp
theorem py {s:I} {l:List Int} (h:bq s=(l,0)):dz l=true∧(aC 46 s).all Ae=true∧l=(aC 46 s).map o9:=by
 unfold bq at h
 split at h
 ·simp at h
 rename_i h1
 split at h
 ·simp at h
 rename_i h2
 simp at h
 subst h
 exact ⟨by simpa using h2,by simpa using h1,rfl⟩
theorem Fp {s:I} {l:List Int} (h:bq s=(l,0)):w5 l=s:=by
 obtain ⟨h1,h2,rfl⟩:=py h
 unfold w5
 rw [a8x]
 have:(aC 46 s).map ((fun n=>mD n.toNat) ∘ o9)=aC 46 s:=by
  refine (bFx fun p hp=>?_).trans (cZx _)
  have h3:=Z1.1 h2 p hp
  simp only [Ae,ZE,ZJ] at h3
  exact KM h3.1
 rw [this,yb]
def bI (b:I):Zx:=if h:b=[] then [] else b.take (bP b)::bI (b.drop (bP b))
termination_by b.length
decreasing_by
 have:=gN h
 have:=aax.2 h
 simp;omega
theorem jL:bI []=[]:=by rw [bI];simp
theorem nP {b:I} (h:b≠[]):bI b=b.take (bP b)::bI (b.drop (bP b)):=by rw [bI,dcx h]
theorem Mz:∀ (n:Nat) (b:I),b.length≤n→∀ r ∈ bI b,0<r.length:=by
 intro n
 induction n with
 | zero =>
  intro b hb r hr
  have:b=[]:=alx.1 O
  subst this
  rw [jL] at hr;cases hr
 | succ n ih =>
  intro b hb r hr
  by_cases h:b=[]
  ·subst h;rw [jL] at hr;cases hr
  ·rw [nP h] at hr
   have h1:=gN h
   have h2:=lu b
   rcases Z9.1 hr with rfl|hr
   ·rw [ZK];omega
   exact ih _ (by rw [ZI];omega) r hr
theorem MA:∀ (n:Nat) (b:I),b.length≤n→(bI b).length≤b.length:=by
 intro n
 induction n with
 | zero =>
  intro b hb
  have:b=[]:=alx.1 O
  subst this
  rw [jL];exact ZA _
 | succ n ih =>
  intro b hb
  by_cases h:b=[]
  ·subst h;rw [jL];exact ZA _
  ·rw [nP h]
   have h1:=gN h
   have h2:=lu b
   have:=ih (b.drop (bP b)) (by rw [ZI];omega)
   rw [ZI] at this
   simp only [List.length_cons];omega
def xo (most:Nat):Zx→List (Nat×Nat)
 | []=>[]
 | r::t=>fI r most::xo 2147483647 t
theorem Dp:∀ (most:Nat) (l:Zx),(xo most l).length=l.length
 | _,[]=>rfl
 | most,r::t=>by rw [xo,List.length_cons,Dp,List.length_cons]
theorem Dq:∀ (most:Nat) (l:Zx) (k:Nat),k<l.length→(xo most l).getD k (0,0)=fI (l.getD k []) (if k=0 then most else 2147483647)
 | _,[],k,h=>absurd h (ZO k)
 | most,r::t,0,_=>rfl
 | most,r::t,k+1,h=>by
  have:=Dq 2147483647 t k (by simpa using h)
  rw [xo,aTx,aTx,this,Zy (Nat.succ_ne_zero k)]
  split<;>rfl
def fA:List (Nat×Nat)→Nat
 | []=>0
 | x::t=>if x.2=0 then fA t else x.2
theorem Ey {l r:List (Nat×Nat)} (h:fA l=0):fA (l++r)=fA r:=by
 induction l with
 | nil=>rfl
 | cons x t ih =>
  rw [fA] at h
  split at h
  ·rename_i hx
   rw [List.cons_append,fA,Zz hx,ih h]
  ·rename_i hx;exact absurd h hx
theorem Ew {l:List (Nat×Nat)} {k:Nat} (hk:k<l.length) (h:fA (l.take k)=0):fA (l.take (k+1))=(l.getD k (0,0)).2:=by
 rw [ZH hk,Ey h]
 simp only [fA,List.getD,ZM hk,asx]
 split<;>simp_all
theorem Ex {l:List (Nat×Nat)} {k:Nat} (hk:k<l.length) (h:fA (l.take k)=0) (h2:(l.getD k (0,0)).2≠0):fA l=(l.getD k (0,0)).2:=by
 have e:fA (l.take k++l.drop k)=fA (l.drop k):=Ey h
 rw [amx] at e
 rw [e,ZZ hk,fA]
 simp only [List.getD,ZM hk,asx] at h2 ⊢
 rw [Zy h2]
theorem Nw:∀ (n:Nat) (b:I) (most:Nat),b.length≤n→fN most b=if fA (xo most (bI b))=0 then ((xo most (bI b)).map (·.1),0) else ([],fA (xo most (bI b))):=by
 intro n
 induction n with
 | zero =>
  intro b most hb
  have:b=[]:=alx.1 O
  subst this
  rw [fN,jL];rfl
 | succ n ih =>
  intro b most hb
  by_cases h:b=[]
  ·subst h;rw [fN,jL];rfl
  ·have h1:=gN h
   have h2:=lu b
   have hi:=ih (b.drop (bP b)) 2147483647 (by rw [ZI];omega)
   rw [fN,dcx h,hi,nP h,xo,fA]
   by_cases e:(fI (b.take (bP b)) most).2=0
   ·rw [Zy (by simp [e]),Zz e]
    by_cases e2:fA (xo 2147483647 (bI (b.drop (bP b))))=0
    ·rw [Zz e2,Zz e2,Zy (by simp),Z6]
    ·rw [Zy e2,Zy e2,Zz e2]
   ·rw [Zz e,Zy e,Zy e]
theorem Li {l:List Nat} (n:Nat) (h:l≠[]):eK (l++[n])=eK l++[(n:Int)]:=by
 cases l with
 | nil=>exact absurd rfl h
 | cons a r=>simp [eK]
theorem PM (l:List Nat):(eK l).length≤l.length+1∧(l≠[]→2≤(eK l).length):=by
 cases l with
 | nil=>exact ⟨by simp [eK],fun h=>absurd rfl h⟩
 | cons a r=>simp [eK]
def iK (s:I):I:=if (bq s).2=0 then BP (bq s).1 else []
def fu (b:I):List (Nat×Nat):=xo 2147483727 (bI b)
theorem nj (b:I):(fu b).length=(bI b).length:=Dp _ _
theorem Af (b:I):fN 2147483727 b=if fA (fu b)=0 then ((fu b).map (·.1),0) else ([],fA (fu b)):=Nw b.length b 2147483727 (ZA _)
theorem OR:sf []=([],2):=by unfold sf;rw [Zz rfl]
theorem OS {b:I} (hb:b≠[]) (h:fA (fu b)≠0):sf b=([],fA (fu b)):=by
 unfold sf
 have:=Af b
 rw [Zy h] at this
 rw [Zy hb,this,Zz h]
theorem KD {b:I} (hb:b≠[]) (h:fA (fu b)=0):sf b=if dz (eK ((fu b).map (·.1)))=false then ([],1) else (eK ((fu b).map (·.1)),0):=by
 unfold sf
 have:=Af b
 rw [Zz h] at this
 rw [Zy hb,this,Zy (by simp)]
def vp (l:List Int):I×Nat:=if dz l=true then (w5 l,0) else ([],1)
def eU (b:I):I×Nat:=if (sf b).2=0 then (w5 (sf b).1,0) else ([],(sf b).2)
theorem OK {b:I} (hb:b≠[]) (h:fA (fu b)=0):eU b=vp (eK ((fu b).map (·.1))):=by
 unfold eU vp
 rw [KD hb h]
 cases dz (eK ((fu b).map (·.1)))<;>simp
theorem Sv {b:I} (hb:b≠[]) (h:fA (fu b)≠0):eU b=([],fA (fu b)):=by
 unfold eU
 rw [OS hb h,Zy h]
theorem Su:eU []=([],2):=by unfold eU;rw [OR,Zy jD]
theorem D9 (c:UInt8):∀ ls:Zx,Lib.join ls [c]=mx c ls
 | []=>rfl
 | [p]=>Lib.join_one p [c]
 | p::q::r=>by
  have ih:=D9 c (q::r)
  rw [Lib.join_cons] at ih ⊢
  rw [mx,← ih]
  simp [Lib.joinTail]
theorem Ea {c:UInt8} {m:Nat}:∀ {ls:Zx},(∀ p ∈ ls,p.length≤m)→(mx c ls).length≤(m+1) * ls.length
 | [],_=>ZL _
 | [p],h=>by have:=h p (by simp);simp [mx];omega
 | p::q::r,h=>by
  have h1:=h p (by simp)
  have ih:=Ea (c:=c) (m:=m) (ls:=q::r) fun x hx=>h x (by simp at hx ⊢;exact .inr hx)
  rw [mx,ZD,List.length_cons,List.length_cons,Nat.mul_succ]
  omega
theorem R3 (l:I) (p:UInt8→Bool) (hp:∀ c,p c=decide (c.toNat<128)):(bP l:Int)=if ek p l<0 then (l.length:Int) else ek p l+1:=by
 induction l with
 | nil=>simp [bP,ek]
 | cons c l ih =>
  have hb:=nw p l
  rw [bP,ek,hp]
  by_cases hc:c.toNat<128
  ·simp [hc]
  ·simp only [hc,cNx,if_false,aYx]
   by_cases hn:ek p l<0
   ·rw [Zz hn] at ih
    rw [Zz hn,Zz jD]
    simp only [List.length_cons];omega
   ·rw [Zy hn] at ih
    rw [Zy hn,jK]
    omega
theorem Gp {s:I} (h:(bq s).2=0):eU (BP (bq s).1)=(s,0):=by
 have hr:=(py (s:=s) (l:=(bq s).1) (by rw [← h])).1
 have ht:=Fp (s:=s) (l:=(bq s).1) (by rw [← h])
 unfold eU
 rw [Ss hr,Zz rfl,ht]
end Am
end Go.Proofs.YtghminnpfnkbjaaGreatDoor
namespace Go.Proofs.YtghminnpfnkbjaaGreatDoor.Cal
structure D6 where
 y:Int
 m:Int
 d:Int
 h:Int
 mi:Int
 s:Int
def kE (y:Int):Bool:=y % 4 == 0 && (y % 100 != 0 || y % 400 == 0)
theorem xX (y:Int):kE y=decide (y % 4=0∧(y % 100≠0∨y % 400=0)):=by
 rw [bmx];simp [kE]
theorem LV (a b:Int):a.tmod b=0↔a % b=0:=by
 rw [← Int.dvd_iff_tmod_eq_zero,Int.dvd_iff_emod_eq_zero]
def iq (y m:Int):Int :=
 if m=4∨m=6∨m=9∨m=11 then 30 else if m=2 then (if kE y then 29 else 28) else if m<1∨m>12 then 0 else 31
theorem wL (y m:Int):0≤iq y m∧iq y m≤31:=by
 unfold iq;repeat' split
 all_goals omega
theorem pR {y m d:Int} (h1:1≤d) (h2:d≤iq y m):1≤m∧m≤12:=by
 unfold iq at h2;repeat' split at h2
 all_goals omega
def bf (y:Int):Int:=365 * (y-1)+(y-1) / 4-(y-1) / 100+(y-1) / 400+306-719468
theorem wO:bf 1970=0:=by decide
theorem Il (y:Int):bf (y+1)=bf y+365+if kE y then 1 else 0:=by
 have e:(kE y=true)↔(y % 4=0∧(y % 100≠0∨y % 400=0)):=by simp [kE]
 by_cases h:kE y=true
 ·rw [Zz h];rw [e] at h;unfold bf;omega
 ·rw [Zy h];rw [e] at h;unfold bf;omega
theorem oH {a b:Int} (h:a≤b):bf a≤bf b:=by unfold bf;omega
theorem XM (y:Int) (h1:1970≤y) (h2:y≤10000):0≤bf y∧bf y≤2932897:=by unfold bf;omega
def sv (y m:Int):Int :=
 if m≤2 then 31 * (m-1) else (153 * (m-3)+2) / 5+59+(if kE y then 1 else 0)
theorem wM (y:Int):sv y 1=0:=by simp [sv]
theorem tS (y m:Int) (h1:1≤m) (h2:m≤12):sv y (m+1)=sv y m+iq y m:=by
 have:m=1∨m=2∨m=3∨m=4∨m=5∨m=6∨m=7∨m=8∨m=9∨m=10∨m=11∨m=12:=by omega
 rcases this with h|h|h|h|h|h|h|h|h|h|h|h<;>subst h<;>simp [sv,iq]<;>split<;>omega
theorem Co (y:Int):bf y+sv y 13=bf (y+1):=by
 rw [Il];simp [sv];split<;>omega
theorem tU {y a b:Int} (h0:1≤a) (h:a≤b) (h1:b≤13):sv y a≤sv y b:=by
 unfold sv;repeat' split
 all_goals omega
theorem Cn (y m:Int) (h1:1≤m) (h2:m≤13):0≤sv y m∧sv y m≤366:=by
 unfold sv;repeat' split
 all_goals omega
def dn (y m d:Int):Int:=bf y+sv y m+d-1
theorem SQ (y m d:Int) (h1:1≤m) (h2:m≤12) :
  365 * (if m-3<0 then y-1 else y)+(if m-3<0 then y-1 else y) / 4-(if m-3<0 then y-1 else y) / 100+(if m-3<0 then y-1 else y) / 400+(153 * (if m-3<0 then m-3+12 else m-3)+2) / 5+d-1-719468=dn y m d:=by
 have e:(kE y=true)↔(y % 4=0∧(y % 100≠0∨y % 400=0)):=by simp [kE]
 by_cases h:m-3<0
 ·simp only [Zz h]
  have:m=1∨m=2:=by omega
  rcases this with h|h<;>subst h<;>simp [dn,bf,sv]<;>omega
 ·simp only [Zy h]
  unfold dn bf sv
  rw [jK]
  by_cases hl:kE y=true
  ·rw [Zz hl];rw [e] at hl;omega
  ·rw [Zy hl];rw [e] at hl;omega
def gZ (x:D6):Prop:=1970≤x.y∧x.y≤9999∧1≤x.d∧x.d≤iq x.y x.m∧0≤x.h∧x.h<24∧0≤x.mi∧x.mi<60∧0≤x.s∧x.s<60
instance (x:D6):Decidable (gZ x):=by unfold gZ;infer_instance
def uq (x:D6):Int:=((dn x.y x.m x.d * 24+x.h) * 60+x.mi) * 60+x.s
theorem Pn {y m d:Int} (h1:1970≤y) (h2:y≤9999) (h3:1≤d) (h4:d≤iq y m):bf y≤dn y m d∧dn y m d<bf (y+1)∧1≤m∧m≤12∧sv y m≤dn y m d-bf y∧dn y m d-bf y<sv y (m+1):=by
 have ⟨hm1,hm2⟩:=pR h3 h4
 have h5:=tS y m hm1 hm2
 have h6:=Co y
 have h7:=tU (y:=y) (a:=m+1) (b:=13) O O O
 have h8:=Cn y m hm1 O
 unfold dn
 omega
theorem VM {y m d y' m' d':Int} (a1:1970≤y) (a2:y≤9999) (a3:1≤d) (a4:d≤iq y m) (b1:1970≤y') (b2:y'≤9999) (b3:1≤d') (b4:d'≤iq y' m') (h:dn y m d=dn y' m' d'):y=y'∧m=m'∧d=d':=by
 have ⟨p1,p2,p3,p4,p5,p6⟩:=Pn a1 a2 a3 a4
 have ⟨q1,q2,q3,q4,q5,q6⟩:=Pn b1 b2 b3 b4
 rw [h] at p1 p2 p5 p6
 have hy:y=y':=by
  rcases cGx y y' with hlt|heq|hlt
  ·have:=oH (a:=y+1) (b:=y') O;omega
  exact heq
  ·have:=oH (a:=y'+1) (b:=y) O;omega
 subst hy
 have hm:m=m':=by
  rcases cGx m m' with hlt|heq|hlt
  ·have:=tU (y:=y) (a:=m+1) (b:=m') O O O;omega
  exact heq
  ·have:=tU (y:=y) (a:=m'+1) (b:=m) O O O;omega
 subst hm
 refine ⟨rfl,rfl,?_⟩
 unfold dn at h
 omega
theorem XH (n:Int) (h0:0≤n) (h1:n<146097):∃ c r:Int,n=36524 * c+r∧0≤c∧c≤3∧0≤r∧(r<36524∨(c=3∧r=36524)):=by
 by_cases h:n=146096
 exact ⟨3,36524,by omega,by omega,by omega,by omega,.inr ⟨rfl,rfl⟩⟩
 exact ⟨n / 36524,n % 36524,by omega,by omega,by omega,by omega,.inl O⟩
theorem XG (v:Int) (h0:0≤v) (h1:v<1461):∃ k e:Int,v=365 * k+e∧0≤k∧k≤3∧0≤e∧(e<365∨(k=3∧e=365)):=by
 by_cases h:v=1460
 exact ⟨3,365,by omega,by omega,by omega,by omega,.inr ⟨rfl,rfl⟩⟩
 exact ⟨v / 365,v % 365,by omega,by omega,by omega,by omega,.inl O⟩
theorem Pp (c q v:Int) (hc:0≤c) (hc3:c≤3) (hq:0≤q) (hq24:q≤24) (hv:0≤v) (hv2:v≤1460):∃ z,(36524 * c+1461 * q+v) / 1460=25 * c+q+z∧((z=0∧24 * c+q+v<1460)∨(z=1∧1460≤24 * c+q+v)):=by
 by_cases h:24 * c+q+v<1460
 exact ⟨0,by omega,.inl ⟨rfl,h⟩⟩
 exact ⟨1,by omega,.inr ⟨rfl,by omega⟩⟩
theorem Po (c r:Int) (hc:0≤c) (hc3:c≤3) (h0:0≤r) (h:r<36524∨(c=3∧r=36524)):(36524 * c+r) / 36524-(36524 * c+r) / 146096=c:=by
 rcases h with h|⟨rfl,rfl⟩
 ·have e1:(36524 * c+r) / 36524=c:=by omega
  have e2:(36524 * c+r) / 146096=0:=by omega
  omega
 ·decide
theorem LC (c q k e z:Int) (hc:0≤c) (hc3:c≤3) (hq:0≤q) (hq24:q≤24) (hk0:0≤k) (hk3:k≤3) (he0:0≤e) (he:e<365∨(k=3∧e=365)) (hz:(z=0∧24 * c+q+(365 * k+e)<1460)∨(z=1∧1460≤24 * c+q+(365 * k+e))) :
  ((36524 * c+1461 * q+(365 * k+e))-(25 * c+q+z)+c) / 365=100 * c+4 * q+k:=by
 have h1:0≤e-z∧e-z<365:=by
  rcases hz with ⟨rfl,hz⟩|⟨rfl,hz⟩<;>rcases he with he|⟨rfl,rfl⟩<;>omega
 have h2:(36524 * c+1461 * q+(365 * k+e))-(25 * c+q+z)+c=(100 * c+4 * q+k) * 365+(e-z):=by omega
 rw [h2]
 omega
theorem YP (a b c d:Int):a-b+c-d=a-b+(c-d):=by omega
theorem Qa (c q k e:Int) (hc:0≤c) (hc3:c≤3) (hq:0≤q) (hq24:q≤24) (hk0:0≤k) (hk3:k≤3) (he:e<365∨(k=3∧e=365)) (hr:1461 * q+(365 * k+e)<36524∨c=3) :
  36524 * c+(1461 * q+(365 * k+e))<365 * (100 * c+4 * q+k+1)+(100 * c+4 * q+k+1) / 4-(100 * c+4 * q+k+1) / 100+(if 100 * c+4 * q+k=399 then 1 else 0):=by
 by_cases hk:k=3
 ·subst hk
  have e10:(100 * c+4 * q+3+1) / 4=25 * c+q+1:=by clear he hr;omega
  rw [e10]
  have he':e≤365:=by omega
  clear he
  by_cases hq':q=24
  ·subst hq'
   have e11:(100 * c+4 * 24+3+1) / 100=c+1:=by clear hr;omega
   rw [e11]
   split
   ·clear hr;omega
   ·have:¬ c=3:=by rename_i h;omega
    have hr':=hr.resolve_right this
    clear hr
    omega
  ·have e11:(100 * c+4 * q+3+1) / 100=c:=by clear hr;omega
   rw [e11]
   clear hr
   split<;>omega
 ·have he':e<365:=by
   rcases he with h|h
   exact h
   exact absurd h.1 hk
  clear he hr
  have e10:(100 * c+4 * q+k+1) / 4=25 * c+q:=by omega
  have e11:(100 * c+4 * q+k+1) / 100=c:=by omega
  rw [e10,e11]
  split<;>omega
def yr (n:Int):Int:=(n-n / 1460+n / 36524-n / 146096) / 365
theorem Qd {n c r q v k e:Int} (hn:n=36524 * c+r) (hc:0≤c) (hc3:c≤3) (hr0:0≤r) (hr:r<36524∨(c=3∧r=36524)) (hr2:r=1461 * q+v) (hq:0≤q) (hq24:q≤24) (hv:0≤v) (hv2:v<1461) (hv3:v=365 * k+e) (hk0:0≤k) (hk3:k≤3) (he0:0≤e) (he:e<365∨(k=3∧e=365)):yr n=100 * c+4 * q+k:=by
 obtain ⟨z,hz,hz2⟩:=Pp c q v hc hc3 hq hq24 hv (Int.le_of_lt_add_one hv2)
 have e1:=Po c r hc hc3 hr0 hr
 show (n-n / 1460+n / 36524-n / 146096) / 365=_
 have e3:n / 36524-n / 146096=c:=by rw [hn];exact e1
 have e4:n / 1460=25 * c+q+z:=by rw [hn,hr2,← Int.add_assoc];exact hz
 have e5:=LC c q k e z hc hc3 hq hq24 hk0 hk3 he0 he (by rw [← hv3];exact hz2)
 rw [YP,e3,e4,hn,hr2,hv3,← Int.add_assoc]
 exact e5
theorem XF (r:Int) (h0:0≤r) (h1:r≤36524):∃ q v:Int,r=1461 * q+v∧0≤q∧q≤24∧0≤v∧v<1461:=⟨r / 1461,r % 1461,by omega,by omega,by omega,by omega,by omega⟩
theorem Qc {c q k:Int} (hc:0≤c) (hc3:c≤3) (hq:0≤q) (hq24:q≤24) (hk0:0≤k) (hk3:k≤3):0≤100 * c+4 * q+k∧100 * c+4 * q+k≤399∧365 * (100 * c+4 * q+k)+(100 * c+4 * q+k) / 4-(100 * c+4 * q+k) / 100=36524 * c+1461 * q+365 * k:=by
 have e7:(100 * c+4 * q+k) / 4=25 * c+q:=by omega
 have e8:(100 * c+4 * q+k) / 100=c:=by clear e7;omega
 refine ⟨by clear e7 e8;omega,by clear e7 e8;omega,?_⟩
 rw [e7,e8]
 clear e7 e8
 omega
theorem Qb (n:Int) (h0:0≤n) (h1:n<146097) :
  0≤yr n∧yr n≤399∧365 * yr n+yr n / 4-yr n / 100≤n∧n<365 * (yr n+1)+(yr n+1) / 4-(yr n+1) / 100+(if yr n=399 then 1 else 0):=by
 have ⟨c,r,hn,hc,hc3,hr0,hr⟩:=XH n h0 h1
 have hr1:r≤36524:=by
  rcases hr with h|h
  exact dax h
  exact Int.le_of_eq h.2
 have ⟨q,v,hr2,hq,hq24,hv,hv2⟩:=XF r hr0 hr1
 have ⟨k,e,hv3,hk0,hk3,he0,he⟩:=XG v hv hv2
 rw [Qd hn hc hc3 hr0 hr hr2 hq hq24 hv hv2 hv3 hk0 hk3 he0 he]
 have hup:=Qa c q k e hc hc3 hq hq24 hk0 hk3 he (by
  rw [← hv3,← hr2]
  rcases hr with h|h
  exact .inl h
  exact .inr h.1)
 rw [← hv3,← hr2,← hn] at hup
 have ⟨l1,l2,l3⟩:=Qc hc hc3 hq hq24 hk0 hk3
 refine ⟨l1,l2,?_,hup⟩
 rw [l3]
 clear hup l1 l2 l3 hr he
 omega
structure XS where
 ages:Int
 y:Int
 m:Int
 d:Int
def cF (N:Int):XS :=
 let n:=N+719468
 let r:=n % 146097
 let y:=yr r
 let n2:=r-(365 * y+y / 4-y / 100)
 let m:=(5 * n2+2) / 153
 ⟨n / 146097,y,m,n2-(153 * m+2) / 5+1⟩
def Tr (N:Int):Int:=(cF N).ages * 400+(cF N).y+if (cF N).m+3>12 then 1 else 0
def Wa (N:Int):Int:=if (cF N).m+3>12 then (cF N).m+3-12 else (cF N).m+3
def VQ (N:Int):Int:=(cF N).d
theorem Uq (y:Int):(y+1) / 4=y / 4+if (y+1) % 4=0 then 1 else 0:=by split<;>omega
theorem Mc (y:Int):(y+1) / 100=y / 100+if (y+1) % 100=0 then 1 else 0:=by split<;>omega
theorem Nb (N:Int) (h0:0≤N) (h1:N≤2932896):4≤(cF N).ages∧(cF N).ages≤24∧0≤(cF N).y∧(cF N).y≤399∧0≤(cF N).m∧(cF N).m≤11∧1≤(cF N).d∧(cF N).d≤31 ∧
  365 * (cF N).y+(cF N).y / 4-(cF N).y / 100+146097 * (cF N).ages+(153 * (cF N).m+2) / 5+(cF N).d-1=N+719468 ∧
  ((cF N).m=11→(cF N).d≤28+(if ((cF N).y+1) % 4=0∧(((cF N).y+1) % 100≠0∨((cF N).y+1) % 400=0) then 1 else 0))∧(((cF N).m=1∨(cF N).m=3∨(cF N).m=6∨(cF N).m=8)→(cF N).d≤30):=by
 obtain ⟨n,hn⟩:∃ n,n=N+719468:=⟨_,rfl⟩
 obtain ⟨r,hr⟩:∃ r,r=n % 146097:=⟨_,rfl⟩
 have hyo:=Qb r O O
 obtain ⟨y,hy⟩:∃ y,y=yr r:=⟨_,rfl⟩
 rw [← hy] at hyo
 have ⟨y0,y1,y2,y3⟩:=hyo
 obtain ⟨n2,hn2⟩:∃ n2,n2=r-(365 * y+y / 4-y / 100):=⟨_,rfl⟩
 obtain ⟨m,hm⟩:∃ m,m=(5 * n2+2) / 153:=⟨_,rfl⟩
 have e:cF N=⟨n / 146097,y,m,n2-(153 * m+2) / 5+1⟩:=by
  simp only [cF,← hn,← hr,← hy,← hn2,← hm]
 rw [e]
 simp only
 have hlen:0≤n2∧n2≤365:=by split at y3<;>omega
 have hlast:n2=365→((y+1) % 4=0∧((y+1) % 100≠0∨(y+1) % 400=0)):=by
  intro h
  rw [Uq,Mc] at y3
  by_cases h4:(y+1) % 4=0
  ·refine ⟨h4,?_⟩
   rw [Zz h4] at y3
   by_cases h100:(y+1) % 100=0
   ·rw [Zz h100] at y3
    by_cases h399:y=399
    ·subst h399;exact .inr jD
    ·rw [Zy h399] at y3
     omega
   exact .inl h100
  ·rw [Zy h4] at y3
   by_cases h399:y=399
   ·subst h399;exact absurd jD h4
   ·rw [Zy h399] at y3
    split at y3<;>omega
 have hm':0≤m∧m≤11:=by omega
 refine ⟨by omega,by omega,y0,y1,hm'.1,hm'.2,by omega,by omega,by omega,?_,by omega⟩
 intro h11
 subst h11
 split
 omega
 ·rename_i hno
  have:n2≠365:=fun h=>hno (hlast h)
  omega
theorem N0 (A Y:Int):kE (A * 400+Y)=kE Y:=by
 unfold kE
 have e4:(A * 400+Y) % 4=Y % 4:=by omega
 have e100:(A * 400+Y) % 100=Y % 100:=by omega
 have e400:(A * 400+Y) % 400=Y % 400:=by omega
 rw [e4,e100,e400]
theorem VP (y M D:Int) (m1:0≤M) (m2:M≤11) (d2:D≤31) (h11:M=11→D≤28+if kE y then 1 else 0) (h30:M=1∨M=3∨M=6∨M=8→D≤30):D≤iq y (if M+3>12 then M+3-12 else M+3):=by
 by_cases e11:M=11
 ·subst e11
  have:=h11 rfl
  rw [Zz jD]
  simp only [iq]
  rw [Zy jD,Zz jD]
  split at this<;>(rename_i hl;simp [hl];omega)
 ·clear h11
  have hne:(if M+3>12 then M+3-12 else M+3)≠2:=by split<;>omega
  have hr:¬ ((if M+3>12 then M+3-12 else M+3)<1∨(if M+3>12 then M+3-12 else M+3)>12):=by split<;>omega
  have h4:((if M+3>12 then M+3-12 else M+3)=4∨(if M+3>12 then M+3-12 else M+3)=6∨(if M+3>12 then M+3-12 else M+3)=9∨(if M+3>12 then M+3-12 else M+3)=11)→(M=1∨M=3∨M=6∨M=8):=by split<;>omega
  generalize (if M+3>12 then M+3-12 else M+3)=q at *
  unfold iq
  by_cases hq:q=4∨q=6∨q=9∨q=11
  ·rw [Zz hq];exact h30 (h4 hq)
  ·rw [Zy hq,Zy hne,Zy hr];exact d2
theorem Ns (N:Int) (h0:0≤N) (h1:N≤2932896):1970≤Tr N∧Tr N≤9999∧1≤VQ N∧VQ N≤iq (Tr N) (Wa N)∧dn (Tr N) (Wa N) (VQ N)=N:=by
 have ⟨a1,a2,y1,y2,m1,m2,d1,d2,hN,h11,h30⟩:=Nb N h0 h1
 obtain ⟨A,Y,M,D,hp⟩:∃ A Y M D,cF N=⟨A,Y,M,D⟩:=⟨_,_,_,_,rfl⟩
 have hy:Tr N=A * 400+Y+if M+3>12 then 1 else 0:=by simp only [Tr,hp]
 have hm:Wa N=if M+3>12 then M+3-12 else M+3:=by simp only [Wa,hp]
 have hd:VQ N=D:=by simp only [VQ,hp]
 rw [hp] at a1 a2 y1 y2 m1 m2 d1 d2 hN h11 h30
 simp only at a1 a2 y1 y2 m1 m2 d1 d2 hN h11 h30
 rw [hy,hm,hd]
 have key:dn (A * 400+Y+if M+3>12 then 1 else 0) (if M+3>12 then M+3-12 else M+3) D=N:=by
  rw [← SQ _ _ _ (by split<;>omega) (by split<;>omega)]
  have e4:(A * 400+Y) / 4=100 * A+Y / 4:=by clear h11 h30 hN;omega
  have e100:(A * 400+Y) / 100=4 * A+Y / 100:=by clear h11 h30 hN e4;omega
  have e400:(A * 400+Y) / 400=A:=by clear h11 h30 hN e4 e100;omega
  by_cases h:M+3>12
  ·simp only [Zz h]
   rw [jP,jP,show A * 400+Y+1-1=A * 400+Y by omega,e4,e100,e400,show M+3-12-3+12=M by omega]
   clear h11 h30 e4 e100 e400
   omega
  ·simp only [Zy h]
   rw [jK,jK,Int.add_zero,e4,e100,e400,show M+3-3=M by omega]
   clear h11 h30 e4 e100 e400
   omega
 have hday:D≤iq (A * 400+Y+if M+3>12 then 1 else 0) (if M+3>12 then M+3-12 else M+3):=by
  refine VP _ M D m1 m2 d2 (fun h=>?_) h30
  have:=h11 h
  subst h
  have e:(A * 400+Y+if (11:Int)+3>12 then 1 else 0)=A * 400+(Y+1):=by simp;omega
  rw [e,N0]
  simpa [kE] using this
 refine ⟨?_,?_,d1,hday,key⟩
 ·rcases Int.lt_or_le (A * 400+Y+if M+3>12 then 1 else 0) 1970 with h|h
  ·have e1:=pR d1 hday
   have e2:=tS (A * 400+Y+if M+3>12 then 1 else 0) _ e1.1 e1.2
   have e3:=tU (y:=A * 400+Y+if M+3>12 then 1 else 0) (a:=(if M+3>12 then M+3-12 else M+3)+1) (b:=13) O O O
   have e4:=Co (A * 400+Y+if M+3>12 then 1 else 0)
   have e5:=oH (a:=(A * 400+Y+if M+3>12 then 1 else 0)+1) (b:=1970) O
   have e6:=wO
   unfold dn at key
   omega
  exact h
 ·rcases Int.lt_or_le 9999 (A * 400+Y+if M+3>12 then 1 else 0) with h|h
  ·have e1:=pR d1 hday
   have e3:=Cn (A * 400+Y+if M+3>12 then 1 else 0) _ e1.1 O
   have e5:=oH (a:=10000) (b:=A * 400+Y+if M+3>12 then 1 else 0) O
   have e6:bf 10000=2932897:=by decide
   unfold dn at key
   omega
  exact h
def yV (t:Int):Prop:=0≤t∧t≤253402300799
instance (t:Int):Decidable (yV t):=by unfold yV;infer_instance
def D6.zero:D6:=⟨0,0,0,0,0,0⟩
def BT (t:Int):D6:=⟨Tr (t / 86400),Wa (t / 86400),VQ (t / 86400),t % 86400 / 3600,t % 86400 % 3600 / 60,t % 86400 % 60⟩
def DG (t:Int):D6:=if yV t then BT t else D6.zero
def U9 (t:Int):Nat:=if yV t then 0 else 1
theorem uG {t:Int} (h:yV t):gZ (BT t)∧uq (BT t)=t:=by
 have ⟨h0,h1⟩:=h
 obtain ⟨p1,p2,p3,p4,p5⟩:=Ns (t / 86400) O O
 refine ⟨⟨p1,p2,p3,p4,?_⟩,?_⟩
 ·simp only [BT];omega
 ·show ((dn (Tr (t / 86400)) (Wa (t / 86400)) (VQ (t / 86400)) * 24+t % 86400 / 3600) * 60+t % 86400 % 3600 / 60) * 60+t % 86400 % 60=t
  rw [p5];omega
theorem Mx {x:D6} (h:gZ x):yV (uq x):=by
 have ⟨a1,a2,a3,a4,a5,a6,a7,a8,a9,a10⟩:=h
 have ⟨p1,p2,_⟩:=Pn a1 a2 a3 a4
 have e1:=oH (a:=1970) (b:=x.y) a1
 have e2:=oH (a:=x.y+1) (b:=10000) O
 have e3:=wO
 have e6:bf 10000=2932897:=by decide
 unfold yV uq
 omega
theorem FT {x:D6} (h:gZ x):BT (uq x)=x:=by
 have ht:=Mx h
 have ⟨hr,hs⟩:=uG ht
 have ⟨a1,a2,a3,a4,a5,a6,a7,a8,a9,a10⟩:=h
 have ⟨b1,b2,b3,b4,b5,b6,b7,b8,b9,b10⟩:=hr
 generalize BT (uq x)=z at *
 have ⟨y,m,d,hh,mi,s⟩:=x
 have ⟨y',m',d',hh',mi',s'⟩:=z
 simp only [uq] at *
 have e1:s'=s:=by omega
 subst e1
 have e2:mi'=mi:=by omega
 subst e2
 have e3:hh'=hh:=by omega
 subst e3
 have e4:dn y' m' d'=dn y m d:=by omega
 obtain ⟨rfl,rfl,rfl⟩:=VM b1 b2 b3 b4 a1 a2 a3 a4 e4
 rfl
end Go.Proofs.YtghminnpfnkbjaaGreatDoor.Cal
namespace Go.Proofs.YtghminnpfnkbjaaGreatDoor
namespace Am
open Go.RowKit
section
variable {gs:List Nat} [ib gs]
open Go.RowKit Cal
def dF (x:D6) (i:Nat):CV:=match i with|0=>.c (.int .i64 x.y)|1=>.c (.int .i64 x.m)|2=>.c (.int .i64 x.d)|3=>.c (.int .i64 x.h)|4=>.c (.int .i64 x.mi)|_=>.c (.int .i64 x.s)
def TZ (x:D6):CV:=.agg 6 (dF x)
theorem Dk {g:List Nat} (y:Int):cd g prog 217 [.c (.int .i64 y)] (.c (.bool (kE y))):=by
 refine ae 14 func217 fun _ _ _ _=>?_;refine U 167516 ?_;refine jq (BM rfl rfl rfl (by omega)) ?_;refine U 52 ?_;refine an (fun h13=>?_) fun h13=>?_
 ·refine U 800030007000516 ?_;refine cB ?_
  simp only [LV] at *
  rw [xX]
  (simp [*];omega)
 refine U 16810 ?_;refine jq (BM rfl rfl rfl (by omega)) ?_;refine U 12 ?_;refine aH 9 (fun g16=>?_) fun g16=>?_
 ·refine U 1 ?_;refine jq (BM rfl rfl rfl (by omega)) ?_;refine U 80007000511000000002 ?_;refine cB ?_
  simp only [ne_eq,LV] at *
  rw [xX]
  (simp [*];done)
 refine U 8000700051500444 ?_;refine cB ?_
 simp only [LV] at *
 rw [xX]
 (simp [*];done)
theorem sV {g:List Nat} (y m:Int):cd g prog 218 [.c (.int .i64 y),.c (.int .i64 m)] (.c (.int .i64 (iq y m))):=by
 refine ae 24 func218 fun _ _ _ _=>?_;refine U 12167516 ?_;refine aH 8 (fun g20=>?_) fun g20=>?_
 ·refine U 8000300070005169000510000000044 ?_;refine cI ?_
  (simp [iq, *];omega)
 refine U 550021 ?_;refine an (fun h20=>?_) fun h20=>?_
 ·refine U 800030007000516 ?_;refine cI ?_
  (simp [iq, *];omega)
 refine U 6810 ?_
 refine aq (aM 12 1 rm fun p1=>?_)
 refine U 1216751 ?_;refine aH 15 (fun g24=>?_) fun g24=>?_
 rotate_left
 ·refine U 810300550044 ?_;refine jE (EB (aD.blk rfl (fun j hj=>tB [31,28,31,30,31,30,31,31,30,31,30,31] j hj) .nil)) ?_;refine U 8000700051507009116 ?_;refine cI ?_
  have hm':m=1∨m=2∨m=3∨m=4∨m=5∨m=6∨m=7∨m=8∨m=9∨m=10∨m=11∨m=12:=by omega
  rcases hm' with h|h|h|h|h|h|h|h|h|h|h|h<;>subst h<;>simp_all [iq]
 refine U 1 ?_
 refine aq (ak (Dk _) ?_)
 refine U 5100000000 ?_;refine an (fun h24=>?_) fun h24=>?_
 ·refine U 800030007000516 ?_;refine cI ?_
  (simp [iq, *];done)
 refine U 810 ?_;refine jE (EB (aD.blk rfl (fun j hj=>tB [31,28,31,30,31,30,31,31,30,31,30,31] j hj) .nil)) ?_;refine U 8000700051507009116 ?_;refine cI ?_
 have hm':m=1∨m=2∨m=3∨m=4∨m=5∨m=6∨m=7∨m=8∨m=9∨m=10∨m=11∨m=12:=by omega
 rcases hm' with h|h|h|h|h|h|h|h|h|h|h|h<;>subst h<;>simp_all [iq]
def kJ (n p:Int):UInt8:=UInt8.ofNat (48+n / p % 10).toNat
def Gw (n:Int) (ps:List Int):I:=ps.map (kJ n)
theorem yk {n p:Int} (h0:0≤n / p):((kJ n p).toNat:Int)=48+n / p % 10:=by
 unfold kJ
 rw [ZT]
 omega
def eJ (x:D6):I:=Gw x.y [1000,100,10,1]++Gw x.m [10,1]++Gw x.d [10,1]++Gw x.h [10,1]++Gw x.mi [10,1]++Gw x.s [10,1]++[90]
end
end Am
end Go.Proofs.YtghminnpfnkbjaaGreatDoor
namespace Go.Proofs.YtghminnpfnkbjaaGreatDoor
def HQ (l:I):Bool×Nat :=
 if l.length=0 then (false,2) else if 1<l.length∨((l.getD 0 0).toNat≠255∧(l.getD 0 0).toNat≠0) then (false,4) else (decide ((l.getD 0 0).toNat=255),0)
theorem OB (l:I) (h:1<l.length):o5 l=(((l.getD 0 0).toNat == 0 && decide ((l.getD 1 0).toNat<128)) || ((l.getD 0 0).toNat == 255 && decide (128≤(l.getD 1 0).toNat))):=by
 match l,h with
 | x::y::r,_=>rfl
theorem fj (l:I) (h:l.length≤1):o5 l=false:=by
 match l,h with
 | [],_=>rfl
 | [x],_=>rfl
 | x::y::r,h=>simp at h
theorem gi (l:I) (h:0<l.length):gu (l.take 1)=Ft (l.getD 0 0):=by
 match l,h with
 | x::r,_=>simp [gu]
theorem lG (l:I) (k:Nat) (h:k+1<l.length):gu (l.take (k+1+1))=gu (l.take (k+1)) * 256+(l.getD (k+1) 0).toNat:=by
 rw [ZH h,qa _ (by
  intro e
  have:=ZV List.length e
  simp at this
  rw [this] at h
  simp at h)]
 simp [List.getD,h]
def cq (l:I) (least most:Int):Int×Nat :=
 if (dE l).2≠0 then (0,(dE l).2) else if (dE l).1<least∨most<(dE l).1 then (0,1) else ((dE l).1,0)
theorem LN (l:I) (h:l.length≤8):-9223372036854775808≤gu l∧gu l<9223372036854775808:=by
 by_cases h7:l.length≤7
 ·have:=rG l h7
  omega
 ·have e:l=l.take 7++[l.getD 7 0]:=by
   have:l.take (7+1)=l.take 7++[l[7]]:=ZH O
   rw [ZY O] at this
   have e7:l.getD 7 0=l[7]:=by simp [List.getD,show 7<l.length by omega]
   rw [e7]
   exact this
  have h2:=rG (l.take 7) (by simp;omega)
  have hc:=(l.getD 7 0).toNat_lt
  rw [e,qa _ (by intro e;have:=ZV List.length e;simp at this;rw [this] at h7;simp at h7)]
  omega
end Go.Proofs.YtghminnpfnkbjaaGreatDoor
namespace Go.Proofs.YtghminnpfnkbjaaGreatDoor
open Go.RowKit
theorem Pz (a:Int) (c:UInt8):me (a * 256+c.toNat)=c:=by
 apply akx.1
 have h1:=eI (a * 256+c.toNat)
 have:=c.toNat_lt
 omega
theorem Py (c:UInt8):me (Ft c)=c:=by
 apply akx.1
 have h1:=eI (Ft c)
 have:=c.toNat_lt
 unfold Ft at h1 ⊢
 split at h1<;>rename_i hc
 ·rw [Zz hc];omega
 ·rw [Zy hc];omega
theorem Ha (l:I):∀ j,j<l.length→sh j (gu l)=gu (l.take (l.length-j)):=by
 intro j
 induction j with
 | zero=>intro _;simp [sh]
 | succ j ih =>
  intro hj
  simp only [sh]
  rw [ih O]
  have e:l.length-j=(l.length-(j+1)-1)+1+1:=by omega
  rw [e,lG l _ O,show l.length-(j+1)=l.length-(j+1)-1+1 by omega]
  have:=(l.getD (l.length-(j+1)-1+1) 0).toNat_lt
  simp only [Nat.add_sub_cancel]
  omega
theorem Cr (l:I) (j:Nat) (hj:j<l.length):me (sh j (gu l))=l.getD (l.length-1-j) 0:=by
 rw [Ha l j hj]
 by_cases h1:l.length-j=1
 ·rw [h1,gi l O,Py,show l.length-1-j=0 by omega]
 ·have e:l.length-j=(l.length-1-j-1)+1+1:=by omega
  rw [e,lG l _ O,Pz,show l.length-1-j-1+1=l.length-1-j by omega]
theorem KT (l:I):(dC l.length (gu l)).reverse=l:=by
 refine cax fun i=>?_
 by_cases hi:i<l.length
 ·have h1:=tR (gu l) l.length i hi
  rw [Cr l _ O] at h1
  have e:l.length-1-(l.length-1-i)=i:=by omega
  rw [e] at h1
  have hl:i<(dC l.length (gu l)).reverse.length:=by simp [bZ];exact hi
  rw [ZM hl,ZM hi]
  simp only [List.getD,ZM hl,ZM hi,asx] at h1
  rw [h1]
 ·rw [Z0 (by simp [bZ];omega),Z0 O]
theorem AL {l:I} (h:(dE l).2=0):0<l.length∧l.length≤8∧o5 l=false∧(dE l).1=gu l:=by
 unfold dE at h ⊢
 split at h
 ·cases h
 ·rename_i h0
  split at h
  ·cases h
  ·rename_i hi
   split at h
   ·cases h
   ·rename_i h8
    rw [Zy h0,Zy hi,Zy h8]
    exact ⟨by omega,by omega,by simpa using hi,rfl⟩
theorem OQ {l:I} (h:(dE l).2=0):yT (dE l).1 (l.length-1)∧(dC (l.length-1+1) (dE l).1).reverse=l:=by
 have ⟨h1,h2,h3,h4⟩:=AL h
 rw [h4,show l.length-1+1=l.length by omega]
 have hd:=KT l
 have hs:pc (l.length-1) (gu l)=true:=by
  rw [qe,Ha l _ O,show l.length-(l.length-1)=1 by omega,gi l O]
  have:=(l.getD 0 0).toNat_lt
  unfold Ft
  split<;>omega
 refine ⟨⟨by omega,hs,fun j hj=>?_⟩,hd⟩
 cases he:pc j (gu l) with
 | false=>rfl
 | true =>
  have hm:=lr (gu l) j (l.length-2) O he
  have hid:=gq (gu l) (l.length-2) (by rw [show l.length-2+1=l.length-1 by omega];exact hs)
  rw [show l.length-2+2=l.length by omega,hd,h3,hm] at hid
  cases hid
theorem Sy {l:I} (h:(dE l).2=0):-9223372036854775808≤(dE l).1∧(dE l).1≤9223372036854775807:=by
 have ⟨_,h2,_,h4⟩:=AL h
 have:=LN l h2
 rw [h4]
 omega
end Go.Proofs.YtghminnpfnkbjaaGreatDoor
namespace Go.Proofs.YtghminnpfnkbjaaGreatDoor
namespace Am
open Go.RowKit
section
variable {gs:List Nat} [ib gs]
theorem Fu {gs:List Nat} (h r:Int):cd gs prog 160 [.c (.int .u8 h),.c (.int .i64 r)] (.c (.bool ((r == 0 && decide (h<128)) || (r == -1 && decide (128≤h))))):=by
 refine ae 19 func160 fun _ _ _ _=>?_;refine U 1216516 ?_;refine aH 7 (fun g28=>?_) fun g28=>?_
 rotate_left
 ·refine U 121150044 ?_;refine aH 14 (fun g28_2=>?_) fun g28_2=>?_
  ·refine U 800070005150010000000021 ?_
   (refine cB ?_;simp [*];done)
  refine U 800070005150050044 ?_
  (refine cB ?_;simp [*];done)
 refine U 110000000021 ?_;refine aH 11 (fun g28_2=>?_) fun g28_2=>?_
 ·refine U 8000700051100000000444444 ?_
  (refine cB ?_;simp [*];done)
 refine U 121 ?_;refine aH 14 (fun g28_3=>?_) fun g28_3=>?_
 ·refine U 800070005150010000000021 ?_
  omega
 refine U 800070005150050044 ?_
 (refine cB ?_;simp [*];done)
theorem Vs (c:UInt8):IntKind.i8.wrap ((c.toNat:Nat):Int)=Ft c:=by
 have:=c.toNat_lt
 have e:IntKind.i8.wrap (c.toNat:Int)=((c.toNat:Int)+128) % 256-128:=by simp [IntKind.wrap,IntKind.bits,IntKind.signed];omega
 rw [e]
 unfold Ft
 split<;>omega
theorem Ur (c:UInt8):-128≤Ft c∧Ft c≤127:=by
 have:=c.toNat_lt
 unfold Ft
 split<;>omega
theorem H0 {l:I} (h:1<l.length):o5 l=true↔((l.getD 0 0).toNat=0∧(l.getD 1 0).toNat<128)∨((l.getD 0 0).toNat=255∧128≤(l.getD 1 0).toNat):=by
 rw [OB l h]
 simp only [atx,ZE,aUx,ZJ]
theorem Qp (l:I):cd gs prog 174 [bc l] (.tup 2 (fl [.c (.int .i64 (dE l).1),.err (dE l).2])):=by
 refine fF 0 rfl fun hlen=>?_
 have hsg:=Ur (l.getD 0 0)
 have hid:=fun h=>H0 (l:=l) h
 refine ae 65 func174 fun _ _ _ _=>?_;refine U 5116 ?_;refine i5 (α:=Unit) [2,3,7,8,9,10,11,12,13,14,15,16,17,18,19,20,21,22,23,24,25,26,27,28,29,30,31,32,33,34,35,36,37,38,39,40,41,42,43,44,45] (fun _=>[]) (fun _=>[]) (fun _=>l.length≠0∧¬ o5 l=true∧l.length≤8) (fun _=>rfl) ?_ ?_
 ·refine U 51231620 ?_;refine an (fun h34=>?_) fun h34=>?_
  ·refine ia ?_;refine dQ (.rd 0 (.rd 1 (.rd 2 .done))) ?_;refine aJ (cK 1) ?_;refine U 80003000500070008807070 ?_
   have hb:dE l=(0,2):=by unfold dE;rw [jP]
   rw [hb];exact Z
  refine U 12316 ?_;refine aH 16 (fun g36=>?_) fun g36=>?_
  rotate_left
  ·refine U 300515004444444444444444444444 ?_
   have hni:¬ o5 l=true:=by
    by_cases h1:1<l.length
    ·rw [hid h1];omega
    ·rw [fj l O];exact Bool.noConfusion
   refine U 512316 ?_;refine aaa (fun h38=>?_) fun h38=>?_
   ·refine U 840010 ?_
    refine fy (()) ?_ (h5:=?_) (h7:=?_)
    ·refine ⟨by omega,?_,by omega⟩
     by_cases h1:1<l.length
     ·rw [hid h1];omega
     ·rw [fj l O];exact Bool.noConfusion
    exact .nil
    exact .nil
   refine ia ?_;refine dQ (.rd 0 (.rd 1 (.rd 2 .done))) ?_;refine aJ (cK 0) ?_;refine U 80003000500070008807070 ?_
   have hb:dE l=(0,1):=by unfold dE;rw [jK,Zy hni,jP]
   rw [hb];exact Z
  refine U 126020000001 ?_;refine aH 21 (fun g36_2=>?_) fun g36_2=>?_
  rotate_left
  ·refine U 12602000000115004444 ?_;refine aH 32 (fun g36_3=>?_) fun g36_3=>?_
   rotate_left
   ·refine U 300511000000005005004444 ?_
    have hni:¬ o5 l=true:=by
     by_cases h1:1<l.length
     ·rw [hid h1];omega
     ·rw [fj l O];exact Bool.noConfusion
    refine U 512316 ?_;refine aaa (fun h38=>?_) fun h38=>?_
    ·refine U 840010 ?_
     refine fy (()) ?_ (h5:=?_) (h7:=?_)
     ·refine ⟨by omega,?_,by omega⟩
      by_cases h1:1<l.length
      ·rw [hid h1];omega
      ·rw [fj l O];exact Bool.noConfusion
     exact .nil
     exact .nil
    refine ia ?_;refine dQ (.rd 0 (.rd 1 (.rd 2 .done))) ?_;refine aJ (cK 0) ?_;refine U 80003000500070008807070 ?_
    have hb:dE l=(0,1):=by unfold dE;rw [jK,Zy hni,jP]
    rw [hb];exact Z
   refine U 1 ?_;refine jq (dP (i:=1)) ?_;refine U 51100000000500100000000260 ?_;refine an (fun h36=>?_) fun h36=>?_
   ·refine ia ?_;refine dQ (.rd 0 (.rd 1 (.rd 2 .done))) ?_;refine U 800030005000700088070704000000 ?_
    have hb:dE l=(0,4):=by unfold dE;rw [jK,Zz ((hid O).2 O)]
    rw [hb];exact Z
   have hni:¬ o5 l=true:=by
    by_cases h1:1<l.length
    ·rw [hid h1];omega
    ·rw [fj l O];exact Bool.noConfusion
   refine U 512316 ?_;refine aaa (fun h38=>?_) fun h38=>?_
   ·refine U 840010 ?_
    refine fy (()) ?_ (h5:=?_) (h7:=?_)
    ·refine ⟨by omega,?_,by omega⟩
     by_cases h1:1<l.length
     ·rw [hid h1];omega
     ·rw [fj l O];exact Bool.noConfusion
    exact .nil
    exact .nil
   refine ia ?_;refine dQ (.rd 0 (.rd 1 (.rd 2 .done))) ?_;refine aJ (cK 0) ?_;refine U 80003000500070008807070 ?_
   have hb:dE l=(0,1):=by unfold dE;rw [jK,Zy hni,jP]
   rw [hb];exact Z
  refine U 1 ?_;refine jq (dP (i:=1)) ?_;refine U 1100000000260 ?_;refine aH 27 (fun g36_3=>?_) fun g36_3=>?_
  ·refine U 79000511000000001000000004444444444 ?_;refine dQ (.rd 0 (.rd 1 (.rd 2 .done))) ?_;refine U 800030005000700088070704000000 ?_
   have hb:dE l=(0,4):=by unfold dE;rw [jK,Zz ((hid O).2 O)]
   rw [hb];exact Z
  refine U 126020000001 ?_;refine aH 32 (fun g36_4=>?_) fun g36_4=>?_
  rotate_left
  ·refine U 300511000000005005004444 ?_
   have hni:¬ o5 l=true:=by
    by_cases h1:1<l.length
    ·rw [hid h1];omega
    ·rw [fj l O];exact Bool.noConfusion
   refine U 512316 ?_;refine aaa (fun h38=>?_) fun h38=>?_
   ·refine U 840010 ?_
    refine fy (()) ?_ (h5:=?_) (h7:=?_)
    ·refine ⟨by omega,?_,by omega⟩
     by_cases h1:1<l.length
     ·rw [hid h1];omega
     ·rw [fj l O];exact Bool.noConfusion
    exact .nil
    exact .nil
   refine ia ?_;refine dQ (.rd 0 (.rd 1 (.rd 2 .done))) ?_;refine aJ (cK 0) ?_;refine U 80003000500070008807070 ?_
   have hb:dE l=(0,1):=by unfold dE;rw [jK,Zy hni,jP]
   rw [hb];exact Z
  refine U 1 ?_;refine jq (dP (i:=1)) ?_;refine U 51100000000500100000000260 ?_;refine an (fun h36=>?_) fun h36=>?_
  ·refine ia ?_;refine dQ (.rd 0 (.rd 1 (.rd 2 .done))) ?_;refine U 800030005000700088070704000000 ?_
   have hb:dE l=(0,4):=by unfold dE;rw [jK,Zz ((hid O).2 O)]
   rw [hb];exact Z
  have hni:¬ o5 l=true:=by
   by_cases h1:1<l.length
   ·rw [hid h1];omega
   ·rw [fj l O];exact Bool.noConfusion
  refine U 512316 ?_;refine aaa (fun h38=>?_) fun h38=>?_
  ·refine U 840010 ?_
   refine fy (()) ?_ (h5:=?_) (h7:=?_)
   ·refine ⟨by omega,?_,by omega⟩
    by_cases h1:1<l.length
    ·rw [hid h1];omega
    ·rw [fj l O];exact Bool.noConfusion
   exact .nil
   exact .nil
  refine ia ?_;refine dQ (.rd 0 (.rd 1 (.rd 2 .done))) ?_;refine aJ (cK 0) ?_;refine U 80003000500070008807070 ?_
  have hb:dE l=(0,1):=by unfold dE;rw [jK,Zy hni,jP]
  rw [hb];exact Z
 ·rintro u ⟨hl0,hni,hl8⟩
  refine U 60200000016 ?_;refine jq (cC rfl rfl underlying5 underlying265 (Ft (l.getD 0 0)) (Vs _)) ?_;refine jq (cC rfl rfl underlying265 underlying3 (Ft (l.getD 0 0)) (cU (k:=.i64) (by show _∧_;omega))) ?_;refine U 751 ?_
  have hb:dE l=(gu l,0):=by unfold dE;rw [jK,Zy hni,jK]
  have hv1:=gi l O
  refine U 16 ?_;refine jq (o0 (hz1:=(show (1:Int)=((1:Nat):Int) from rfl))) ?_;refine U 20513 ?_;refine ar (α:=Nat) [4,6,54,55,56,57,58,59,60,61,62,63] (fun i=>[(54,.c (.int .i64 (i:Nat))),(4,.c (.int .i64 (gu (l.take (i+1)))))]) (fun _=>[]) (fun i=>i+1≤l.length) (fun i=>l.length-i) (0) ?_ (fun _=>rfl) ?_ ?_ ?_
  show 0+1≤l.length;omega
  exact .cons Z (.cons (cI hv1.symm) .nil)
  ·(repeat (exact aD.nil))
  ·rintro i (hi:i+1≤l.length)
   have hb:dE l=(gu l,0):=by unfold dE;rw [jK,Zy hni,jK]
   have hv1:=gi l O
   refine U 7526 ?_;refine aaa (fun h42=>?_) fun h42=>?_
   ·refine U 800070005111684000200020006000 ?_
    have hil:i+1=l.length:=by simp only [ZI] at *;omega
    rw [hb,hil,ZW];exact cT Z (aa.nilE rfl)
   refine U 207810 ?_
   have hb:dE l=(gu l,0):=by unfold dE;rw [jK,Zy hni,jK]
   have hv1:=gi l O
   refine eA ?_;refine jq (dP (i:=i) (hz:=by omega)) ?_;refine U 5160 ?_
   have hdl:(l.drop 1).length=l.length-1:=ZI
   have hde:(l.drop 1).getD i 0=l.getD (i+1) 0:=by simp [List.getD]
   have hvs:=lG l i O
   have hsm:=rG (l.take (i+1)) (by rw [ZK];omega)
   have hcl:=(l.getD (i+1) 0).toNat_lt
   have hcd:=((l.drop 1).getD i 0).toNat_lt
   refine U 1200 ?_;refine jq (jh rfl rfl rfl (by omega) ((gu (l.take (i+1)) * 256)) ((by show IntKind.i64.wrap (gu (l.take (i+1)) * 256)=_;exact cU (k:=.i64) (by show _∧_;omega)))) ?_;refine U 1 ?_;refine jq (cC rfl rfl underlying5 underlying3 ((((l.drop 1).getD i 0).toNat:Nat)) (cU (k:=.i64) (by show _∧_;omega))) ?_;refine jq (xA rfl rfl rfl (gu (l.take (i+1+1))) ((by rw [hde,hvs];exact OC _ _ O O O O))) ?_;refine U 840051 ?_
   have hb:dE l=(gu l,0):=by unfold dE;rw [jK,Zy hni,jK]
   have hv1:=gi l O
   refine U 8519200 ?_
   refine am (i+1) ?_ ?_ (h5:=?_)
   show i+1+1≤l.length;omega
   show l.length-(i+1)<l.length-i;omega
   exact .cons (cI O) (.cons Z .nil)
theorem Iw (l:I) (least most:Int):cd gs prog 127 [bc l,.c (.int .i64 least),.c (.int .i64 most)] (.tup 2 (fl [.c (.int .i64 (cq l least most).1),.err (cq l least most).2])):=by
 refine ae 30 func127 fun _ _ _ _=>?_;refine U 165116 ?_
 refine aq (ak (Qp l) ?_)
 refine U 51500000162075119009001 ?_;refine an (fun h52=>?_) fun h52=>?_
 ·refine U 800030005000700051116 ?_
  have hb:cq l least most=(0,(dE l).2):=by unfold cq;rw [jP]
  rw [hb];exact Z
 refine U 12116 ?_;refine aH 23 (fun g54=>?_) fun g54=>?_
 ·refine U 7900051100000000444 ?_;refine dQ (.rd 0 (.rd 1 (.rd 2 .done))) ?_;refine aJ (cK 0) ?_;refine U 80003000500070008807070 ?_
  have hb:cq l least most=(0,1):=by unfold cq;rw [jK,jP]
  rw [hb];exact Z
 refine U 51500211 ?_;refine aaa (fun h54=>?_) fun h54=>?_
 ·refine U 8000700051116840010 ?_
  have hb:cq l least most=((dE l).1,0):=by unfold cq;rw [jK,jK]
  rw [hb];exact cT Z (aa.nilE rfl)
 refine ia ?_;refine dQ (.rd 0 (.rd 1 (.rd 2 .done))) ?_;refine aJ (cK 0) ?_;refine U 80003000500070008807070 ?_
 have hb:cq l least most=(0,1):=by unfold cq;rw [jK,jP]
 rw [hb];exact Z
def Vj (n:Int):Nat:=((List.range 8).find? fun k=>pc k n).getD 7
def jz (n:Int):I:=(dC (Vj n+1) n).reverse
theorem BZ {n:Int} (h1:-9223372036854775808≤n) (h2:n≤9223372036854775807):yT n (Vj n):=by
 unfold Vj
 have h7:=um n h1 h2
 cases e:(List.range 8).find? fun k=>pc k n with
 | none =>
  have:=List.find?_eq_none.1 e 7 (by simp)
  exact absurd h7 this
 | some k =>
  rw [List.find?_range_eq_some] at e
  have ⟨e1,e2,e3⟩:=e
  have:=a7x.1 e2
  exact ⟨by show k≤7;omega,e1,fun j hj=>by have:=e3 j hj;simpa using this⟩
theorem nV {n:Int} {k:Nat} (h1:-9223372036854775808≤n) (h2:n≤9223372036854775807) (h:yT n k):(dC (k+1) n).reverse=jz n:=by
 unfold jz
 rw [h.unique (BZ h1 h2)]
theorem M5 {n:Int} (h1:-9223372036854775808≤n) (h2:n≤9223372036854775807):dE (jz n)=(n,0):=OO n _ (BZ h1 h2)
theorem sW (n:Int) (h1:-9223372036854775808≤n) (h2:n≤9223372036854775807):1≤(jz n).length∧(jz n).length≤8:=by
 have:=(BZ h1 h2).1
 unfold jz
 rw [a2x,bZ]
 omega
theorem WH (a:Int):a.fdiv (2 ^ (min (8:Int).toNat IntKind.i64.bits))=a / 256:=by
 show a.fdiv 256=a / 256
 rw [aix a jD]
theorem A7 (a:Int):IntKind.u8.wrap a=((me a).toNat:Nat):=by rw [IntKind.wrap_u8,eI]
theorem KU (k:Nat) (n:Int):(((dC (k+1) n).getD k 0).toNat:Int)=sh k n % 256:=by rw [yw _ _ _ O,eI]
theorem Qn {gs:List Nat} (n:Int) (h1:-9223372036854775808≤n) (h2:n≤9223372036854775807):cd gs prog 102 [.c (.int .i64 n)] (bc (jz n)):=by
 have h7:=um n h1 h2
 refine ae 29 func102 fun _ _ _ _=>?_;refine U 16516 ?_;refine jq (cC rfl rfl underlying3 underlying5 ((((me n).toNat:Nat):Int)) (A7 n)) ?_
 refine aq (aM 1 1 da fun p1=>?_)
 refine U 16751 ?_;refine jq (gP rfl rfl rfl (by omega) (_) (rfl)) ?_;refine U 2051 ?_;refine ar (α:=Nat×Option Nat) [3,4,10,11,12,13,14,15,16,17,18,19,20,21,22,23,24,25] (fun (k,g)=>[(3,.os 0 g 0 (dC (k+1) n).length 1),(4,.c (.int .i64 (sh (k+1) n)))]) (fun (k,g)=>[(g,.blk (dC (k+1) n).length (aV (dC (k+1) n)))]) (fun (k,g)=>k≤7∧∀ j,j<k→pc j n=false) (fun (k,g)=>8-k) ((0,p1)) ?_ (fun _=>rfl) ?_ ?_ ?_
 exact ⟨ZL _,fun j hj=>absurd hj (ZO j)⟩
 exact .cons Z (.cons (cI (WH n)) .nil)
 exact .blk rfl (fun j hj=>by obtain rfl:j=0:=(by rw [bZ] at hj;omega);exact Z) .nil
 ·rintro ⟨k,g⟩ ⟨(hk:k≤7),hno⟩
  have hdl:=KU k n
  have hdn:=bZ (k+1) n
  refine U 931167 ?_;refine jq (dP (i:=k) (hz:=by omega)) ?_;refine U 150 ?_
  refine aq (ak (Fu (((dC (k+1) n).getD k 0).toNat:Nat) (sh (k+1) n)) ?_)
  refine U 530 ?_;refine aaa (fun h19=>?_) fun h19=>?_
  ·refine U 84000200020006000 ?_
   have hst:pc k n=true:=by
    unfold pc
    have hh:=h19
    rw [hdl] at hh
    (simp at hh ⊢;omega)
   refine U 16 ?_
   refine aw (aN 0 (mm _ (dC (k+1) n) O) ?_)
   refine U 51165 ?_;refine jE (freeze 0 rfl) ?_;refine jE (er 2 ((dC (k+1) n).reverse) rfl rfl (by simp) rfl) ?_
   refine jR (eN (hv:=aa.bs (nV h1 h2 ⟨hk,hst,hno⟩)))
  refine U 207810 ?_
  have hst:pc k n=false:=by
   unfold pc
   have hh:=h19
   rw [hdl] at hh
   (simp at hh ⊢;omega)
  refine U 11200 ?_;refine jq (cC rfl rfl underlying3 underlying5 ((((me (sh (k+1) n)).toNat:Nat):Int)) (A7 _)) ?_
  refine aq (aM 1 1 da fun p2=>?_)
  refine aw (ay (l2:=[me (sh (k+1) n)]) rfl rfl rfl (ZA _) (fun _ _=>Z) (aI rfl (.inl rfl) jD) rfl (bz (.cons (cI (rfl)) .nil)) underlying23 dV fR da jt rfl (by (simp;omega)) (cp rfl rfl) rfl rfl (fun p3=>?_))
  refine U 1200840051 ?_;refine jq (gP rfl rfl rfl (by omega) (_) (rfl)) ?_;refine U 851 ?_
  refine am ((k+1,p3)) ?_ ?_ (h5:=?_) (h7:=?_)
  ·have hk7:k≠7:=fun e=>by
    rw [e] at hst;rw [hst] at h7;cases h7
   refine ⟨by omega,fun j hj=>?_⟩
   by_cases e:j=k
   ·rw [e];exact hst
   exact hno j O
  show 8-(k+1)<8-k;omega
  exact .cons (cO (by rw [← jY])) (.cons (cI (WH _)) .nil)
  exact .blk (by rw [← jY]) (fun j hj=>aa.of_eq (by rw [← jY])) .nil
end
def tA (b:I):Nat:=if (ah b).e=0 then b.length-(ah b).rest.length-(ah b).body.length else 0
def Lr (b:I):Nat:=if (ah b).e=0 then b.length-(ah b).rest.length else 0
theorem kk (a:UInt8) (n:Nat) (h:n % 256=a.toNat):b8 n=a:=by
 apply akx.1
 rw [fC,h]
theorem NW {c:UInt8} {l:I} (hl:1≤l.length∧l.length≤4) (hc:c.toNat=128+l.length):ie (mY l)=c::l↔¬(mY l≤127∨(l.getD 0 0).toNat=0):=by
 match l,hl with
 | [x],_ =>
  have hx:=x.toNat_lt
  have e:mY [x]=x.toNat:=by simp [mY]
  rw [e]
  have c1:c=129:=akx.1 (by rw [hc];rfl)
  subst c1
  unfold ie
  split
  exact ⟨fun h=>by simp at h,fun h=>absurd (Or.inl O) h⟩
  exact ⟨fun _=>by simp;omega,fun _=>by rw [kk x _ O]⟩
 | [x,y],_ =>
  have hx:=x.toNat_lt
  have hy:=y.toNat_lt
  have e:mY [x,y]=x.toNat * 256+y.toNat:=by simp [mY]
  rw [e]
  have c1:c=130:=akx.1 (by rw [hc];rfl)
  subst c1
  unfold ie
  split
  exact ⟨fun h=>by simp at h,fun h=>absurd (Or.inl O) h⟩
  ·split
   exact ⟨fun h=>by simp at h,fun h=>absurd (Or.inr (by simp;omega)) h⟩
   ·rw [jP]
    exact ⟨fun _=>by simp;omega,fun _=>by rw [kk x _ O,kk y _ O]⟩
 | [x,y,z],_ =>
  have hx:=x.toNat_lt
  have hy:=y.toNat_lt
  have hz:=z.toNat_lt
  have e:mY [x,y,z]=(x.toNat * 256+y.toNat) * 256+z.toNat:=by simp [mY]
  rw [e]
  have c1:c=131:=akx.1 (by rw [hc];rfl)
  subst c1
  unfold ie
  split
  exact ⟨fun h=>by simp at h,fun h=>absurd (Or.inl O) h⟩
  ·split
   exact ⟨fun h=>by simp at h,fun h=>absurd (Or.inr (by simp;omega)) h⟩
   ·split
    exact ⟨fun h=>by simp at h,fun h=>absurd (Or.inr (by simp;omega)) h⟩
    ·rw [jP]
     exact ⟨fun _=>by simp;omega,fun _=>by rw [kk x _ O,kk y _ O,kk z _ O]⟩
 | [x,y,z,t],_ =>
  have hx:=x.toNat_lt
  have hy:=y.toNat_lt
  have hz:=z.toNat_lt
  have ht:=t.toNat_lt
  have e:mY [x,y,z,t]=((x.toNat * 256+y.toNat) * 256+z.toNat) * 256+t.toNat:=by simp [mY]
  rw [e]
  have c1:c=132:=akx.1 (by rw [hc];rfl)
  subst c1
  unfold ie
  split
  exact ⟨fun h=>by simp at h,fun h=>absurd (Or.inl O) h⟩
  ·split
   exact ⟨fun h=>by simp at h,fun h=>absurd (Or.inr (by simp;omega)) h⟩
   ·split
    exact ⟨fun h=>by simp at h,fun h=>absurd (Or.inr (by simp;omega)) h⟩
    ·split
     exact ⟨fun h=>by simp at h,fun h=>absurd (Or.inr (by simp;omega)) h⟩
     exact ⟨fun _=>by simp;omega,fun _=>by rw [kk x _ O,kk y _ O,kk z _ O,kk t _ O]⟩
theorem Td {b:I} {k:Nat} (h:1<b.length):(b.take (2+k)).drop 1=b.getD 1 0::(b.drop 2).take k:=by
 match b,h with
 | x::y::r,_=>simp [show 2+k=(k+1)+1 by omega]
theorem OL {b:I} {k i:Nat} (h:i<k):((b.drop 2).take k).getD i 0=b.getD (2+i) 0:=by
 simp [List.getD,h]
theorem xR {b:I} (h:1<b.length) (hc:(b.getD 1 0).toNat<128):cm (b.drop 1)=⟨0,(b.getD 1 0).toNat,b.drop 2⟩:=by
 rw [xS (c:=(b.getD 1 0).toNat) (r:=b.drop 2) (by simp;omega) (by simp [List.getD]) (by simp),jP]
theorem Kc {b:I} {k:Nat} (h:1<b.length) (hc:(b.getD 1 0).toNat=128+k):cm (b.drop 1)=if k=0∨4<k then ⟨4,0,[]⟩ else if b.length-2<k then ⟨2,0,[]⟩ else
  if ie (mY ((b.drop 2).take k))=(b.take (2+k)).drop 1 then ⟨0,mY ((b.drop 2).take k),b.drop (2+k)⟩ else ⟨4,0,[]⟩:=by
 rw [xS (c:=(b.getD 1 0).toNat) (r:=b.drop 2) (by simp;omega) (by simp [List.getD]) (by simp),jK]
 by_cases h1:k=0∨4<k
 ·rw [Zz h1,jP]
 ·rw [Zy h1,jK,ZI,hc,show 128+k-128=k by omega]
  by_cases h2:b.length-2<k
  ·rw [Zz h2,Zz h2]
  ·rw [Zy h2,Zy h2,Td h,aZx]
   have hl:((b.drop 2).take k).length=k:=by simp;omega
   have hg:((b.drop 2).take k).getD 0 0=(b.drop 2).getD 0 0:=by simp [List.getD,show 0<k by omega]
   have:=NW (c:=b.getD 1 0) (l:=(b.drop 2).take k) O (by rw [hl];exact hc)
   rw [hg] at this
   by_cases h3:mY ((b.drop 2).take k)≤127∨((b.drop 2).getD 0 0).toNat=0
   ·rw [Zz h3,Zy (fun h=>this.1 h h3)]
   ·rw [Zy h3,Zz (this.2 h3)]
section
open Go.RowKit Cal
structure VV where
 kind:Int
 n:Int
 is:Bool
 b:I
 t:I
def VV.none:VV:=⟨0,0,false,[],[]⟩
structure W8 where
 fr:List (Int×Zx)
 d:I
 k:Nat
def bX (e:Nat) (s:W8):W8:=if s.k=0 then ⟨s.fr,s.d,e⟩ else s
def cV (b:I) (s:W8):W8:=match s.fr with
 | []=>⟨[],s.d++b,s.k⟩
 | x::r=>⟨(x.1,x.2++[b])::r,s.d,s.k⟩
def fH (tag:Int) (body:I) (e:Nat) (s:W8):W8 :=
 if (bX e s).k≠0 then bX e s else if rT tag body≠0 then ⟨s.fr,s.d,rT tag body⟩ else cV (bB tag body) s
def cW (tag:Int) (s:W8):W8:=if s.k≠0 then s else if bO tag=false then ⟨s.fr,s.d,5⟩ else if s.fr.length=16 then ⟨s.fr,s.d,6⟩ else ⟨(tag,[])::s.fr,s.d,s.k⟩
def lX (x:Int×Zx):I:=if x.1=49 then (gz x.2).flatten else x.2.flatten
def dS (s:W8):W8:=if s.k≠0 then s else match s.fr with
 | []=>⟨[],s.d,24⟩
 | x::r=>fH x.1 (lX x) 0 ⟨r,s.d,s.k⟩
def uz (b:I) (s:W8):W8:=if (bX (aR b).2 s).k=0 then cV b s else bX (aR b).2 s
def ip (s:W8):Nat:=if s.k≠0 then s.k else if s.fr≠[] then 24 else if 65536<s.d.length then 3 else 0
def ry (s:W8):I:=if ip s=0 then s.d else []
def k8 (n:Int):I:=if n<0∨32767<n then [] else cn n.toNat
def oR (n:Int):Nat:=if n<0∨32767<n then 1 else 0
def aF (v:VV):Int×I×Nat :=
 if v.kind=3 then (2,jz v.n,0) else
 if v.kind=4 then (10,jz v.n,0) else
 if v.kind=5 then (1,[if v.is then 255 else 0],0) else
 if v.kind=6 then (4,v.b,0) else
 if v.kind=7 then (12,if az v.t v.n=0 then v.t else [],az v.t v.n) else
 if v.kind=8 then (6,iK v.t,(bq v.t).2) else
 if v.kind=9 then (24,if yV v.n then eJ (DG v.n) else [],U9 v.n) else (3,k8 v.n,oR v.n)
def mC (v:VV) (s:W8):W8 :=
 if v.kind=1 then cW v.n s else if v.kind=2 then dS s else if v.kind=11 then uz v.b s else fH (aF v).1 (aF v).2.1 (aF v).2.2 s
structure R8 where
 tags:List Int
 rows:List (Zx)
 e:Nat
def eT (m:Nat) (r:List (Zx)):List (Zx):=r++List.replicate (m-r.length) []
def kW (b:I) (s:R8):R8:=⟨s.tags,(eT (s.tags.length+1) s.rows).set s.tags.length ((eT (s.tags.length+1) s.rows).getD s.tags.length []++[b]),s.e⟩
def ml (tag:Int) (b:I) (s:R8):R8:=if 65530<b.length then ⟨s.tags,s.rows,3⟩ else kW (bB tag b) s
def nS (n:Int) (s:R8):R8:=if bO n=false then ⟨s.tags,s.rows,5⟩ else if 16≤s.tags.length then ⟨s.tags,s.rows,6⟩ else ⟨s.tags++[n],(eT (s.tags.length+2) s.rows).set (s.tags.length+1) [],s.e⟩
def nU (s:R8):R8:=if s.tags.length=0 then ⟨s.tags,s.rows,24⟩ else
 ml (s.tags.getD (s.tags.length-1) 0) (lX (s.tags.getD (s.tags.length-1) 0,s.rows.getD s.tags.length [])) ⟨s.tags.take (s.tags.length-1),s.rows,s.e⟩
def dm (v:VV) (s:R8):R8 :=
 if s.e≠0 then s else if v.kind=1 then nS v.n s else if v.kind=2 then nU s else
 if v.kind=11 then (if (aR v.b).2≠0 then ⟨s.tags,s.rows,(aR v.b).2⟩ else kW v.b s) else
 if (aF v).2.2≠0 then ⟨s.tags,s.rows,(aF v).2.2⟩ else ml (aF v).1 (aF v).2.1 s
def fT (s:R8):Nat:=if s.e≠0 then s.e else if 0<s.tags.length then 24 else if 65536<(s.rows.getD 0 []).flatten.length then 3 else 0
def pw (s:R8):I:=if fT s=0 then (s.rows.getD 0 []).flatten else []
structure mJ (r:R8) (s:W8):Prop where
 tags:r.tags=(s.fr.map Prod.fst).reverse
 e:r.e=s.k
 row0:(r.rows.getD 0 []).flatten=s.d
 row:∀ j,j<s.fr.length→r.rows.getD (j+1) []=((s.fr.map Prod.snd).reverse).getD j []
 len:r.tags.length≠0→r.tags.length<r.rows.length
 known:∀ x ∈ s.fr,bO x.1=true
 lim:s.fr.length≤16
theorem IX:mJ ⟨[],[],0⟩ ⟨[],[],0⟩:=⟨rfl,rfl,rfl,fun j h=>by simp at h,fun h=>by simp at h,fun _ h=>(by cases h),by decide⟩
theorem nX (m:Nat) (r:List (Zx)):(eT m r).length=max m r.length:=by simp [eT];omega
theorem gB (m:Nat) (r:List (Zx)) (j:Nat):(eT m r).getD j []=r.getD j []:=by
 simp only [eT,ZB,bZx]
 split
 rfl
 ·rename_i h
  rw [Z0 (l:=r) O,aHx]
  split<;>rfl
theorem qi (l:List (Zx)) (i j:Nat) (x:Zx) (hi:i<l.length):(l.set i x).getD j []=if j=i then x else l.getD j []:=by
 simp only [ZB,cHx]
 by_cases h:i=j
 ·subst h;simp [hi]
 ·rw [Zy h,Zy (Ne.symm h)]
theorem De {r:R8} {s:W8} (h:mJ r s) (b:I):mJ (kW b r) (cV b s):=by
 have hl:r.tags.length=s.fr.length:=by rw [h.tags];simp
 have hp:r.tags.length<(eT (r.tags.length+1) r.rows).length:=by rw [nX];omega
 have ⟨fr,d,k⟩:=s
 cases fr with
 | nil =>
  refine ⟨h.tags,h.e,?_,fun j hj=>by simp [cV] at hj,fun h0=>?_,h.known,h.lim⟩
  ·have h0:r.tags.length=0:=hl
   show List.flatten (List.getD (List.set _ _ _) _ _)=_
   rw [qi _ _ _ _ hp,Zz h0.symm,h0,gB,aSx,h.row0]
   simp [cV]
  exact absurd hl h0
 | cons x fr =>
  have hl':r.tags.length=fr.length+1:=hl
  refine ⟨?_,h.e,?_,fun j hj=>?_,fun _=>?_,fun y hy=>?_,h.lim⟩
  ·show r.tags=_
   rw [h.tags]
   simp [cV]
  ·show List.flatten (List.getD (List.set _ _ _) _ _)=_
   rw [qi _ _ _ _ hp,jK,gB,h.row0]
   rfl
  ·have hj:j<fr.length+1:=hj
   show List.getD (List.set _ _ _) _ _=_
   rw [qi _ _ _ _ hp]
   simp only [cV,Z6,bax]
   have hr:=h.row j hj
   simp only [Z6,bax] at hr
   by_cases e:j=fr.length
   ·rw [jP,gB,hl',← e,hr]
    simp [e]
   ·rw [jK,gB,hr]
    simp only [ZB]
    rw [ZF (by simp;omega),ZF (by simp;omega)]
  ·show r.tags.length<(List.set _ _ _).length
   rw [aPx]
   exact hp
  ·rcases Z9.1 hy with rfl|hy
   exact h.known x ZU
   exact h.known y (Z2 _ hy)
theorem og {t:Int} (h:bO t=true):bH t=true:=by unfold bH;rw [h];rfl
theorem Dd {r:R8} {s:W8} (h:mJ r s) (hk:s.k=0) {tag:Int} (ht:bH tag=true) (b:I):mJ (ml tag b r) (fH tag b 0 s):=by
 have e0:bX 0 s=s:=by
  have ⟨fr,d,k⟩:=s
  obtain rfl:k=0:=hk
  rfl
 unfold fH
 rw [e0,jK]
 unfold rT ml
 rw [ht]
 simp only [Bool.true_eq_false,if_false]
 by_cases hb:65530<b.length
 ·rw [Zz hb,Zz hb,Zz jD]
  exact ⟨h.tags,rfl,h.row0,h.row,h.len,h.known,h.lim⟩
 ·rw [Zy hb,Zy hb,Zy jD]
  exact De h _
theorem IY {r:R8} {s:W8} (h:mJ r s) (hk:s.k=0) (n:Int):mJ (nS n r) (cW n s):=by
 have hl:r.tags.length=s.fr.length:=by rw [h.tags];simp
 have hlim:=h.lim
 unfold nS cW
 rw [Zy (show ¬ s.k≠0 by omega)]
 by_cases hm:bO n=false
 ·rw [Zz hm,Zz hm]
  exact ⟨h.tags,rfl,h.row0,h.row,h.len,h.known,h.lim⟩
 ·rw [Zy hm,Zy hm]
  by_cases h16:s.fr.length=16
  ·rw [jP,Zz h16]
   exact ⟨h.tags,rfl,h.row0,h.row,h.len,h.known,h.lim⟩
  ·rw [jK,Zy h16]
   have hp:r.tags.length+1<(eT (r.tags.length+2) r.rows).length:=by rw [nX];omega
   refine ⟨?_,h.e,?_,fun j hj=>?_,fun _=>?_,fun y hy=>?_,?_⟩
   ·show r.tags++[n]=_
    rw [h.tags]
    simp
   ·show List.flatten (List.getD (List.set _ _ _) _ _)=_
    rw [qi _ _ _ _ hp,jK,gB,h.row0]
   ·have hj:j<s.fr.length+1:=hj
    show List.getD (List.set _ _ _) _ _=_
    rw [qi _ _ _ _ hp]
    simp only [Z6,bax]
    by_cases e:j=s.fr.length
    ·rw [jP]
     simp [e]
    ·rw [jK,gB,h.row j O]
     simp only [ZB]
     rw [ZF (by simp;omega)]
   ·show (r.tags++[n]).length<(List.set _ _ _).length
    rw [aPx,ZD]
    exact hp
   ·rcases Z9.1 hy with rfl|hy
    ·simpa using hm
    exact h.known y hy
   ·show s.fr.length+1≤16
    omega
theorem Fw {r:R8} {s:W8} (h:mJ r s) (hk:s.k=0):mJ (nU r) (dS s):=by
 have hl:r.tags.length=s.fr.length:=by rw [h.tags];simp
 unfold nU dS
 rw [Zy (show ¬ s.k≠0 by omega)]
 have ⟨fr,d,k⟩:=s
 cases fr with
 | nil =>
  rw [Zz (show r.tags.length=0 from hl)]
  exact ⟨h.tags,rfl,h.row0,h.row,h.len,h.known,h.lim⟩
 | cons x fr =>
  have hl:r.tags.length=fr.length+1:=hl
  rw [jK]
  have ht:r.tags=(fr.map Prod.fst).reverse++[x.1]:=by rw [h.tags];simp
  have e1:r.tags.getD (r.tags.length-1) 0=x.1:=by
   rw [hl,ht]
   simp
  have e2:r.rows.getD r.tags.length []=x.2:=by
   rw [hl,h.row fr.length (by simp)]
   simp
  rw [e1,e2]
  refine Dd (r:=⟨r.tags.take (r.tags.length-1),r.rows,r.e⟩) (s:=⟨fr,d,k⟩) ⟨?_,h.e,h.row0,fun j hj=>?_,fun h0=>?_,fun y hy=>h.known y (Z2 _ hy),?_⟩ hk (og (h.known x ZU)) _
  ·show r.tags.take _=_
   rw [hl,ht]
   simp
  ·have hj:j<fr.length:=hj
   show r.rows.getD (j+1) []=_
   rw [h.row j (by simp;omega)]
   simp only [Z6,bax,ZB]
   rw [ZF (by simp;omega)]
  ·show (r.tags.take _).length<r.rows.length
   have:=h.len O
   simp only [ZK]
   omega
  ·have:=h.lim
   simp at this ⊢
   omega
theorem Hd {r:R8} {s:W8} (h:mJ r s) (v:VV):mJ (dm v r) (mC v s):=by
 unfold dm mC
 have he:=h.e
 by_cases hk:s.k=0
 ·rw [Zy (show ¬ r.e≠0 by omega)]
  split
  exact IY h hk _
  ·split
   exact Fw h hk
   ·split
    ·unfold uz
     have e:(bX (aR v.b).2 s).k=(aR v.b).2:=by unfold bX;rw [Zz hk]
     rw [e]
     by_cases h0:(aR v.b).2=0
     ·rw [jK,Zz h0]
      exact De h _
     ·rw [Zz h0,Zy h0]
      unfold bX
      rw [Zz hk]
      exact ⟨h.tags,rfl,h.row0,h.row,h.len,h.known,h.lim⟩
    ·by_cases h0:(aF v).2.2=0
     ·rw [jK,h0]
      refine Dd h hk ?_ _
      unfold aF
      repeat' split
      all_goals (first|rfl|decide)
     ·rw [Zz h0]
      have e:bX (aF v).2.2 s=⟨s.fr,s.d,(aF v).2.2⟩:=by unfold bX;rw [Zz hk]
      unfold fH
      rw [e,Zz h0]
      exact ⟨h.tags,rfl,h.row0,h.row,h.len,h.known,h.lim⟩
 ·rw [Zz (show r.e≠0 by omega)]
  have e1:∀ e,bX e s=s:=fun e=>by unfold bX;rw [Zy hk]
  have e2:∀ t b e,fH t b e s=s:=fun t b e=>by unfold fH;rw [e1,Zz hk]
  have e3:cW v.n s=s:=by unfold cW;rw [Zz hk]
  have e4:dS s=s:=by unfold dS;rw [Zz hk]
  have e5:uz v.b s=s:=by unfold uz;rw [e1,Zy hk]
  rw [e2,e3,e4,e5,ite_self,ite_self,ite_self]
  exact h
theorem IZ {r:R8} {s:W8} (h:mJ r s):fT r=ip s∧pw r=ry s:=by
 have hl:r.tags.length=s.fr.length:=by rw [h.tags];simp
 have e:fT r=ip s:=by
  unfold fT ip
  rw [h.e,h.row0,hl]
  cases s.fr<;>simp
 exact ⟨e,by unfold pw ry;rw [e,h.row0]⟩
end
theorem Nv {b:I} {k:Nat} (h:ah b=⟨k,0,[],[]⟩) (hk:k≠0):aa (.tup 4 (fl [.c (.int .i64 0),.c (.int .i64 0),.c (.int .i64 0),.c (.int .i64 (k:Nat))])) (.tup 4 (fl [.c (.int .i64 (ah b).tag),.c (.int .i64 (tA b)),.c (.int .i64 (Lr b)),.c (.int .i64 (ah b).e)])):=by
 unfold tA Lr
 rw [h,Zy hk,Zy hk]
 exact Z
theorem YW {b body rest:I} {t:Nat} {x y z:Int} (h:ah b=⟨0,t,body,rest⟩) (hx:x=(t:Nat)) (hy:y=((b.length-rest.length-body.length:Nat):Int)) (hz:z=((b.length-rest.length:Nat):Int)):aa (.tup 4 (fl [.c (.int .i64 x),.c (.int .i64 y),.c (.int .i64 z),.c (.int .i64 0)])) (.tup 4 (fl [.c (.int .i64 (ah b).tag),.c (.int .i64 (tA b)),.c (.int .i64 (Lr b)),.c (.int .i64 (ah b).e)])):=by
 unfold tA Lr
 rw [h,Zz rfl,Zz rfl,hx,hy,hz]
 exact Z
theorem Dj (b:I) (hb:b.length≤10000000):cd gs prog 175 [bc b] (.tup 4 (fl [.c (.int .i64 (ah b).tag),.c (.int .i64 (tA b)),.c (.int .i64 (Lr b)),.c (.int .i64 (ah b).e)])):=by
 refine ae 81 func175 fun _ _ _ _=>?_;refine U 523167511116 ?_;refine an (fun h43=>?_) fun h43=>?_
 ·refine U 511116 ?_
  refine jR (l9 (eN (hv:=Nv (k:=2) (by unfold ah;rw [jP]) jD)))
 refine U 70000000602000000167810 ?_
 refine aq (ak (Jk _) ?_)
 refine U 530 ?_;refine an (fun h46=>?_) fun h46=>?_
 ·refine U 511116 ?_
  refine jR (l9 (eN (hv:=Nv (k:=5) (by unfold ah;rw [jK,Zz (by simpa using h46)]) jD)))
 refine U 7810 ?_
 obtain ⟨t,ht⟩:∃ t,t=(b.getD 0 0).toNat:=⟨_,rfl⟩
 have hk:bH (t:Nat)=true:=by rw [ht];simpa using h46
 have hN:=DN O ht hk rfl
 refine U 52316 ?_;refine an (fun h49=>?_) fun h49=>?_
 ·refine U 800030007000511116 ?_
  have hm:cm (b.drop 1)=⟨2,0,[]⟩:=by unfold cm;rw [Zz (by rw [ZI];omega)]
  exact Nv (k:=2) (by rw [hN,hm];rfl) jD
 refine U 16810 ?_;refine jq (dP (i:=1)) ?_;refine U 75117000000060 ?_
 obtain ⟨c,hc⟩:∃ c,c=(b.getD 1 0).toNat:=⟨_,rfl⟩
 have c8:c<256:=by rw [hc];exact (b.getD 1 0).toNat_lt
 refine jE (bj 6 (.c (.int .i64 (c:Nat))) (cI (by rw [hc]))) ?_;refine U 5216 ?_;refine aaa (fun h53=>?_) fun h53=>?_
 ·refine U 7810 ?_
  first
   | have hM2:=xR (b:=b) O O
   |(rw [jK,jK,Zz (a3x.1 h66)] at hM;have hM2:=hM)
  rw [hM2] at hN
  dsimp only at hN
  rw [Zy jD] at hN
  refine U 5216 ?_;refine an (fun h70=>?_) fun h70=>?_
  ·refine U 511116 ?_
   refine jR (l9 (eN (hv:=Nv (k:=3) (by rw [hN,jP]) jD)))
  refine U 529131167810 ?_;refine an (fun h73=>?_) fun h73=>?_
  ·refine U 511116 ?_
   refine jR (l9 (eN (hv:=Nv (k:=2) (by rw [hN,jK,Zz (by rw [ZI];omega)]) jD)))
  refine U 5111191117000000060200000016810 ?_
  refine jR (eN (hv:=YW (by rw [hN,jK,Zy (by rw [ZI];omega)]) (by rw [ht]) (by simp only [ZI,ZK];omega) (by simp only [ZI];omega)))
 refine U 751916 ?_
 obtain ⟨k,hk8⟩:∃ k,c=128+k:=⟨c-128,by omega⟩
 have hM:=Kc (b:=b) (k:=k) O O
 refine jE (bj 8 (.c (.int .i64 (k:Nat))) (cI O)) ?_;refine U 1216 ?_;refine aH 32 (fun g55=>?_) fun g55=>?_
 ·refine U 80003000300070005111169000510000000044 ?_
  rw [jP] at hM
  exact Nv (k:=4) (by rw [hN,hM];rfl) jD
 refine U 550021 ?_;refine an (fun h55=>?_) fun h55=>?_
 ·refine U 8000300030007000511116 ?_
  rw [jP] at hM
  exact Nv (k:=4) (by rw [hN,hM];rfl) jD
 refine U 52193167810 ?_;refine an (fun h58=>?_) fun h58=>?_
 ·refine U 8000300030007000511116 ?_
  rw [jK,jP] at hM
  exact Nv (k:=2) (by rw [hN,hM];rfl) jD
 refine U 810 ?_
 have hk4:1≤k∧k≤4:=by omega
 have htl:((b.drop 2).take k).length=k:=by simp;omega
 refine U 205167516 ?_;refine ar (α:=Nat) [6,9,41,42,43,44,45,46,47,48,49,50,51,52,53,54] (fun i=>[(6,.c (.int .i64 (mY (((b.drop 2).take k).take i):Nat))),(9,.c (.int .i64 (i:Nat)))]) (fun _=>[]) (fun i=>i≤k) (fun i=>k-i) (0) ?_ (fun _=>rfl) ?_ ?_ ?_
 exact ZL _
 ·(repeat (first|exact bh.nil|refine bh.cons Z ?_))
 ·(repeat (exact aD.nil))
 ·rintro i (hi:i≤k)
  refine U 521167 ?_;refine an (fun h62=>?_) fun h62=>?_
  ·refine U 207810 ?_
   have hbn:=GM (((b.drop 2).take k).take i)
   have hbl:(((b.drop 2).take k).take i).length=i:=by simp;omega
   have hb3:mY (((b.drop 2).take k).take i)<16777216:=by
    rw [hbl] at hbn
    have:i≤3:=by omega
    have:=apx (n:=256) jD this
    omega
   have hc8:=(b.getD (2+i) 0).toNat_lt
   refine U 91191200 ?_;refine jq (dP (i:=(2+i)) (hz:=by omega)) ?_;refine U 8519120084005197000000060 ?_
   refine am (i+1) ?_ ?_ (h5:=?_)
   show i+1≤k;omega
   omega
   exact .cons (cI (by rw [EZ O,OL O];omega)) (.cons Z .nil)
  refine U 84000200020006000 ?_
  obtain rfl:k=i:=by omega
  have hb4:mY ((b.drop 2).take k)<4294967296:=by
   have h:=GM ((b.drop 2).take k)
   rw [htl] at h
   have:=apx (n:=256) jD hk4.2
   omega
  refine jE (bj 6 (.c (.int .i64 (mY ((b.drop 2).take k):Nat))) (cI (by rw [List.take_take,Nat.min_self]))) ?_;refine U 751916 ?_;refine dQ (.rd 0 (.rd 3 (.rd 4 (.rd 5 (.rd 6 (.one 1 (.rd 2 (.rd 7 .done)))))))) ?_;refine U 707070 ?_;refine aJ (Xf (hz1:=(show (1:Int)=((1:Nat):Int) from rfl))) ?_;refine aJ D8 ?_
  refine gp (ak (Hi (mY ((b.drop 2).take k)) O) ?_ (ho:=rfl) (he:=(.cons (se rfl (cI O)) .nil)))
  refine aJ D8 ?_;refine aJ zh ?_;refine U 880 ?_;refine an (fun h66=>?_) fun h66=>?_
  ·refine U 800030007000511116 ?_
   rw [jK,jK,Zy h66] at hM
   exact Nv (k:=4) (by rw [hN,hM];rfl) jD
  refine U 7810 ?_
  first
   | have hM2:=xR (b:=b) O O
   |(rw [jK,jK,Zz (a3x.1 h66)] at hM;have hM2:=hM)
  rw [hM2] at hN
  dsimp only at hN
  rw [Zy jD] at hN
  refine U 5216 ?_;refine an (fun h70=>?_) fun h70=>?_
  ·refine U 511116 ?_
   refine jR (l9 (eN (hv:=Nv (k:=3) (by rw [hN,jP]) jD)))
  refine U 529131167810 ?_;refine an (fun h73=>?_) fun h73=>?_
  ·refine U 511116 ?_
   refine jR (l9 (eN (hv:=Nv (k:=2) (by rw [hN,jK,Zz (by rw [ZI];omega)]) jD)))
  refine U 5111191117000000060200000016810 ?_
  refine jR (eN (hv:=YW (by rw [hN,jK,Zy (by rw [ZI];omega)]) (by rw [ht]) (by simp only [ZI,ZK];omega) (by simp only [ZI];omega)))
end Am
end Go.Proofs.YtghminnpfnkbjaaGreatDoor
