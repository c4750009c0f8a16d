/- What the law leans on, part 6: P03n, P08, W03r, W03s, W07s, W07t, W07u, W08j, W04r, W08u, W08k, Shelf, ShelfS, W07v, W08l, W04s, W05, W05b -/
import Derived.Test.YthlpfjnkieaeeaaGreatDoorM5CertJoin
import Derived.Shelf.SlSortCmp.Kit1
import Derived.Shelf.Strings.Builder1
import Derived.Shelf.Strings.Builder2
import Derived.Shelf.Strings.OnBuilder
import Derived.Shelf.Small.Bits
import Derived.Shelf.Small.Strs
import Derived.Shelf.Strconv.Itoa0
import Derived.Shelf.Strings.Search1
import Derived.Shelf.Strings.Search2
import Derived.Shelf.Strings.Search3
import Derived.Shelf.LaysM
import Derived.Shelf.Strings.Shaped
import Derived.Shelf.Strings.Prefix
import Derived.Shelf.Unicode.Decode
import Derived.Shelf.Unicode.DecodeSlow
import Derived.Shelf.Unicode.DecodeAny
import Derived.Test.YthlpfjnkieaeeaaGreatDoorProg
import Derived.Shelf.SlSortCmp.NoneTotal
import Derived.Ground.SlsfProg

set_option maxRecDepth 100000
namespace Go.Proofs.YthlpfjnkieaeeaaGreatDoor
set_option linter.unusedVariables false
namespace Am
open Go.RowKit
section
def fromM (b:List UInt8):Nat:=if (nextM b).e=0 then b.length-(nextM b).rest.length-(nextM b).body.length else 0
def toM (b:List UInt8):Nat:=if (nextM b).e=0 then b.length-(nextM b).rest.length else 0

theorem b8_self (a:UInt8) (n:Nat) (h:n % 256=a.toNat):b8 n=a:=by
 apply UInt8.toNat_inj.1
 rw [b8_mod,h]
theorem lenL_iff {c:UInt8} {l:List UInt8} (hl:1≤l.length∧l.length≤4) (hc:c.toNat=128+l.length):lenL (beN l)=c::l↔¬(beN l≤127∨(l.getD 0 0).toNat=0):=by
 match l,hl with
 | [x],_ =>
  have hx:=x.toNat_lt
  have e:beN [x]=x.toNat:=by simp [beN]
  rw [e]
  have c1:c=129:=UInt8.toNat_inj.1 (by rw [hc];rfl)
  subst c1
  unfold lenL
  split
  ·exact ⟨fun h=>by simp at h,fun h=>absurd (Or.inl (by omega)) h⟩
  ·exact ⟨fun _=>by simp;omega,fun _=>by rw [b8_self x _ (by omega)]⟩
 | [x,y],_ =>
  have hx:=x.toNat_lt
  have hy:=y.toNat_lt
  have e:beN [x,y]=x.toNat * 256+y.toNat:=by simp [beN]
  rw [e]
  have c1:c=130:=UInt8.toNat_inj.1 (by rw [hc];rfl)
  subst c1
  unfold lenL
  split
  ·exact ⟨fun h=>by simp at h,fun h=>absurd (Or.inl (by omega)) h⟩
  ·split
   ·exact ⟨fun h=>by simp at h,fun h=>absurd (Or.inr (by simp;omega)) h⟩
   ·rw [if_pos (by omega)]
    exact ⟨fun _=>by simp;omega,fun _=>by rw [b8_self x _ (by omega),b8_self y _ (by omega)]⟩
 | [x,y,z],_ =>
  have hx:=x.toNat_lt
  have hy:=y.toNat_lt
  have hz:=z.toNat_lt
  have e:beN [x,y,z]=(x.toNat * 256+y.toNat) * 256+z.toNat:=by simp [beN]
  rw [e]
  have c1:c=131:=UInt8.toNat_inj.1 (by rw [hc];rfl)
  subst c1
  unfold lenL
  split
  ·exact ⟨fun h=>by simp at h,fun h=>absurd (Or.inl (by omega)) h⟩
  ·split
   ·exact ⟨fun h=>by simp at h,fun h=>absurd (Or.inr (by simp;omega)) h⟩
   ·split
    ·exact ⟨fun h=>by simp at h,fun h=>absurd (Or.inr (by simp;omega)) h⟩
    ·rw [if_pos (by omega)]
     exact ⟨fun _=>by simp;omega,fun _=>by rw [b8_self x _ (by omega),b8_self y _ (by omega),b8_self z _ (by omega)]⟩
 | [x,y,z,t],_ =>
  have hx:=x.toNat_lt
  have hy:=y.toNat_lt
  have hz:=z.toNat_lt
  have ht:=t.toNat_lt
  have e:beN [x,y,z,t]=((x.toNat * 256+y.toNat) * 256+z.toNat) * 256+t.toNat:=by simp [beN]
  rw [e]
  have c1:c=132:=UInt8.toNat_inj.1 (by rw [hc];rfl)
  subst c1
  unfold lenL
  split
  ·exact ⟨fun h=>by simp at h,fun h=>absurd (Or.inl (by omega)) h⟩
  ·split
   ·exact ⟨fun h=>by simp at h,fun h=>absurd (Or.inr (by simp;omega)) h⟩
   ·split
    ·exact ⟨fun h=>by simp at h,fun h=>absurd (Or.inr (by simp;omega)) h⟩
    ·split
     ·exact ⟨fun h=>by simp at h,fun h=>absurd (Or.inr (by simp;omega)) h⟩
     ·exact ⟨fun _=>by simp;omega,fun _=>by rw [b8_self x _ (by omega),b8_self y _ (by omega),b8_self z _ (by omega),b8_self t _ (by omega)]⟩
theorem at_cons {b:List UInt8} {k:Nat} (h:1<b.length):(b.take (2+k)).drop 1=b.getD 1 0::(b.drop 2).take k:=by
 match b,h with
 | x::y::r,_=>simp [show 2+k=(k+1)+1 by omega]
theorem get_take {b:List UInt8} {k i:Nat} (h:i<k):((b.drop 2).take k).getD i 0=b.getD (2+i) 0:=by
 simp [List.getD,h]
theorem meas_short {b:List UInt8} (h:1<b.length) (hc:(b.getD 1 0).toNat<128):measM (b.drop 1)=⟨0,(b.getD 1 0).toNat,b.drop 2⟩:=by
 rw [measM_ne (c:=(b.getD 1 0).toNat) (r:=b.drop 2) (by simp;omega) (by simp [List.getD]) (by simp),if_pos (by omega)]
theorem meas_long {b:List UInt8} {k:Nat} (h:1<b.length) (hc:(b.getD 1 0).toNat=128+k):measM (b.drop 1)=if k=0∨4<k then ⟨4,0,[]⟩ else if b.length-2<k then ⟨2,0,[]⟩ else
  if lenL (beN ((b.drop 2).take k))=(b.take (2+k)).drop 1 then ⟨0,beN ((b.drop 2).take k),b.drop (2+k)⟩ else ⟨4,0,[]⟩:=by
 rw [measM_ne (c:=(b.getD 1 0).toNat) (r:=b.drop 2) (by simp;omega) (by simp [List.getD]) (by simp),if_neg (by omega)]
 by_cases h1:k=0∨4<k
 ·rw [if_pos h1,if_pos (by omega)]
 ·rw [if_neg h1,if_neg (by omega),List.length_drop,hc,show 128+k-128=k by omega]
  by_cases h2:b.length-2<k
  ·rw [if_pos h2,if_pos h2]
  ·rw [if_neg h2,if_neg h2,at_cons h,List.drop_drop]
   have hl:((b.drop 2).take k).length=k:=by simp;omega
   have hg:((b.drop 2).take k).getD 0 0=(b.drop 2).getD 0 0:=by simp [List.getD,show 0<k by omega]
   have:=lenL_iff (c:=b.getD 1 0) (l:=(b.drop 2).take k) (by omega) (by rw [hl];exact hc)
   rw [hg] at this
   by_cases h3:beN ((b.drop 2).take k)≤127∨((b.drop 2).getD 0 0).toNat=0
   ·rw [if_pos h3,if_neg (fun h=>this.1 h h3)]
   ·rw [if_neg h3,if_pos (this.2 h3)]
end
section
open Go.RowKit Cal
structure VV where
 kind:Int
 n:Int
 is:Bool
 b:List UInt8
 t:List UInt8
def VV.none:VV:=⟨0,0,false,[],[]⟩
structure W8 where
 fr:List (Int×List (List UInt8))
 d:List UInt8
 k:Nat
def failW (e:Nat) (s:W8):W8:=if s.k=0 then ⟨s.fr,s.d,e⟩ else s
def addW (b:List UInt8) (s:W8):W8:=match s.fr with
 | []=>⟨[],s.d++b,s.k⟩
 | x::r=>⟨(x.1,x.2++[b])::r,s.d,s.k⟩
def putW (tag:Int) (body:List UInt8) (e:Nat) (s:W8):W8 :=
 if (failW e s).k≠0 then failW e s else if putE tag body≠0 then ⟨s.fr,s.d,putE tag body⟩ else addW (putL tag body) s
def openW (tag:Int) (s:W8):W8:=if s.k≠0 then s else if madeM tag=false then ⟨s.fr,s.d,5⟩ else if s.fr.length=16 then ⟨s.fr,s.d,6⟩ else ⟨(tag,[])::s.fr,s.d,s.k⟩
def bodyF (x:Int×List (List UInt8)):List UInt8:=if x.1=49 then (sortL x.2).flatten else x.2.flatten
def closeV (s:W8):W8:=if s.k≠0 then s else match s.fr with
 | []=>⟨[],s.d,24⟩
 | x::r=>putW x.1 (bodyF x) 0 ⟨r,s.d,s.k⟩
def rawW (b:List UInt8) (s:W8):W8:=if (failW (depthM b).2 s).k=0 then addW b s else failW (depthM b).2 s
def doneK (s:W8):Nat:=if s.k≠0 then s.k else if s.fr≠[] then 24 else if 65536<s.d.length then 3 else 0
def doneB (s:W8):List UInt8:=if doneK s=0 then s.d else []
def bitsL (n:Int):List UInt8:=if n<0∨32767<n then [] else flagsL n.toNat
def bitsE (n:Int):Nat:=if n<0∨32767<n then 1 else 0
def bodyV (v:VV):Int×List UInt8×Nat :=
 if v.kind=3 then (2,putN v.n,0) else
 if v.kind=4 then (10,putN v.n,0) else
 if v.kind=5 then (1,[if v.is then 255 else 0],0) else
 if v.kind=6 then (4,v.b,0) else
 if v.kind=7 then (12,if askedM v.t v.n=0 then v.t else [],askedM v.t v.n) else
 if v.kind=8 then (6,putM v.t,(parseM v.t).2) else
 if v.kind=9 then (24,if inT v.n then bodyL (ofM v.n) else [],ofE v.n) else (3,bitsL v.n,bitsE v.n)
def doW (v:VV) (s:W8):W8 :=
 if v.kind=1 then openW v.n s else if v.kind=2 then closeV s else if v.kind=11 then rawW v.b s else putW (bodyV v).1 (bodyV v).2.1 (bodyV v).2.2 s
structure R8 where
 tags:List Int
 rows:List (List (List UInt8))
 e:Nat
def padR (m:Nat) (r:List (List (List UInt8))):List (List (List UInt8)):=r++List.replicate (m-r.length) []
def raddS (b:List UInt8) (s:R8):R8:=⟨s.tags,(padR (s.tags.length+1) s.rows).set s.tags.length ((padR (s.tags.length+1) s.rows).getD s.tags.length []++[b]),s.e⟩
def rputS (tag:Int) (b:List UInt8) (s:R8):R8:=if 65530<b.length then ⟨s.tags,s.rows,3⟩ else raddS (putL tag b) s
def ropenS (n:Int) (s:R8):R8:=if madeM n=false then ⟨s.tags,s.rows,5⟩ else if 16≤s.tags.length then ⟨s.tags,s.rows,6⟩ else ⟨s.tags++[n],(padR (s.tags.length+2) s.rows).set (s.tags.length+1) [],s.e⟩
def rcloseS (s:R8):R8:=if s.tags.length=0 then ⟨s.tags,s.rows,24⟩ else
 rputS (s.tags.getD (s.tags.length-1) 0) (bodyF (s.tags.getD (s.tags.length-1) 0,s.rows.getD s.tags.length [])) ⟨s.tags.take (s.tags.length-1),s.rows,s.e⟩
def rdoS (v:VV) (s:R8):R8 :=
 if s.e≠0 then s else if v.kind=1 then ropenS v.n s else if v.kind=2 then rcloseS s else
 if v.kind=11 then (if (depthM v.b).2≠0 then ⟨s.tags,s.rows,(depthM v.b).2⟩ else raddS v.b s) else
 if (bodyV v).2.2≠0 then ⟨s.tags,s.rows,(bodyV v).2.2⟩ else rputS (bodyV v).1 (bodyV v).2.1 s
def rdoneE (s:R8):Nat:=if s.e≠0 then s.e else if 0<s.tags.length then 24 else if 65536<(s.rows.getD 0 []).flatten.length then 3 else 0
def rdoneB (s:R8):List UInt8:=if rdoneE s=0 then (s.rows.getD 0 []).flatten else []
structure Same8 (r:R8) (s:W8):Prop where
 tags:r.tags=(s.fr.map Prod.fst).reverse
 e:r.e=s.k
 row0:(r.rows.getD 0 []).flatten=s.d
 row:∀ j,j<s.fr.length→r.rows.getD (j+1) []=((s.fr.map Prod.snd).reverse).getD j []
 len:r.tags.length≠0→r.tags.length<r.rows.length
 known:∀ x ∈ s.fr,madeM x.1=true
 lim:s.fr.length≤16
theorem same_zero:Same8 ⟨[],[],0⟩ ⟨[],[],0⟩:=⟨rfl,rfl,rfl,fun j h=>by simp at h,fun h=>by simp at h,fun _ h=>(by cases h),by decide⟩
theorem pad_len (m:Nat) (r:List (List (List UInt8))):(padR m r).length=max m r.length:=by simp [padR];omega
theorem pad_get (m:Nat) (r:List (List (List UInt8))) (j:Nat):(padR m r).getD j []=r.getD j []:=by
 simp only [padR,List.getD_eq_getElem?_getD,List.getElem?_append]
 split
 ·rfl
 ·rename_i h
  rw [List.getElem?_eq_none (l:=r) (by omega),List.getElem?_replicate]
  split <;> rfl
theorem set_get (l:List (List (List UInt8))) (i j:Nat) (x:List (List UInt8)) (hi:i<l.length):(l.set i x).getD j []=if j=i then x else l.getD j []:=by
 simp only [List.getD_eq_getElem?_getD,List.getElem?_set]
 by_cases h:i=j
 ·subst h;simp [hi]
 ·rw [if_neg h,if_neg (Ne.symm h)]
theorem same_add {r:R8} {s:W8} (h:Same8 r s) (b:List UInt8):Same8 (raddS b r) (addW b s):=by
 have hl:r.tags.length=s.fr.length:=by rw [h.tags];simp
 have hp:r.tags.length<(padR (r.tags.length+1) r.rows).length:=by rw [pad_len];omega
 obtain ⟨fr,d,k⟩:=s
 cases fr with
 | nil =>
  refine ⟨h.tags,h.e,?_,fun j hj=>by simp [addW] at hj,fun h0=>?_,h.known,h.lim⟩
  ·have h0:r.tags.length=0:=hl
   show List.flatten (List.getD (List.set _ _ _) _ _)=_
   rw [set_get _ _ _ _ hp,if_pos h0.symm,h0,pad_get,List.flatten_append,h.row0]
   simp [addW]
  ·exact absurd hl h0
 | cons x fr =>
  have hl':r.tags.length=fr.length+1:=hl
  refine ⟨?_,h.e,?_,fun j hj=>?_,fun _=>?_,fun y hy=>?_,h.lim⟩
  ·show r.tags=_
   rw [h.tags]
   simp [addW]
  ·show List.flatten (List.getD (List.set _ _ _) _ _)=_
   rw [set_get _ _ _ _ hp,if_neg (by omega),pad_get,h.row0]
   rfl
  ·have hj:j<fr.length+1:=hj
   show List.getD (List.set _ _ _) _ _=_
   rw [set_get _ _ _ _ hp]
   simp only [addW,List.map_cons,List.reverse_cons]
   have hr:=h.row j hj
   simp only [List.map_cons,List.reverse_cons] at hr
   by_cases e:j=fr.length
   ·rw [if_pos (by omega),pad_get,hl',← e,hr]
    simp [List.getD_eq_getElem?_getD,e]
   ·rw [if_neg (by omega),pad_get,hr]
    simp only [List.getD_eq_getElem?_getD]
    rw [List.getElem?_append_left (by simp;omega),List.getElem?_append_left (by simp;omega)]
  ·show r.tags.length<(List.set _ _ _).length
   rw [List.length_set]
   exact hp
  ·rcases List.mem_cons.1 hy with rfl|hy
   ·exact h.known x List.mem_cons_self
   ·exact h.known y (List.mem_cons_of_mem _ hy)
theorem made_known {t:Int} (h:madeM t=true):knownM t=true:=by unfold knownM;rw [h];rfl
theorem same_put {r:R8} {s:W8} (h:Same8 r s) (hk:s.k=0) {tag:Int} (ht:knownM tag=true) (b:List UInt8):Same8 (rputS tag b r) (putW tag b 0 s):=by
 have e0:failW 0 s=s:=by
  obtain ⟨fr,d,k⟩:=s
  obtain rfl:k=0:=hk
  rfl
 unfold putW
 rw [e0,if_neg (by omega)]
 unfold putE rputS
 rw [ht]
 simp only [Bool.true_eq_false,if_false]
 by_cases hb:65530<b.length
 ·rw [if_pos hb,if_pos hb,if_pos (by decide)]
  exact ⟨h.tags,rfl,h.row0,h.row,h.len,h.known,h.lim⟩
 ·rw [if_neg hb,if_neg hb,if_neg (by decide)]
  exact same_add h _
theorem same_open {r:R8} {s:W8} (h:Same8 r s) (hk:s.k=0) (n:Int):Same8 (ropenS n r) (openW n s):=by
 have hl:r.tags.length=s.fr.length:=by rw [h.tags];simp
 have hlim:=h.lim
 unfold ropenS openW
 rw [if_neg (show ¬ s.k≠0 by omega)]
 by_cases hm:madeM n=false
 ·rw [if_pos hm,if_pos hm]
  exact ⟨h.tags,rfl,h.row0,h.row,h.len,h.known,h.lim⟩
 ·rw [if_neg hm,if_neg hm]
  by_cases h16:s.fr.length=16
  ·rw [if_pos (by omega),if_pos h16]
   exact ⟨h.tags,rfl,h.row0,h.row,h.len,h.known,h.lim⟩
  ·rw [if_neg (by omega),if_neg h16]
   have hp:r.tags.length+1<(padR (r.tags.length+2) r.rows).length:=by rw [pad_len];omega
   refine ⟨?_,h.e,?_,fun j hj=>?_,fun _=>?_,fun y hy=>?_,?_⟩
   ·show r.tags++[n]=_
    rw [h.tags]
    simp
   ·show List.flatten (List.getD (List.set _ _ _) _ _)=_
    rw [set_get _ _ _ _ hp,if_neg (by omega),pad_get,h.row0]
   ·have hj:j<s.fr.length+1:=hj
    show List.getD (List.set _ _ _) _ _=_
    rw [set_get _ _ _ _ hp]
    simp only [List.map_cons,List.reverse_cons]
    by_cases e:j=s.fr.length
    ·rw [if_pos (by omega)]
     simp [List.getD_eq_getElem?_getD,e]
    ·rw [if_neg (by omega),pad_get,h.row j (by omega)]
     simp only [List.getD_eq_getElem?_getD]
     rw [List.getElem?_append_left (by simp;omega)]
   ·show (r.tags++[n]).length<(List.set _ _ _).length
    rw [List.length_set,List.length_append]
    exact hp
   ·rcases List.mem_cons.1 hy with rfl|hy
    ·simpa using hm
    ·exact h.known y hy
   ·show s.fr.length+1≤16
    omega
theorem same_close {r:R8} {s:W8} (h:Same8 r s) (hk:s.k=0):Same8 (rcloseS r) (closeV s):=by
 have hl:r.tags.length=s.fr.length:=by rw [h.tags];simp
 unfold rcloseS closeV
 rw [if_neg (show ¬ s.k≠0 by omega)]
 obtain ⟨fr,d,k⟩:=s
 cases fr with
 | nil =>
  rw [if_pos (show r.tags.length=0 from hl)]
  exact ⟨h.tags,rfl,h.row0,h.row,h.len,h.known,h.lim⟩
 | cons x fr =>
  have hl:r.tags.length=fr.length+1:=hl
  rw [if_neg (by omega)]
  have ht:r.tags=(fr.map Prod.fst).reverse++[x.1]:=by rw [h.tags];simp
  have e1:r.tags.getD (r.tags.length-1) 0=x.1:=by
   rw [hl,ht]
   simp [List.getD_eq_getElem?_getD]
  have e2:r.rows.getD r.tags.length []=x.2:=by
   rw [hl,h.row fr.length (by simp)]
   simp [List.getD_eq_getElem?_getD]
  rw [e1,e2]
  refine same_put (r:=⟨r.tags.take (r.tags.length-1),r.rows,r.e⟩) (s:=⟨fr,d,k⟩) ⟨?_,h.e,h.row0,fun j hj=>?_,fun h0=>?_,fun y hy=>h.known y (List.mem_cons_of_mem _ hy),?_⟩ hk (made_known (h.known x List.mem_cons_self)) _
  ·show r.tags.take _=_
   rw [hl,ht]
   simp
  ·have hj:j<fr.length:=hj
   show r.rows.getD (j+1) []=_
   rw [h.row j (by simp;omega)]
   simp only [List.map_cons,List.reverse_cons,List.getD_eq_getElem?_getD]
   rw [List.getElem?_append_left (by simp;omega)]
  ·show (r.tags.take _).length<r.rows.length
   have:=h.len (by omega)
   simp only [List.length_take]
   omega
  ·have:=h.lim
   simp at this ⊢
   omega
theorem same_do {r:R8} {s:W8} (h:Same8 r s) (v:VV):Same8 (rdoS v r) (doW v s):=by
 unfold rdoS doW
 have he:=h.e
 by_cases hk:s.k=0
 ·rw [if_neg (show ¬ r.e≠0 by omega)]
  split
  ·exact same_open h hk _
  ·split
   ·exact same_close h hk
   ·split
    ·unfold rawW
     have e:(failW (depthM v.b).2 s).k=(depthM v.b).2:=by unfold failW;rw [if_pos hk]
     rw [e]
     by_cases h0:(depthM v.b).2=0
     ·rw [if_neg (by omega),if_pos h0]
      exact same_add h _
     ·rw [if_pos h0,if_neg h0]
      unfold failW
      rw [if_pos hk]
      exact ⟨h.tags,rfl,h.row0,h.row,h.len,h.known,h.lim⟩
    ·by_cases h0:(bodyV v).2.2=0
     ·rw [if_neg (by omega),h0]
      refine same_put h hk ?_ _
      unfold bodyV
      repeat' split
      all_goals (first|rfl|decide)
     ·rw [if_pos h0]
      have e:failW (bodyV v).2.2 s=⟨s.fr,s.d,(bodyV v).2.2⟩:=by unfold failW;rw [if_pos hk]
      unfold putW
      rw [e,if_pos h0]
      exact ⟨h.tags,rfl,h.row0,h.row,h.len,h.known,h.lim⟩
 ·rw [if_pos (show r.e≠0 by omega)]
  have e1:∀ e,failW e s=s:=fun e=>by unfold failW;rw [if_neg hk]
  have e2:∀ t b e,putW t b e s=s:=fun t b e=>by unfold putW;rw [e1,if_pos hk]
  have e3:openW v.n s=s:=by unfold openW;rw [if_pos hk]
  have e4:closeV s=s:=by unfold closeV;rw [if_pos hk]
  have e5:rawW v.b s=s:=by unfold rawW;rw [e1,if_neg hk]
  rw [e2,e3,e4,e5,ite_self,ite_self,ite_self]
  exact h
end
section
theorem nxE {b:List UInt8} {k:Nat} (h:nextM b=⟨k,0,[],[]⟩) (hk:k≠0):CEnt (.tup 4 (fl [.c (.int .i64 0),.c (.int .i64 0),.c (.int .i64 0),.c (.int .i64 (k:Nat))])) (.tup 4 (fl [.c (.int .i64 (nextM b).tag),.c (.int .i64 (fromM b)),.c (.int .i64 (toM b)),.c (.int .i64 (nextM b).e)])):=by
 unfold fromM toM
 rw [h,if_neg hk,if_neg hk]
 exact cZ
theorem nxO {b body rest:List UInt8} {t:Nat} {x y z:Int} (h:nextM b=⟨0,t,body,rest⟩) (hx:x=(t:Nat)) (hy:y=((b.length-rest.length-body.length:Nat):Int)) (hz:z=((b.length-rest.length:Nat):Int)):CEnt (.tup 4 (fl [.c (.int .i64 x),.c (.int .i64 y),.c (.int .i64 z),.c (.int .i64 0)])) (.tup 4 (fl [.c (.int .i64 (nextM b).tag),.c (.int .i64 (fromM b)),.c (.int .i64 (toM b)),.c (.int .i64 (nextM b).e)])):=by
 unfold fromM toM
 rw [h,if_pos rfl,if_pos rfl,hx,hy,hz]
 exact cZ
theorem rnext_ac {gs:List Nat} (b:List UInt8) (hb:b.length≤10000000):ACp gs Tryz.prog 59 [bsC b] (.tup 4 (fl [.c (.int .i64 (nextM b).tag),.c (.int .i64 (fromM b)),.c (.int .i64 (toM b)),.c (.int .i64 (nextM b).e)])):=by
 refine ac_of 81 Tryz.func59 rfl rfl rfl (fun al w0 F0 St0=>?_)
 refine jU 523167511116 ?_;refine jcc (fun h43=>?_) fun h43=>?_
 ·refine jU 511116 ?_
  refine jR (jtr (jrt (hv:=nxE (k:=2) (by unfold nextM;rw [if_pos (by omega)]) (by decide))))
 refine jU 70000000602000000167810 ?_
 refine jqe (jecP (rknown_ac _) ?_)
 refine jU 530 ?_;refine jcc (fun h46=>?_) fun h46=>?_
 ·refine jU 511116 ?_
  refine jR (jtr (jrt (hv:=nxE (k:=5) (by unfold nextM;rw [if_neg (by omega),if_pos (by simpa using h46)]) (by decide))))
 refine jU 7810 ?_
 obtain ⟨t,ht⟩:∃ t,t=(b.getD 0 0).toNat:=⟨_,rfl⟩
 have hk:knownM (t:Nat)=true:=by rw [ht];simpa using h46
 have hN:=nextM_ne (by omega) ht hk rfl
 refine jU 52316 ?_;refine jcc (fun h49=>?_) fun h49=>?_
 ·refine jU 511116 ?_
  refine jR (jtr (jrt (hv:=?_)))
  have hm:measM (b.drop 1)=⟨2,0,[]⟩:=by unfold measM;rw [if_pos (by rw [List.length_drop];omega)]
  exact nxE (k:=2) (by rw [hN,hm];rfl) (by decide)
 refine jU 16810 ?_;refine jq (jri (i:=1)) ?_;refine jU 75117000000060 ?_
 obtain ⟨c,hc⟩:∃ c,c=(b.getD 1 0).toNat:=⟨_,rfl⟩
 have c8:c<256:=by rw [hc];exact (b.getD 1 0).toNat_lt
 refine jE (weaken 6 (.c (.int .i64 (c:Nat))) (cI (by rw [hc]))) ?_;refine jU 5216 ?_;refine jcc (fun h53=>?_) fun h53=>?_
 rotate_left
 ·refine jU 7810 ?_
  first
   | have hM2:=meas_short (b:=b) (by omega) (by omega)
   |(rw [if_neg (by omega),if_neg (by omega),if_pos (Classical.not_not.1 h66)] at hM;have hM2:=hM)
  rw [hM2] at hN
  dsimp only at hN
  rw [if_neg (by decide)] at hN
  refine jU 5216 ?_;refine jcc (fun h70=>?_) fun h70=>?_
  ·refine jU 511116 ?_
   refine jR (jtr (jrt (hv:=nxE (k:=3) (by rw [hN,if_pos (by omega)]) (by decide))))
  refine jU 529131167810 ?_;refine jcc (fun h73=>?_) fun h73=>?_
  ·refine jU 511116 ?_
   refine jR (jtr (jrt (hv:=nxE (k:=2) (by rw [hN,if_neg (by omega),if_pos (by rw [List.length_drop];omega)]) (by decide))))
  refine jU 5111191117000000060200000016810 ?_
  refine jR (jrt (hv:=nxO (by rw [hN,if_neg (by omega),if_neg (by rw [List.length_drop];omega)]) (by rw [ht]) (by simp only [List.length_drop,List.length_take];omega) (by simp only [List.length_drop];omega)))
 refine jU 751916 ?_
 obtain ⟨k,hk8⟩:∃ k,c=128+k:=⟨c-128,by omega⟩
 have hM:=meas_long (b:=b) (k:=k) (by omega) (by omega)
 refine jE (weaken 8 (.c (.int .i64 (k:Nat))) (cI (by omega))) ?_;refine jU 1216 ?_;refine jqsp 32 (fun g55=>?_) fun g55=>?_
 ·refine jU 51111690005800044 ?_
  refine jR (jtr (jtr (jrt (hv:=?_))))
  rw [if_pos (by omega)] at hM
  exact nxE (k:=4) (by rw [hN,hM];rfl) (by decide)
 refine jU 550021 ?_;refine jcc (fun h55=>?_) fun h55=>?_
 ·refine jU 511116 ?_
  refine jR (jtr (jtr (jrt (hv:=?_))))
  rw [if_pos (by omega)] at hM
  exact nxE (k:=4) (by rw [hN,hM];rfl) (by decide)
 refine jU 52193167810 ?_;refine jcc (fun h58=>?_) fun h58=>?_
 ·refine jU 511116 ?_
  refine jR (jtr (jtr (jrt (hv:=?_))))
  rw [if_neg (by omega),if_pos (by omega)] at hM
  exact nxE (k:=2) (by rw [hN,hM];rfl) (by decide)
 refine jU 810 ?_
 have hk4:1≤k∧k≤4:=by omega
 have htl:((b.drop 2).take k).length=k:=by simp;omega
 refine jU 205167516 ?_;refine l_loop (α:=Nat) [6,9,41,42,43,44,45,46,47,48,49,50,51,52,53,54] (fun i=>[(6,.c (.int .i64 (beN (((b.drop 2).take k).take i):Nat))),(9,.c (.int .i64 (i:Nat)))]) (fun _=>[]) (fun i=>i≤k) (fun i=>k-i) (0) ?_ (fun _=>rfl) ?_ ?_ ?_
 ·exact Nat.zero_le _
 ·(repeat (first|exact EntE.nil|refine EntE.cons cZ ?_))
 ·(repeat (exact HEnt.nil))
 ·rintro i (hi:i≤k)
  refine jU 521167 ?_;refine jcc (fun h62=>?_) fun h62=>?_
  ·refine jU 207810 ?_
   have hbn:=beN_lt (((b.drop 2).take k).take i)
   have hbl:(((b.drop 2).take k).take i).length=i:=by simp;omega
   have hb3:beN (((b.drop 2).take k).take i)<16777216:=by
    rw [hbl] at hbn
    have:i≤3:=by omega
    have:=Nat.pow_le_pow_right (n:=256) (by decide) this
    omega
   have hc8:=(b.getD (2+i) 0).toNat_lt
   refine jU 91191200 ?_;refine jq (jri (i:=(2+i)) (hz:=by omega)) ?_;refine jU 8519120084005197000000060 ?_
   refine jlend (i+1) ?_ ?_ (h5:=?_)
   ·show i+1≤k;omega
   ·omega
   ·exact .cons (cI (by rw [beN_take (by omega),get_take (by omega)];omega)) (.cons cZ .nil)
  refine jU 84000200020006000 ?_
  obtain rfl:k=i:=by omega
  have hb4:beN ((b.drop 2).take k)<4294967296:=by
   have h:=beN_lt ((b.drop 2).take k)
   rw [htl] at h
   have:=Nat.pow_le_pow_right (n:=256) (by decide) hk4.2
   omega
  refine jE (weaken 6 (.c (.int .i64 (beN ((b.drop 2).take k):Nat))) (cI (by rw [List.take_take,Nat.min_self]))) ?_;refine jU 751916 ?_;refine jcd (.rd 0 (.rd 3 (.rd 4 (.rd 5 (.rd 6 (.one 1 (.rd 2 (.rd 7 .done)))))))) ?_;refine jU 707070 ?_;refine jyq (jrsb (hz1:=(show (1:Int)=((1:Nat):Int) from rfl))) ?_;refine jyq jrbs ?_
  refine jye (jecP (rlen_ac (beN ((b.drop 2).take k)) (by omega)) ?_ (ho:=rfl) (he:=(.cons (se rfl (cI (by omega))) .nil)))
  refine jyq jrbs ?_;refine jyq jrcs ?_;refine jU 880 ?_;refine jcc (fun h66=>?_) fun h66=>?_
  ·refine jU 511116 ?_
   refine jR (jtr (jrt (hv:=?_)))
   rw [if_neg (by omega),if_neg (by omega),if_neg h66] at hM
   exact nxE (k:=4) (by rw [hN,hM];rfl) (by decide)
  refine jU 7810 ?_
  first
   | have hM2:=meas_short (b:=b) (by omega) (by omega)
   |(rw [if_neg (by omega),if_neg (by omega),if_pos (Classical.not_not.1 h66)] at hM;have hM2:=hM)
  rw [hM2] at hN
  dsimp only at hN
  rw [if_neg (by decide)] at hN
  refine jU 5216 ?_;refine jcc (fun h70=>?_) fun h70=>?_
  ·refine jU 511116 ?_
   refine jR (jtr (jrt (hv:=nxE (k:=3) (by rw [hN,if_pos (by omega)]) (by decide))))
  refine jU 529131167810 ?_;refine jcc (fun h73=>?_) fun h73=>?_
  ·refine jU 511116 ?_
   refine jR (jtr (jrt (hv:=nxE (k:=2) (by rw [hN,if_neg (by omega),if_pos (by rw [List.length_drop];omega)]) (by decide))))
  refine jU 5111191117000000060200000016810 ?_
  refine jR (jrt (hv:=nxO (by rw [hN,if_neg (by omega),if_neg (by rw [List.length_drop];omega)]) (by rw [ht]) (by simp only [List.length_drop,List.length_take];omega) (by simp only [List.length_drop];omega)))
end
section
theorem loopW_err {rec:Nat→List UInt8→Nat×Nat} {set:Bool} {lv:Nat}:∀ {fuel:Nat} {b last:List UInt8} {dp:Nat},(loopW rec set lv fuel b last dp).2≠0→(loopW rec set lv fuel b last dp).1=0
 | 0,b,last,dp,h=>by simp [loopW] at h
 | fuel+1,b,last,dp,h=>by
  unfold loopW at h ⊢
  split
  ·rename_i h1;rw [if_pos h1] at h;exact absurd rfl h
  ·rename_i h1;rw [if_neg h1] at h
   split
   ·rfl
   ·rename_i h2;rw [if_neg h2] at h
    split
    ·rfl
    ·rename_i h3;rw [if_neg h3] at h
     split
     ·rfl
     ·rename_i h4;rw [if_neg h4] at h
      split
      ·rfl
      ·rename_i h5;rw [if_neg h5] at h
       exact loopW_err h
theorem loopW_pos {rec:Nat→List UInt8→Nat×Nat} {set:Bool} {lv:Nat}:∀ {fuel:Nat} {b last:List UInt8} {dp:Nat},1≤dp→(loopW rec set lv fuel b last dp).2=0→1≤(loopW rec set lv fuel b last dp).1
 | 0,b,last,dp,hd,h=>hd
 | fuel+1,b,last,dp,hd,h=>by
  have hn:=nextM_bd b
  unfold loopW at h ⊢
  split
  ·exact hd
  ·rename_i h1;rw [if_neg h1] at h
   split
   ·rename_i h2;rw [if_pos h2] at h;exact absurd h h2
   ·rename_i h2;rw [if_neg h2] at h
    split
    ·rename_i h3;rw [if_pos h3] at h;exact absurd h (by decide)
    ·rename_i h3;rw [if_neg h3] at h
     split
     ·rename_i h4;rw [if_pos h4] at h;exact absurd h h4
     ·rename_i h4;rw [if_neg h4] at h
      split
      ·rename_i h5;rw [if_pos h5] at h;exact absurd h (by decide)
      ·rename_i h5;rw [if_neg h5] at h
       exact loopW_pos (by omega) h
theorem wholeM_pos {lv tag:Nat} {body:List UInt8} (h:(wholeM lv tag body).2=0):1≤(wholeM lv tag body).1:=by
 match lv with
 | 0=>simp [wholeM]
 | lv+1 =>
  unfold wholeM at h ⊢
  split
  ·simp
  ·rename_i h1;rw [if_neg h1] at h
   exact loopW_pos (Nat.le_refl _) h
def allW (lv:Nat) (set:Bool) (body:List UInt8):Nat×Nat:=loopW (wholeM lv) set (lv+1) body.length body [] 1
theorem take_toM {b:List UInt8} (h:(nextM b).e=0):toM b=b.length-(nextM b).rest.length:=by unfold toM;rw [if_pos h]
theorem nextM_cut {b:List UInt8} (h:(nextM b).e=0):(nextM b).body=(b.take (toM b)).drop (fromM b)∧(nextM b).rest=b.drop (toM b)∧fromM b≤toM b∧toM b≤b.length:=by
 obtain ⟨n,k,hk,hr,hn,hkl,hb⟩:∃ n k,k≤b.length∧(nextM b).rest=(b.drop k).drop n∧n≤b.length-k∧k≤b.length∧(nextM b).body=(b.drop k).take n:=by
  have hm:∀ c:List UInt8,(measM c).e=0→∃ k,k≤c.length∧(measM c).rest=c.drop k:=by
   intro c
   unfold measM
   split
   ·intro h;exact absurd h (by decide)
   ·dsimp only
    split
    ·exact fun _=>⟨1,by omega,rfl⟩
    ·split
     ·intro h;exact absurd h (by decide)
     ·split
      ·intro h;exact absurd h (by decide)
      ·split
       ·intro h;exact absurd h (by decide)
       ·rename_i h1 h2 h3 h4 h5
        rw [List.length_drop] at h4
        exact fun _=>⟨1+((c.getD 0 0).toNat-128),by omega,by dsimp only;rw [List.drop_drop]⟩
  unfold nextM at h ⊢
  split
  ·rename_i h1;rw [if_pos h1] at h;exact absurd h (by decide)
  ·rename_i h1;rw [if_neg h1] at h
   split
   ·rename_i h2;rw [if_pos h2] at h;exact absurd h (by decide)
   ·rename_i h2;rw [if_neg h2] at h
    dsimp only at h ⊢
    split
    ·rename_i h3;rw [if_pos h3] at h;exact absurd h h3
    ·rename_i h3;rw [if_neg h3] at h
     split
     ·rename_i h4;rw [if_pos h4] at h;exact absurd h (by decide)
     ·rename_i h4;rw [if_neg h4] at h
      split
      ·rename_i h5;rw [if_pos h5] at h;exact absurd h (by decide)
      ·rename_i h5
       obtain ⟨k,hk,hr⟩:=hm (b.drop 1) (by omega)
       rw [List.length_drop] at hk
       rw [hr,List.length_drop,List.length_drop] at h5
       exact ⟨(measM (b.drop 1)).n,1+k,by omega,by rw [hr,List.drop_drop],by omega,by omega,by rw [hr,List.drop_drop]⟩
 have e1:toM b=k+n:=by
  rw [take_toM h,hr,List.length_drop,List.length_drop]
  omega
 have e2:fromM b=k:=by
  unfold fromM
  rw [if_pos h,hb,hr,List.length_take,List.length_drop,List.length_drop]
  omega
 rw [e1,e2,hb,hr]
 refine ⟨?_,by rw [List.drop_drop],by omega,by omega⟩
 rw [List.drop_take]
 congr 1
 omega

theorem wholeM_not {lv tag:Nat} {body:List UInt8} (h:madeM tag=false):wholeM lv tag body=(1,0):=by
 match lv with
 | 0=>rfl
 | lv+1=>unfold wholeM;rw [if_pos h]
theorem rwhole_ac {gs:List Nat}:∀ (lv:Nat) (set:Bool) (body:List UInt8),lv≤16→body.length≤1000000→ACp gs Tryz.prog 60 [bsC body,.c (.int .i64 (lv:Nat)),.c (.bool set)] (.tup 2 (fl [.c (.int .i64 ((allW lv set body).1-1:Nat)),.c (.int .i64 (allW lv set body).2)])):=by
 intro lv
 induction lv using Nat.strongRecOn with
 | _ lv ih =>
 intro set body hlv hbody
 have ih':1≤lv→∀ (tag:Nat) (body:List UInt8),madeM tag=true→body.length≤1000000→ACp gs Tryz.prog 60 [bsC body,.c (.int .i64 ((lv:Int)-1)),.c (.bool (decide (tag=49)))] (.tup 2 (fl [.c (.int .i64 ((wholeM lv tag body).1-1:Nat)),.c (.int .i64 (wholeM lv tag body).2)])):=fun h tag body hm hb=>by
  have:=ih (lv-1) (by omega) (decide (tag=49)) body (by omega) hb
  have e:wholeM lv tag body=allW (lv-1) (decide (tag=49)) body:=by
   obtain ⟨m,rfl⟩:∃ m,lv=m+1:=⟨lv-1,by omega⟩
   unfold wholeM allW
   rw [if_neg (by rw [hm];exact Bool.noConfusion)]
   rfl
  rw [e,show (lv:Int)-1=((lv-1:Nat):Int) by omega]
  exact this
 have hR:∀ t b,(wholeM lv t b).1≤lv+1∧(wholeM lv t b).2≤7:=fun t b=>wholeM_bd lv t b
 refine ac_of 73 Tryz.func60 rfl rfl rfl (fun al w0 F0 St0=>?_)
 refine jU 65165116 ?_
 refine jqe (jebl 0 1 zr5 fun p1=>?_)
 refine jU 20751 ?_;refine jE (freeze 0 rfl) ?_;refine jE (thaw 9 (fun i _=>byF [] i) rfl rfl (by omega) (fun a b ha hb=>absurd ha (Nat.not_lt_zero a))) ?_;refine jE (pick_ent (H':=[]) [] (by decide) rfl) ?_;refine l_loop (α:=WS) [0,6,7,8,9,10,11,12,13,14,15,16,18,19,20,21,22,23,24,25,26,27,28,29,30,31,32,33,34,35,36,37,38,39,40,41,42,43,44,45,46,47,48,49,50,51,52,53,54,55,56,57,58,59,60,61,62,63,64,65,66,67,68,69,70,71] (fun x=>[(0,bsC x.b),(8,.c (.int .i64 ((x.dp-1:Nat):Int))),(9,bsC x.last)]) (fun _=>[]) (fun x=>1≤x.dp∧x.b.length≤x.f∧x.b.length≤1000000∧x.dp≤lv+2∧loopW (wholeM lv) set (lv+1) x.f x.b x.last x.dp=allW lv set body) (fun x=>x.f) (⟨body.length,body,[],1⟩) ?_ (fun _=>rfl) ?_ ?_ ?_
 ·exact ⟨Nat.le_refl _,Nat.le_refl _,hbody,by show 1≤lv+2;omega,rfl⟩
 ·(repeat (first|exact EntE.nil|refine EntE.cons cZ ?_))
 ·(repeat (exact HEnt.nil))
 ·rintro x ⟨hd1,hxf,hxb',hdp,hw⟩
  have hxb:x.b.length≤10000000:=by omega
  have hnb:=nextM_bd x.b
  refine jU 523167 ?_;refine jcc (fun h97=>?_) fun h97=>?_
  rotate_left
  ·refine jU 5111684000200020006000 ?_
   refine jR (jrt (hv:=?_))
   obtain hnil:x.b=[]:=List.eq_nil_of_length_eq_zero (by omega)
   rw [hnil,loopW_nil] at hw
   rw [← hw]
   exact cZ
  refine jU 1620810 ?_
  refine jqe (jecP (rnext_ac x.b hxb) ?_)
  refine jU 52167511119009009009001 ?_;refine jcc (fun h99=>?_) fun h99=>?_
  ·refine jU 51116 ?_
   refine jR (jtr (jbr (jtr (jbr (jtr (jrt (hv:=?_)))))))
   rw [← hw,loopW_step _ _ _ _ _ _ _ (by omega) hxf,if_pos (by omega)]
   exact cZ
  refine jU 7810 ?_
  have he:¬(nextM x.b).e≠0:=by omega
  have hcut:=nextM_cut (b:=x.b) (by omega)
  have htm:=take_toM (b:=x.b) (by omega)
  refine jU 5216 ?_;refine jcc (fun h102=>?_) fun h102=>?_
  ·refine jU 5116 ?_
   refine jR (jtr (jbr (jtr (jbr (jtr (jrt (hv:=?_)))))))
   rw [← hw,loopW_step _ _ _ _ _ _ _ (by omega) hxf,if_neg he,if_pos (by omega)]
   exact cZ
  refine jU 810 ?_
  have hW:=hR (nextM x.b).tag (nextM x.b).body
  refine jU 167516 ?_
  refine jqe (jecP (rmade_ac _) ?_)
  refine jU 5 ?_;refine jcc (fun h106=>?_) fun h106=>?_
  rotate_left
  ·refine jU 77810 ?_
   have hw0:¬(wholeM lv (nextM x.b).tag (nextM x.b).body).2≠0:=by (rw [wholeM_not (decide_eq_false h106)];decide)
   have hw1:=wholeM_pos (Classical.not_not.1 hw0)
   refine jE (weaken 14 (.c (.int .i64 ((wholeM lv (nextM x.b).tag (nextM x.b).body).1:Nat))) (cI (by (rw [wholeM_not (decide_eq_false h106)];rfl)))) ?_;refine jcd (.rd 0 (.rd 1 (.rd 2 (.rd 3 (.rd 4 (.rd 5 (.rd 6 (.rd 7 (.rd 8 (.rd 9 .done)))))))))) ?_;refine jU 7070 ?_;refine jysp 53 (fun g113=>?_) fun g113=>?_
   rotate_left
   ·refine jU 7810300880300000600600600600600600600 ?_
    have hset:¬(set=true∧Op.bytesLess (x.b.take (x.b.length-(nextM x.b).rest.length)) x.last=true):=by
     rintro ⟨h1,h2⟩
     rw [← htm] at h2
     (rw [h1] at g113;exact absurd g113 (by decide))
    refine jU 52116 ?_;refine jcc (fun h116=>?_) fun h116=>?_
    rotate_left
    ·refine jU 112005190000000116810 ?_;refine jq jrsf ?_;refine jU 840051 ?_
     refine jlend (⟨x.f-1,(nextM x.b).rest,x.b.take (x.b.length-(nextM x.b).rest.length),max x.dp ((wholeM lv (nextM x.b).tag (nextM x.b).body).1+1)⟩) ?_ ?_ (h5:=?_)
     ·exact ⟨by dsimp only;omega,by dsimp only;omega,by dsimp only;omega,by dsimp only;omega,by
       dsimp only
       rw [← hw,loopW_step _ _ _ _ _ _ _ (by omega) hxf,if_neg he,if_neg (by omega),if_neg hw0,if_neg hset]⟩
     ·dsimp only
      omega
     ·exact .cons (CEnt.bs hcut.2.1.symm) (.cons (cI (by dsimp only;omega)) (.cons (CEnt.bs (by rw [htm])) .nil))
    refine jU 1120051900000001168511200 ?_;refine jq jrsf ?_;refine jU 840051 ?_
    refine jlend (⟨x.f-1,(nextM x.b).rest,x.b.take (x.b.length-(nextM x.b).rest.length),max x.dp ((wholeM lv (nextM x.b).tag (nextM x.b).body).1+1)⟩) ?_ ?_ (h5:=?_)
    ·exact ⟨by dsimp only;omega,by dsimp only;omega,by dsimp only;omega,by dsimp only;omega,by
      dsimp only
      rw [← hw,loopW_step _ _ _ _ _ _ _ (by omega) hxf,if_neg he,if_neg (by omega),if_neg hw0,if_neg hset]⟩
    ·dsimp only
     omega
    ·exact .cons (CEnt.bs hcut.2.1.symm) (.cons (cI (by dsimp only;omega)) (.cons (CEnt.bs (by rw [htm])) .nil))
   refine jU 7070 ?_;refine jyq jrst ?_;refine jU 300000007030000000 ?_;refine jyq jrcs ?_;refine jU 8803000000 ?_;refine jcc (fun h113=>?_) fun h113=>?_
   ·refine jU 5116 ?_
    refine jR (jtr (jbr (jtr (jbr (jtr (jrt (hv:=?_)))))))
    rw [← hw,loopW_step _ _ _ _ _ _ _ (by omega) hxf,if_neg he,if_neg (by omega),if_neg hw0,if_pos ⟨by assumption,by rw [← htm];simpa using h113⟩]
    exact cZ
   refine jU 7810 ?_
   have hset:¬(set=true∧Op.bytesLess (x.b.take (x.b.length-(nextM x.b).rest.length)) x.last=true):=by
    rintro ⟨h1,h2⟩
    rw [← htm] at h2
    (rw [h2] at h113;exact absurd h113 (by decide))
   refine jU 52116 ?_;refine jcc (fun h116=>?_) fun h116=>?_
   rotate_left
   ·refine jU 112005190000000116810 ?_;refine jq jrsf ?_;refine jU 840051 ?_
    refine jlend (⟨x.f-1,(nextM x.b).rest,x.b.take (x.b.length-(nextM x.b).rest.length),max x.dp ((wholeM lv (nextM x.b).tag (nextM x.b).body).1+1)⟩) ?_ ?_ (h5:=?_)
    ·exact ⟨by dsimp only;omega,by dsimp only;omega,by dsimp only;omega,by dsimp only;omega,by
      dsimp only
      rw [← hw,loopW_step _ _ _ _ _ _ _ (by omega) hxf,if_neg he,if_neg (by omega),if_neg hw0,if_neg hset]⟩
    ·dsimp only
     omega
    ·exact .cons (CEnt.bs hcut.2.1.symm) (.cons (cI (by dsimp only;omega)) (.cons (CEnt.bs (by rw [htm])) .nil))
   refine jU 1120051900000001168511200 ?_;refine jq jrsf ?_;refine jU 840051 ?_
   refine jlend (⟨x.f-1,(nextM x.b).rest,x.b.take (x.b.length-(nextM x.b).rest.length),max x.dp ((wholeM lv (nextM x.b).tag (nextM x.b).body).1+1)⟩) ?_ ?_ (h5:=?_)
   ·exact ⟨by dsimp only;omega,by dsimp only;omega,by dsimp only;omega,by dsimp only;omega,by
     dsimp only
     rw [← hw,loopW_step _ _ _ _ _ _ _ (by omega) hxf,if_neg he,if_neg (by omega),if_neg hw0,if_neg hset]⟩
   ·dsimp only
    omega
   ·exact .cons (CEnt.bs hcut.2.1.symm) (.cons (cI (by dsimp only;omega)) (.cons (CEnt.bs (by rw [htm])) .nil))
  refine jU 1116 ?_;refine jq jrsb ?_;refine jU 2191 ?_
  refine jqe (jecP (ih' (by omega) (nextM x.b).tag (nextM x.b).body (decide_eq_true h106) (by omega)) ?_ (ho:=rfl) (he:=(.cons (se rfl (CEnt.bs hcut.1.symm)) (.cons (se rfl cZ) (.cons (se rfl (cB (decide_eq_decide.2 (by omega)))) .nil)))))
  refine jU 521675119009001 ?_;refine jcc (fun h108=>?_) fun h108=>?_
  ·refine jU 51116 ?_
   refine jR (jtr (jtr (jbr (jtr (jbr (jtr (jrt (hv:=?_))))))))
   rw [← hw,loopW_step _ _ _ _ _ _ _ (by omega) hxf,if_neg he,if_neg (by omega),if_pos (by omega)]
   exact cZ
  refine jU 7785191200810 ?_
  have hw0:¬(wholeM lv (nextM x.b).tag (nextM x.b).body).2≠0:=by omega
  have hw1:=wholeM_pos (Classical.not_not.1 hw0)
  refine jE (weaken 14 (.c (.int .i64 ((wholeM lv (nextM x.b).tag (nextM x.b).body).1:Nat))) (cI (by omega))) ?_;refine jcd (.rd 0 (.rd 1 (.rd 2 (.rd 3 (.rd 4 (.rd 5 (.rd 6 (.rd 7 (.rd 8 (.rd 9 .done)))))))))) ?_;refine jU 7070 ?_;refine jysp 53 (fun g113=>?_) fun g113=>?_
  rotate_left
  ·refine jU 7810300880300000600600600600600600600 ?_
   have hset:¬(set=true∧Op.bytesLess (x.b.take (x.b.length-(nextM x.b).rest.length)) x.last=true):=by
    rintro ⟨h1,h2⟩
    rw [← htm] at h2
    (rw [h1] at g113;exact absurd g113 (by decide))
   refine jU 52116 ?_;refine jcc (fun h116=>?_) fun h116=>?_
   rotate_left
   ·refine jU 112005190000000116810 ?_;refine jq jrsf ?_;refine jU 840051 ?_
    refine jlend (⟨x.f-1,(nextM x.b).rest,x.b.take (x.b.length-(nextM x.b).rest.length),max x.dp ((wholeM lv (nextM x.b).tag (nextM x.b).body).1+1)⟩) ?_ ?_ (h5:=?_)
    ·exact ⟨by dsimp only;omega,by dsimp only;omega,by dsimp only;omega,by dsimp only;omega,by
      dsimp only
      rw [← hw,loopW_step _ _ _ _ _ _ _ (by omega) hxf,if_neg he,if_neg (by omega),if_neg hw0,if_neg hset]⟩
    ·dsimp only
     omega
    ·exact .cons (CEnt.bs hcut.2.1.symm) (.cons (cI (by dsimp only;omega)) (.cons (CEnt.bs (by rw [htm])) .nil))
   refine jU 1120051900000001168511200 ?_;refine jq jrsf ?_;refine jU 840051 ?_
   refine jlend (⟨x.f-1,(nextM x.b).rest,x.b.take (x.b.length-(nextM x.b).rest.length),max x.dp ((wholeM lv (nextM x.b).tag (nextM x.b).body).1+1)⟩) ?_ ?_ (h5:=?_)
   ·exact ⟨by dsimp only;omega,by dsimp only;omega,by dsimp only;omega,by dsimp only;omega,by
     dsimp only
     rw [← hw,loopW_step _ _ _ _ _ _ _ (by omega) hxf,if_neg he,if_neg (by omega),if_neg hw0,if_neg hset]⟩
   ·dsimp only
    omega
   ·exact .cons (CEnt.bs hcut.2.1.symm) (.cons (cI (by dsimp only;omega)) (.cons (CEnt.bs (by rw [htm])) .nil))
  refine jU 7070 ?_;refine jyq jrst ?_;refine jU 300000007030000000 ?_;refine jyq jrcs ?_;refine jU 8803000000 ?_;refine jcc (fun h113=>?_) fun h113=>?_
  ·refine jU 5116 ?_
   refine jR (jtr (jbr (jtr (jbr (jtr (jrt (hv:=?_)))))))
   rw [← hw,loopW_step _ _ _ _ _ _ _ (by omega) hxf,if_neg he,if_neg (by omega),if_neg hw0,if_pos ⟨by assumption,by rw [← htm];simpa using h113⟩]
   exact cZ
  refine jU 7810 ?_
  have hset:¬(set=true∧Op.bytesLess (x.b.take (x.b.length-(nextM x.b).rest.length)) x.last=true):=by
   rintro ⟨h1,h2⟩
   rw [← htm] at h2
   (rw [h2] at h113;exact absurd h113 (by decide))
  refine jU 52116 ?_;refine jcc (fun h116=>?_) fun h116=>?_
  rotate_left
  ·refine jU 112005190000000116810 ?_;refine jq jrsf ?_;refine jU 840051 ?_
   refine jlend (⟨x.f-1,(nextM x.b).rest,x.b.take (x.b.length-(nextM x.b).rest.length),max x.dp ((wholeM lv (nextM x.b).tag (nextM x.b).body).1+1)⟩) ?_ ?_ (h5:=?_)
   ·exact ⟨by dsimp only;omega,by dsimp only;omega,by dsimp only;omega,by dsimp only;omega,by
     dsimp only
     rw [← hw,loopW_step _ _ _ _ _ _ _ (by omega) hxf,if_neg he,if_neg (by omega),if_neg hw0,if_neg hset]⟩
   ·dsimp only
    omega
   ·exact .cons (CEnt.bs hcut.2.1.symm) (.cons (cI (by dsimp only;omega)) (.cons (CEnt.bs (by rw [htm])) .nil))
  refine jU 1120051900000001168511200 ?_;refine jq jrsf ?_;refine jU 840051 ?_
  refine jlend (⟨x.f-1,(nextM x.b).rest,x.b.take (x.b.length-(nextM x.b).rest.length),max x.dp ((wholeM lv (nextM x.b).tag (nextM x.b).body).1+1)⟩) ?_ ?_ (h5:=?_)
  ·exact ⟨by dsimp only;omega,by dsimp only;omega,by dsimp only;omega,by dsimp only;omega,by
    dsimp only
    rw [← hw,loopW_step _ _ _ _ _ _ _ (by omega) hxf,if_neg he,if_neg (by omega),if_neg hw0,if_neg hset]⟩
  ·dsimp only
   omega
  ·exact .cons (CEnt.bs hcut.2.1.symm) (.cons (cI (by dsimp only;omega)) (.cons (CEnt.bs (by rw [htm])) .nil))
theorem allW_one {b:List UInt8} (h:(nextM b).e=0) (hr:(nextM b).rest=[]):((allW 16 false b).1-1,(allW 16 false b).2)=wholeM 16 (nextM b).tag (nextM b).body:=by
 have hb:b≠[]:=by rintro rfl;exact absurd h (by decide)
 have hl:0<b.length:=List.length_pos_iff.2 hb
 unfold allW
 rw [loopW_step _ _ _ _ _ _ _ hl (Nat.le_refl _),if_neg (by omega),if_neg (by decide)]
 by_cases hw:(wholeM 16 (nextM b).tag (nextM b).body).2=0
 ·have:=wholeM_pos hw
  rw [if_neg (by omega),if_neg (by simp),hr,loopW_nil]
  refine Prod.ext ?_ hw.symm
  show max 1 _-1=_
  omega
 ·rw [if_pos hw]
  refine Prod.ext ?_ rfl
  show 0-1=_
  have:(wholeM 16 (nextM b).tag (nextM b).body).1=0:=by
   unfold wholeM at hw ⊢
   split
   ·rename_i h1;rw [if_pos h1] at hw;exact absurd rfl hw
   ·rename_i h1;rw [if_neg h1] at hw;exact loopW_err hw
  omega
theorem rcheck_ac {gs:List Nat} (b:List UInt8) (hb:b.length≤1000000):ACp gs Tryz.prog 11 [bsC b] (.tup 2 (fl [.c (.int .i64 (depthM b).1),.c (.int .i64 (depthM b).2)])):=by
 have hnb:=nextM_bd b
 refine ac_of 29 Tryz.func11 rfl rfl rfl (fun al w0 F0 St0=>?_)
 refine jU 5231675116 ?_;refine jcc (fun h127=>?_) fun h127=>?_
 ·refine jU 5116 ?_
  refine jR (jtr (jrt (hv:=?_)))
  unfold depthM
  rw [if_pos (by omega)]
  exact cZ
 refine jU 16810 ?_
 refine jqe (jecP (rnext_ac b (by omega)) ?_)
 refine jU 52167511119009009009001 ?_;refine jcc (fun h131=>?_) fun h131=>?_
 ·refine jU 51116 ?_
  refine jR (jtr (jrt (hv:=?_)))
  unfold depthM
  rw [if_neg (by omega),if_pos (by omega)]
  exact cZ
 refine jU 5231167810 ?_;refine jcc (fun h134=>?_) fun h134=>?_
 ·refine jU 5116 ?_
  refine jR (jtr (jrt (hv:=?_)))
  have htm:=take_toM (b:=b) (by omega)
  unfold depthM
  rw [if_neg (by omega),if_neg (by omega),if_pos (by omega)]
  exact cZ
 refine jU 16810 ?_
 refine jqe (jecP (rwhole_ac 16 false b (by omega) hb) ?_)
 refine jU 511900900 ?_
 refine jR (jrt (hv:=?_))
 have htm:=take_toM (b:=b) (by omega)
 have hr:(nextM b).rest=[]:=List.eq_nil_of_length_eq_zero (by omega)
 have:=allW_one (b:=b) (by omega) hr
 have hd:depthM b=((allW 16 false b).1-1,(allW 16 false b).2):=by
  unfold depthM
  rw [if_neg (by omega),if_neg (by omega),if_neg (by omega),this]
 rw [hd]
 exact cZ
end
section
theorem isNaN8_run (x:Int) (w:World):Calls Tryz.prog 276 #[.int .u8 x] w fun e w'=>e=.returned (.bool false)∧w'=w:=by
 go_enter Tryz.func276,Tryz.ntmps276
 go_wp2
 go_ret
 exact ⟨rfl,rfl⟩
set_option maxHeartbeats 1000000 in
theorem cmp8_run (a b:UInt8) (w:World):Calls Tryz.prog 264 #[.int .u8 (a.toNat:Nat),.int .u8 (b.toNat:Nat)] w fun e w'=>e=.returned (.int .i64 (cmp8 a b))∧w'=w:=by
 rcases Nat.lt_trichotomy a.toNat b.toNat with h|h|h
 ·have HF:Hid (cmp8 a b=-1):=by unfold cmp8;rw [if_pos h];rfl
  have h1:decide (((a.toNat:Nat):Int)<(b.toNat:Nat))=true:=by simp;omega
  go_enter Tryz.func264,Tryz.ntmps264
  go_wp2_with (go_at_call 276;refine (isNaN8_run _ _).mono ?_;rintro e w' ⟨rfl,rfl⟩)
  go_ret
  exact ⟨by rw [HF.out];rfl,rfl⟩
 ·have HF:Hid (cmp8 a b=0):=by unfold cmp8;rw [if_neg (by omega),if_neg (by omega)];rfl
  have h1:decide (((a.toNat:Nat):Int)<(b.toNat:Nat))=false:=by simp;omega
  have h2:decide (((b.toNat:Nat):Int)<(a.toNat:Nat))=false:=by simp;omega
  go_enter Tryz.func264,Tryz.ntmps264
  go_wp2_with (go_at_call 276;refine (isNaN8_run _ _).mono ?_;rintro e w' ⟨rfl,rfl⟩)
  go_ret
  exact ⟨by rw [HF.out];rfl,rfl⟩
 ·have HF:Hid (cmp8 a b=1):=by unfold cmp8;rw [if_neg (by omega),if_pos h];rfl
  have h1:decide (((a.toNat:Nat):Int)<(b.toNat:Nat))=false:=by simp;omega
  have h2:decide (((b.toNat:Nat):Int)<(a.toNat:Nat))=true:=by simp;omega
  go_enter Tryz.func264,Tryz.ntmps264
  go_wp2_with (go_at_call 276;refine (isNaN8_run _ _).mono ?_;rintro e w' ⟨rfl,rfl⟩)
  go_ret
  exact ⟨by rw [HF.out];rfl,rfl⟩
theorem bs_cell {w:World} {ao:Option Addr} {n cap:Nat} {l:List UInt8} (h:Bs w (.slice ao n cap) l) {k:Nat} (hk:k<l.length):∃ b o,ao=some ⟨b,o,none⟩∧w.cell? ⟨b,o+k,none⟩=some (.int .u8 (l.getD k 0).toNat):=by
 obtain ⟨b,o,cap',e,h1,h2,h3⟩:=h.cons (by omega)
 injection e with e1 e2 e3
 exact ⟨b,o,e1,h3 k hk⟩
set_option maxHeartbeats 2000000 in
theorem compare8_run {w:World} {v1 v2:Value} {l r:List UInt8} (h1:Bs w v1 l) (h2:Bs w v2 r):Calls Tryz.prog 238 #[v1,v2] w fun e w'=>e=.returned (.int .i64 (cmpL l r))∧w'=w:=by
 obtain ⟨ao1,cap1,rfl,a1,a2,-,-⟩:=id h1
 obtain ⟨ao2,cap2,rfl,b1,b2,-,-⟩:=id h2
 have H1:=Lib.hid h1
 have H2:=Lib.hid h2
 clear h1 h2
 have L1:(l.length:Int)≤9223372036854775807:=by omega
 have A1:=Lib.hid a1;have A2:=Lib.hid a2;have B1:=Lib.hid b1;have B2:=Lib.hid b2
 clear a1 a2 b1 b2
 go_enter Tryz.func238,Tryz.ntmps238
 go_wp2
 go_loopw [11] (fun i wr=>∃ k:Nat,Hid (k≤l.length∧k≤r.length∧cmpL (l.drop k) (r.drop k)=cmpL l r)∧i=.int .i64 k∧wr=w) (fun i _=>l.length-(intOf i).toNat)
 case atStart=>exact ⟨0,⟨Nat.zero_le _,Nat.zero_le _,rfl⟩,rfl,rfl⟩
 case round =>
  obtain ⟨k,HK,rfl,rfl⟩:=hrel
  by_cases hk:k<l.length
  ·have q1:decide ((k:Int)<(l.length:Int))=true:=by simp;omega
   obtain ⟨p1,o1,rfl,c1⟩:=bs_cell H1.out hk
   by_cases hr:k<r.length
   ·have q2:decide ((r.length:Int)≤(k:Int))=false:=by simp;omega
    obtain ⟨p2,o2,rfl,c2⟩:=bs_cell H2.out hr
    have HS:=Lib.hid (cmpL_drop (l:=l) (r:=r) (i:=k) hk hr)
    have i1:(0:Int)≤(k:Int):=by omega
    have i2:(k:Int)<(l.length:Int):=by omega
    have i3:(k:Int)<(r.length:Int):=by omega
    generalize l.getD k 0=x at c1 HS
    generalize r.getD k 0=y at c2 HS
    by_cases hz:cmp8 x y=0
    ·have HZ:=Lib.hid hz
     have q3:(cmp8 x y != 0)=false:=by rw [hz];rfl
     clear hz
     go_wp2_with (go_at_call 264;refine (cmp8_run _ _ _).mono ?_;rintro e w' ⟨rfl,rfl⟩)
     case roundEnd=>exact ⟨⟨k+1,⟨by omega,by omega,by rw [← HK.out.2.2,HS.out,if_neg (fun e=>e HZ.out)]⟩,by simp,trivial⟩,by simp [intOf];omega⟩
    ·have HF:Hid (cmpL l r=cmp8 x y):=by show _=_;rw [← HK.out.2.2,HS.out,if_pos hz]
     have q3:(cmp8 x y != 0)=true:=by simp [hz]
     clear hz
     go_wp2_with (go_at_call 264;refine (cmp8_run _ _ _).mono ?_;rintro e w' ⟨rfl,rfl⟩)
     all_goals (go_ret;exact ⟨by rw [HF.out];rfl,rfl⟩)
   ·have HF:Hid (cmpL l r=1):=by
     show _=_
     rw [← HK.out.2.2,List.drop_eq_nil_of_le (by omega:r.length≤k),List.drop_eq_getElem_cons hk];rfl
    have q2:decide ((r.length:Int)≤(k:Int))=true:=by simp;omega
    have i1:(0:Int)≤(k:Int):=by omega
    have i2:(k:Int)<(l.length:Int):=by omega
    go_wp2
    all_goals (go_ret;exact ⟨by rw [HF.out];rfl,rfl⟩)
  ·have q1:decide ((k:Int)<(l.length:Int))=false:=by simp;omega
   have hkl:k=l.length:=by have:=HK.out.1;omega
   by_cases hr:l.length<r.length
   ·have HF:Hid (cmpL l r=-1):=by
     show _=_
     rw [← HK.out.2.2,hkl,List.drop_length,List.drop_eq_getElem_cons hr];rfl
    have q2:decide ((l.length:Int)<(r.length:Int))=true:=by simp;omega
    go_wp2
    all_goals (go_ret;exact ⟨by rw [HF.out];rfl,rfl⟩)
   ·have HF:Hid (cmpL l r=0):=by
     show _=_
     have e:r.length=l.length:=by have:=HK.out.2.1;omega
     rw [← HK.out.2.2,hkl,List.drop_length,← e,List.drop_length];rfl
    have q2:decide ((l.length:Int)<(r.length:Int))=false:=by simp;omega
    go_wp2
    all_goals (go_ret;exact ⟨by rw [HF.out];rfl,rfl⟩)
end
section
open Go.Sort (SWO PermIn SortedIn putCells putRow mapBlock ahead grow onCells)
def lbF (ls:List (List UInt8)) (j:Nat):CV:=bsC (ls.getD j [])
section
variable {α:Type} [Inhabited α] {enc:α→Value} {w:World} {g n:Nat} {d:Array α} {os:Array Obj}
theorem sortW_other {b:Nat} (hb:b<w.heap.size) (hn:b≠g):(sortWorld enc w g 0 n d os).heap[b]?=w.heap[b]?:=by
 show ((w.heap.modify g (onCells (putCells enc 0 d)))++os)[b]?=_
 rw [Array.getElem?_append_left (by simpa using hb),Array.getElem?_modify,if_neg (fun e=>hn e.symm)]
theorem sortW_at {cur:Array Value} {t:TypeId} {z:Nat×Nat} (h:w.heap[g]?=some (.cells cur t z)):(sortWorld enc w g 0 n d os).heap[g]?=some (.cells (putCells enc 0 d cur) t z):=by
 have hb:g<w.heap.size:=(Array.getElem?_eq_some_iff.1 h).1
 show ((w.heap.modify g (onCells (putCells enc 0 d)))++os)[g]?=_
 rw [Array.getElem?_append_left (by simpa using hb),Array.getElem?_modify,if_pos rfl,h]
 rfl
theorem sortW_size:w.heap.size≤(sortWorld enc w g 0 n d os).heap.size:=by
 show _≤((w.heap.modify g (onCells (putCells enc 0 d)))++os).size
 rw [Array.size_append,Array.size_modify]
 omega
end
theorem row_get {cs:Array Value} {m:Nat} {enc:Fin (m+1)→Value} {d:Array (Fin (m+1))} {i:Nat} (hi:i<d.size) (hc:d.size≤cs.size):(putCells enc 0 d cs).getD i undef=enc d[i]! := by
 have h2:i<(putCells enc 0 d cs).size:=by simp [putCells];omega
 rw [Array.getD_eq_getD_getElem?,Array.getElem?_eq_getElem h2]
 simp [putCells,hi]
theorem sort8_of {gs:List Nat} {P:Program} {fs fc:FuncId}
  (hnone:∀ (p:Option Addr) (cap:Nat) (fv:Value) (w:World),Calls P fs #[.slice p 0 cap,fv] w fun e w'=>e=.returned (.tuple #[])∧w'=w)
  (hsort:∀ (m:Nat) (enc:Fin (m+1)→Value) (h1:OneCell enc) (cf:Fin (m+1)→Fin (m+1)→Int) (hO:SWO (ltOf cf)) (blk cap:Nat) (d:Array (Fin (m+1))) (w:World),CmpLays1 P fc #[] enc cf blk 0 d.size w→Go.Sort.Holds enc w blk 0 d→blk<w.heap.size→d.size<4611686018427387904 →
   Calls P fs #[.slice (some ⟨blk,0,none⟩) d.size cap,.func (.func fc) #[] #[]] w fun e w'=>e=.returned (.tuple #[])∧∃ d' n os,PermIn 0 d.size d d'∧SortedIn (ltOf cf) 0 d.size d'∧w'=sortWorld enc w blk 0 n d' os)
  (hcmp:∀ (w:World) (v1 v2:Value) (l r:List UInt8),Bs w v1 l→Bs w v2 r→Calls P fc #[v1,v2] w fun e w'=>e=.returned (.int .i64 (cmpL l r))∧w'=w)
  (g:Option Nat) (ls:List (List UInt8)) (hl:ls.length≤1000000000):AC gs P fs [(g,.blk ls.length (lbF ls))] [.os 0 g 0 ls.length 1,.c (.func (.func fc) #[] #[])] (fun r H'=>r=.c (.tuple #[])∧H'=[(g,.blk ls.length (lbF (sortL ls)))]):=by
 intro al w St F0 vals he hs hv
 obtain ⟨fp,hp⟩:=he.hp
 have v0:=hv 0
 have v1:vals.getD 1 undef=.func (.func fc) #[] #[]:=hv 1
 have hnil:ls.length=0→sortL ls=ls:=fun h=>by
  have:ls=[]:=List.eq_nil_of_length_eq_zero h
  subst this;simp [sortL]
 have same:ls.length=0→HRel al St w w.heap.size F0 [(g,.blk ls.length (lbF (sortL ls)))]:=fun h=>⟨fp,by rw [hnil h];exact hp⟩
 rw [vals2 hs,v1]
 by_cases hz:ls.length=0
 ·have hx:∃ p cap,vals.getD 0 undef=.slice p 0 cap:=by
   cases g with
   | none=>exact ⟨none,0,v0.2⟩
   | some b=>obtain ⟨cap,h1,_⟩:=v0;exact ⟨_,cap,by rw [h1,hz]⟩
  obtain ⟨p,cap,hx⟩:=hx
  rw [hx]
  refine (hnone p cap _ w).mono ?_
  rintro e w' ⟨rfl,rfl⟩
  exact ⟨_,_,_,St,rfl,⟨rfl,rfl⟩,rfl,Under.refl _ _,fun _ h=>h,fun _ h=>.inl h,he.s3,same hz⟩
 ·cases g with
  | none=>exact absurd v0.1 hz
  | some b =>
   obtain ⟨cap,h1,h2,h3,cur0,t0,z0,h4,h5⟩:=v0
   obtain ⟨hF,cur,t,k1,k2,k3⟩:=hp.rep 0 (some b) _ rfl
   have hF0:F0 b:=by
    rcases (hp.own 0 b ((hF b).2 rfl)).2.2 with h|h
    ·have:=(hp.own 0 b ((hF b).2 rfl)).1;omega
    ·exact h
   have hSt:∀ x,St x→x≠b:=fun x hx e=>(hp.own 0 b ((hF b).2 rfl)).2.1 (e ▸ hx)
   have hb:b<w.heap.size:=(Array.getElem?_eq_some_iff.1 k1).1
   obtain ⟨m,hm⟩:∃ m,ls.length=m+1:=⟨ls.length-1,by omega⟩
   let enc:Fin (m+1)→Value:=fun i=>cur.getD i.val undef
   let d:Array (Fin (m+1)):=Array.ofFn id
   have hd:d.size=ls.length:=by simp [d,hm]
   have hrep:∀ i:Fin (m+1),RepC al St w (bsC (ls.getD i.val [])) (enc i):=fun i=>k3 i.val (by omega)
   have hbs:∀ (w':World),KeepS St w w'→∀ i:Fin (m+1),Bs w' (enc i) (ls.getD i.val []):=fun w' hk i=>bs_of_rep (rep_bs_keep (hrep i) hk)
   have hone:OneCell enc:=fun i=>by
    obtain ⟨ao,cap,e,_⟩:=hbs w (KeepS.refl _ _) i
    rw [e];rfl
   have hkeep:∀ (n:Nat) (d':Array (Fin (m+1))) (os:Array Obj),KeepS St w (sortWorld enc w b 0 n d' os):=fun n d' os x hx=>sortW_other (he.s3 x hx) (hSt x hx)
   have hO:=cmpL_swo (fun i:Fin (m+1)=>ls.getD i.val [])
   have hH:Go.Sort.Holds enc w b 0 d:=fun j hj=>by
    have hj2:j<cur.size:=by omega
    have e1:d[j]! = ⟨j,by omega⟩:=by simp [d,show j<m+1 by omega]
    refine ⟨?_,?_⟩
    ·simp only [World.cell?,k1,Nat.zero_add]
     rw [if_neg (by simp),e1]
     simp [enc,hj2]
    ·simp [World.frozen?,k1]
   have key:=hsort m enc hone (fun x y=>cmpL (ls.getD x.val []) (ls.getD y.val [])) hO b cap d w (fun n os dk hdk x y=>(hcmp _ _ _ _ _ (hbs _ (hkeep n dk os) x) (hbs _ (hkeep n dk os) y)).mono (by rintro e w' ⟨rfl,rfl⟩;exact ⟨rfl,0,#[],by simp [World.drewN]⟩)) hH hb (by omega)
   rw [h1,← hd]
   refine key.mono ?_
   rintro e w' ⟨rfl,d',n,os,hP,hS,rfl⟩
   have hd':d'.size=ls.length:=hP.1.trans hd
   have hms:(d'.toList.map fun i=>ls.getD i.val [])=sortL ls:=by
    refine sortL_of ?_ ?_
    ·have h6:=hP.2.2
     have e1:(d'.extract 0 d.size).toList=d'.toList:=by rw [← hP.1];simp
     have e2:(d.extract 0 d.size).toList=d.toList:=by simp
     rw [e1,e2] at h6
     refine (h6.map _).trans ?_
     have e3:d.toList.map (fun i:Fin (m+1)=>ls.getD i.val [])=ls:=by
      apply List.ext_getElem
      ·simp [d,hm]
      ·intro i h7 h8
       rw [List.getElem_map,Array.getElem_toList]
       have e4:d[i]'(by rw [hd];exact h8)=⟨i,by omega⟩:=by simp only [d,Array.getElem_ofFn];rfl
       rw [e4];simp only [List.getD,List.getElem?_eq_getElem h8,Option.getD_some]
     rw [e3]
    ·rw [List.pairwise_map,List.pairwise_iff_getElem]
     intro i j hi hj hij
     have h7:=hS i j (Nat.zero_le _) hij (by rw [← hP.1];simpa using hj)
     have hi2:i<d'.size:=by simpa using hi
     have hj2:j<d'.size:=by simpa using hj
     rw [getElem!_pos d' i hi2,getElem!_pos d' j hj2] at h7
     unfold ltOf at h7
     simp only [decide_eq_false_iff_not,Int.not_lt] at h7
     have h8:=cmpL_swap (ls.getD (d'[j]).val []) (ls.getD (d'[i]).val [])
     unfold leL
     rw [decide_eq_true_eq]
     simp only [Array.getElem_toList]
     omega
   have hw:=sortW_at (enc:=enc) (n:=n) (d:=d') (os:=os) k1
   have hsz:=sortW_size (enc:=enc) (w:=w) (g:=b) (n:=n) (d:=d') (os:=os)
   have hput:(putCells enc 0 d' cur).size=cur.size:=by simp [putCells]
   refine ⟨_,_,_,St,rfl,⟨rfl,rfl⟩,rfl,⟨rfl,rfl,rfl,hsz,fun x hx hn=>sortW_other hx (fun e=>hn (e ▸ hF0)),fun x cx tx zx hx=>?_⟩,fun _ h=>h,fun _ h=>.inl h,fun x hx=>Nat.lt_of_lt_of_le (he.s3 x hx) hsz,fp,fun i g' r hi=>?_,hp.dis,fun i x hx=>?_,hp.out⟩
   ·by_cases e:x=b
    ·subst e
     rw [k1] at hx
     cases hx
     exact ⟨_,_,hw,hput⟩
    ·exact ⟨cx,zx,(sortW_other (Array.getElem?_eq_some_iff.1 hx).1 e).trans hx,rfl⟩
   ·cases i with
    | zero =>
     cases hi
     refine ⟨hF,_,t,hw,by rw [hput];omega,fun i hi=>?_⟩
     have hi':i<d'.size:=by omega
     rw [row_get hi' (by omega)]
     have e:lbF (sortL ls) i=bsC (ls.getD (d'[i]!).val []):=by
      unfold lbF
      rw [← hms]
      simp [List.getD,hi']
     rw [e]
     exact rep_bs_keep (hrep _) (hkeep n d' os)
    | succ i=>simp at hi
   ·exact ⟨Nat.lt_of_lt_of_le (hp.own i x hx).1 hsz,(hp.own i x hx).2⟩
end
section
theorem rowC_lb:RowC 1 lbF:=fun l l2 j hj=>by
 simp only [lbF,List.getD_eq_getElem?_getD]
 split
 ·rw [List.getElem?_append_left (by omega)]
 ·rw [List.getElem?_append_right (by omega),Nat.mul_one]
theorem lb_thaw {ls:List (List UInt8)}:∀ a b,a<ls.length→b<1→CEnt (lbF ls (0+(a * 1+b))) (bsC (ls.getD a [])):=fun a b ha hb=>CEnt.of_eq (by rw [show 0+(a * 1+b)=a by omega];rfl)
theorem cloneL_ac {gs:List Nat} (l:List (List UInt8)) (hl:l.length≤1000000):AC gs Tryz.prog 240 [] [lbC l] (OwnQ l.length 1 l.length (lbF l)):=by
 refine ac_of 8 Tryz.func240 rfl rfl rfl (fun al w0 F0 St0=>?_)
 refine jU 167516 ?_;refine seq_eqNil (wanted_none rfl) rfl rfl rfl Tryz.underlying186 rfl rfl (fun h357=>?_) ?_
 ·refine jU 51690005 ?_;refine jE (own_nil 2 1 (lbF l) rfl) ?_;refine jU 30007000 ?_
  exact end_O 0 (.inl rfl) (res_1 rfl (arv_tmp rfl)) rfl (by omega) (by omega) (fun _=>by omega) (fun j hj=>by omega)
 ·refine jU 68103005 ?_
  refine jqe (jebl 0 1 zr22 fun p1=>?_)
  refine jU 1 ?_
  refine jqm (m_appendC (l:=[]) ( rowC_lb) rfl rfl rfl rfl (Nat.le_of_eq (Nat.zero_mul _)) (fun j hj=>absurd hj (by simp)) (src_rs rfl) rfl (fun j hj=>by (simp only [Nat.div_one];exact cZ)) Tryz.underlying186 nu186 sz22 zr22 by22 rfl (by (simp;omega)) (by (simp;omega)) (fun j hj=>rfl) rfl rfl rfl (fun p2=>?_))
  refine jU 700051 ?_
  exact end_O 0 (.inl rfl) (res_1 rfl (arv_tmp rfl)) rfl (by simp) (by simp) (fun _=>by simp) (fun j hj=>cZ)
end
section
abbrev FrG:=(Int×List (List UInt8))×Option Nat
def frD:FrG:=((0,[]),none)
def frF (x:FrG):Nat→CV:=fl [.c (.int .i64 x.1.1),.os 0 x.2 0 x.1.2.length 1]
def kidE (x:FrG):Option Nat×Res:=(x.2,.blk x.1.2.length (lbF x.1.2))
abbrev WZ8 (fr:List (Int×List (List UInt8))):={ z:Nat×Option Nat×Option Nat×List FrG // z.2.2.2.map Prod.fst=fr }
def wrB (s:W8) (io jd:Nat) (go gd:Option Nat):Nat→CV:=fl [.os io go 0 s.fr.length 2,.os jd gd 0 s.d.length 1,.err s.k]
def wrE (s:W8) (z:WZ8 s.fr):List (Option Nat×Res):=[(some z.1.1,.blk 3 (wrB s 1 2 z.1.2.1 z.1.2.2.1)),(z.1.2.1,.blk (s.fr.length * 2) (rowF 2 frF frD z.1.2.2.2.reverse)),(z.1.2.2.1,.blk s.d.length (byF s.d)),bagE (z.1.2.2.2.map kidE)]
def wrO (n:Nat) (s:W8):Option Nat×Res:=objE n (fun z:WZ8 s.fr=>z.1.1) (wrE s)
section
variable {P:Program} {G:Gh} {c:Code} {R:Exit→AS→Prop} {n:Nat} {s:W8} {env:List (Nat×CV)} {b0:Nat→CV} {H:List (Option Nat×Res)}
theorem code_openW (i:Nat) (hi:H[i]?=some (wrO n s)) (h:∀ go gd (zs:List FrG),zs.map Prod.fst=s.fr→ACode P G c ⟨env,b0,H.set i (some n,.blk 3 (wrB s H.length (H.length+1) go gd))++[(go,.blk (s.fr.length * 2) (rowF 2 frF frD zs.reverse)),(gd,.blk s.d.length (byF s.d)),bagE (zs.map kidE)]⟩ R):ACode P G c ⟨env,b0,H⟩ R:=by
 have hlt:=(List.getElem?_eq_some_iff.1 hi).1
 refine code_unpack i hi fun z hz=>?_
 obtain ⟨⟨n',go,gd,zs⟩,hzs⟩:=z
 obtain rfl:n'=n:=hz
 refine jE (weakH i 3 (wrB s H.length (H.length+1) go gd) (n:=3) (g:=some n') (f:=wrB s 1 2 go gd) ?_ (Nat.le_refl _) fun j hj=>?_) ?_
 ·show (H.set i _++_)[i]?=_
  rw [List.getElem?_append_left (by simpa using hlt)]
  simp [hlt]
 ·rcases j with _|_|_|j
  ·exact cO rfl
  ·exact cO rfl
  ·exact cZ
  ·omega
 ·have:=h go gd zs hzs
  rw [← List.set_set (a:=(some n',Res.blk 3 (wrB s 1 2 go gd))),← List.set_append_left _ _ (by simpa using hlt)] at this
  exact this
theorem closeWh (n:Nat) (s:W8) (zs:List FrG) (i jo jd jb:Nat) (hzs:zs.map Prod.fst=s.fr) {go gd:Option Nat} {No Nd:Nat} {f Fo Fd:Nat→CV} (hi:H[i]?=some (some n,.blk 3 f)) (ho:H[jo]?=some (go,.blk No Fo)) (hd:H[jd]?=some (gd,.blk Nd Fd)) (hb:H[jb]?=some (bagE (zs.map kidE))) (hij:[i,jo,jd,jb].Nodup)
  (h0:CEnt (f 0) (.os 1 go 0 s.fr.length 2)) (h1:CEnt (f 1) (.os 1 gd 0 s.d.length 1)) (h2:CEnt (f 2) (.err s.k)) (hNo:s.fr.length * 2≤No) (hFo:∀ a,a<s.fr.length * 2→CEnt (Fo a) (rowF 2 frF frD zs.reverse a)) (hNd:s.d.length≤Nd) (hFd:∀ a,a<s.d.length→CEnt (Fd a) (byF s.d a)) :
  ∀ {al:List Addr} {St:Nat→Prop} {w:World} {base:Nat} {F0:Nat→Prop},HRel al St w base F0 H→HRel al St w base F0 ((((H.set i (wrO n s)).set jo (none,.dead)).set jd (none,.dead)).set jb (none,.dead)):=by
 intro al St w base F0 h
 simp only [List.nodup_cons,List.mem_cons,List.not_mem_nil,or_false,not_or,not_false_iff,List.nodup_nil,and_true] at hij
 obtain ⟨⟨e1,e2,e3⟩,⟨e4,e5⟩,e6⟩:=hij
 have hil:=(List.getElem?_eq_some_iff.1 hi).1
 have hol:=(List.getElem?_eq_some_iff.1 ho).1
 have hdl:=(List.getElem?_eq_some_iff.1 hd).1
 have hbl:=(List.getElem?_eq_some_iff.1 hb).1
 have k1:=h.weak (F:=wrB s 1 2 go gd) hi (Nat.le_refl _) fun a ha=>by
  rcases a with _|_|_|a
  ·exact h0.trans (cO rfl)
  ·exact h1.trans (cO rfl)
  ·exact h2
  ·omega
 have k2:=k1.weak (i:=jo) (F:=rowF 2 frF frD zs.reverse) (by rw [List.getElem?_set_ne e1];exact ho) hNo hFo
 have k3:=k2.weak (i:=jd) (F:=byF s.d) (by rw [List.getElem?_set_ne e4,List.getElem?_set_ne e2];exact hd) hNd hFd
 have k4:=k3.closeN (gd:=fun z:WZ8 s.fr=>z.1.1) (E:=wrE s) ⟨(n,go,gd,zs),hzs⟩ i [jo,jd,jb] (by simp [e1,e2,e3,e4,e5,e6]) (by simp [hil,hol,hdl,hbl]) (by
  have g1:∀ {x},((H.set i x).set jo (go,Res.blk (s.fr.length * 2) (rowF 2 frF frD zs.reverse))).set jd (gd,Res.blk s.d.length (byF s.d))=((H.set i x).set jo (go,Res.blk (s.fr.length * 2) (rowF 2 frF frD zs.reverse))).set jd (gd,Res.blk s.d.length (byF s.d)):=rfl
  simp only [pickL,List.map_cons,List.map_nil,List.getD_eq_getElem?_getD]
  rw [List.getElem?_set_ne (Ne.symm e2),List.getElem?_set_ne (Ne.symm e1),List.getElem?_set_ne (Ne.symm e4),List.getElem?_set_ne e6,List.getElem?_set_ne e5,List.getElem?_set_ne e3,hb]
  simp [hil,hol,hdl,wrE])
 have e:killL ((((H.set i (some n,Res.blk 3 (wrB s 1 2 go gd))).set jo (go,Res.blk (s.fr.length * 2) (rowF 2 frF frD zs.reverse))).set jd (gd,Res.blk s.d.length (byF s.d))).set i (objE n (fun z:WZ8 s.fr=>z.1.1) (wrE s))) [jo,jd,jb]=(((H.set i (wrO n s)).set jo (none,.dead)).set jd (none,.dead)).set jb (none,.dead):=by
  show ((((((H.set i _).set jo _).set jd _).set i _).set jo _).set jd _).set jb _=_
  rw [List.set_comm _ _ (Ne.symm e2),List.set_comm _ _ (Ne.symm e1),List.set_set,List.set_comm _ _ (Ne.symm e4),List.set_set,List.set_set]
  rfl
 rw [← e]
 exact k4
theorem closeW (n:Nat) (s:W8) (zs:List FrG) (i jo jd jb:Nat) (hzs:zs.map Prod.fst=s.fr) {go gd:Option Nat} {No Nd:Nat} {f Fo Fd:Nat→CV} (hi:H[i]?=some (some n,.blk 3 f)) (ho:H[jo]?=some (go,.blk No Fo)) (hd:H[jd]?=some (gd,.blk Nd Fd)) (hb:H[jb]?=some (bagE (zs.map kidE))) (hij:[i,jo,jd,jb].Nodup)
  (h0:CEnt (f 0) (.os 1 go 0 s.fr.length 2)) (h1:CEnt (f 1) (.os 1 gd 0 s.d.length 1)) (h2:CEnt (f 2) (.err s.k)) (hNo:s.fr.length * 2≤No) (hFo:∀ a,a<s.fr.length * 2→CEnt (Fo a) (rowF 2 frF frD zs.reverse a)) (hNd:s.d.length≤Nd) (hFd:∀ a,a<s.d.length→CEnt (Fd a) (byF s.d a)) :
  EntS G ⟨env,b0,H⟩ ⟨env,b0,(((H.set i (wrO n s)).set jo (none,.dead)).set jd (none,.dead)).set jb (none,.dead)⟩:=EntS.hrel (closeWh n s zs i jo jd jb hzs hi ho hd hb hij h0 h1 h2 hNo hFo hNd hFd)
end
end
section
variable {gs:List Nat} [Ok9 gs]
end
section
variable {gs:List Nat} [Ok9 gs]

def rowsF (r:List (List (List UInt8))) (j:Nat):CV:=lbC (r.getD j [])
def rwB (s:R8) (jr:Nat) (gr:Option Nat):Nat→CV:=fl [isC s.tags,.os jr gr 0 s.rows.length 1,.c (.int .i64 (s.e:Nat))]
def rwE (s:R8) (z:Nat×Option Nat):List (Option Nat×Res):=[(some z.1,.blk 3 (rwB s 1 z.2)),(z.2,.blk s.rows.length (rowsF s.rows))]
def rwO (n:Nat) (s:R8):Option Nat×Res:=objE n (fun z:Nat×Option Nat=>z.1) (rwE s)
section
variable {P:Program} {G:Gh} {c:Code} {R:Exit→AS→Prop} {n:Nat} {s:R8} {env:List (Nat×CV)} {b0:Nat→CV} {H:List (Option Nat×Res)}
end
structure OkR (s:R8):Prop where
 n:s.tags.length≤100000
 r:s.rows.length≤100000
 k:∀ x ∈ s.rows,x.length≤1000000
def moreS (s:R8) (i:Nat):R8:=⟨s.tags,s.rows++List.replicate i [],s.e⟩
end
section
variable {gs:List Nat} [Ok9 gs]

structure OkW (s:W8):Prop where
 n:s.fr.length≤16
 k:∀ x ∈ s.fr,x.2.length≤1000000∧sumL x.2≤1000000
 d:s.d.length≤1000000
theorem fr_len {zs:List FrG} {fr:List (Int×List (List UInt8))} (h:zs.map Prod.fst=fr):zs.length=fr.length:=by rw [← h];simp
theorem top_at {x:FrG} {zr:List FrG} {m j:Nat} (hj:j<2) (hm:m=zr.length+1):rowF 2 frF frD (x::zr).reverse (0+(m-1) * 2+j)=frF x j:=by
 rw [Nat.zero_add,rowF_at hj,hm]
 simp [List.getD_eq_getElem?_getD]
theorem row_low {x:FrG} {zr:List FrG} {j:Nat} (hj:j<zr.length * 2):rowF 2 frF frD (x::zr).reverse j=rowF 2 frF frD zr.reverse j:=by
 simp only [rowF,List.reverse_cons,List.getD_eq_getElem?_getD]
 rw [List.getElem?_append_left (by simp;omega)]
theorem top_store {x x':FrG} {zr:List FrG} {m q n j:Nat} {g:Option Nat} (hm:m=zr.length+1) (hx:x'.1.1=x.1.1) (hg:x'.2=g) (hn:x'.1.2.length=n) (hj:j<m * 2):CEnt (updF (rowF 2 frF frD (x::zr).reverse) (0+(m-1) * 2+1) [.os q g 0 n 1] j) (rowF 2 frF frD (x'::zr).reverse j):=by
 rw [updF_get]
 by_cases h1:j<zr.length * 2
 ·rw [if_neg (by simp;omega),row_low h1,row_low h1]
  exact cZ
 ·by_cases h2:j=0+(m-1) * 2+1
  ·rw [if_pos (by simp;omega),h2,top_at (by omega) hm,Nat.sub_self]
   show CEnt (.os q g 0 n 1) (.os 0 x'.2 0 x'.1.2.length 1)
   rw [hg,hn]
   exact cO rfl
  ·obtain rfl:j=0+(m-1) * 2+0:=by omega
   rw [if_neg (by simp;omega),top_at (by omega) hm,top_at (by omega) hm]
   show CEnt (.c (.int .i64 x.1.1)) (.c (.int .i64 x'.1.1))
   rw [hx]
   exact cZ
theorem failW_ac {gs:List Nat} (n:Nat) (s:W8) (e:Nat):AC gs Tryz.prog 127 [wrO n s] [.op 0 (some n) 0,.err e] (fun r H'=>r=.c (.tuple #[])∧H'=[wrO n (failW e s)]):=by
 refine ac_of 13 Tryz.func127 rfl rfl rfl (fun al w0 F0 St0=>?_)
 refine code_openW 0 rfl fun go gd zs hzs=>?_;refine jU 55000005010004016 ?_;refine jcc (fun h38=>?_) fun h38=>?_
 rotate_left
 ·refine jU 10 ?_
  have hF:failW e s=s:=by unfold failW;rw [if_neg (by omega)]
  rw [hF]
  exact end_pack (gd:=fun z:WZ8 s.fr=>z.1.1) (E:=wrE s) (.inr rfl) _ ⟨(n,go,gd,zs),hzs⟩ [0,1,2,3] (by decide) rfl (res_0 rfl) ⟨rfl,rfl⟩
 refine jU 10004011200 ?_
 refine jqm (jmstF 1 (wrB ⟨s.fr,s.d,e⟩ 1 2 go gd) ?_ ?_)
 ·exact (fun j hj=>by rcases j with _|_|_|j <;> exact cZ)
 refine jU 5 ?_
 have hF:failW e s=⟨s.fr,s.d,e⟩:=by unfold failW;rw [if_pos (by omega)]
 rw [hF]
 exact end_pack (gd:=fun z:WZ8 s.fr=>z.1.1) (E:=wrE ⟨s.fr,s.d,e⟩) (.inr rfl) _ ⟨(n,go,gd,zs),hzs⟩ [0,1,2,3] (by decide) rfl (res_0 rfl) ⟨rfl,rfl⟩
set_option maxHeartbeats 1000000 in
theorem addW_ac {gs:List Nat} (n:Nat) (s:W8) (b:List UInt8) (hs:OkW s) (hb:b.length≤100000000):AC gs Tryz.prog 128 [wrO n s] [.op 0 (some n) 0,bsC b] (fun r H'=>r=.c (.tuple #[])∧H'=[wrO n (addW b s)]):=by
 have hsd:=hs.d
 have hsn:=hs.n
 refine ac_of 42 Tryz.func128 rfl rfl rfl (fun al w0 F0 St0=>?_)
 refine jcs ?_
 (refine code_openW 0 rfl fun go gd zs hzs=>?_;have hzl:=fr_len hzs)
 refine jU 51350904016 ?_
 skip
 refine jU 5216 ?_;refine jcc (fun h45=>?_) fun h45=>?_
 rotate_left
 ·refine jU 810 ?_
  have hf0:s.fr=[]:=List.eq_nil_of_length_eq_zero (by omega)
  refine jU 1501004011200 ?_
  refine jqm (m_appendB rfl rfl rfl (Nat.le_refl _) (fun _ _=>cZ) (src_rs rfl) rfl (fun j hj=>by simp only [Nat.div_one];exact cZ) Tryz.underlying22 nu22 sz5 zr5 by5 rfl (by omega) (fun j hj=>rfl) rfl rfl (fun p1=>?_))
  refine jU 10040 ?_
  refine jqm (jmstF 1 (wrB (addW b s) 1 2 go p1) ?_ ?_)
  ·exact (fun j hj=>by rcases j with _|_|_|j <;> first|exact cO (by simp [addW,hf0])|exact CEnt.err (by simp [addW,hf0])|omega)
  refine jU 5 ?_
  refine end_hr (H':=?H2) ?hh ?hb
  case hh=>intro _ _ _ _ _ hx;exact closeWh n (addW b s) zs 0 1 2 3 (by simp [addW,hf0];rw [hf0] at hzs;simpa using hzs) rfl rfl rfl rfl (by decide) (by exact cO rfl) (by exact cO rfl) (by exact cZ) (by simp [addW,hf0]) (fun a ha=>by simp [addW,hf0] at ha) (by simp [addW,hf0]) (fun _ _=>by simp only [addW,hf0];exact cZ) hx
  case hb=>exact end_own (.inr rfl) _ [wrO n (addW b s)] [0] (by decide) rfl (res_0 rfl) ⟨rfl,rfl⟩
 refine jcs ?_
 obtain ⟨x,zr,rfl⟩:∃ x zr,zs=x::zr:=by
   cases zs with
   | nil=>simp at hzl;omega
   | cons x zr=>exact ⟨x,zr,rfl⟩
 have hfr:s.fr=x.1::zr.map Prod.fst:=by rw [← hzs];rfl
 have hxk:=hs.k x.1 (by rw [hfr];exact List.mem_cons_self)
 have hzl:s.fr.length=zr.length+1:=by rw [← hzl];rfl
 refine jE (bag_pop 3 rfl) ?_;refine jcdZ (.rd 0 (.rd 1 (.rd 2 (.rd 4 (.rd 5 (.rd 6 (.rd 7 (.rd 8 (.rd 9 (.rd 10 (.rd 11 (.rd 12 (.rd 13 (.rd 14 (.rd 15 (.two 3 (.one 16 (.one 17 (.one 18 (.rd 19 (.rd 20 (.one 21 .done)))))) 16 (.two 3 (.one 17 (.one 18 (.rd 19 (.rd 20 (.one 21 .done))))) 17 (.two 3 (.one 18 (.rd 19 (.rd 20 (.one 21 .done)))) 18 (.one 3 (.rd 19 (.rd 20 (.one 21 .done)))))))))))))))))))))) ?_;refine jU 400000100000009000000400000 ?_;refine jzq jra ?_;refine jU 40000050000000100000009000000400000 ?_;refine jzq jra ?_;refine jzq (jri (i:=(s.fr.length-1)) (hz:=by omega)) ?_;refine jU 60000000 ?_;refine jzo (jrdo (hv:=top_at (by omega) hzl)) ?_;refine jzq jrm ?_;refine jztwo ?_ ?_
 ·refine jz1o jrdo ?_;refine z_ent (weaken 26 (.os 4 x.2 0 x.1.2.length 1) (cO rfl)) ?_
  refine jze (jecP (clone8_ac b (by omega)) ?_)
  refine jze (jebl 1 1 zr22 fun p1=>?_)
  refine jzm (m_appendC (rowC_lb) (l2:=[b]) rfl rfl rfl rfl (by omega) (fun _ _=>cZ) (src_os rfl (.inl rfl) (by decide)) rfl (fun j hj=>by rcases j with _|j <;> first|exact cZ|(exfalso;simp at hj <;> omega)) Tryz.underlying186 nu186 sz22 zr22 by22 rfl (by (simp;omega)) (by (simp;omega)) (leaf_flk rfl rfl) rfl rfl rfl (fun p2=>?_))
  refine jzq (jri (i:=(s.fr.length-1)) (hz:=by omega)) ?_;refine jU 60000000 ?_
  refine jzm (jmstF 1 (rowF 2 frF frD (((x.1.1,x.1.2++[b]),p2)::zr).reverse) ?_ ?_)
  ·exact (fun j hj=>top_store hzl rfl rfl (by simp) hj)
  refine jU 8700000 ?_;refine jE (weakH 4 (x.1.2++[b]).length (lbF (x.1.2++[b])) rfl (by simp) (fun _ _=>cZ)) ?_;refine jE (bag_push 3 4 rfl rfl rfl) ?_;refine jE (closeW n (addW b s) (((x.1.1,x.1.2++[b]),p2)::zr) 0 1 2 3 (by simp [addW,hfr]) rfl rfl rfl rfl (by decide) (cO (by simp [addW,hfr])) (cO (by simp [addW,hfr])) (CEnt.err (by simp [addW,hfr])) (by simp [addW,hfr]) (fun _ _=>cZ) (by simp [addW,hfr]) (fun _ _=>by simp only [addW,hfr];exact cZ)) ?_;refine jU 30007000 ?_
  exact end_own (.inl rfl) _ [wrO n (addW b s)] [0] (by decide) rfl (res_0 rfl) ⟨rfl,rfl⟩
 ·refine z_ent (weaken 26 (.os 4 x.2 0 x.1.2.length 1) (cO rfl)) ?_
  refine jze (jecP (clone8_ac b (by omega)) ?_)
  refine jztwo ?_ ?_
  ·refine jz1o jrdo ?_
   refine jze (jebl 1 1 zr22 fun p1=>?_)
   refine jzm (m_appendC (rowC_lb) (l2:=[b]) rfl rfl rfl rfl (by omega) (fun _ _=>cZ) (src_os rfl (.inl rfl) (by decide)) rfl (fun j hj=>by rcases j with _|j <;> first|exact cZ|(exfalso;simp at hj <;> omega)) Tryz.underlying186 nu186 sz22 zr22 by22 rfl (by (simp;omega)) (by (simp;omega)) (leaf_flk rfl rfl) rfl rfl rfl (fun p2=>?_))
   refine jzq (jri (i:=(s.fr.length-1)) (hz:=by omega)) ?_;refine jU 60000000 ?_
   refine jzm (jmstF 1 (rowF 2 frF frD (((x.1.1,x.1.2++[b]),p2)::zr).reverse) ?_ ?_)
   ·exact (fun j hj=>top_store hzl rfl rfl (by simp) hj)
   refine jU 8700000 ?_;refine jE (weakH 4 (x.1.2++[b]).length (lbF (x.1.2++[b])) rfl (by simp) (fun _ _=>cZ)) ?_;refine jE (bag_push 3 4 rfl rfl rfl) ?_;refine jE (closeW n (addW b s) (((x.1.1,x.1.2++[b]),p2)::zr) 0 1 2 3 (by simp [addW,hfr]) rfl rfl rfl rfl (by decide) (cO (by simp [addW,hfr])) (cO (by simp [addW,hfr])) (CEnt.err (by simp [addW,hfr])) (by simp [addW,hfr]) (fun _ _=>cZ) (by simp [addW,hfr]) (fun _ _=>by simp only [addW,hfr];exact cZ)) ?_;refine jU 30007000 ?_
   exact end_own (.inl rfl) _ [wrO n (addW b s)] [0] (by decide) rfl (res_0 rfl) ⟨rfl,rfl⟩
  ·refine jze (jebl 1 1 zr22 fun p1=>?_)
   refine jztwo ?_ ?_
   ·refine jz1o jrdo ?_
    refine jzm (m_appendC (rowC_lb) (l2:=[b]) rfl rfl rfl rfl (by omega) (fun _ _=>cZ) (src_os rfl (.inl rfl) (by decide)) rfl (fun j hj=>by rcases j with _|j <;> first|exact cZ|(exfalso;simp at hj <;> omega)) Tryz.underlying186 nu186 sz22 zr22 by22 rfl (by (simp;omega)) (by (simp;omega)) (leaf_flk rfl rfl) rfl rfl rfl (fun p2=>?_))
    refine jzq (jri (i:=(s.fr.length-1)) (hz:=by omega)) ?_;refine jU 60000000 ?_
    refine jzm (jmstF 1 (rowF 2 frF frD (((x.1.1,x.1.2++[b]),p2)::zr).reverse) ?_ ?_)
    ·exact (fun j hj=>top_store hzl rfl rfl (by simp) hj)
    refine jU 8700000 ?_;refine jE (weakH 4 (x.1.2++[b]).length (lbF (x.1.2++[b])) rfl (by simp) (fun _ _=>cZ)) ?_;refine jE (bag_push 3 4 rfl rfl rfl) ?_;refine jE (closeW n (addW b s) (((x.1.1,x.1.2++[b]),p2)::zr) 0 1 2 3 (by simp [addW,hfr]) rfl rfl rfl rfl (by decide) (cO (by simp [addW,hfr])) (cO (by simp [addW,hfr])) (CEnt.err (by simp [addW,hfr])) (by simp [addW,hfr]) (fun _ _=>cZ) (by simp [addW,hfr]) (fun _ _=>by simp only [addW,hfr];exact cZ)) ?_;refine jU 30007000 ?_
    exact end_own (.inl rfl) _ [wrO n (addW b s)] [0] (by decide) rfl (res_0 rfl) ⟨rfl,rfl⟩
   ·refine jzm (m_appendC (rowC_lb) (l2:=[b]) rfl rfl rfl rfl (by omega) (fun _ _=>cZ) (src_os rfl (.inl rfl) (by decide)) rfl (fun j hj=>by rcases j with _|j <;> first|exact cZ|(exfalso;simp at hj <;> omega)) Tryz.underlying186 nu186 sz22 zr22 by22 rfl (by (simp;omega)) (by (simp;omega)) (leaf_flk rfl rfl) rfl rfl rfl (fun p2=>?_))
    refine jz1o jrdo ?_;refine jzq (jri (i:=(s.fr.length-1)) (hz:=by omega)) ?_;refine jU 60000000 ?_
    refine jzm (jmstF 1 (rowF 2 frF frD (((x.1.1,x.1.2++[b]),p2)::zr).reverse) ?_ ?_)
    ·exact (fun j hj=>top_store hzl rfl rfl (by simp) hj)
    refine jU 8700000 ?_;refine jE (weakH 4 (x.1.2++[b]).length (lbF (x.1.2++[b])) rfl (by simp) (fun _ _=>cZ)) ?_;refine jE (bag_push 3 4 rfl rfl rfl) ?_;refine jE (closeW n (addW b s) (((x.1.1,x.1.2++[b]),p2)::zr) 0 1 2 3 (by simp [addW,hfr]) rfl rfl rfl rfl (by decide) (cO (by simp [addW,hfr])) (cO (by simp [addW,hfr])) (CEnt.err (by simp [addW,hfr])) (by simp [addW,hfr]) (fun _ _=>cZ) (by simp [addW,hfr]) (fun _ _=>by simp only [addW,hfr];exact cZ)) ?_;refine jU 30007000 ?_
    exact end_own (.inl rfl) _ [wrO n (addW b s)] [0] (by decide) rfl (res_0 rfl) ⟨rfl,rfl⟩
theorem putW_ac (n:Nat) (s:W8) (tag:Int) (body:List UInt8) (e:Nat) (hs:OkW s) (hb:body.length≤1000000):AC gs Tryz.prog 129 [wrO n s] [.op 0 (some n) 0,.c (.int .i64 tag),bsC body,.err e] (fun r H'=>r=.c (.tuple #[])∧H'=[wrO n (putW tag body e s)]):=by
 have hpl:(putL tag body).length≤100000000:=by
  unfold putL
  have:=lenL_bd body.length
  simp only [List.length_cons,List.length_append]
  omega
 refine ac_of 32 Tryz.func129 rfl rfl rfl (fun al w0 F0 St0=>?_)
 refine jU 116 ?_
 refine jqm (jmcH 0 (failW_ac n s e) ?_)
 rintro _ _ ⟨rfl,rfl⟩
 refine ⟨_,_,rfl,cZ,?_⟩
 refine jU 75 ?_;refine code_openW 0 rfl fun go gd zs hzs=>?_;refine jU 55000005010004016 ?_;refine jcc (fun h55=>?_) fun h55=>?_
 ·refine jU 30007000 ?_
  have hP:putW tag body e s=failW e s:=by unfold putW;rw [if_pos (by omega)]
  rw [hP]
  exact end_pack (gd:=fun z:WZ8 (failW e s).fr=>z.1.1) (E:=wrE (failW e s)) (.inl rfl) _ ⟨(n,go,gd,zs),hzs⟩ [0,1,2,3] (by decide) rfl (res_0 rfl) ⟨rfl,rfl⟩
 refine jU 810 ?_
 have hk0:(failW e s).k=0:=by omega
 have hF:failW e s=s:=by
  obtain ⟨fr,d,k⟩:=s
  unfold failW at hk0 ⊢
  split
  ·rename_i h
   rw [if_pos h] at hk0
   have h:k=0:=h
   have hk0:e=0:=hk0
   rw [h,hk0]
  ·rfl
 refine jE (closeW n (failW e s) zs 0 1 2 3 hzs rfl rfl rfl rfl (by decide) (cO rfl) (cO rfl) cZ (Nat.le_refl _) (fun _ _=>cZ) (Nat.le_refl _) (fun _ _=>cZ)) ?_
 rw [hF]
 have hsk:s.k=0:=by rw [← hF];exact hk0
 dsimp only [List.set_cons_zero,List.set_cons_succ,List.cons_append,List.nil_append,List.length_cons,List.length_nil,Nat.zero_add,Nat.reduceAdd]
 refine jU 116 ?_;refine jq (rd_build (n:=2) rfl zr199 pl199 rfl rfl) ?_
 refine jqe (jecP (tput_ac tag body hb) ?_)
 refine jU 55000001675119009001 ?_;refine jcc (fun h59=>?_) fun h59=>?_
 ·refine jU 116 ?_
  refine jqm (jmcH 0 (failW_ac n s (putE tag body)) ?_)
  rintro _ _ ⟨rfl,rfl⟩
  refine ⟨_,_,rfl,cZ,?_⟩
  refine jU 300070005 ?_
  have hP:putW tag body e s=failW (putE tag body) s:=by unfold putW;rw [hF,if_neg (by omega),if_pos (by omega)];unfold failW;rw [if_pos hsk]
  rw [hP]
  exact end_own (.inl rfl) _ [_] [0] (by decide) rfl (res_0 rfl) ⟨rfl,rfl⟩
 refine jU 810 ?_
 have hP0:putE tag body=0:=by omega
 rw [if_pos hP0]
 refine jU 11200 ?_
 refine jqm (jmcH 0 (addW_ac n s _ hs hpl) ?_)
 rintro _ _ ⟨rfl,rfl⟩
 refine ⟨_,_,rfl,cZ,?_⟩
 refine jU 5 ?_
 have hP:putW tag body e s=addW (putL tag body) s:=by unfold putW;rw [hF,if_neg (by omega),if_neg (by omega)]
 rw [hP]
 exact end_own (.inr rfl) _ [_] [0] (by decide) rfl (res_0 rfl) ⟨rfl,rfl⟩
end
end Am
end Go.Proofs.YthlpfjnkieaeeaaGreatDoor
namespace Go.Proofs
open Go.Shelf
def Tryz.lays169_ren:Go.Shelf.Ren:=⟨fun|169=>306|n=>n,fun|70=>346|9=>9|0=>0|72=>348|37=>22|127=>351|3=>3|5=>5|n=>n,fun|n=>n⟩
open Go.RowKit in
def Tryz.lays241_ren:Go.Shelf.Ren:=⟨fun|241=>311|277=>316|n=>n,fun|70=>346|3=>3|0=>0|72=>348|37=>22|5=>5|n=>n,fun|n=>n⟩
open Go.RowKit in
def Tryz.lays165_ren:Go.Shelf.Ren:=⟨fun|165=>304|240=>310|241=>311|276=>315|277=>316|n=>n,fun|70=>346|3=>3|0=>0|4=>4|9=>9|20=>20|72=>348|37=>22|164=>352|5=>5|n=>n,fun|n=>n⟩
open Go.RowKit in
def Tryz.lays156_ren:Go.Shelf.Ren:=⟨fun|156=>293|165=>304|166=>305|169=>306|240=>310|241=>311|276=>315|277=>316|n=>n,fun|31=>82|9=>9|3=>3|4=>4|0=>0|20=>20|72=>348|76=>184|70=>346|37=>22|75=>25|127=>351|164=>352|5=>5|80=>280|n=>n,fun|n=>n⟩
open Go.RowKit in
def Tryz.lays128_ren:Go.Shelf.Ren:=⟨fun|128=>256|n=>n,fun|51=>301|3=>3|4=>4|46=>267|5=>5|9=>9|n=>n,fun|n=>n⟩
def Tryz.lays125_ren:Go.Shelf.Ren:=⟨fun|125=>224|128=>256|129=>257|n=>n,fun|46=>267|3=>3|51=>301|53=>291|4=>4|5=>5|9=>9|n=>n,fun|n=>n⟩
def Tryz.lays136_ren:Go.Shelf.Ren:=⟨fun|136=>235|n=>n,fun|5=>5|3=>3|9=>9|n=>n,fun|n=>n⟩
def Tryz.lays137_ren:Go.Shelf.Ren:=⟨fun|137=>179|217=>228|266=>259|n=>n,fun|9=>9|5=>5|3=>3|n=>n,fun|n=>n⟩
theorem Tryz.lays137:Go.Proofs.Lays.n137 Tryz.prog Tryz.lays137_ren:={
 mixed:=by kernel_rfl
 f137:=Tryz.func179.trans (congrArg some (by kernel_rfl))
 f217:=Tryz.func228.trans (congrArg some (by kernel_rfl))
 f266:=Tryz.func259.trans (congrArg some (by kernel_rfl))
 t3:=Tryz.underlying3
 a3:=Tryz.isAgg3
 z3:=Tryz.sizeOf3
 v3:=Tryz.zeroValue3
 t5:=Tryz.underlying5
 a5:=Tryz.isAgg5
 z5:=Tryz.sizeOf5
 v5:=Tryz.zeroValue5
 t9:=Tryz.underlying9
 a9:=Tryz.isAgg9
 z9:=Tryz.sizeOf9
 v9:=Tryz.zeroValue9 }
open Go.RowKit in
theorem Tryz.strings_IndexByte (s:ByteArray) (c:Int) (w:World) :
  Calls Tryz.prog 179 #[.string s,.int .u8 c] w fun e w'=>e=.returned (.int .i64 (Lib.indexByte s.data.toList c.toNat.toUInt8))∧w'=w:=Any.strings_IndexByte Tryz.lays137 s c w
def Tryz.lays129_ren:Go.Shelf.Ren:=⟨fun|129=>257|n=>n,fun|53=>291|3=>3|4=>4|46=>267|5=>5|9=>9|n=>n,fun|n=>n⟩
def Tryz.lays217_ren:Go.Shelf.Ren:=⟨fun|217=>228|266=>259|n=>n,fun|9=>9|5=>5|3=>3|n=>n,fun|n=>n⟩
open Go.RowKit Go.Lib in
def Tryz.lays224_ren:Go.Shelf.Ren:=⟨fun|224=>313|n=>n,fun|3=>3|n=>n,fun|n=>n⟩
open Go.RowKit Go.Lib in
def Tryz.lays314_ren:Go.Shelf.Ren:=⟨fun|314=>317|n=>n,fun|9=>9|51=>301|3=>3|4=>4|5=>5|46=>267|n=>n,fun|n=>n⟩
open Go.RowKit Go.Lib in
def Tryz.lays267_ren:Go.Shelf.Ren:=⟨fun|267=>314|314=>317|n=>n,fun|9=>9|3=>3|146=>354|51=>301|4=>4|5=>5|46=>267|n=>n,fun|n=>n⟩
open Go.RowKit Go.Lib in
def Tryz.lays219_ren:Go.Shelf.Ren:=⟨fun|219=>309|217=>228|225=>312|224=>313|267=>314|266=>259|314=>317|n=>n,fun|9=>9|3=>3|4=>4|5=>5|46=>267|146=>354|51=>301|n=>n,fun|1=>28|n=>n⟩
open Go.RowKit Go.Lib in
def Tryz.lays143_ren:Go.Shelf.Ren:=⟨fun|143=>302|219=>309|217=>228|225=>312|224=>313|267=>314|266=>259|314=>317|n=>n,fun|9=>9|3=>3|4=>4|5=>5|46=>267|146=>354|51=>301|n=>n,fun|1=>28|n=>n⟩
theorem Tryz.lays143:Go.Proofs.Lays.n143 Tryz.prog Tryz.lays143_ren:={
 mixed:=by kernel_rfl
 f143:=Tryz.func302.trans (congrArg some (by kernel_rfl))
 f217:=Tryz.func228.trans (congrArg some (by kernel_rfl))
 f219:=Tryz.func309.trans (congrArg some (by kernel_rfl))
 f224:=Tryz.func313.trans (congrArg some (by kernel_rfl))
 f225:=Tryz.func312.trans (congrArg some (by kernel_rfl))
 f266:=Tryz.func259.trans (congrArg some (by kernel_rfl))
 f267:=Tryz.func314.trans (congrArg some (by kernel_rfl))
 f314:=Tryz.func317.trans (congrArg some (by kernel_rfl))
 t3:=Tryz.underlying3
 a3:=Tryz.isAgg3
 z3:=Tryz.sizeOf3
 v3:=Tryz.zeroValue3
 t4:=Tryz.underlying4
 a4:=Tryz.isAgg4
 z4:=Tryz.sizeOf4
 v4:=Tryz.zeroValue4
 t5:=Tryz.underlying5
 a5:=Tryz.isAgg5
 z5:=Tryz.sizeOf5
 v5:=Tryz.zeroValue5
 t9:=Tryz.underlying9
 a9:=Tryz.isAgg9
 z9:=Tryz.sizeOf9
 v9:=Tryz.zeroValue9
 t46:=Tryz.underlying267
 a46:=Tryz.isAgg267
 z46:=Tryz.sizeOf267
 v46:=Tryz.zeroValue267
 t51:=Tryz.underlying301
 a51:=Tryz.isAgg301
 z51:=Tryz.sizeOf301
 v51:=Tryz.zeroValue301
 t146:=Tryz.underlying354
 a146:=Tryz.isAgg354
 z146:=Tryz.sizeOf354
 v146:=Tryz.zeroValue354
 g1:=by kernel_rfl }
open Go.RowKit Go.Lib in
theorem Tryz.strings_Index_one (s:ByteArray) (c:UInt8) (w:World) :
  Calls Tryz.prog 302 #[.string s,.string ⟨#[c]⟩] w fun e w'=>e=.returned (.int .i64 (Lib.indexByte s.data.toList c))∧w'=w:=Any.strings_Index_one Tryz.lays143 s c w
open Go.RowKit Go.Lib in
def Tryz.laysM219_ren:Go.Shelf.Ren:=⟨fun|219=>309|217=>228|225=>312|224=>313|267=>314|266=>259|314=>317|n=>n,fun|9=>9|3=>3|4=>4|5=>5|46=>267|146=>354|51=>301|n=>n,fun|1=>28|n=>n⟩
open Go.RowKit Go.Lib in
def Tryz.laysM143_ren:Go.Shelf.Ren:=⟨fun|143=>302|219=>309|217=>228|225=>312|224=>313|267=>314|266=>259|314=>317|n=>n,fun|9=>9|3=>3|4=>4|5=>5|46=>267|146=>354|51=>301|n=>n,fun|1=>28|n=>n⟩
open Go.RowKit Go.Lib in
def Tryz.lays206_ren:Go.Shelf.Ren:=⟨fun|206=>226|n=>n,fun|9=>9|4=>4|3=>3|n=>n,fun|n=>n⟩
open Go.RowKit Go.Lib in
def Tryz.lays99_ren:Go.Shelf.Ren:=⟨fun|99=>177|206=>226|n=>n,fun|9=>9|4=>4|3=>3|n=>n,fun|n=>n⟩
theorem Tryz.lays99:Go.Proofs.Lays.n99 Tryz.prog Tryz.lays99_ren:={
 mixed:=by kernel_rfl
 f99:=Tryz.func177.trans (congrArg some (by kernel_rfl))
 f206:=Tryz.func226.trans (congrArg some (by kernel_rfl))
 t3:=Tryz.underlying3
 a3:=Tryz.isAgg3
 z3:=Tryz.sizeOf3
 v3:=Tryz.zeroValue3
 t4:=Tryz.underlying4
 a4:=Tryz.isAgg4
 z4:=Tryz.sizeOf4
 v4:=Tryz.zeroValue4
 t9:=Tryz.underlying9
 a9:=Tryz.isAgg9
 z9:=Tryz.sizeOf9
 v9:=Tryz.zeroValue9 }
open Go.RowKit Go.Lib in
theorem Tryz.strings_HasPrefix (s p:ByteArray) (w:World) :
  Calls Tryz.prog 177 #[.string s,.string p] w fun e w'=>e=.returned (.bool (Lib.hasPrefix s.data.toList p.data.toList))∧w'=w:=Any.strings_HasPrefix Tryz.lays99 s p w
def Tryz.lays207_ren:Go.Shelf.Ren:=⟨fun|207=>227|n=>n,fun|9=>9|4=>4|3=>3|n=>n,fun|n=>n⟩
open Go.RowKit Go.Lib in
def Tryz.lays100_ren:Go.Shelf.Ren:=⟨fun|100=>178|207=>227|n=>n,fun|9=>9|4=>4|3=>3|n=>n,fun|n=>n⟩
theorem Tryz.lays100:Go.Proofs.Lays.n100 Tryz.prog Tryz.lays100_ren:={
 mixed:=by kernel_rfl
 f100:=Tryz.func178.trans (congrArg some (by kernel_rfl))
 f207:=Tryz.func227.trans (congrArg some (by kernel_rfl))
 t3:=Tryz.underlying3
 a3:=Tryz.isAgg3
 z3:=Tryz.sizeOf3
 v3:=Tryz.zeroValue3
 t4:=Tryz.underlying4
 a4:=Tryz.isAgg4
 z4:=Tryz.sizeOf4
 v4:=Tryz.zeroValue4
 t9:=Tryz.underlying9
 a9:=Tryz.isAgg9
 z9:=Tryz.sizeOf9
 v9:=Tryz.zeroValue9 }
open Go.RowKit Go.Lib in
theorem Tryz.strings_HasSuffix (s p:ByteArray) (w:World) (hs:s.size≤9223372036854775807) :
  Calls Tryz.prog 178 #[.string s,.string p] w fun e w'=>e=.returned (.bool (Lib.hasSuffix s.data.toList p.data.toList))∧w'=w:=Any.strings_HasSuffix Tryz.lays100 s p w hs
def Tryz.lays197_ren:Go.Shelf.Ren:=⟨fun|197=>301|260=>308|n=>n,fun|9=>9|21=>21|3=>3|4=>4|5=>5|105=>342|119=>330|0=>0|46=>267|139=>333|138=>332|n=>n,fun|3=>29|4=>30|n=>n⟩
open Go.RowKit Go.Lib in
def Tryz.lays260_ren:Go.Shelf.Ren:=⟨fun|260=>308|n=>n,fun|9=>9|21=>21|3=>3|4=>4|5=>5|119=>330|0=>0|46=>267|139=>333|138=>332|n=>n,fun|3=>29|4=>30|n=>n⟩
end Go.Proofs
namespace Go.Proofs
open Go.Shelf
def Tryz.sortB_ren:Go.Shelf.Ren:=⟨fun|6=>241|15=>224|14=>265|28=>256|29=>257|20=>277|21=>278|22=>279|23=>280|24=>281|25=>282|26=>283|27=>284|46=>295|47=>296|48=>297|49=>298|50=>299|57=>307|n=>n,fun|22=>186|24=>22|25=>288|3=>3|39=>267|0=>0|53=>301|55=>291|4=>4|46=>322|45=>321|50=>296|5=>5|9=>9|66=>336|70=>340|76=>349|77=>28|n=>n,fun|n=>n⟩
theorem Tryz.sortB:Go.Proofs.SlLaysF.n6 Tryz.prog Tryz.sortB_ren:={
 mixed:=by kernel_rfl
 f6:=⟨Tryz.f241.name,by decide,Tryz.func241.trans (congrArg some (by kernel_rfl))⟩
 f14:=⟨Tryz.f265.name,by decide,Tryz.func265.trans (congrArg some (by kernel_rfl))⟩
 f15:=Tryz.func224.trans (congrArg some (by kernel_rfl))
 f20:=⟨Tryz.f277.name,by decide,Tryz.func277.trans (congrArg some (by kernel_rfl))⟩
 f21:=⟨Tryz.f278.name,by decide,Tryz.func278.trans (congrArg some (by kernel_rfl))⟩
 f22:=⟨Tryz.f279.name,by decide,Tryz.func279.trans (congrArg some (by kernel_rfl))⟩
 f23:=⟨Tryz.f280.name,by decide,Tryz.func280.trans (congrArg some (by kernel_rfl))⟩
 f24:=⟨Tryz.f281.name,by decide,Tryz.func281.trans (congrArg some (by kernel_rfl))⟩
 f25:=⟨Tryz.f282.name,by decide,Tryz.func282.trans (congrArg some (by kernel_rfl))⟩
 f26:=⟨Tryz.f283.name,by decide,Tryz.func283.trans (congrArg some (by kernel_rfl))⟩
 f27:=⟨Tryz.f284.name,by decide,Tryz.func284.trans (congrArg some (by kernel_rfl))⟩
 f28:=Tryz.func256.trans (congrArg some (by kernel_rfl))
 f29:=Tryz.func257.trans (congrArg some (by kernel_rfl))
 f46:=⟨Tryz.f295.name,by decide,Tryz.func295.trans (congrArg some (by kernel_rfl))⟩
 f47:=Tryz.func296.trans (congrArg some (by kernel_rfl))
 f48:=Tryz.func297.trans (congrArg some (by kernel_rfl))
 f49:=⟨Tryz.f298.name,by decide,Tryz.func298.trans (congrArg some (by kernel_rfl))⟩
 f50:=⟨Tryz.f299.name,by decide,Tryz.func299.trans (congrArg some (by kernel_rfl))⟩
 f57:=⟨Tryz.f307.name,by decide,Tryz.func307.trans (congrArg some (by kernel_rfl))⟩
 t0:=Tryz.underlying0
 a0:=Tryz.isAgg0
 z0:=Tryz.sizeOf0
 v0:=Tryz.zeroValue0
 t3:=Tryz.underlying3
 a3:=Tryz.isAgg3
 z3:=Tryz.sizeOf3
 v3:=Tryz.zeroValue3
 t4:=Tryz.underlying4
 a4:=Tryz.isAgg4
 z4:=Tryz.sizeOf4
 v4:=Tryz.zeroValue4
 t5:=Tryz.underlying5
 a5:=Tryz.isAgg5
 z5:=Tryz.sizeOf5
 v5:=Tryz.zeroValue5
 t9:=Tryz.underlying9
 a9:=Tryz.isAgg9
 z9:=Tryz.sizeOf9
 v9:=Tryz.zeroValue9
 t22:=Tryz.underlying186
 a22:=Tryz.isAgg186
 z22:=Tryz.sizeOf186
 v22:=Tryz.zeroValue186
 a24:=Tryz.isAgg22
 z24:=Tryz.sizeOf22
 t25:=Tryz.underlying288
 a25:=Tryz.isAgg288
 z25:=Tryz.sizeOf288
 v25:=Tryz.zeroValue288
 t39:=Tryz.underlying267
 a39:=Tryz.isAgg267
 z39:=Tryz.sizeOf267
 v39:=Tryz.zeroValue267
 t45:=Tryz.underlying321
 a45:=Tryz.isAgg321
 z45:=Tryz.sizeOf321
 v45:=Tryz.zeroValue321
 t46:=Tryz.underlying322
 a46:=Tryz.isAgg322
 z46:=Tryz.sizeOf322
 v46:=Tryz.zeroValue322
 t50:=Tryz.underlying296
 a50:=Tryz.isAgg296
 z50:=Tryz.sizeOf296
 v50:=Tryz.zeroValue296
 t53:=Tryz.underlying301
 a53:=Tryz.isAgg301
 z53:=Tryz.sizeOf301
 v53:=Tryz.zeroValue301
 t55:=Tryz.underlying291
 a55:=Tryz.isAgg291
 z55:=Tryz.sizeOf291
 v55:=Tryz.zeroValue291
 t66:=Tryz.underlying336
 a66:=Tryz.isAgg336
 z66:=Tryz.sizeOf336
 v66:=Tryz.zeroValue336
 t70:=Tryz.underlying340
 a70:=Tryz.isAgg340
 z70:=Tryz.sizeOf340
 v70:=Tryz.zeroValue340
 t76:=Tryz.underlying349
 a76:=Tryz.isAgg349
 z76:=Tryz.sizeOf349
 v76:=Tryz.zeroValue349
 t77:=Tryz.underlying28
 a77:=Tryz.isAgg28
 z77:=Tryz.sizeOf28
 v77:=Tryz.zeroValue28 }
end Go.Proofs
namespace Go.Proofs.YthlpfjnkieaeeaaGreatDoor
set_option linter.unusedVariables false
namespace Am
open Go.RowKit
section
theorem sort8_ac {gs:List Nat} (g:Option Nat) (ls:List (List UInt8)) (hl:ls.length≤1000000000):AC gs Tryz.prog 241 [(g,.blk ls.length (lbF ls))] [.os 0 g 0 ls.length 1,.c (.func (.func 238) #[] #[])] (fun r H'=>r=.c (.tuple #[])∧H'=[(g,.blk ls.length (lbF (sortL ls)))]) :=
 sort8_of (fun p cap fv w=>AnyF.slices_SortFunc_none (P:=Tryz.prog) (ρ:=Tryz.sortB_ren) { Tryz.sortB with } p cap fv w)
  (fun m enc h1 cf hO blk cap d w hc hH hb hs=>Any.slices_SortFunc (P:=Tryz.prog) (ρ:=Tryz.sortB_ren) Tryz.sortB enc h1 cf hO 238 #[] blk 0 cap d w (fun args W=>run_enter (by kernel_rfl) args W) hc hH hb hs)
  (fun w v1 v2 l r h1 h2=>compare8_run h1 h2) g ls hl
theorem sumL_sort (ls:List (List UInt8)):sumL (sortL ls)=sumL ls:=((sortL_perm ls).map List.length).sum_nat
theorem set_ac {gs:List Nat} (ls:List (List UInt8)) (hl:ls.length≤1000000) (hs:sumL ls≤10000000000):ACp gs Tryz.prog 200 [lbC ls] (bsC (sortL ls).flatten):=by
 have hsl:=sortL_length ls
 refine ac_of 10 Tryz.func200 rfl rfl rfl (fun al w0 F0 St0=>?_)
 refine jU 16516 ?_
 refine jqe (jecO (cloneL_ac ls hl) (fun p1=>?_))
 refine jU 1651 ?_
 refine jqm (jmcH 0 (sort8_ac p1 ls (by omega)) ?_)
 rintro _ _ ⟨rfl,rfl⟩
 refine ⟨_,_,rfl,cZ,?_⟩
 refine jU 5 ?_;refine jE (freeze 0 rfl) ?_;refine jE (thaw 3 (fun b _=>bsC ((sortL ls).getD b [])) rfl rfl (by omega) (fun a b ha hb=>lb_thaw a b (by omega) hb)) ?_;refine jE (weaken 3 (lbC (sortL ls)) (CEnt.rs hsl.symm fun i j _ _=>cZ)) ?_;refine jU 16 ?_
 refine jqe (jecP (concat8_ac (sortL ls) (by rw [sumL_sort];exact hs) (by omega)) ?_)
 refine jU 51 ?_
 refine jR (jrt (hv:=cZ))
end
section
variable {gs:List Nat} [Ok9 gs]

theorem nilO8:CEnt (.c (.slice none 0 0)) (.os 0 none 0 0 1):=fun al St w v h=>⟨rfl,h⟩
theorem know_os {G:Gh} {s:AS} (d:Nat) {i off n k:Nat} (hl:look s.env s.b d=.os i none off n k):∀ a w,Rel G s a w→n=0:=fun a w ⟨St,hr⟩=>by
 have:=evR hr (x:=.tmp d) hl
 exact this.1
theorem cloneO_ac {gs:List Nat} (l:List UInt8) (g:Option Nat) (hl:l.length≤100000000):AC gs Tryz.prog 131 [(g,.blk l.length (byF l))] [.os 0 g 0 l.length 1] (fun r H'=>r=bsC l∧H'=[(g,.blk l.length (byF l))]):=by
 refine ac_of 8 Tryz.func131 rfl rfl rfl (fun al w0 F0 St0=>?_)
 refine jU 167516 ?_;refine jq (rd_eqSO rfl rfl rfl Tryz.underlying22) ?_;refine jU 5 ?_;refine jcc (fun h357=>?_) fun h357=>?_
 ·obtain rfl:g=none:=by cases g <;> simp at h357 ⊢
  refine code_knowG (know_os 0 rfl) fun hn=>?_;refine jU 30007000516 ?_
  exact end_ownV (.inl rfl) [0] (by decide) rfl (res_1 rfl (arv_tmp rfl)) (CEnt.nilS' hn) ⟨rfl,rfl⟩
 refine jU 6810 ?_
 refine jqe (jebl 0 1 zr5 fun p1=>?_)
 refine jU 1 ?_
 refine jqm (m_appendB (l:=[]) rfl rfl rfl (Nat.zero_le _) (fun j hj=>absurd hj (Nat.not_lt_zero j)) (src_os rfl (.inl rfl) (by omega)) rfl (fun j hj=>by rw [Nat.zero_add];exact cZ) Tryz.underlying22 nu22 sz5 zr5 by5 rfl (by (simp;omega)) (fun j hj=>rfl) rfl rfl (fun p2=>?_))
 refine jU 51 ?_;refine jE (freeze 1 rfl) ?_;refine jE (thawB 2 ([]++l) rfl rfl (by rfl) rfl) ?_;refine jU 7000 ?_
 exact end_ownV (.inl rfl) [0] (by decide) rfl (res_1 rfl (arv_tmp rfl)) (CEnt.bs (List.nil_append l)) ⟨rfl,rfl⟩
theorem body08_ac {gs:List Nat} (tag:Int) (ls:List (List UInt8)) (hl:ls.length≤1000000) (hs:sumL ls≤10000000000):ACp gs Tryz.prog 130 [.agg 2 (fl [.c (.int .i64 tag),lbC ls])] (bsC (bodyF (tag,ls))):=by
 refine ac_of 12 Tryz.func130 rfl rfl rfl (fun al w0 F0 St0=>?_)
 refine jcr ?_
 refine jqe (jebx 2 fun p1=>?_)
 refine jU 5250906751 ?_;refine jcc (fun h23=>?_) fun h23=>?_
 ·refine jU 501006 ?_
  refine jqe (jecP (set_ac ls hl hs) ?_)
  refine jU 51 ?_
  refine jR (jtr (jrt (hv:=CEnt.bs (by unfold bodyF;rw [if_pos h23]))))
 refine jU 501006810 ?_
 refine jqe (jecP (concat8_ac ls hs hl) ?_)
 refine jU 51 ?_
 refine jR (jrt (hv:=CEnt.bs (by unfold bodyF;rw [if_neg h23])))
theorem openW_ac (n:Nat) (s:W8) (tag:Int) (hs:OkW s):AC gs Tryz.prog 54 [wrO n s] [.op 0 (some n) 0,.c (.int .i64 tag)] (fun r H'=>r=.c (.tuple #[])∧H'=[wrO n (openW tag s)]):=by
 have hsn:=hs.n
 refine ac_of 40 Tryz.func54 rfl rfl rfl (fun al w0 F0 St0=>?_)
 refine jU 20 ?_;refine code_openW 0 rfl fun go gd zs hzs=>?_
 have hzl:=fr_len hzs
 refine jU 515000005010004016 ?_;refine jcc (fun h69=>?_) fun h69=>?_
 ·refine jU 40010 ?_
  have hP:openW tag s=s:=by unfold openW;rw [if_pos (by omega)]
  rw [hP]
  exact end_pack (gd:=fun z:WZ8 s.fr=>z.1.1) (E:=wrE s) (.inr rfl) _ ⟨(n,go,gd,zs),hzs⟩ [0,1,2,3] (by decide) rfl (res_0 rfl) ⟨rfl,rfl⟩
 refine jU 16 ?_
 refine jqe (jecP (made_ac tag) ?_)
 refine jU 5130 ?_;refine jcc (fun h70=>?_) fun h70=>?_
 ·refine jU 1200 ?_;refine jq (jrde 4) ?_;refine jU 100040 ?_
  refine jqm (jmstF 1 (wrB ⟨s.fr,s.d,5⟩ 1 2 go gd) ?_ ?_)
  ·exact (fun j hj=>by rcases j with _|_|_|j <;> exact cZ)
  refine jU 4005 ?_
  have hP:openW tag s=⟨s.fr,s.d,5⟩:=by unfold openW;rw [if_neg (by omega),if_pos (by simp [madeM] at h70 ⊢;omega)]
  rw [hP]
  exact end_pack (gd:=fun z:WZ8 s.fr=>z.1.1) (E:=wrE ⟨s.fr,s.d,5⟩) (.inr rfl) _ ⟨(n,go,gd,zs),hzs⟩ [0,1,2,3] (by decide) rfl (res_0 rfl) ⟨rfl,rfl⟩
 refine jU 512350904016 ?_;refine jcc (fun h72=>?_) fun h72=>?_
 ·refine jU 1200 ?_;refine jq (jrde 5) ?_;refine jU 100040 ?_
  refine jqm (jmstF 1 (wrB ⟨s.fr,s.d,6⟩ 1 2 go gd) ?_ ?_)
  ·exact (fun j hj=>by rcases j with _|_|_|j <;> exact cZ)
  refine jU 4005 ?_
  have hP:openW tag s=⟨s.fr,s.d,6⟩:=by unfold openW;rw [if_neg (by omega),if_neg (by simp [madeM] at h70 ⊢;omega),if_pos (by omega)]
  rw [hP]
  exact end_pack (gd:=fun z:WZ8 s.fr=>z.1.1) (E:=wrE ⟨s.fr,s.d,6⟩) (.inr rfl) _ ⟨(n,go,gd,zs),hzs⟩ [0,1,2,3] (by decide) rfl (res_0 rfl) ⟨rfl,rfl⟩
 refine jE (ent_none (lbF [])) ?_;refine jE (bag_push 3 4 rfl rfl rfl) ?_
 dsimp only [List.set_cons_zero,List.set_cons_succ,List.cons_append,List.nil_append,List.length_cons,List.length_nil,Nat.zero_add,Nat.reduceAdd]
 refine jU 150904011200 ?_;refine jq (rd_build (n:=2) rfl zr188 pl188 rfl rfl) ?_
 refine jqe (jebl 2 2 zr188 fun p1=>?_)
 refine seq_ent (weakH 5 2 (rowF 2 frF frD [((tag,[]),none)]) rfl (Nat.le_refl _) (fun j hj=>by rcases j with _|_|j <;> first|exact cZ|exact nilO8|omega)) ?_
 refine jqm (m_appendC (rowC_row 2 frF frD) (l:=zs.reverse) (l2:=[((tag,[]),none)]) rfl rfl (by simp [hzl]) rfl (by simp [hzl]) (fun _ _=>cZ) (src_os rfl (.inl rfl) (by decide)) rfl (fun j hj=>by rw [Nat.zero_add];exact cZ) Tryz.underlying93 nu93 sz188 zr188 by188 rfl (by simp;omega) (by simp;omega) (fun j hj=>by rcases j with _|_|j <;> first|rfl|omega) rfl rfl rfl (fun p2=>?_))
 refine jU 9040 ?_
 refine jqm (jmstF 1 (wrB ⟨(tag,[])::s.fr,s.d,s.k⟩ 1 2 p2 gd) ?_ ?_)
 ·exact (fun j hj=>by rcases j with _|_|_|j <;> first|exact cO (by simp [hzl])|exact cZ)
 refine jU 4005 ?_
 have hP:openW tag s=⟨(tag,[])::s.fr,s.d,s.k⟩:=by unfold openW;rw [if_neg (by omega),if_neg (by simp [madeM] at h70 ⊢;omega),if_neg (by omega)]
 rw [hP]
 refine end_hr (H':=?H2) ?hh ?hb
 case hh=>intro _ _ _ _ _ hx;exact closeWh n ⟨(tag,[])::s.fr,s.d,s.k⟩ (((tag,[]),none)::zs) 0 1 2 3 (by simp [hzs]) rfl rfl rfl rfl (by decide) (by exact cO rfl) (by exact cO rfl) (by exact cZ) (by simp [hzl]) (fun a _=>by rw [List.reverse_cons];exact cZ) (Nat.le_refl _) (fun _ _=>cZ) hx
 case hb=>exact end_own (.inr rfl) _ [_] [0] (by decide) rfl (res_0 rfl) ⟨rfl,rfl⟩
theorem sum_perm {a b:List (List UInt8)} (h:a.Perm b):sumL a=sumL b:=by
 unfold sumL
 exact (h.map List.length).sum_nat
theorem bodyF_len (x:Int×List (List UInt8)):(bodyF x).length=sumL x.2:=by
 unfold bodyF
 split
 ·rw [flat_len];exact sum_perm (sortL_perm _)
 ·rw [flat_len]
theorem OkW.tail {x:Int×List (List UInt8)} {r:List (Int×List (List UInt8))} {s:W8} (h:OkW s) (hf:s.fr=x::r):OkW ⟨r,s.d,s.k⟩:=⟨by have:=h.n;rw [hf] at this;simp at this ⊢;omega,fun y hy=>h.k y (by rw [hf];exact List.mem_cons_of_mem _ hy),h.d⟩
theorem closeW_ac (n:Nat) (s:W8) (hs:OkW s):AC gs Tryz.prog 57 [wrO n s] [.op 0 (some n) 0] (fun r H'=>r=.c (.tuple #[])∧H'=[wrO n (closeV s)]):=by
 have hsn:=hs.n
 refine ac_of 45 Tryz.func57 rfl rfl rfl (fun al w0 F0 St0=>?_)
 refine code_openW 0 rfl fun go gd zs hzs=>?_
 have hzl:=fr_len hzs
 refine jU 51500000501000401620519350904016 ?_;refine jcc (fun h83=>?_) fun h83=>?_
 ·refine jU 40010 ?_
  have hP:closeV s=s:=by unfold closeV;rw [if_pos (by omega)]
  rw [hP]
  exact end_pack (gd:=fun z:WZ8 s.fr=>z.1.1) (E:=wrE s) (.inr rfl) _ ⟨(n,go,gd,zs),hzs⟩ [0,1,2,3] (by decide) rfl (res_0 rfl) ⟨rfl,rfl⟩
 refine jU 51216 ?_;refine jcc (fun h84=>?_) fun h84=>?_
 ·refine jU 1200 ?_;refine jq (jrde 23) ?_;refine jU 100040 ?_
  refine jqm (jmstF 1 (wrB ⟨s.fr,s.d,24⟩ 1 2 go gd) ?_ ?_)
  ·exact (fun j hj=>by rcases j with _|_|_|j <;> exact cZ)
  refine jU 4005 ?_
  have hf0:s.fr=[]:=List.eq_nil_of_length_eq_zero (by omega)
  have hP:closeV s=⟨s.fr,s.d,24⟩:=by unfold closeV;rw [if_neg (by omega),hf0]
  rw [hP]
  exact end_pack (gd:=fun z:WZ8 s.fr=>z.1.1) (E:=wrE ⟨s.fr,s.d,24⟩) (.inr rfl) _ ⟨(n,go,gd,zs),hzs⟩ [0,1,2,3] (by decide) rfl (res_0 rfl) ⟨rfl,rfl⟩
 obtain ⟨x,zr,rfl⟩:∃ x zr,zs=x::zr:=by
   cases zs with
   | nil=>simp at hzl;omega
   | cons x zr=>exact ⟨x,zr,rfl⟩
 have hfr:s.fr=x.1::zr.map Prod.fst:=by rw [← hzs];rfl
 have hxk:=hs.k x.1 (by rw [hfr];exact List.mem_cons_self)
 have hzl:s.fr.length=zr.length+1:=by rw [← hzl];rfl
 refine jE (bag_pop 3 rfl) ?_;refine jU 150904016 ?_;refine jq (jri (i:=(s.fr.length-1)) (hz:=by omega)) ?_;refine jqo (jrdoA 2) ?_;refine seq_ent (freeze 4 rfl) ?_;refine seq_ent (thawA 16 4 (fun a _=>bsC (x.1.2.getD a [])) (.c (.int .i64 x.1.1)) rfl rfl (by show CEnt (rowF 2 frF frD (x::zr).reverse (0+(s.fr.length-1) * 2+0)) _;rw [top_at (by omega) hzl];exact cZ) (by show CEnt (rowF 2 frF frD (x::zr).reverse (0+(s.fr.length-1) * 2+1)) _;rw [top_at (by omega) hzl];exact cZ) (by simp) (fun a b ha hb=>by obtain rfl:b=0:=(by omega);rw [Nat.zero_add,Nat.mul_one,Nat.add_zero];exact cZ)) ?_
 refine jqe (jeal (n:=2) zr188 rfl fun p1=>?_)
 refine jqm (jmst 2 ?_)
 refine jU 15090401165 ?_;refine jq jrso ?_;refine jU 9040 ?_;refine seq_ent (weakH 1 ((s.fr.length-1) * 2) (rowF 2 frF frD zr.reverse) rfl (by omega) (fun j hj=>by rw [row_low (by omega)];exact cZ)) ?_
 refine jqm (jmstF 1 (wrB ⟨zr.map Prod.fst,s.d,s.k⟩ 1 2 go gd) ?_ ?_)
 ·exact (fun j hj=>by rcases j with _|_|_|j <;> first|exact cO (by simp;omega)|exact cZ)
 refine jU 5 ?_;refine jE (closeW n ⟨zr.map Prod.fst,s.d,s.k⟩ zr 0 1 2 3 rfl rfl rfl rfl rfl (by decide) (cO rfl) (cO rfl) cZ (by simp;omega) (fun _ _=>cZ) (Nat.le_refl _) (fun _ _=>cZ)) ?_
 dsimp only [List.set_cons_zero,List.set_cons_succ,List.cons_append,List.nil_append,List.length_cons,List.length_nil,Nat.zero_add,Nat.reduceAdd]
 refine jE (freeze 5 rfl) ?_;refine jE (thawP 3 (m:=2) rfl rfl (by decide)) ?_
 have hto:=hs.tail hfr
 refine jcdB 5 (.rd 0 (.rd 1 (.rd 2 (.rd 3 (.one 4 .done))))) ?_;refine jU 7000090000070 ?_;refine jyq (jrdrA 2) ?_
 refine jye (jecP (body08_ac x.1.1 x.1.2 hxk.1 (by omega)) ?_)
 refine jyd ?_
 show ASeq _ _ _ _ _ _
 refine jqm (jmcH 0 (putW_ac n ⟨zr.map Prod.fst,s.d,s.k⟩ x.1.1 (bodyF x.1) 0 hto (by rw [bodyF_len];exact hxk.2)) ?_)
 rintro _ _ ⟨rfl,rfl⟩
 refine ⟨_,_,rfl,cZ,?_⟩
 refine jU 4005 ?_
 have hP:closeV s=putW x.1.1 (bodyF x.1) 0 ⟨zr.map Prod.fst,s.d,s.k⟩:=by unfold closeV;rw [if_neg (by omega),hfr]
 rw [hP]
 exact end_own (.inr rfl) _ [_] [0] (by decide) rfl (res_0 rfl) ⟨rfl,rfl⟩
end
section
variable {gs:List Nat} [Ok2 gs]

theorem isFig_of (c:UInt8):isFig c=true↔48≤c.toNat∧c.toNat≤57:=by simp [isFig]
theorem isFig_yes {c:UInt8} (h1:48≤(c.toNat:Int)) (h2:(c.toNat:Int)≤57):isFig c=true:=(isFig_of c).2 ⟨by omega,by omega⟩
theorem isFig_no {c:UInt8} (h:(c.toNat:Int)<48∨57<(c.toNat:Int)):isFig c=false:=by
 cases e:isFig c with
 | false=>rfl
 | true=>have:=(isFig_of c).1 e;omega
theorem take_figs {l:List UInt8} {i:Nat} (hi:i<l.length) (h:(l.take i).all isFig=true) (hc:isFig (l.getD i 0)=true):(l.take (i+1)).all isFig=true:=by
 rw [take_snoc l i hi,List.all_append,h,List.all_cons,hc]
 rfl
theorem figM_bad {l:List UInt8} (h:l=[]∨(18:Int)<(l.length:Nat)∨((1:Int)<(l.length:Nat)∧((l.getD 0 0).toNat:Int)=48)∨l.all isFig=false):(figM l).1=0∧(figM l).2=4:=by
 unfold figM
 rw [if_pos (by
  rcases h with h|h|h|h
  ·exact .inl (by simp [h])
  ·exact .inr (.inl (by omega))
  ·exact .inr (.inr (.inl ⟨by omega,by omega⟩))
  ·exact .inr (.inr (.inr h)))]
 exact ⟨rfl,rfl⟩
theorem figM_good {l:List UInt8} (h0:l≠[]) (h1:¬ (18:Int)<(l.length:Nat)) (h2:¬ ((1:Int)<(l.length:Nat)∧((l.getD 0 0).toNat:Int)=48)) (h3:l.all isFig=true):(figM l).1=valD l∧(figM l).2=0:=by
 unfold figM
 rw [if_neg (by
  rintro (h|h|h|h)
  ·exact h0 (List.eq_nil_of_length_eq_zero h)
  ·exact h1 (by omega)
  ·exact h2 ⟨by omega,by omega⟩
  ·rw [h3] at h;cases h)]
 exact ⟨rfl,rfl⟩
theorem take_val {l:List UInt8} {i:Nat} (hi:i<l.length):valD (l.take (i+1))=10 * valD (l.take i)+((l.getD i 0).toNat-48):=by
 rw [take_snoc l i hi,valD_append]
theorem wfig_ac (l:List UInt8):ACp gs Tryz.prog 268 [strC l] (.tup 2 (fl [.c (.int .i64 ((figM l).1:Nat)),.err (figM l).2])):=by
 refine ac_of 48 Tryz.func268 rfl rfl rfl (fun al w0 F0 St0=>?_)
 refine jU 1600001675116 ?_;refine jqsp 9 (fun g97=>?_) fun g97=>?_
 ·refine jU 79000580004444444418000444 ?_;refine jcd (.rd 0 (.rd 1 (.rd 2 .done))) ?_;refine jU 88070704000000 ?_
  refine jR (jtr (jrt (hv:=?_)))
  have hb:=@figM_bad l (by (simp_all;done))
  exact cT (cI (by rw [hb.1];rfl)) (CEnt.errN hb.2)
 refine jU 15002400001 ?_;refine jqsp 14 (fun g97_2=>?_) fun g97_2=>?_
 ·refine jU 790005800044444444 ?_;refine jcd (.rd 0 (.rd 1 (.rd 2 .done))) ?_;refine jU 88070704000000 ?_
  refine jR (jtr (jrt (hv:=?_)))
  have hb:=@figM_bad l (by (simp_all;done))
  exact cT (cI (by rw [hb.1];rfl)) (CEnt.errN hb.2)
 refine jU 12400001 ?_;refine jqsp 18 (fun g97_3=>?_) fun g97_3=>?_
 rotate_left
 ·refine jU 2051400001675168103005500500444 ?_;refine l_loop (α:=Nat) [2,3,4,5,6,27,28,29,30,31,32,33,34,35,36,37,38,39,40,41,42,43,44,45,46] (fun i=>[(4,.c (.int .i64 (valD (l.take i):Nat))),(27,.c (.int .i64 (i:Nat)))]) (fun _=>[]) (fun i=>i≤l.length∧(l.take i).all isFig=true) (fun i=>l.length-i) (0) ?_ (fun _=>rfl) ?_ ?_ ?_
  ·exact ⟨Nat.zero_le _,rfl⟩
  ·(repeat (first|exact EntE.nil|refine EntE.cons cZ ?_))
  ·(repeat (exact HEnt.nil))
  ·rintro i ⟨(hi:i≤l.length),hf⟩
   have hl18:l.length≤18:=by omega
   refine jU 7526 ?_;refine jcc (fun h101=>?_) fun h101=>?_
   rotate_left
   ·refine jU 5111684000200020006000 ?_
    refine jR (jrt (hv:=?_))
    have hi2:i=l.length:=by omega
    rw [hi2,List.take_length] at hf
    have hb:=figM_good (l:=l) (by (simp_all;done)) (by (simp_all;done)) (by grind) hf
    exact cT (cI (by rw [hb.1,hi2,List.take_length])) (CEnt.errN hb.2)
   refine jU 5116207810 ?_
   have hv:=valD_lt17 hf (by rw [List.length_take];omega)
   refine jU 121675180000000116 ?_;refine jqsp 35 (fun g103=>?_) fun g103=>?_
   ·refine jU 790005800044 ?_;refine jcd (.rd 0 (.rd 1 (.rd 2 .done))) ?_;refine jU 88070704000000 ?_
    refine jR (jtr (jbr (jtr (jtr (jbr (jtr (jrt (hv:=?_))))))))
    have hb:=@figM_bad l (.inr (.inr (.inr (all_of_bad (i:=i) (by omega) (by exact isFig_no (.inl (by omega)))))))
    exact cT (cI (by rw [hb.1];rfl)) (CEnt.errN hb.2)
   refine jU 550021 ?_;refine jcc (fun h103=>?_) fun h103=>?_
   ·refine jcs ?_;refine jcd (.rd 0 (.rd 1 (.rd 2 .done))) ?_;refine jU 88070704000000 ?_
    refine jR (jtr (jbr (jtr (jtr (jbr (jtr (jrt (hv:=?_))))))))
    have hb:=@figM_bad l (.inr (.inr (.inr (all_of_bad (i:=i) (by omega) (by exact isFig_no (.inr (by omega)))))))
    exact cT (cI (by rw [hb.1];rfl)) (CEnt.errN hb.2)
   refine jU 9191200810 ?_;refine jq (jrv .u8 .i64) ?_;refine jU 85192008400519 ?_
   refine jlend (i+1) ?_ ?_ (h5:=?_)
   ·exact ⟨by omega,take_figs (by omega) hf (isFig_yes (by omega) (by omega))⟩
   ·show l.length-(i+1)<l.length-i;omega
   ·exact .cons (cI (by rw [take_val (by omega)];omega)) (.cons (cI (by omega)) .nil)
 refine jU 1 ?_;refine jq (jrix (i:=0)) ?_;refine jU 550080002 ?_;refine jcc (fun h97=>?_) fun h97=>?_
 ·refine jcs ?_;refine jcd (.rd 0 (.rd 1 (.rd 2 .done))) ?_;refine jU 88070704000000 ?_
  refine jR (jtr (jrt (hv:=?_)))
  have hb:=@figM_bad l (by (simp_all;done))
  exact cT (cI (by rw [hb.1];rfl)) (CEnt.errN hb.2)
 refine jU 205140000167516810 ?_;refine l_loop (α:=Nat) [2,3,4,5,6,27,28,29,30,31,32,33,34,35,36,37,38,39,40,41,42,43,44,45,46] (fun i=>[(4,.c (.int .i64 (valD (l.take i):Nat))),(27,.c (.int .i64 (i:Nat)))]) (fun _=>[]) (fun i=>i≤l.length∧(l.take i).all isFig=true) (fun i=>l.length-i) (0) ?_ (fun _=>rfl) ?_ ?_ ?_
 ·exact ⟨Nat.zero_le _,rfl⟩
 ·(repeat (first|exact EntE.nil|refine EntE.cons cZ ?_))
 ·(repeat (exact HEnt.nil))
 ·rintro i ⟨(hi:i≤l.length),hf⟩
  have hl18:l.length≤18:=by omega
  refine jU 7526 ?_;refine jcc (fun h101=>?_) fun h101=>?_
  rotate_left
  ·refine jU 5111684000200020006000 ?_
   refine jR (jrt (hv:=?_))
   have hi2:i=l.length:=by omega
   rw [hi2,List.take_length] at hf
   have hb:=figM_good (l:=l) (by (simp_all;done)) (by (simp_all;done)) (by (simp_all;done)) hf
   exact cT (cI (by rw [hb.1,hi2,List.take_length])) (CEnt.errN hb.2)
  refine jU 5116207810 ?_
  have hv:=valD_lt17 hf (by rw [List.length_take];omega)
  refine jU 121675180000000116 ?_;refine jqsp 35 (fun g103=>?_) fun g103=>?_
  ·refine jU 790005800044 ?_;refine jcd (.rd 0 (.rd 1 (.rd 2 .done))) ?_;refine jU 88070704000000 ?_
   refine jR (jtr (jbr (jtr (jtr (jbr (jtr (jrt (hv:=?_))))))))
   have hb:=@figM_bad l (.inr (.inr (.inr (all_of_bad (i:=i) (by omega) (by exact isFig_no (.inl (by omega)))))))
   exact cT (cI (by rw [hb.1];rfl)) (CEnt.errN hb.2)
  refine jU 550021 ?_;refine jcc (fun h103=>?_) fun h103=>?_
  ·refine jcs ?_;refine jcd (.rd 0 (.rd 1 (.rd 2 .done))) ?_;refine jU 88070704000000 ?_
   refine jR (jtr (jbr (jtr (jtr (jbr (jtr (jrt (hv:=?_))))))))
   have hb:=@figM_bad l (.inr (.inr (.inr (all_of_bad (i:=i) (by omega) (by exact isFig_no (.inr (by omega)))))))
   exact cT (cI (by rw [hb.1];rfl)) (CEnt.errN hb.2)
  refine jU 9191200810 ?_;refine jq (jrv .u8 .i64) ?_;refine jU 85192008400519 ?_
  refine jlend (i+1) ?_ ?_ (h5:=?_)
  ·exact ⟨by omega,take_figs (by omega) hf (isFig_yes (by omega) (by omega))⟩
  ·show l.length-(i+1)<l.length-i;omega
  ·exact .cons (cI (by rw [take_val (by omega)];omega)) (.cons (cI (by omega)) .nil)
def figR (l:List UInt8):Nat×Bool:=if (figM l).2=0 then ((figM l).1,true) else (0,false)
end
section
variable {gs:List Nat} [Ok2 gs]

theorem i64idx_ac {gs:List Nat} {g:FuncId} {n:Nat} {fv:Nat→CV} (hc:calleeB Tryz.prog g=true) (l:List (Int)) (p:(Int)→Bool) (hp:∀ r,ACp gs Tryz.prog g ((fun z:Int=>.c (.int .i64 z)) r::(List.range n).map fv) (.c (.bool (p r)))) :
  ACp gs Tryz.prog 303 [isC l,.fn g n fv] (.c (.int .i64 (firstI p l))):=by
 refine ac_len 0 rfl fun hlen=>?_
 refine ac_of 19 Tryz.func303 rfl rfl rfl (fun al w0 F0 St0=>?_)
 refine jU 20513167516 ?_;refine l_loop (α:=Nat) [4,5,8,9,10,11,12,13,14,15,16,17,18] (fun i=>[(8,.c (.int .i64 (i:Nat)))]) (fun _=>[]) (fun i=>i≤l.length∧∀ j (hj:j<l.length),j<i→p l[j]=false) (fun i=>l.length-i) (0) ?_ (fun _=>rfl) ?_ ?_ ?_
 ·exact ⟨by omega,fun j _ hj=>absurd hj (Nat.not_lt_zero j)⟩
 ·(repeat (first|exact EntE.nil|refine EntE.cons cZ ?_))
 ·(repeat (exact HEnt.nil))
 ·rintro i ⟨hi,he⟩
  refine jU 7526 ?_;refine jcc (fun h108=>?_) fun h108=>?_
  rotate_left
  ·refine jU 51684000200020006000 ?_
   refine jR (jrt (hv:=?_))
   refine cI ?_
   exact (firstI_none fun j hj=>he j hj (by omega)).symm
  refine jU 6070011165116207810 ?_
  refine jqe (e_callV rfl rfl (by assumption) (hp (l.getD i 0)) (entL_fn cZ _) rfl rfl ?_)
  rintro _ _ ⟨rfl,rfl⟩
  refine jU 5 ?_;refine jcc (fun h109=>?_) fun h109=>?_
  ·refine jU 5116 ?_
   refine jR (jbr (jtr (jtr (jbr (jtr (jrt (hv:=?_)))))))
   refine cI ?_
   have hlt:i<l.length:=by omega
   exact (firstI_at i hlt (by simpa [List.getD,hlt] using h109) (fun j hj=>he j (by omega) hj)).symm
  refine jU 8519200840010 ?_;refine jlend (i+1) ?_ ?_
  ·exact ⟨by omega,fun j hj hj1=>by
    by_cases e:j=i
    ·subst e
     simpa [List.getD,hj] using h109
    ·exact he j hj (by omega)⟩
  ·omega
theorem i64has_ac {gs:List Nat} {g:FuncId} {n:Nat} {fv:Nat→CV} (hc:calleeB Tryz.prog g=true) (l:List (Int)) (p:(Int)→Bool) (hp:∀ r,ACp gs Tryz.prog g ((fun z:Int=>.c (.int .i64 z)) r::(List.range n).map fv) (.c (.bool (p r)))) :
  ACp gs Tryz.prog 286 [isC l,.fn g n fv] (.c (.bool (l.any p))):=by
 refine ac_of 9 Tryz.func286 rfl rfl rfl (fun al w0 F0 St0=>?_)
 refine jU 116516 ?_
 refine jqe (jecP (i64idx_ac hc l p hp) ?_)
 refine jU 512 ?_
 refine jR (jrt (hv:=?_))
 refine cB ?_
 exact firstI_any p l
def outA (n:Int):Bool:=decide (n<0) || decide (2147483647<n)
theorem out_ac {gs:List Nat} (n:Int):ACp gs Tryz.prog 287 (.c (.int .i64 n)::(List.range 0).map fun _=>.top) (.c (.bool (outA n))):=by
 refine ac_of 9 Tryz.func287 rfl rfl rfl (fun al w0 F0 St0=>?_)
 refine jU 1216516 ?_;refine jqsp 5 (fun g25=>?_) fun g25=>?_
 ·refine jU 51800044 ?_
  refine jR (jrt (hv:=?_))
  refine cB ?_
  unfold outA
  (simp_all;done)
 refine jU 5150021 ?_
 refine jR (jrt (hv:=?_))
 refine cB ?_
 unfold outA
 (simp_all;omega)
theorem right_out (l:List Int):(!l.any outA)=l.all (fun n=>decide (0≤n) && decide (n≤2147483647)):=by
 rw [← all_not_any]
 congr 2
 funext n
 unfold outA
 by_cases h1:n<0 <;> by_cases h2:2147483647<n <;> simp [h1,h2] <;> omega
theorem oright_ac {gs:List Nat} (l:List Int):ACp gs Tryz.prog 269 [isC l] (.c (.bool (rightA l))):=by
 refine ac_len 0 rfl fun hlen=>?_
 refine ac_of 34 Tryz.func269 rfl rfl rfl (fun al w0 F0 St0=>?_)
 refine jU 123167516 ?_;refine jqsp 7 (fun g22=>?_) fun g22=>?_
 ·refine jU 516900058000444 ?_
  refine jR (jtr (jrt (hv:=?_)))
  refine cB ?_
  unfold rightA
  rw [← right_out]
  (simp_all;omega)
 refine jU 5500231 ?_;refine jcc (fun h22=>?_) fun h22=>?_
 ·refine jU 516 ?_
  refine jR (jtr (jrt (hv:=?_)))
  refine cB ?_
  unfold rightA
  rw [← right_out]
  (simp_all;omega)
 refine jU 16810 ?_
 refine jqe (jecP (i64has_ac (n:=0) (fv:=fun _=>.top) (by kernel_rfl) l outA out_ac) ?_ (ho:=rfl) (he:=(.cons (se rfl cZ) (.cons (se rfl CEnt.fn0) .nil))))
 refine jU 1301651 ?_;refine jqsp 16 (fun g26=>?_) fun g26=>?_
 rotate_left
 ·refine jU 51500444444444415004444 ?_
  refine jR (jrt (hv:=?_))
  refine cB ?_
  unfold rightA
  rw [← right_out]
  grind
 refine jU 1800026020000001 ?_;refine jqsp 22 (fun g26_2=>?_) fun g26_2=>?_
 rotate_left
 ·refine jU 515004444444444 ?_
  refine jR (jrt (hv:=?_))
  refine cB ?_
  unfold rightA
  rw [← right_out]
  (simp_all;omega)
 refine jU 126020000001 ?_;refine jqsp 27 (fun g26_3=>?_) fun g26_3=>?_
 ·refine jU 51800080004444 ?_
  refine jR (jrt (hv:=?_))
  refine cB ?_
  unfold rightA
  rw [← right_out]
  (simp_all;omega)
 refine jU 1 ?_;refine jq (jri (i:=1)) ?_;refine jU 518000500260 ?_
 refine jR (jrt (hv:=?_))
 refine cB ?_
 unfold rightA
 rw [← right_out]
 (simp_all;omega)
end
section
variable {gs:List Nat} [Ok2 gs]

theorem sep_int (n:Nat):(((UInt8.ofNat (n % 128)).toNat:Nat):Int)=(n:Int) % 128:=by
 rw [UInt8.toNat_ofNat'];omega
theorem sep_int2 (n:Nat):(((UInt8.ofNat (n % 128+128)).toNat:Nat):Int)=(n:Int) % 128+128:=by
 rw [UInt8.toNat_ofNat'];omega
theorem septets_ac {gs:List Nat} (N:Nat) (hN:N<34359738368):AC gs Tryz.prog 254 [] [.c (.int .i64 (N:Nat))] (OwnQ (sepL N).length 1 (sepL N).length (byF (sepL N))):=by
 have hlen:=sepL_len hN
 refine ac_of 24 Tryz.func254 rfl rfl rfl (fun al w0 F0 St0=>?_)
 refine jU 800000100000016516 ?_
 refine jqe (jebl 1 1 zr5 fun p1=>?_)
 refine jU 205160000016751 ?_;refine l_loop (α:=Nat×List UInt8×Option Nat) [0,3,10,11,12,13,14,15,16,17,18,19,20] (fun (m,o,g)=>[(0,.c (.int .i64 (m:Nat))),(3,.os 0 g 0 o.length 1)]) (fun (m,o,g)=>[(g,.blk o.length (byF o))]) (fun (m,o,g)=>m≤N∧sepL N=sepHi m++o.reverse∧0<o.length) (fun (m,o,g)=>m) ((N / 128,[UInt8.ofNat (N % 128)],p1)) ?_ (fun _=>rfl) ?_ ?_ ?_
 ·exact ⟨Nat.div_le_self _ _,rfl,Nat.one_pos⟩
 ·exact .cons (cI (by omega)) (.cons cZ .nil)
 ·exact .blk rfl (fun j hj=>fl_by (l2:=[UInt8.ofNat (N % 128)]) (.cons (cI (sep_int N).symm) .nil) j hj) .nil
 ·rintro ⟨m,o,g⟩ ⟨(hm:m≤N),hd,ho0⟩
  have ho:o.length≤5:=by have:=congrArg List.length hd;simp only [List.length_append,List.length_reverse] at this;omega
  refine jU 52167 ?_;refine jcc (fun h60=>?_) fun h60=>?_
  rotate_left
  ·refine jU 84000200020006000 ?_
   have hm0:m=0:=by omega
   rw [hm0,sepHi_zero,List.nil_append] at hd
   refine jU 16 ?_
   refine jqm (jmcH 0 (reverse8_ac _ o (by omega)) ?_)
   rintro _ _ ⟨rfl,rfl⟩
   refine ⟨_,_,rfl,cZ,?_⟩
   refine jU 700051165 ?_
   exact end_O 0 (.inl rfl) (res_1 rfl (arv_tmp rfl)) rfl (by rw [hd,List.length_reverse]) (by rw [hd];exact Nat.le_refl _) (fun _=>by rw [hd]) (fun j hj=>by rw [hd];exact cZ)
  refine jU 8000009100000011200207810 ?_
  refine jqe (jebl 1 1 zr5 fun p2=>?_)
  refine jqm (m_appendB (l2:=[UInt8.ofNat (m % 128+128)]) rfl rfl rfl (Nat.le_refl _) (fun _ _=>cZ) (src_os rfl (.inl rfl) (by decide)) rfl (hh_bytes (.cons (cI ((sep_int2 m).symm)) .nil)) Tryz.underlying22 nu22 sz5 zr5 by5 rfl (by (simp;omega)) (leaf_fl rfl rfl) rfl rfl (fun p3=>?_))
  refine jU 8516000001200840051 ?_
  refine jlend ((m / 128,o++[UInt8.ofNat (m % 128+128)],p3)) ?_ ?_ (h5:=?_)
  ·exact ⟨by omega,by rw [hd,sepHi_pos (show m≠0 by omega),List.reverse_append,List.append_assoc];rfl,by simp⟩
  ·show m / 128<m;omega
  ·exact .cons (cI (by omega)) (.cons cZ .nil)
theorem index1_ac {gs:List Nat} (a:List UInt8) (c:UInt8):ACp gs Tryz.prog 302 [strC a,strC [c]] (.c (.int .i64 (Lib.indexByte a c))) :=
 ac_old fun al w St vals hs hv hr=>by
  rw [vals2 hv,show vals.getD 0 undef=.string ⟨a.toArray⟩ from hr 0,show vals.getD 1 undef=.string ⟨#[c]⟩ from hr 1]
  exact (Tryz.strings_Index_one _ _ w).mono (by rintro e w' ⟨rfl,rfl⟩;exact ⟨by simp,Below.refl _ _⟩)
theorem idx_cut (c:UInt8):∀ l:List UInt8,(Lib.indexByte l c<0∧splitC c l=[l])∨∃ p r,l=p++c::r∧Lib.indexByte l c=(p.length:Nat)∧splitC c l=p::splitC c r
 | []=>.inl ⟨by simp [Lib.indexByte],rfl⟩
 | x::l=>by
  by_cases hx:x=c
  ·subst hx
   refine .inr ⟨[],l,rfl,?_,?_⟩
   ·simp [Lib.indexByte]
   ·simp [splitC]
  ·rcases idx_cut c l with ⟨h1,h2⟩|⟨p,r,h1,h2,h3⟩
   ·refine .inl ⟨?_,?_⟩
    ·have:=Lib.indexByte_ge l c
     have e:Lib.indexByte l c=-1:=by omega
     simp [Lib.indexByte,hx,e]
    ·rw [splitC,if_neg hx,h2];rfl
   ·refine .inr ⟨x::p,r,by rw [h1];rfl,?_,?_⟩
    ·have e:¬ Lib.indexByte l c=-1:=by omega
     simp [Lib.indexByte,hx,h2];try omega
    ·rw [splitC,if_neg hx,h3];rfl
def seqF (f:FuncId) (c:UInt8) (g:Option Nat):CV:=.fn f 3 (fl [.rp 1 fun _=>strC [c],.op 0 g 0,.rp 1 fun _=>.c (.int .i64 0)])
theorem split_ac {gs:List Nat} (s:List UInt8) (c:UInt8):AC gs Tryz.prog 285 [] [strC s,strC [c],.c (.int .i64 0)] (fun r H'=>∃ g,r=seqF 300 c g∧H'=[(g,.blk 1 (fun _=>strC s))]):=by
 refine ac_of 8 Tryz.func285 rfl rfl rfl (fun al w0 F0 St0=>?_)
 refine jcr ?_
 refine jqe (jebx 1 fun p1=>?_)
 refine jqe (jebx 1 fun p2=>?_)
 refine jqe (jebx 1 fun p3=>?_)
 refine jU 51 ?_;refine jE (freeze 1 rfl) ?_;refine jE (freeze 2 rfl) ?_;refine jE (thawP (m:=1) 4 rfl rfl (by decide)) ?_;refine jE (thawP (m:=1) 5 rfl rfl (by decide)) ?_;refine jE (blk_ent 0 (m:=1) (F:=fun _=>strC s) rfl (Nat.le_refl _) (fun _=>rfl) (fun j hj=>by obtain rfl:j=0:=(by omega);exact cZ)) ?_;refine jcr ?_;refine jq jrmf ?_;refine jU 700051 ?_
 exact end_own (.inl rfl) (seqF 300 c p1) _ [0] (by decide) rfl ((res_1 rfl (arv_tmp rfl)).ent (by refine CEnt.fn3 (CEnt.rp ?_) cP (CEnt.rp ?_) <;> (intro j hj;obtain rfl:j=0:=(by omega);exact cZ))) ⟨_,rfl,rfl⟩
theorem splitSeq_ac {gs:List Nat} (s:List UInt8) (c:UInt8):AC gs Tryz.prog 267 [] [strC s,strC [c]] (fun r H'=>∃ g,r=seqF 300 c g∧H'=[(g,.blk 1 (fun _=>strC s))]):=by
 refine ac_of 8 Tryz.func267 rfl rfl rfl (fun al w0 F0 St0=>?_)
 refine jU 116516 ?_
 refine jqe (jecS (split_ac s c) ?_)
 rintro _ _ ⟨p1,rfl,rfl⟩
 refine jU 700051 ?_
 exact end_own (.inl rfl) _ _ [0] (by decide) rfl (res_1 rfl (arv_tmp rfl)) ⟨_,rfl,rfl⟩
theorem parts_drop {c:UInt8} {s rest:List UInt8} {k:Nat} (h:(splitC c s).drop k=splitC c rest):k<(splitC c s).length:=by
 have:=splitC_ne c rest
 rw [← h] at this
 apply Classical.byContradiction
 intro hn
 exact this (List.drop_eq_nil_of_le (by omega))
theorem drop_getD {α:Type} {l:List α} {k:Nat} {d x:α} {r:List α} (h:l.drop k=x::r):l.getD k d=x∧l.drop (k+1)=r:=by
 have h1:l[k]?=some x:=by
  have:=congrArg (fun m=>m[0]?) h
  simpa using this
 exact ⟨by simp [List.getD,h1],by rw [← List.drop_drop,h];rfl⟩
theorem seq_iter {gs:List Nat} (s:List UInt8) (c:UInt8) (g:Option Nat) (hs:s.length≤100000000000):IterC gs Tryz.prog 300 [(g,.blk 1 (fun _=>strC s))] ((List.range 3).map (fl [.rp 1 fun _=>strC [c],.op 0 g 0,.rp 1 fun _=>.c (.int .i64 0)])) (splitC c s).length (fun k=>[strC ((splitC c s).getD k [])]):=fun l J Jx hY=>by
 refine ac_ofY true 52 Tryz.func300 rfl rfl rfl (fun al w0 F0 St0=>?_)
 refine jU 52400006067 ?_;refine jcc (fun h38=>?_) fun h38=>?_
 ·exfalso;simp at h38
 refine jU 207810 ?_;refine l_loop (α:=Nat×List UInt8) [7,8,29,30,31,32,33,34,35,36,37,38,39,40,41,42,43,44,45,46,47,48] (fun _=>[]) (fun (k,rest)=>[(g,.blk 1 (fun _=>strC rest)),(some l,.obj (J k))]) (fun (k,rest)=>(splitC c s).drop k=splitC c rest∧rest.length≤s.length) (fun (k,rest)=>rest.length) ((0,s)) ?_ (fun _=>rfl) ?_ ?_ ?_
 ·exact ⟨rfl,Nat.le_refl _⟩
 ·exact .nil
 ·exact .same (.same .nil)
 ·rintro ⟨k,rest⟩ ⟨hk,hlen⟩
  have hkl:=parts_drop hk
  have hcut:=idx_cut c rest
  refine jU 6050620 ?_
  refine jqe (jecP (index1_ac rest c) ?_)
  refine jU 5216751 ?_;refine jcc (fun h50=>?_) fun h50=>?_
  ·refine jU 12008400020008000020006000 ?_
   have hsp:splitC c rest=[rest]:=by
    rcases hcut with h|⟨q,r,_,h,_⟩
    ·exact h.2
    ·omega
   have hk2:=drop_getD (d:=[]) (hk.trans hsp)
   have hm:(splitC c s).length=k+1:=by
    have:=congrArg List.length hk2.2
    simp at this
    omega
   refine jU 50 ?_
   refine seq_mdI (wanted_none rfl) rfl (m_callY (i:=1) rfl rfl rfl (hY k hkl) (.cons (se rfl (CEnt.strL hk2.1.symm)) .nil) rfl rfl ?_)
   rintro _ _ (⟨rfl,rfl⟩|⟨rfl,rfl⟩)
   ·refine ⟨_,_,rfl,cZ,?_⟩
    refine jU 5 ?_
    exact end_own (.inr rfl) _ _ [1] (by decide) rfl (res_0 rfl) (.inl (by rw [hm];rfl))
   ·refine ⟨_,_,rfl,cZ,?_⟩
    refine jU 5 ?_
    exact end_own (.inr rfl) _ _ [1] (by decide) rfl (res_0 rfl) (.inr rfl)
  refine jU 810 ?_
  obtain ⟨q,r,hr,hi,hsp⟩:∃ q r,rest=q++c::r∧Lib.indexByte rest c=(q.length:Nat)∧splitC c rest=q::splitC c r:=by
   rcases hcut with h|h
   ·omega
   ·exact h
  have hk2:=drop_getD (d:=[]) (hk.trans hsp)
  have hql:q.length<rest.length:=by rw [hr];simp
  refine jU 9601506 ?_;refine jq (rd_sliceLT rfl rfl Tryz.underlying9 rfl (show _=((q.length:Nat):Int) by omega) (by (omega))) ?_;refine jU 116751 ?_
  refine seq_mdI (wanted_none rfl) rfl (m_callY (i:=1) rfl rfl rfl (hY k hkl) (.cons (se rfl (CEnt.strL (by rw [hk2.1,hr];simp))) .nil) rfl rfl ?_)
  rintro _ _ (⟨rfl,rfl⟩|⟨rfl,rfl⟩)
  ·refine ⟨_,_,rfl,cZ,?_⟩
   refine jU 200810300530 ?_;refine jqo (jrdo (hn:=by (omega))) ?_;refine jU 1 ?_;refine jq (jrdr (hn:=by (omega))) ?_;refine jq jrls ?_;refine jq (jra (hS:=by show _∧_;((simp only [List.length_cons,List.length_nil];omega)))) ?_;refine jq (rd_sliceLF rfl rfl Tryz.underlying9 rfl (show _=(((q.length+1):Nat):Int) by (simp only [List.length_cons,List.length_nil];omega)) (by (omega))) ?_
   refine jqm (jmst 1 ?_ (hn:=by (omega)))
   refine jU 84005 ?_
   refine jlend ((k+1,rest.drop (q.length+1))) ?_ ?_ (h5:=?_) (h7:=?_)
   ·exact ⟨by rw [hk2.2,hr];simp,by rw [List.length_drop];omega⟩
   ·show (rest.drop (q.length+1)).length<rest.length;rw [List.length_drop];omega
   ·exact .nil
   ·exact .blk rfl (fun j hj=>by obtain rfl:j=0:=(by omega);exact cZ) (.same .nil)
  ·refine ⟨_,_,rfl,cZ,?_⟩
   refine jU 3000500030005000300070009000530 ?_
   exact end_own (.inl rfl) _ _ [1] (by decide) rfl (res_0 rfl) (.inr rfl)
end
end Am
end Go.Proofs.YthlpfjnkieaeeaaGreatDoor
