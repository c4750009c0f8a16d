/- What the law leans on, part 7: Open, Open2 -/
import Derived.Test.YteolfpolmioalaaGreatDoorM6NamesWrites
import Derived.ChangeArms
import Derived.ChangeOld
import Derived.OpenShut

set_option maxRecDepth 100000
namespace Go.Proofs.YteolfpolmioalaaGreatDoor
set_option linter.unusedVariables false
namespace Am
section
open Go.RowKit Go.ChangeShapes
def Opens (P:Program) (t:TypeId) (k:Nat) (D:Type) (φ:D→Prop) (E:D→Nat→CV):Prop :=
 ∀ (H:Type) (enc:TypeId×Value→H) (W:World) (fuel:Nat) (cs:List Value) (y:DataW H×List MemPlace),DataW.trod enc P W 0 (fun _=>true) true fuel t cs=some y →
  cs.length=k∧∃ x:D,φ x∧∀ al j,j<k→RepC al (fun b=>b<W.heap.size) W (E x j) (cs.getD j undef)
section
variable {P:Program} {t:TypeId}
theorem one_cell {al:List Addr} {W:World} {St:Nat→Prop} {c:Nat→CV} {v:Value} (h:RepC al St W (c 0) v):∀ j,j<1→RepC al St W (c j) ([v].getD j undef):=fun j hj=>by
 obtain rfl:j=0:=by omega
 exact h
theorem opens_i64 (hu:P.underlying t=some (.int .i64)):Opens P t 1 Int (fun z=>-9223372036854775808≤z∧z≤9223372036854775807) (fun z _=>.c (.int .i64 z)):=fun H enc W fuel cs y h=>by
 obtain ⟨n,rfl,_,hw⟩:=DataW.trod_int hu h
 exact ⟨rfl,n,bounds_i64 hw,fun al=>one_cell rfl⟩
theorem opens_slice {e:TypeId} {k:Nat} {D:Type} {φ:D→Prop} {E:D→Nat→CV} (d0:D) (ho:Opens P e k D φ E) (hu:P.underlying t=some (.slice e)) (hk:P.cellsOf e=k) (hk0:0<k) :
  Opens P t 1 (List D) (fun l=>l.length≤maxLen∧∀ x ∈ l,φ x) (fun l _=>.rs k l.length fun i j=>E (l.getD i d0) j):=fun H enc W fuel cs y h=>by
 rcases DataW.trod_slice hu h with ⟨rfl,_⟩|⟨a,len,cap,elems,rest,n,_,rfl,_,_,hle,hm,hl,hel,_⟩
 ·exact ⟨rfl,[],⟨by simp,by simp⟩,fun al=>one_cell ⟨none,0,rfl,Nat.le_refl _,by decide,fun _=>rfl,fun _ h=>by cases h⟩⟩
 ·refine ⟨rfl,?_⟩
  subst hk
  have key:∀ i,∃ x:D,i<len→φ x∧∀ al j,j<P.cellsOf e→∃ v,W.cell? (a.add (i * P.cellsOf e+j))=some v∧RepC al (fun b=>b<W.heap.size) W (E x j) v:=fun i=>by
   by_cases hi:i<len
   ·have h1:=hel i hi
    rw [List.getElem?_eq_getElem (by omega)] at h1
    obtain ⟨cs,h2,h3⟩:=Option.bind_eq_some_iff.1 h1
    obtain ⟨_,h4,h5⟩:=World.cells?_some h2
    obtain ⟨_,x,hx,hr⟩:=ho H enc W n cs _ h3
    refine ⟨x,fun _=>⟨hx,fun al j hj=>⟨cs.getD j undef,?_,hr al j hj⟩⟩⟩
    have:=h5 j hj
    rw [Addr.add_add] at this
    rw [this]
    simp [h4,hj]
   ·exact ⟨d0,fun h=>absurd h hi⟩
  obtain ⟨F,hF⟩:∃ F:Nat→D,∀ i,i<len→φ (F i)∧∀ al j,j<P.cellsOf e→∃ v,W.cell? (a.add (i * P.cellsOf e+j))=some v∧RepC al (fun b=>b<W.heap.size) W (E (F i) j) v :=
   ⟨fun i=>(key i).choose,fun i hi=>(key i).choose_spec hi⟩
  have hm':cap≤9223372036854775807:=by unfold maxLen at hm;omega
  refine ⟨(List.range len).map F,⟨by simp;omega,by simp only [List.mem_map,List.mem_range];rintro x ⟨i,hi,rfl⟩;exact (hF i hi).1⟩,fun al=>one_cell ?_⟩
  refine ⟨some a,cap,by simp,by simpa using hle,hm',by simp,fun b hb hn=>?_⟩
  cases hb
  simp at hn
  obtain ⟨v0,hv0,_⟩:=(hF 0 hn).2 al 0 hk0
  have hsp:a.spot=none:=by
   have:=World.cell?_spot hv0
   obtain ⟨b,o,sp⟩:=a
   simpa [Addr.add] using this
  refine ⟨hsp,?_,fun i j hi hj=>?_⟩
  ·have:=World.block_lt_of_cell? W _ hv0
   obtain ⟨b,o,sp⟩:=a
   simpa [Addr.add] using this
  ·simp at hi
   obtain ⟨v,hv,hr⟩:=(hF i hi).2 al j hj
   refine ⟨v,?_,by simpa [List.getD,hi] using hr⟩
   obtain ⟨b,o,sp⟩:=a
   simp only at hsp
   subst hsp
   rwa [Addr.add_lit] at hv
def OpensF (P:Program) (fs:List Field) (D:Type) (φ:D→Prop) (E:D→Nat→CV) (C:Nat→Bool):Prop :=
 ∀ (H:Type) (enc:TypeId×Value→H) (W:World) (cs:List Value),(∀ f ∈ fs,∃ n y,DataW.trod enc P W 0 (fun _=>true) true n f.type ((cs.drop f.offset).take (P.cellsOf f.type))=some y) →
  ∃ x:D,φ x∧∀ al j,C j=true→RepC al (fun b=>b<W.heap.size) W (E x j) (cs.getD j undef)
theorem opensF_nil:OpensF P [] Unit (fun _=>True) (fun _ _=>.top) (fun _=>false):=fun H enc W cs _=>⟨(),trivial,fun al j h=>by cases h⟩
theorem opensF_cons {f:Field} {fs:List Field} {k:Nat} {D1 D2:Type} {φ1:D1→Prop} {φ2:D2→Prop} {E1:D1→Nat→CV} {E2:D2→Nat→CV} {C2:Nat→Bool} (h1:Opens P f.type k D1 φ1 E1) (h2:OpensF P fs D2 φ2 E2 C2) :
  OpensF P (f::fs) (D1×D2) (fun x=>φ1 x.1∧φ2 x.2) (fun x j=>match Nat.ble f.offset j && Nat.blt j (f.offset+k) with|true=>E1 x.1 (j-f.offset)|false=>E2 x.2 j) (fun j=>(Nat.ble f.offset j && Nat.blt j (f.offset+k)) || C2 j):=fun H enc W cs h=>by
 obtain ⟨n,y,hy⟩:=h f (List.mem_cons_self ..)
 obtain ⟨hl,x1,p1,r1⟩:=h1 H enc W n _ y hy
 obtain ⟨x2,p2,r2⟩:=h2 H enc W cs fun g hg=>h g (List.mem_cons_of_mem _ hg)
 refine ⟨(x1,x2),⟨p1,p2⟩,fun al j hj=>?_⟩
 cases hb:Nat.ble f.offset j && Nat.blt j (f.offset+k) with
 | true =>
  have hb0:=hb
  simp only [Bool.and_eq_true] at hb
  have b1:f.offset≤j:=Nat.le_of_ble_eq_true hb.1
  have b2:j<f.offset+k:=Nat.le_of_ble_eq_true hb.2
  have:=r1 al (j-f.offset) (by omega)
  simp only [List.length_take,List.length_drop] at hl
  rw [List.getD_eq_getElem?_getD,List.getElem?_take,if_pos (by omega),List.getElem?_drop,show f.offset+(j-f.offset)=j by omega,← List.getD_eq_getElem?_getD] at this
  simp only [hb0]
  exact this
 | false =>
  simp only [hb,Bool.false_or] at hj
  simp only [hb]
  exact r2 al j hj
theorem opens_struct {fs:Array Field} {n:Nat} {D:Type} {φ:D→Prop} {E:D→Nat→CV} {C:Nat→Bool} (hu:P.underlying t=some (.struct fs)) (hn:P.cellsOf t=n) (ho:OpensF P fs.toList D φ E C) (hC:(List.range n).all C=true):Opens P t n D φ E:=fun H enc W fuel cs y h=>by
 obtain ⟨xs,m,_,_,hl,hlen,hf⟩:=DataW.trod_struct hu h
 obtain ⟨x,hx,hr⟩:=ho H enc W cs fun f hf'=>by
  obtain ⟨i,hi⟩:=List.mem_iff_getElem?.1 hf'
  rw [Array.getElem?_toList] at hi
  have:=hf i f hi
  have hlt:i<xs.length:=by rw [hlen];exact (Array.getElem?_eq_some_iff.1 hi).1
  rw [List.getElem?_eq_getElem hlt] at this
  exact ⟨m,_,this⟩
 exact ⟨hl.trans hn,x,hx,fun al j hj=>hr al j (List.all_eq_true.1 hC j (List.mem_range.2 hj))⟩
theorem arg_one {D:Type} {φ:D→Prop} {E:D→Nat→CV} (ho:Opens P t 1 D φ E) {H:Type} {enc:TypeId×Value→H} {W:World} {v:Value} {d:DataW H} {p:List MemPlace} (hv:v.cells=#[v]) (h:DataW.Trod enc P W 0 (fun _=>true) true t v d p) :
  ∃ x:D,φ x∧∀ al,RepC al (fun b=>b<W.heap.size) W (E x 0) v:=by
 obtain ⟨fuel,hf⟩:=h
 obtain ⟨_,x,hx,hr⟩:=ho H enc W fuel _ _ hf
 refine ⟨x,hx,fun al=>?_⟩
 have:=hr al 0 (by decide)
 rw [hv] at this
 exact this
end
end
section
open Go.RowKit Go.ChangeShapes
theorem opens_strL {P:Program} {t:TypeId} (hu:P.underlying t=some .string):Opens P t 1 (List UInt8) (fun s=>s.length≤maxLen) (fun z _=>strC z):=fun H enc W fuel cs y h=>by
 obtain ⟨n,rfl,_,hs⟩:=DataW.trod_string hu h
 obtain ⟨l,rfl⟩:=ba_list n
 exact ⟨rfl,l,hs,fun al=>one_cell rfl⟩
theorem map_getD {α β:Type} (f:α→β) (l:List α) {i:Nat} (d0:α) (d1:β) (h:i<l.length):(l.map f).getD i d1=f (l.getD i d0):=by simp [List.getD,h]
end
end Am
end Go.Proofs.YteolfpolmioalaaGreatDoor
