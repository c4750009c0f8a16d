/- What the law leans on, part 1: Base, Reg, Reg2, Reg3, Reg4, Reg5, Am1 -/
import Derived.Test.YthlpfjnkieaeeaaGreatDoorChecked
import Derived.WalkKit
import Derived.WalkLawsBesides
import Derived.WalkSpells
import Derived.Outline
import Derived.Handy
import Derived.Deep.QuietTactic
import Derived.Deep.Draws
import Derived.BigQuiet
import Derived.Lib.Hide
import Derived.LaidEql
import Derived.Laws.IdiomStrings
import Derived.WideLaws
import Derived.Shelf.Unicode.DecodeSlow
import Derived.OrdersHeld
import Derived.Deep.RegionHeld3
import Derived.RangeFuncNested
import Derived.OrdersIn
import Derived.RangeFuncCalls
import Derived.RangeFuncLeaves
import Derived.RangeFuncRecord

set_option maxRecDepth 100000
namespace Go.Proofs.YthlpfjnkieaeeaaGreatDoor
set_option linter.unusedVariables false
theorem jO {p:Prop} (h:p:=by omega):p:=h
theorem jD {p:Prop} (h:p:=by decide):p:=h
theorem jK {c:Prop} {i:Decidable c} {α:Sort _} {a b:α} (h:¬c:=by omega):@ite α c i a b=b:=if_neg h
theorem jP {c:Prop} {i:Decidable c} {α:Sort _} {a b:α} (h:c:=by omega):@ite α c i a b=a:=if_pos h
open Go.RowKit

theorem BC {B:Nat} {a w:World} (h:Below B a w) (n:Nat):Below B a (w.drewN n):=⟨h.os,h.tape,h.output,h.size,h.block⟩
theorem ng {a b c:World} (h:Below a.heap.size a b) (k:Below b.heap.size b c):Below a.heap.size a c:=h.trans (k.mono h.size)
theorem k9 {a b:World} (h:Below a.heap.size a b) {p:Addr} {v:Value} (hc:a.cell? p=some v):b.cell? p=some v :=
 (h.cell (World.block_lt_of_cell? a p hc)).trans hc

theorem ye {P:Program} {ops:Array Oper} {Q:Exit→Act→World→Prop} {rest:List Oper} {o:Oper} {a:Act} {w:World} (v:Value) (w':World)
  (hg:o.guard=none) (hr:(execOp a.eval o).run P w=.ok (.value v) w') (hK:wpList P ops Q rest (a.put o.dst v) w'):wpList P ops Q (o::rest) a w :=
 wpList_plain hg fun K hk=>by
  unfold Oper.wp
  rw [hr]
  exact hk _ _ hK

def Bs (w:World) (v:Value) (l:List UInt8):Prop :=
 ∃ ao cap,v=.slice ao l.length cap∧l.length≤cap∧cap≤9223372036854775807∧(ao=none→cap=0) ∧
  ∀ x,ao=some x→(0<l.length→x.spot=none)∧∀ i,i<l.length→w.cell? ⟨x.block,x.off+i,none⟩=some (.int .u8 (l.getD i 0).toNat)

theorem Bs.below {a b:World} {v:Value} {l:List UInt8} (h:Bs a v l) (k:Below a.heap.size a b):Bs b v l:=by
 obtain ⟨ao,cap,rfl,h1,h2,h3,h4⟩:=h
 exact ⟨ao,cap,rfl,h1,h2,h3,fun x hx=>⟨(h4 x hx).1,fun i hi=>k9 k ((h4 x hx).2 i hi)⟩⟩

theorem Bs.cons {w:World} {v:Value} {l:List UInt8} (h:Bs w v l) (hl:0<l.length) :
  ∃ b o cap,v=.slice (some ⟨b,o,none⟩) l.length cap∧l.length≤cap∧cap≤9223372036854775807∧∀ i,i<l.length→w.cell? ⟨b,o+i,none⟩=some (.int .u8 (l.getD i 0).toNat):=by
 obtain ⟨ao,cap,rfl,h1,h2,h3,h4⟩:=h
 cases ao with
 | none=>have:=h3 rfl;omega
 | some x =>
  obtain ⟨b,o,sp⟩:=x
  obtain ⟨hs,hc⟩:=h4 _ rfl
  have hs:=hs hl
  simp only at hs
  subst hs
  exact ⟨b,o,cap,rfl,h1,by omega,hc⟩

theorem Bs.len {w:World} {ao:Option Addr} {n cap:Nat} {l:List UInt8} (h:Bs w (.slice ao n cap) l):n=l.length:=by
 obtain ⟨_,_,e,_⟩:=h
 injection e

theorem Bs.nil (w:World):Bs w (.slice none 0 0) []:=⟨none,0,rfl,by simp,by simp,fun _=>rfl,fun x h=>by cases h⟩

theorem Bs.of_cells {w:World} {b o cap:Nat} {l:List UInt8} (h1:l.length≤cap) (h2:cap≤9223372036854775807)
  (h:∀ i,i<l.length→w.cell? ⟨b,o+i,none⟩=some (.int .u8 (l.getD i 0).toNat)):Bs w (.slice (some ⟨b,o,none⟩) l.length cap) l :=
 ⟨_,cap,rfl,h1,h2,by simp,fun x hx=>by cases hx;exact ⟨fun _=>rfl,h⟩⟩

theorem Bs.piece {w:World} {ao:Option Addr} {n cap:Nat} {l:List UInt8} (h:Bs w (.slice ao n cap) l) (lo hi:Nat) (h1:lo≤hi) (h2:hi≤n) :
  Bs w (.slice (if cap=lo then ao else ao.map (·.add lo)) (hi-lo) (cap-lo)) ((l.take hi).drop lo):=by
 obtain ⟨ao',cap',e,h3,h4,h5,h6⟩:=h
 injection e with e1 e2 e3
 subst e1 e2 e3
 have hlen:((l.take hi).drop lo).length=hi-lo:=by simp;omega
 refine ⟨_,_,by rw [hlen],by rw [hlen];omega,by omega,?_,?_⟩
 ·intro hn
  split at hn
  ·omega
  ·have:ao=none:=by simpa using hn
   have:=h5 this
   omega
 ·intro x hx
  split at hx
  ·have hz:hi-lo=0:=by omega
   exact ⟨fun h=>by rw [hlen] at h;omega,fun i hi'=>by rw [hlen] at hi';omega⟩
  ·obtain ⟨y,rfl,rfl⟩:=Option.map_eq_some_iff.1 hx
   obtain ⟨hs,hc⟩:=h6 y rfl
   obtain ⟨b,o,sp⟩:=y
   by_cases hz:hi-lo=0
   ·exact ⟨fun h=>by rw [hlen] at h;omega,fun i hi'=>by rw [hlen] at hi';omega⟩
   have hs:=hs jO
   simp only at hs
   subst hs
   rw [Addr.add_lit]
   refine ⟨fun _=>rfl,fun i hi'=>?_⟩
   rw [hlen] at hi'
   show w.cell? ⟨b,o+lo+i,none⟩=_
   rw [Nat.add_assoc,hc (lo+i) jO]
   simp [List.getD,show lo+i<hi by omega]

theorem Bs.from {w:World} {ao:Option Addr} {n cap:Nat} {l:List UInt8} (h:Bs w (.slice ao n cap) l) (lo:Nat) (h2:lo≤n) :
  Bs w (.slice (if cap=lo then ao else ao.map (·.add lo)) (n-lo) (cap-lo)) (l.drop lo):=by
 have:=h.piece lo n h2 (Nat.le_refl _)
 have e:l.take n=l:=by rw [h.len,List.take_length]
 rwa [e] at this

theorem gH {P:Program} {w:World} {ao:Option Addr} {n cap:Nat} {l:List UInt8} (h:Bs w (.slice ao n cap) l) (src dst e:TypeId)
  (hs:P.underlying src=some (.slice e)) (he:P.underlying e=some (.int .u8)) (hd:P.underlying dst=some .string) :
  (convert src dst (.slice ao n cap)).run P w=.ok (.string ⟨l.toArray⟩) w:=by
 obtain ⟨ao',cap',e0,h3,h4,h5,h6⟩:=h
 injection e0 with e1 e2 e3
 subst e1 e2 e3
 cases ao with
 | none =>
  have:=h5 rfl
  have hl:l=[]:=List.eq_nil_of_length_eq_zero jO
  subst hl
  rw [run_convert_bytes_string w src dst e none _ cap hs he hd]
  rfl
 | some x =>
  obtain ⟨b,o,sp⟩:=x
  obtain ⟨hsp,hc⟩:=h6 _ rfl
  exact run_convert_bytes_back w src dst e ⟨b,o,sp⟩ cap l hs he hd fun j hj=>by
   have hsp:=hsp jO
   simp only at hsp
   subst hsp
   rw [Addr.add_lit,hc j hj]
   simp [List.getD,hj]

def ev (al:List Addr) (k:Nat):Value:=if k=0 then .nilIface else .iface 356 (.pointer al[k-1]?)

def rP:Nat:=29
def rO:Nat:=30
def mg (gs:List Nat):List Nat:=gs.filter fun g=>!(Nat.beq g rP || Nat.beq g rO)
def rG (gs:List Nat):List Nat:=gs.filter fun g=>Nat.blt g 1000000000
theorem qQ {gs:List Nat} {g:Nat}:g ∈ rG gs↔g ∈ gs∧g<1000000000:=by simp [rG]
structure fY (w:World) (gs:List Nat) (al:List Addr):Prop where
 len:al.length=(mg gs).length
 nd:∀ (i j g g':Nat),(mg gs)[i]?=some g→g ∈ rG gs→(mg gs)[j]?=some g'→g' ∈ rG gs→al[i]?=al[j]?→i=j
 var:∀ i g,(mg gs)[i]?=some g→g ∈ rG gs→w.cell? ⟨g,0,none⟩=some (ev al (i+1))
 row:∀ a ∈ al,∃ c t,w.heap[a.block]?=some (.cells c t (0,0))
 tab:rP ∈ rG gs→rO ∈ rG gs→Lib.Utf8Tabs rP rO w
 lt:∀ g ∈ rG gs,g<w.heap.size
theorem Ez {w w':World} {g3 g4:Nat} (h:Lib.Utf8Tabs g3 g4 w) (h1:∀ o,w'.cell? ⟨g3,o,none⟩=w.cell? ⟨g3,o,none⟩) (h2:∀ o,w'.cell? ⟨g4,o,none⟩=w.cell? ⟨g4,o,none⟩):Lib.Utf8Tabs g3 g4 w' :=
 ⟨fun c hc=>(h1 c).trans (h.1 c hc),fun i hi=>⟨(h2 _).trans (h.2 i hi).1,(h2 _).trans (h.2 i hi).2⟩⟩
theorem fY.below {a b:World} {gs:List Nat} {al:List Addr} (h:fY a gs al) (k:Below a.heap.size a b):fY b gs al :=
 ⟨h.len,h.nd,fun i g hi hl=>k9 k (h.var i g hi hl),fun x hx=>by
  obtain ⟨c,t,hc⟩:=h.row x hx
  exact ⟨c,t,by rw [k.block x.block (Array.getElem?_eq_some_iff.1 hc).1];exact hc⟩,fun h1 h2=>Utf8Tabs_below (h.tab h1 h2) k,fun g hg=>Nat.lt_of_lt_of_le (h.lt g hg) k.size⟩

def gs:List Nat:=[1,2,3,0,4,5,6,7,8,9,10,11,12,13,14,15,16,17,18,19,20,21,22,23,24,25,26,27]
def Qx:List Nat:=gs++[rP,rO]
class eN (l:List Nat):Prop where
 eq:mg l=gs
instance okG:eN gs:=⟨by decide⟩
instance okT:eN Qx:=⟨by decide⟩
abbrev MD (w:World) (al:List Addr):Prop:=fY w gs al
class dG (l:List Nat) (k:Nat):Prop where
 eq:(mg l)[k]?=gs[k]?
 lt:∀ g,gs[k]?=some g→g ∈ rG l
theorem cl {l:List Nat} [h:eN l] (k:Nat) (hk:(gs[k]?).any (fun g=>Nat.blt g 1000000000)=true):dG l k:=⟨by rw [eN.eq],fun g hg=>by
 rw [hg] at hk
 refine qQ.2 ⟨?_,Nat.le_of_ble_eq_true hk⟩
 have h1:g ∈ mg l:=by rw [eN.eq];exact List.mem_of_getElem? hg
 exact (List.mem_filter.1 h1).1⟩
instance hasE0 {l:List Nat} [eN l]:dG l 0:=cl 0 jD
instance hasE1 {l:List Nat} [eN l]:dG l 1:=cl 1 jD
instance hasE2 {l:List Nat} [eN l]:dG l 2:=cl 2 jD
instance hasE3 {l:List Nat} [eN l]:dG l 3:=cl 3 jD
instance hasE4 {l:List Nat} [eN l]:dG l 4:=cl 4 jD
instance hasE5 {l:List Nat} [eN l]:dG l 5:=cl 5 jD
instance hasE6 {l:List Nat} [eN l]:dG l 6:=cl 6 jD
instance hasE7 {l:List Nat} [eN l]:dG l 7:=cl 7 jD
instance hasE8 {l:List Nat} [eN l]:dG l 8:=cl 8 jD
instance hasE9 {l:List Nat} [eN l]:dG l 9:=cl 9 jD
instance hasE10 {l:List Nat} [eN l]:dG l 10:=cl 10 jD
instance hasE11 {l:List Nat} [eN l]:dG l 11:=cl 11 jD
instance hasE12 {l:List Nat} [eN l]:dG l 12:=cl 12 jD
instance hasE13 {l:List Nat} [eN l]:dG l 13:=cl 13 jD
instance hasE14 {l:List Nat} [eN l]:dG l 14:=cl 14 jD
instance hasE15 {l:List Nat} [eN l]:dG l 15:=cl 15 jD
instance hasE16 {l:List Nat} [eN l]:dG l 16:=cl 16 jD
instance hasE17 {l:List Nat} [eN l]:dG l 17:=cl 17 jD
instance hasE18 {l:List Nat} [eN l]:dG l 18:=cl 18 jD
instance hasE19 {l:List Nat} [eN l]:dG l 19:=cl 19 jD
instance hasE20 {l:List Nat} [eN l]:dG l 20:=cl 20 jD
instance hasE21 {l:List Nat} [eN l]:dG l 21:=cl 21 jD
instance hasE22 {l:List Nat} [eN l]:dG l 22:=cl 22 jD
instance hasE23 {l:List Nat} [eN l]:dG l 23:=cl 23 jD
instance hasE24 {l:List Nat} [eN l]:dG l 24:=cl 24 jD
instance hasE25 {l:List Nat} [eN l]:dG l 25:=cl 25 jD
instance hasE26 {l:List Nat} [eN l]:dG l 26:=cl 26 jD
instance hasE27 {l:List Nat} [eN l]:dG l 27:=cl 27 jD
class Ke (l:List Nat):Prop where
 h0:dG l 0
 h3:dG l 3
instance ok2_0 {l:List Nat} [h:Ke l]:dG l 0:=h.h0
instance ok2_3 {l:List Nat} [h:Ke l]:dG l 3:=h.h3
instance ok2_all {l:List Nat} [eN l]:Ke l:=⟨inferInstance,inferInstance⟩
class fZ (l:List Nat):Prop where
 h0:dG l 0
 h1:dG l 1
 h2:dG l 2
 h3:dG l 3
 h4:dG l 4
 h5:dG l 5
 h6:dG l 6
 h7:dG l 7
 h23:dG l 23
instance ok9_0 {l:List Nat} [h:fZ l]:dG l 0:=h.h0
instance ok9_1 {l:List Nat} [h:fZ l]:dG l 1:=h.h1
instance ok9_2 {l:List Nat} [h:fZ l]:dG l 2:=h.h2
instance ok9_3 {l:List Nat} [h:fZ l]:dG l 3:=h.h3
instance ok9_4 {l:List Nat} [h:fZ l]:dG l 4:=h.h4
instance ok9_5 {l:List Nat} [h:fZ l]:dG l 5:=h.h5
instance ok9_6 {l:List Nat} [h:fZ l]:dG l 6:=h.h6
instance ok9_7 {l:List Nat} [h:fZ l]:dG l 7:=h.h7
instance ok9_23 {l:List Nat} [h:fZ l]:dG l 23:=h.h23
instance ok9_all {l:List Nat} [eN l]:fZ l:=⟨inferInstance,inferInstance,inferInstance,inferInstance,inferInstance,inferInstance,inferInstance,inferInstance,inferInstance⟩
instance ok9_two {l:List Nat} [fZ l]:Ke l:=⟨inferInstance,inferInstance⟩
theorem Oj {l:List Nat} [eN l]:∀ g ∈ gs,g ∈ l:=fun g hg=>by
 rw [← eN.eq (l:=l)] at hg
 exact (List.mem_filter.1 hg).1
theorem pe {l:List Nat} [eN l] {g:Nat} (h:g ∈ rG gs):g ∈ rG l:=qQ.2 ⟨Oj g (qQ.1 h).1,(qQ.1 h).2⟩
theorem fY.std {w:World} {l:List Nat} {al:List Addr} [eN l] (h:fY w l al):MD w al where
 len:=h.len.trans (by rw [eN.eq,eN.eq])
 nd:=fun i j g g' hi hl hj hl' e=>h.nd i j g g' (by rw [eN.eq] at hi ⊢;exact hi) (pe hl) (by rw [eN.eq] at hj ⊢;exact hj) (pe hl') e
 var:=fun i g hi hl=>h.var i g (by rw [eN.eq] at hi ⊢;exact hi) (pe hl)
 row:=h.row
 tab:=fun h1 h2=>h.tab (pe h1) (pe h2)
 lt:=fun g hg=>h.lt g (pe hg)

theorem Eb (al:List Addr):ev al 0=.nilIface:=rfl

@[go_sem] theorem iD (op:BinOp) (t:TypeId) (x:Operand) (c:Value) (al:List Addr) (k:Nat):eqGuard op t x (.const c) (ev al k) .nilIface=pure ():=by
 unfold ev
 split
 ·exact eqGuard_nil_constR op t x c
 ·exact eqGuard_at_iface op t x _ _ _ _
theorem mY:Tryz.prog.underlying 25=some (.interface (Tryz.prog.methodsAt 25)):=by kernel_rfl
@[go_sem] theorem nS (al:List Addr) (k:Nat) (w:World):(binOp .eql 25 (ev al k) .nilIface).run Tryz.prog w=.ok (.bool (decide (k=0))) w:=by
 unfold ev
 split
 ·subst k
  exact run_eql_nil_nil w _ mY
 ·rename_i hk
  simp only [hk,decide_false]
  exact run_eql_held_nil w _ _ _ mY
@[go_sem] theorem nQ (al:List Addr) (k:Nat) (w:World):(binOp .neq 25 (ev al k) .nilIface).run Tryz.prog w=.ok (.bool (!decide (k=0))) w:=by
 unfold ev
 split
 ·subst k
  exact run_neq_nil_nil w _ mY
 ·rename_i hk
  simp only [hk,decide_false]
  exact run_neq_held_nil w _ _ _ mY
end Go.Proofs.YthlpfjnkieaeeaaGreatDoor
namespace Go.Proofs.YthlpfjnkieaeeaaGreatDoor
set_option linter.unusedVariables false
open Go.RowKit

def kC (w:World):Type:={ W:World // Below w.heap.size w W }
def kC.w {w:World} (n:kC w):World:=n.1
theorem kC.below {w:World} (n:kC w):Below w.heap.size w n.w:=n.2
instance (w:World):Nonempty (kC w):=⟨⟨w,Below.refl _ _⟩⟩
theorem kC.cell {w:World} {p:Addr} {v:Value} (h:w.cell? p=some v) (n:kC w):n.w.cell? p=some v:=k9 n.below h
def kC.up {w W:World} (h:Below w.heap.size w W) (n:kC W):kC w:=⟨n.w,ng h n.below⟩

section
variable {P:Program} {ops:Array Oper} {Q:Exit→Act→World→Prop} {md:Region.Mode}

def lI (P:Program) (md:Region.Mode) (ops:Array Oper) (Q:Exit→Act→World→Prop):Nat→Array Bool→Act→World→Prop
 | 0,listed,a,w=>Region.ready md ops listed=[]∧∀ n:kC w,Q .normal a n.w
 | fuel+1,listed,a,w =>
  (Region.ready md ops listed=[]→∀ n:kC w,Q .normal a n.w) ∧
  ∀ i ∈ Region.ready md ops listed,∀ n:kC w,wpOp P ops Q i (fun a' w'=>Below n.w.heap.size n.w w'∧lI P md ops Q fuel (listed.setIfInBounds i true) a' w') a n.w

theorem nK:∀ (fuel:Nat) (listed:Array Bool) (a:Act) (w W:World),Below w.heap.size w W→lI P md ops Q fuel listed a w→lI P md ops Q fuel listed a W
 | 0,_,_,_,_,hb,h=>⟨h.1,fun n=>h.2 (n.up hb)⟩
 | _+1,_,_,_,_,hb,h=>⟨fun h0 n=>h.1 h0 (n.up hb),fun i hi n=>h.2 i hi (n.up hb)⟩

theorem uf:∀ (fuel:Nat) (listed:Array Bool) (a:Act) (w:World),lI P md ops Q fuel listed a w→wpAny P md ops Q fuel listed a w
 | 0,_,_,w,h=>⟨h.1,h.2 ⟨w,Below.refl _ _⟩⟩
 | fuel+1,_,_,w,h=>⟨fun h0=>h.1 h0 ⟨w,Below.refl _ _⟩,fun i hi=>wpOp_mono (fun a' w' h'=>uf fuel _ a' w' h'.2) (h.2 i hi ⟨w,Below.refl _ _⟩)⟩

def fC (P:Program) (ops:Array Oper) (w:World) (o:Oper) (v:Value) (a:Act):Prop:=YieldsIf P ops (fun W=>Below w.heap.size w W) o v a

theorem fC.mono {w W:World} {o:Oper} {v:Value} {a:Act} (hb:Below w.heap.size w W) (h:fC P ops w o v a):fC P ops W o v a :=
 h.imp (fun ⟨h1,h2⟩=>⟨h1,fun X hX=>h2 X (ng hb hX)⟩) id

theorem yg {i:Nat} {oi:Oper} {v:Value} (hi:ops[i]?=some oi) (hsel:∀ (j:Nat) (o:Oper) cs b,ops[j]?=some o→o.op≠.select cs b)
  (hQ:∀ c a w,Q (.panic c) (a.put oi.dst v) w→Q (.panic c) a w) :
  ∀ (fuel:Nat) (listed:Array Bool) (a:Act) (w:World),
   (∀ j oj,ops[j]?=some oj→j≠i→listed.getD j true=false→(∀ e ∈ oj.after,Region.binds md e=true→e.on≠i)→oi.apart ops oj=true) →
   i ∈ Region.ready md ops listed→fC P ops w oi v a →
   lI P md ops Q fuel (listed.setIfInBounds i true) (a.put oi.dst v) w→lI P md ops Q (fuel+1) listed a w:=by
 intro fuel
 induction fuel with
 | zero =>
  intro listed a w _ hr hy H
  refine ⟨fun h=>(by rw [h] at hr;cases hr),fun j hj n=>?_⟩
  by_cases hji:j=i
  ·subst hji
   exact YieldsIf.wpOp hi hy n.below ⟨Below.refl _ _,nK 0 _ _ _ _ n.below H⟩
  ·have:=ready_mono hj hji
   rw [H.1] at this
   cases this
 | succ fuel ih =>
  intro listed a w hfree hr hy H
  refine ⟨fun h=>(by rw [h] at hr;cases hr),fun j hj n=>?_⟩
  by_cases hji:j=i
  ·subst hji
   exact YieldsIf.wpOp hi hy n.below ⟨Below.refl _ _,nK (fuel+1) _ _ _ _ n.below H⟩
  ·have h1:=H.2 j (ready_mono hj hji) n
   obtain ⟨hjun,oj,hoj,hall⟩:=mem_ready.1 hj
   have hnot:∀ e ∈ oj.after,Region.binds md e=true→e.on≠i:=fun e he hb heq=>by
    have h1:=hall e he hb
    have h0:=(mem_ready.1 hr).1
    rw [heq] at h1
    rcases Nat.lt_or_ge i listed.size with h'|h'
    ·simp [h'] at h0 h1;rw [h0] at h1;cases h1
    ·simp [Array.getElem?_eq_none h'] at h1
   have h2:=wpOp_putIf hoj (hfree j oj hoj hji hjun hnot) (fun cs b=>hsel i oi cs b hi) (fun cs b=>hsel j oj cs b hoj) hQ (fC.mono n.below hy) h1
   have hfree':∀ k ok,ops[k]?=some ok→k≠i→(listed.setIfInBounds j true).getD k true=false →
     (∀ e ∈ ok.after,Region.binds md e=true→e.on≠i)→oi.apart ops ok=true:=fun k ok hk hki hun hno=>by
    refine hfree k ok hk hki ?_ hno
    by_cases hjk:j=k
    ·subst hjk;exact hjun
    ·rw [getD_set_ne true hjk] at hun;exact hun
   refine wpOp_mono (fun a' w' h3=>⟨h3.2.1,ih (listed.setIfInBounds j true) a' w' hfree' (ready_mono hr (Ne.symm hji)) (fC.mono h3.2.1 h3.1) ?_⟩) h2
   rw [Array.setIfInBounds_comm _ _ hji]
   exact h3.2.2

theorem jQ (w:World):Below w.heap.size w w.drew:=⟨rfl,rfl,rfl,Nat.le_refl _,fun _ _=>rfl⟩

end
end Go.Proofs.YthlpfjnkieaeeaaGreatDoor
namespace Go.Proofs.YthlpfjnkieaeeaaGreatDoor
set_option linter.unusedVariables false
open Go.RowKit

inductive jV where
 | done
 | rd (i:Nat) (k:jV)
 | one (i:Nat) (k:jV)
 | two (i:Nat) (k:jV) (j:Nat) (m:jV)
 | three (i:Nat) (k:jV) (j:Nat) (m:jV) (q:Nat) (l:jV)

def jV.len:jV→Nat
 | .done=>0
 | .rd _ k=>k.len+1
 | .one _ k=>k.len+1
 | .two _ k _ _=>k.len+1
 | .three _ k _ _ _ _=>k.len+1

def jV.within (n:Nat):jV→Bool
 | .done=>true
 | .rd i k=>decide (i<n) && k.within n
 | .one i k=>decide (i<n) && k.within n
 | .two i k j m=>decide (i<n) && k.within n && decide (j<n) && m.within n
 | .three i k j m q l=>decide (i<n) && k.within n && decide (j<n) && m.within n && decide (q<n) && l.within n

section
variable {P:Program} {ops:Array Oper} {Q:Exit→Act→World→Prop} {md:Region.Mode}

def Ep (P:Program) (ops:Array Oper) (Q:Exit→Act→World→Prop):jV→Act→World→Prop
 | .done,a,w=>∀ n:kC w,Q .normal a n.w
 | .rd i k,a,w=>∃ v o,ops[i]?=some o∧fC P ops w o v a∧Ep P ops Q k (a.put o.dst v) w
 | .one i k,a,w=>∀ n:kC w,wpOp P ops Q i (fun a' w'=>Below n.w.heap.size n.w w'∧Ep P ops Q k a' w') a n.w
 | .two i k j m,a,w =>
  (∀ n:kC w,wpOp P ops Q i (fun a' w'=>Below n.w.heap.size n.w w'∧Ep P ops Q k a' w') a n.w) ∧
  (∀ n:kC w,wpOp P ops Q j (fun a' w'=>Below n.w.heap.size n.w w'∧Ep P ops Q m a' w') a n.w)
 | .three i k j m q l,a,w =>
  (∀ n:kC w,wpOp P ops Q i (fun a' w'=>Below n.w.heap.size n.w w'∧Ep P ops Q k a' w') a n.w) ∧
  (∀ n:kC w,wpOp P ops Q j (fun a' w'=>Below n.w.heap.size n.w w'∧Ep P ops Q m a' w') a n.w) ∧
  (∀ n:kC w,wpOp P ops Q q (fun a' w'=>Below n.w.heap.size n.w w'∧Ep P ops Q l a' w') a n.w)

theorem zF:∀ (r:jV) (a:Act) (w W:World),Below w.heap.size w W→Ep P ops Q r a w→Ep P ops Q r a W
 | .done,_,_,_,hb,h=>fun n=>h (n.up hb)
 | .rd _ k,_,_,_,hb,⟨v,o,ho,hy,h⟩=>⟨v,o,ho,fC.mono hb hy,zF k _ _ _ hb h⟩
 | .one _ _,_,_,_,hb,h=>fun n=>h (n.up hb)
 | .two _ _ _ _,_,_,_,hb,h=>⟨fun n=>h.1 (n.up hb),fun n=>h.2 (n.up hb)⟩
 | .three _ _ _ _ _ _,_,_,_,hb,h=>⟨fun n=>h.1 (n.up hb),fun n=>h.2.1 (n.up hb),fun n=>h.2.2 (n.up hb)⟩

def du (md:Region.Mode) (ops:Array Oper):jV→Array Bool→Bool
 | .done,listed=>Region.ready md ops listed == []
 | .rd i k,listed=>(Region.ready md ops listed).contains i && Region.free md ops listed i && du md ops k (listed.setIfInBounds i true)
 | .one i k,listed=>Region.ready md ops listed == [i] && du md ops k (listed.setIfInBounds i true)
 | .two i k j m,listed=>Region.ready md ops listed == [i,j] && (k.len == m.len) && du md ops k (listed.setIfInBounds i true) && du md ops m (listed.setIfInBounds j true)
 | .three i k j m q l,listed=>Region.ready md ops listed == [i,j,q] && (k.len == m.len) && (k.len == l.len) && du md ops k (listed.setIfInBounds i true) && du md ops m (listed.setIfInBounds j true) && du md ops l (listed.setIfInBounds q true)

theorem f9 (hs:Region.noSelect ops=true) (hQ:∀ c a w,¬ Q (.panic c) a w):∀ (l:jV) (listed:Array Bool) (a:Act) (w:World),du md ops l listed=true→Ep P ops Q l a w→lI P md ops Q l.len listed a w
 | .done,listed,a,w,hB,h=>⟨by simpa [du] using hB,h⟩
 | .rd i r,listed,a,w,hB,h=>by
  simp only [du,Bool.and_eq_true] at hB
  obtain ⟨⟨hr,hf⟩,hB'⟩:=hB
  obtain ⟨v,o,ho,hy,hK⟩:=h
  exact yg ho (Region.noSelect_spec hs) (fun c a w h=>absurd h (hQ c _ w)) r.len listed a w (Region.free_spec ho hf) (by simpa using hr) hy (f9 hs hQ r _ _ _ hB' hK)
 | .one i r,listed,a,w,hB,h=>by
  simp only [du,Bool.and_eq_true,beq_iff_eq] at hB
  refine ⟨fun h0=>(by rw [hB.1] at h0;cases h0),fun j hj n=>?_⟩
  rw [hB.1] at hj
  obtain rfl:=List.mem_singleton.1 hj
  exact wpOp_mono (fun a' w' h'=>⟨h'.1,f9 hs hQ r _ _ _ hB.2 h'.2⟩) (h n)
 | .two i r j m,listed,a,w,hB,h=>by
  simp only [du,Bool.and_eq_true,beq_iff_eq] at hB
  obtain ⟨⟨⟨h1,h2⟩,h3⟩,h4⟩:=hB
  refine ⟨fun h0=>(by rw [h1] at h0;cases h0),fun q hq n=>?_⟩
  rw [h1] at hq
  simp only [List.mem_cons,List.not_mem_nil,or_false] at hq
  rcases hq with rfl|rfl
  ·exact wpOp_mono (fun a' w' h'=>⟨h'.1,f9 hs hQ r _ _ _ h3 h'.2⟩) (h.1 n)
  ·refine wpOp_mono (fun a' w' h'=>⟨h'.1,?_⟩) (h.2 n)
   show lI P md ops Q r.len _ _ _
   rw [h2]
   exact f9 hs hQ m _ _ _ h4 h'.2
 | .three i r j m q0 l,listed,a,w,hB,h=>by
  simp only [du,Bool.and_eq_true,beq_iff_eq] at hB
  obtain ⟨⟨⟨⟨⟨h1,h2⟩,h2'⟩,h3⟩,h4⟩,h5⟩:=hB
  refine ⟨fun h0=>(by rw [h1] at h0;cases h0),fun q hq n=>?_⟩
  rw [h1] at hq
  simp only [List.mem_cons,List.not_mem_nil,or_false] at hq
  rcases hq with rfl|rfl|rfl
  ·exact wpOp_mono (fun a' w' h'=>⟨h'.1,f9 hs hQ r _ _ _ h3 h'.2⟩) (h.1 n)
  ·refine wpOp_mono (fun a' w' h'=>⟨h'.1,?_⟩) (h.2.1 n)
   show lI P md ops Q r.len _ _ _
   rw [h2]
   exact f9 hs hQ m _ _ _ h4 h'.2
  ·refine wpOp_mono (fun a' w' h'=>⟨h'.1,?_⟩) (h.2.2 n)
   show lI P md ops Q r.len _ _ _
   rw [h2']
   exact f9 hs hQ l _ _ _ h5 h'.2

inductive dO where
 | done
 | rd (o:Oper) (k:dO)
 | one (o:Oper) (k:dO)
 | two (o:Oper) (k:dO) (p:Oper) (m:dO)
 | three (o:Oper) (k:dO) (p:Oper) (m:dO) (q:Oper) (l:dO)

def az (ops:Array Oper):jV→dO
 | .done=>.done
 | .rd i k=>match ops[i]? with|some o=>.rd o (az ops k)|none=>.done
 | .one i k=>match ops[i]? with|some o=>.one o (az ops k)|none=>.done
 | .two i k j m=>match ops[i]?,ops[j]? with|some o,some p=>.two o (az ops k) p (az ops m)|_,_=>.done
 | .three i k j m q l=>match ops[i]?,ops[j]?,ops[q]? with|some o,some p,some r=>.three o (az ops k) p (az ops m) r (az ops l)|_,_,_=>.done

def yd (P:Program) (ops:Array Oper) (Q:Exit→Act→World→Prop):dO→Act→World→Prop
 | .done,a,w=>∀ n:kC w,Q .normal a n.w
 | .rd o r,a,w=>∃ v,fC P ops w o v a∧yd P ops Q r (a.put o.dst v) w
 | .one o r,a,w=>∀ n:kC w,if Region.wanted o (yielded ops a.tmps) then o.wp P a n.w (fun a' w'=>Below n.w.heap.size n.w w'∧yd P ops Q r a' w') Q else yd P ops Q r (a.put o.dst undef) w
 | .two o r p m,a,w =>
  (∀ n:kC w,if Region.wanted o (yielded ops a.tmps) then o.wp P a n.w (fun a' w'=>Below n.w.heap.size n.w w'∧yd P ops Q r a' w') Q else yd P ops Q r (a.put o.dst undef) w) ∧
  (∀ n:kC w,if Region.wanted p (yielded ops a.tmps) then p.wp P a n.w (fun a' w'=>Below n.w.heap.size n.w w'∧yd P ops Q m a' w') Q else yd P ops Q m (a.put p.dst undef) w)
 | .three o r p m q l,a,w =>
  (∀ n:kC w,if Region.wanted o (yielded ops a.tmps) then o.wp P a n.w (fun a' w'=>Below n.w.heap.size n.w w'∧yd P ops Q r a' w') Q else yd P ops Q r (a.put o.dst undef) w) ∧
  (∀ n:kC w,if Region.wanted p (yielded ops a.tmps) then p.wp P a n.w (fun a' w'=>Below n.w.heap.size n.w w'∧yd P ops Q m a' w') Q else yd P ops Q m (a.put p.dst undef) w) ∧
  (∀ n:kC w,if Region.wanted q (yielded ops a.tmps) then q.wp P a n.w (fun a' w'=>Below n.w.heap.size n.w w'∧yd P ops Q l a' w') Q else yd P ops Q l (a.put q.dst undef) w)

theorem ku {i:Nat} {o:Oper} {a:Act} {w:World} {k:jV} {r:dO} (ho:ops[i]?=some o) (hk:∀ a' w',yd P ops Q r a' w'→Ep P ops Q k a' w')
  (h:∀ n:kC w,if Region.wanted o (yielded ops a.tmps) then o.wp P a n.w (fun a' w'=>Below n.w.heap.size n.w w'∧yd P ops Q r a' w') Q else yd P ops Q r (a.put o.dst undef) w) :
  ∀ n:kC w,wpOp P ops Q i (fun a' w'=>Below n.w.heap.size n.w w'∧Ep P ops Q k a' w') a n.w:=by
 intro n
 have h:=h n
 unfold wpOp
 simp only [ho]
 split
 ·rename_i hw
  rw [if_pos hw] at h
  exact .inl (Oper.wp_mono (fun a' w' h'=>⟨h'.1,hk _ _ h'.2⟩) h)
 ·rename_i hw
  rw [if_neg hw] at h
  exact ⟨Below.refl _ _,zF k _ _ _ n.below (hk _ _ h)⟩

theorem jm:∀ (l:jV) (a:Act) (w:World),l.within ops.size=true→yd P ops Q (az ops l) a w→Ep P ops Q l a w
 | .done,_,_,_,h=>h
 | .rd i k,a,w,hl,h=>by
  simp only [jV.within,Bool.and_eq_true,decide_eq_true_eq] at hl
  have ho:ops[i]?=some ops[i]:=Array.getElem?_eq_getElem hl.1
  simp only [az,ho] at h
  obtain ⟨v,hy,hk⟩:=h
  exact ⟨v,ops[i],ho,hy,jm k _ _ hl.2 hk⟩
 | .one i k,a,w,hl,h=>by
  simp only [jV.within,Bool.and_eq_true,decide_eq_true_eq] at hl
  have ho:ops[i]?=some ops[i]:=Array.getElem?_eq_getElem hl.1
  simp only [az,ho] at h
  exact ku ho (fun a' w'=>jm k a' w' hl.2) h
 | .two i k j m,a,w,hl,h=>by
  simp only [jV.within,Bool.and_eq_true,decide_eq_true_eq] at hl
  have ho:ops[i]?=some ops[i]:=Array.getElem?_eq_getElem hl.1.1.1
  have hp:ops[j]?=some ops[j]:=Array.getElem?_eq_getElem hl.1.2
  simp only [az,ho,hp] at h
  exact ⟨ku ho (fun a' w'=>jm k a' w' hl.1.1.2) h.1,ku hp (fun a' w'=>jm m a' w' hl.2) h.2⟩
 | .three i k j m q l,a,w,hl,h=>by
  simp only [jV.within,Bool.and_eq_true,decide_eq_true_eq] at hl
  have ho:ops[i]?=some ops[i]:=Array.getElem?_eq_getElem hl.1.1.1.1.1
  have hp:ops[j]?=some ops[j]:=Array.getElem?_eq_getElem hl.1.1.1.2
  have hq:ops[q]?=some ops[q]:=Array.getElem?_eq_getElem hl.1.2
  simp only [az,ho,hp,hq] at h
  exact ⟨ku ho (fun a' w'=>jm k a' w' hl.1.1.1.1.2) h.1,ku hp (fun a' w'=>jm m a' w' hl.1.1.2) h.2.1,ku hq (fun a' w'=>jm l a' w' hl.2) h.2.2⟩

theorem PQ {a:Act} {w:World} (l:jV) (hs:Region.noSelect ops=true) (hl:l.len=ops.size)
  (hin:l.within ops.size=true)
  (hB:du .any ops l (Array.replicate ops.size false)=true) (h:yd P ops (NoPanic Q) (az ops l) a w):wpAny P .any ops (NoPanic Q) ops.size (Array.replicate ops.size false) a w.drew:=by
 refine uf _ _ _ _ (nK _ _ _ _ _ (jQ w) ?_)
 have:=f9 hs (fun c a w h=>h) l _ a w hB (jm l a w hin h)
 rwa [hl] at this
end
end Go.Proofs.YthlpfjnkieaeeaaGreatDoor
namespace Go.Proofs.YthlpfjnkieaeeaaGreatDoor
set_option linter.unusedVariables false
open Go.RowKit
section
variable {P:Program} {ops:Array Oper} {Q:Exit→Act→World→Prop} {md:Region.Mode} {m:Nat} {R:Act→World→Prop}

def jJ (m:Nat) (listed:Array Bool):Bool:=(List.range m).all fun i=>listed.getD i false
theorem kR {listed:Array Bool}:jJ m listed=true↔∀ i,i<m→listed.getD i false=true:=by
 simp [jJ,List.all_eq_true]
def iK (md:Region.Mode) (ops:Array Oper) (listed:Array Bool):Prop:=∀ (i:Nat) o,ops[i]?=some o→listed.getD i false=true→∀ e ∈ o.after,Region.binds md e=true→listed.getD e.on false=true
def mZ (md:Region.Mode) (ops:Array Oper) (m:Nat):Bool :=
 ((List.range m).all fun i=>(List.range (m+1)).any fun k=>Nat.blt i k && (ops[k]?).any fun o=>o.after.any fun e=>Region.binds md e && e.on == i) &&
 ((List.range ops.size).all fun j=>Nat.ble j m || (List.range j).any fun k=>Nat.ble m k && (ops[j]?).any fun o=>o.after.any fun e=>Region.binds md e && e.on == k)

theorem any_some {α:Type} {p:α→Bool} {x:Option α} (h:x.any p=true):∃ o,x=some o∧p o=true:=by
 cases x with
 | none=>cases h
 | some o=>exact ⟨o,rfl,h⟩
theorem AE {listed:Array Bool} {i j:Nat} (hji:j≠i) (h0:listed.getD j true=false) (h1:(listed.setIfInBounds i true).getD j false=true):False:=by
 have e:(listed.setIfInBounds i true)[j]?=listed[j]?:=Array.getElem?_setIfInBounds_ne (Ne.symm hji)
 simp only [Array.getD_eq_getD_getElem?] at h0 h1
 rw [e] at h1
 cases h:listed[j]? with
 | none=>rw [h] at h0;cases h0
 | some b=>rw [h] at h0 h1;simp at h0 h1;rw [h0] at h1;cases h1
theorem Bv (hc:mZ md ops m=true) {listed:Array Bool} (hcl:iK md ops listed):∀ (n j:Nat),j=m+n→(∀ o,ops[j]?=some o→∀ e ∈ o.after,Region.binds md e=true→listed.getD e.on false=true)→j<ops.size→jJ m listed=true:=by
 simp only [mZ,Bool.and_eq_true,List.all_eq_true,List.any_eq_true,List.mem_range,Bool.or_eq_true] at hc
 obtain ⟨h1,h2⟩:=hc
 intro n
 induction n using Nat.strongRecOn with
 | _ n ih =>
  intro j hj hr hlt
  by_cases hn:n=0
  ·subst hn
   have hj:j=m:=by omega
   subst hj
   rw [kR]
   have key:∀ d i,i+d=j→d≠0→listed.getD i false=true:=by
    intro d
    induction d using Nat.strongRecOn with
    | _ d ihd =>
     intro i hid hd
     obtain ⟨k,hk,hk2⟩:=h1 i jO
     obtain ⟨hik,hk3⟩:=hk2
     have hik:i<k:=Nat.le_of_ble_eq_true hik
     obtain ⟨o,ho,ha⟩:=any_some hk3
     obtain ⟨e,he,hbe⟩:=Array.any_eq_true'.1 ha
     simp only [Bool.and_eq_true,beq_iff_eq] at hbe
     by_cases hkj:k=j
     ·subst hkj
      have:=hr o ho e he hbe.1
      rwa [hbe.2] at this
     ·have:=hcl k o ho (ihd (j-k) jO k jO jO) e he hbe.1
      rwa [hbe.2] at this
   intro i hi
   exact key (j-i) i jO jO
  ·have h3:=h2 j hlt
   rcases h3 with h3|⟨k,hk,hk2,hk3⟩
   ·have:=Nat.le_of_ble_eq_true h3;omega
   ·have hk2:m≤k:=Nat.le_of_ble_eq_true hk2
    obtain ⟨o,ho,ha⟩:=any_some hk3
    obtain ⟨e,he,hbe⟩:=Array.any_eq_true'.1 ha
    simp only [Bool.and_eq_true,beq_iff_eq] at hbe
    have hl:=hr o ho e he hbe.1
    rw [hbe.2] at hl
    refine ih (k-m) jO k jO (fun o' ho' e' he' hb'=>hcl k o' ho' hl e' he' hb') ?_
    omega

theorem uO (hc:mZ md ops m=true) {listed:Array Bool} (hcl:iK md ops listed) (hf:jJ m listed=false) {j:Nat} (hj:j ∈ Region.ready md ops listed):j<m:=by
 rcases Nat.lt_or_ge j m with h|h
 ·exact h
 ·obtain ⟨hun,o,ho,hall⟩:=mem_ready.1 hj
  have:=Bv hc hcl (j-m) j jO (fun o' ho' e he hb=>by
   rw [ho] at ho';cases ho'
   exact hall e he hb) (Array.getElem?_eq_some_iff.1 ho).1
  rw [this] at hf;cases hf

def Es (P:Program) (md:Region.Mode) (ops:Array Oper) (Q:Exit→Act→World→Prop) (m:Nat) (R:Act→World→Prop):Nat→Array Bool→Act→World→Prop
 | 0,listed,a,w=>jJ m listed=true∧∀ n:kC w,R a n.w
 | f+1,listed,a,w=>(jJ m listed=true→∀ n:kC w,R a n.w) ∧
  (jJ m listed=false→Region.ready md ops listed≠[]∧∀ i ∈ Region.ready md ops listed,∀ n:kC w,wpOp P ops Q i (fun a' w'=>Below n.w.heap.size n.w w'∧Es P md ops Q m R f (listed.setIfInBounds i true) a' w') a n.w)

theorem ud:∀ (f:Nat) (listed:Array Bool) (a:Act) (w W:World),Below w.heap.size w W→Es P md ops Q m R f listed a w→Es P md ops Q m R f listed a W
 | 0,_,_,_,_,hb,h=>⟨h.1,fun n=>h.2 (n.up hb)⟩
 | _+1,_,_,_,_,hb,h=>⟨fun h0 n=>h.1 h0 (n.up hb),fun h0=>⟨(h.2 h0).1,fun i hi n=>(h.2 h0).2 i hi (n.up hb)⟩⟩

theorem pG {listed:Array Bool} {i j:Nat} (h:listed.getD j false=true):(listed.setIfInBounds i true).getD j false=true:=by
 by_cases hij:i=j
 ·subst hij
  have:i<listed.size:=by
   rcases Nat.lt_or_ge i listed.size with h'|h'
   ·exact h'
   ·simp [Array.getElem?_eq_none h'] at h
  simp [this]
 ·simpa [Array.getElem?_setIfInBounds_ne hij] using h

theorem ci {listed:Array Bool} (hcl:iK md ops listed) {i:Nat} (hi:i ∈ Region.ready md ops listed):iK md ops (listed.setIfInBounds i true):=by
 obtain ⟨hun,oi,hoi,hall⟩:=mem_ready.1 hi
 intro k o ho hk e he hb
 by_cases hik:k=i
 ·subst hik
  rw [hoi] at ho;cases ho
  exact pG (hall e he hb)
 ·have hk':listed.getD k false=true:=by simpa [Array.getElem?_setIfInBounds_ne (Ne.symm hik)] using hk
  exact pG (hcl k o ho hk' e he hb)

theorem Er {i:Nat} {oi:Oper} {v:Value} (hc:mZ md ops m=true) (hi:ops[i]?=some oi) (him:i<m) (hsel:∀ (j:Nat) (o:Oper) cs b,ops[j]?=some o→o.op≠.select cs b)
  (hQ:∀ c a w,Q (.panic c) (a.put oi.dst v) w→Q (.panic c) a w) :
  ∀ (fuel:Nat) (listed:Array Bool) (a:Act) (w:World),iK md ops listed →
   (∀ j oj,ops[j]?=some oj→j<m→j≠i→listed.getD j true=false→(∀ e ∈ oj.after,Region.binds md e=true→e.on≠i)→oi.apart ops oj=true) →
   i ∈ Region.ready md ops listed→fC P ops w oi v a →
   Es P md ops Q m R fuel (listed.setIfInBounds i true) (a.put oi.dst v) w→Es P md ops Q m R (fuel+1) listed a w:=by
 have nf:∀ {listed:Array Bool},i ∈ Region.ready md ops listed→jJ m listed=false:=fun {listed} hr=>by
  cases h:jJ m listed with
  | false=>rfl
  | true =>
   have:=kR.1 h i him
   have h0:=(mem_ready.1 hr).1
   rcases Nat.lt_or_ge i listed.size with h'|h'
   ·simp [h'] at h0 this;rw [h0] at this;cases this
   ·simp [Array.getElem?_eq_none h'] at this
 intro fuel
 induction fuel with
 | zero =>
  intro listed a w hcl _ hr hy H
  have hnf:=nf hr
  refine ⟨fun h=>(by rw [hnf] at h;cases h),fun _=>⟨(by intro h;rw [h] at hr;cases hr),fun j hj n=>?_⟩⟩
  by_cases hji:j=i
  ·subst hji
   exact YieldsIf.wpOp hi hy n.below ⟨Below.refl _ _,ud 0 _ _ _ _ n.below H⟩
  ·have hjm:=uO hc hcl hnf hj
   have h1:=kR.1 H.1 j hjm
   exact (AE hji (mem_ready.1 hj).1 h1).elim
 | succ fuel ih =>
  intro listed a w hcl hfree hr hy H
  have hnf:=nf hr
  refine ⟨fun h=>(by rw [hnf] at h;cases h),fun _=>⟨(by intro h;rw [h] at hr;cases hr),fun j hj n=>?_⟩⟩
  by_cases hji:j=i
  ·subst hji
   exact YieldsIf.wpOp hi hy n.below ⟨Below.refl _ _,ud (fuel+1) _ _ _ _ n.below H⟩
  ·have hjm:=uO hc hcl hnf hj
   obtain ⟨hjun,oj,hoj,hall⟩:=mem_ready.1 hj
   have hnf2:jJ m (listed.setIfInBounds i true)=false:=by
    cases h:jJ m (listed.setIfInBounds i true) with
    | false=>rfl
    | true =>
     have h1:=kR.1 h j hjm
     exact (AE hji hjun h1).elim
   have h1:=(H.2 hnf2).2 j (ready_mono hj hji) n
   have hnot:∀ e ∈ oj.after,Region.binds md e=true→e.on≠i:=fun e he hb heq=>by
    have h1:=hall e he hb
    have h0:=(mem_ready.1 hr).1
    rw [heq] at h1
    rcases Nat.lt_or_ge i listed.size with h'|h'
    ·simp [h'] at h0 h1;rw [h0] at h1;cases h1
    ·simp [Array.getElem?_eq_none h'] at h1
   have h2:=wpOp_putIf hoj (hfree j oj hoj hjm hji hjun hnot) (fun cs b=>hsel i oi cs b hi) (fun cs b=>hsel j oj cs b hoj) hQ (fC.mono n.below hy) h1
   have hfree':∀ k ok,ops[k]?=some ok→k<m→k≠i→(listed.setIfInBounds j true).getD k true=false →
     (∀ e ∈ ok.after,Region.binds md e=true→e.on≠i)→oi.apart ops ok=true:=fun k ok hk hkm hki hun hno=>by
    refine hfree k ok hk hkm hki ?_ hno
    by_cases hjk:j=k
    ·subst hjk;exact hjun
    ·rw [getD_set_ne true hjk] at hun;exact hun
   refine wpOp_mono (fun a' w' h3=>⟨h3.2.1,ih (listed.setIfInBounds j true) a' w' (ci hcl hj) hfree' (ready_mono hr (Ne.symm hji)) (fC.mono h3.2.1 h3.1) ?_⟩) h2
   rw [Array.setIfInBounds_comm _ _ hji]
   exact h3.2.2

def rI (P:Program) (ops:Array Oper) (Q:Exit→Act→World→Prop) (R:Act→World→Prop):jV→Act→World→Prop
 | .done,a,w=>∀ n:kC w,R a n.w
 | .rd i k,a,w=>∃ v o,ops[i]?=some o∧fC P ops w o v a∧rI P ops Q R k (a.put o.dst v) w
 | .one i k,a,w=>∀ n:kC w,wpOp P ops Q i (fun a' w'=>Below n.w.heap.size n.w w'∧rI P ops Q R k a' w') a n.w
 | .two i k j l,a,w =>
  (∀ n:kC w,wpOp P ops Q i (fun a' w'=>Below n.w.heap.size n.w w'∧rI P ops Q R k a' w') a n.w) ∧
  (∀ n:kC w,wpOp P ops Q j (fun a' w'=>Below n.w.heap.size n.w w'∧rI P ops Q R l a' w') a n.w)
 | .three i k j l q u,a,w =>
  (∀ n:kC w,wpOp P ops Q i (fun a' w'=>Below n.w.heap.size n.w w'∧rI P ops Q R k a' w') a n.w) ∧
  (∀ n:kC w,wpOp P ops Q j (fun a' w'=>Below n.w.heap.size n.w w'∧rI P ops Q R l a' w') a n.w) ∧
  (∀ n:kC w,wpOp P ops Q q (fun a' w'=>Below n.w.heap.size n.w w'∧rI P ops Q R u a' w') a n.w)

def Jc (md:Region.Mode) (ops:Array Oper) (m:Nat) (listed:Array Bool) (i:Nat):Bool:=match ops[i]? with
 | none=>false
 | some oi=>(List.range m).all fun j=>Nat.beq j i || listed.getD j true || match ops[j]? with|none=>true|some oj=>(oj.after.any fun e=>Region.binds md e && e.on == i) || oi.apart ops oj
theorem CX {listed:Array Bool} {i:Nat} {oi:Oper} (hi:ops[i]?=some oi) (h:Jc md ops m listed i=true) :
  ∀ j oj,ops[j]?=some oj→j<m→j≠i→listed.getD j true=false→(∀ e ∈ oj.after,Region.binds md e=true→e.on≠i)→oi.apart ops oj=true:=by
 intro j oj hj hjm hji hun hno
 simp only [Jc,hi,List.all_eq_true,List.mem_range] at h
 have:=h j hjm
 simp only [hun,hj,Bool.or_false,Bool.or_eq_true] at this
 rcases this with h1|h1|h1
 ·exact absurd (Nat.eq_of_beq_eq_true h1) hji
 ·obtain ⟨e,he,hb⟩:=Array.any_eq_true'.1 h1
  simp only [Bool.and_eq_true,beq_iff_eq] at hb
  exact absurd hb.2 (hno e he hb.1)
 ·exact h1

def fB (md:Region.Mode) (ops:Array Oper) (m:Nat):jV→Array Bool→Bool
 | .done,listed=>jJ m listed
 | .rd i k,listed=>(Region.ready md ops listed).contains i && Nat.blt i m && Jc md ops m listed i && fB md ops m k (listed.setIfInBounds i true)
 | .one i k,listed=>!jJ m listed && Region.ready md ops listed == [i] && fB md ops m k (listed.setIfInBounds i true)
 | .two i k j l,listed=>!jJ m listed && Region.ready md ops listed == [i,j] && (k.len == l.len) && fB md ops m k (listed.setIfInBounds i true) && fB md ops m l (listed.setIfInBounds j true)
 | .three i k j l q u,listed=>!jJ m listed && Region.ready md ops listed == [i,j,q] && (k.len == l.len) && (k.len == u.len) && fB md ops m k (listed.setIfInBounds i true) && fB md ops m l (listed.setIfInBounds j true) && fB md ops m u (listed.setIfInBounds q true)

theorem nJ (hc:mZ md ops m=true) (hs:Region.noSelect ops=true) (hQ:∀ c a w,¬ Q (.panic c) a w):∀ (l:jV) (listed:Array Bool) (a:Act) (w:World),iK md ops listed→fB md ops m l listed=true→rI P ops Q R l a w→Es P md ops Q m R l.len listed a w
 | .done,listed,a,w,_,hB,h=>⟨hB,h⟩
 | .rd i r,listed,a,w,hcl,hB,h=>by
  simp only [fB,Bool.and_eq_true] at hB
  obtain ⟨⟨⟨hr,him⟩,hf⟩,hB'⟩:=hB
  obtain ⟨v,o,ho,hy,hK⟩:=h
  have hr':i ∈ Region.ready md ops listed:=by simpa using hr
  exact Er hc ho (Nat.le_of_ble_eq_true him) (Region.noSelect_spec hs) (fun c a w h=>absurd h (hQ c _ w)) r.len listed a w hcl (CX ho hf) hr' hy (nJ hc hs hQ r _ _ _ (ci hcl hr') hB' hK)
 | .one i r,listed,a,w,hcl,hB,h=>by
  simp only [fB,Bool.and_eq_true,beq_iff_eq,Bool.not_eq_true'] at hB
  obtain ⟨⟨hnf,hr⟩,hB'⟩:=hB
  have hi:i ∈ Region.ready md ops listed:=by rw [hr];exact List.mem_singleton.2 rfl
  refine ⟨fun h0=>(by rw [hnf] at h0;cases h0),fun _=>⟨(by rw [hr];simp),fun j hj n=>?_⟩⟩
  rw [hr] at hj
  obtain rfl:=List.mem_singleton.1 hj
  exact wpOp_mono (fun a' w' h'=>⟨h'.1,nJ hc hs hQ r _ _ _ (ci hcl hi) hB' h'.2⟩) (h n)
 | .two i r j l,listed,a,w,hcl,hB,h=>by
  simp only [fB,Bool.and_eq_true,beq_iff_eq,Bool.not_eq_true'] at hB
  obtain ⟨⟨⟨⟨hnf,h1⟩,h2⟩,h3⟩,h4⟩:=hB
  have hi:i ∈ Region.ready md ops listed:=by rw [h1];simp
  have hj:j ∈ Region.ready md ops listed:=by rw [h1];simp
  refine ⟨fun h0=>(by rw [hnf] at h0;cases h0),fun _=>⟨(by rw [h1];simp),fun q hq n=>?_⟩⟩
  rw [h1] at hq
  simp only [List.mem_cons,List.not_mem_nil,or_false] at hq
  rcases hq with rfl|rfl
  ·exact wpOp_mono (fun a' w' h'=>⟨h'.1,nJ hc hs hQ r _ _ _ (ci hcl hi) h3 h'.2⟩) (h.1 n)
  ·refine wpOp_mono (fun a' w' h'=>⟨h'.1,?_⟩) (h.2 n)
   show Es P md ops Q m R r.len _ _ _
   rw [h2]
   exact nJ hc hs hQ l _ _ _ (ci hcl hj) h4 h'.2
 | .three i r j l q0 u,listed,a,w,hcl,hB,h=>by
  simp only [fB,Bool.and_eq_true,beq_iff_eq,Bool.not_eq_true'] at hB
  obtain ⟨⟨⟨⟨⟨⟨hnf,h1⟩,h2⟩,h2'⟩,h3⟩,h4⟩,h5⟩:=hB
  have hi:i ∈ Region.ready md ops listed:=by rw [h1];simp
  have hj:j ∈ Region.ready md ops listed:=by rw [h1];simp
  have hq0:q0 ∈ Region.ready md ops listed:=by rw [h1];simp
  refine ⟨fun h0=>(by rw [hnf] at h0;cases h0),fun _=>⟨(by rw [h1];simp),fun q hq n=>?_⟩⟩
  rw [h1] at hq
  simp only [List.mem_cons,List.not_mem_nil,or_false] at hq
  rcases hq with rfl|rfl|rfl
  ·exact wpOp_mono (fun a' w' h'=>⟨h'.1,nJ hc hs hQ r _ _ _ (ci hcl hi) h3 h'.2⟩) (h.1 n)
  ·refine wpOp_mono (fun a' w' h'=>⟨h'.1,?_⟩) (h.2.1 n)
   show Es P md ops Q m R r.len _ _ _
   rw [h2]
   exact nJ hc hs hQ l _ _ _ (ci hcl hj) h4 h'.2
  ·refine wpOp_mono (fun a' w' h'=>⟨h'.1,?_⟩) (h.2.2 n)
   show Es P md ops Q m R r.len _ _ _
   rw [h2']
   exact nJ hc hs hQ u _ _ _ (ci hcl hq0) h5 h'.2

theorem uh:∀ (f k:Nat) (listed:Array Bool) (a:Act) (w:World),wpAny P md ops Q f listed a w→wpAny P md ops Q (f+k) listed a w
 | 0,0,_,_,_,h=>h
 | 0,k+1,listed,a,w,h=>by
  rw [Nat.zero_add]
  exact ⟨fun _=>h.2,fun i hi=>(by rw [h.1] at hi;cases hi)⟩
 | f+1,k,listed,a,w,h=>by
  rw [Nat.add_right_comm]
  exact ⟨h.1,fun i hi=>wpOp_mono (fun a' w' h'=>uh f k _ a' w' h') (h.2 i hi)⟩

def wB (m n:Nat):Array Bool:=(List.replicate m true++List.replicate (n-m) false).toArray
theorem ve {listed:Array Bool} (hm:m≤ops.size) (hsz:listed.size=ops.size) (hf:jJ m listed=true) (ht:∀ j,m≤j→listed.getD j false=false):listed=wB m ops.size:=by
 apply Array.ext_getElem?
 intro j
 rcases Nat.lt_or_ge j listed.size with h|h
 ·have e:listed[j]?=some (listed.getD j false):=by simp [h]
  rw [e]
  rcases Nat.lt_or_ge j m with h1|h1
  ·rw [kR.1 hf j h1]
   simp [wB,List.getElem?_append,h1]
  ·rw [ht j h1]
   simp [wB,List.getElem?_append,show ¬ j<m by omega,show j-m<ops.size-m by omega]
 ·rw [Array.getElem?_eq_none h]
  simp [wB]
  omega

theorem ug (hc:mZ md ops m=true) (hm:m≤ops.size) (g:Nat):∀ (f:Nat) (listed:Array Bool) (a:Act) (w:World),listed.size=ops.size→iK md ops listed→(∀ j,m≤j→listed.getD j false=false) →
  Es P md ops Q m (fun a w=>wpAny P md ops Q g (wB m ops.size) a w) f listed a w→wpAny P md ops Q (f+g) listed a w
 | 0,listed,a,w,hsz,_,ht,h=>by
  rw [Nat.zero_add,ve hm hsz h.1 ht]
  exact h.2 ⟨w,Below.refl _ _⟩
 | f+1,listed,a,w,hsz,hcl,ht,h=>by
  cases hf:jJ m listed with
  | true =>
   rw [ve hm hsz hf ht,Nat.add_comm]
   exact uh g (f+1) _ a w (h.1 hf ⟨w,Below.refl _ _⟩)
  | false =>
   obtain ⟨hne,h2⟩:=h.2 hf
   rw [Nat.add_right_comm]
   refine ⟨fun h0=>absurd h0 hne,fun i hi=>wpOp_mono (fun a' w' h'=>ug hc hm g f _ a' w' (by simp [hsz]) (ci hcl hi) (fun j hj=>?_) h'.2) (h2 i hi ⟨w,Below.refl _ _⟩)⟩
   have him:=uO hc hcl hf hi
   have:=ht j hj
   simpa [Array.getElem?_setIfInBounds_ne (show i≠j by omega)] using this

def uo (md:Region.Mode) (ops:Array Oper):Nat→Nat→Array Bool→Bool
 | 0,_,listed=>Region.ready md ops listed == []
 | f+1,i,listed=>Region.ready md ops listed == [i] && uo md ops f (i+1) (listed.setIfInBounds i true)
theorem pJ:∀ (f i:Nat) (listed:Array Bool) (a:Act) (w:World),uo md ops f i listed=true→wpOps P ops Q ((List.range f).map (i+·)) a w→wpAny P md ops Q f listed a w
 | 0,i,listed,a,w,hB,h=>⟨by simpa [uo] using hB,by simpa [wpOps] using h⟩
 | f+1,i,listed,a,w,hB,h=>by
  simp only [uo,Bool.and_eq_true,beq_iff_eq] at hB
  refine ⟨fun h0=>(by rw [hB.1] at h0;cases h0),fun j hj=>?_⟩
  rw [hB.1] at hj
  obtain rfl:=List.mem_singleton.1 hj
  rw [List.range_succ_eq_map,List.map_cons,wpOps_cons,Nat.add_zero,List.map_map] at h
  have e:((fun x=>j+x) ∘ Nat.succ)=(fun x=>j+1+x):=funext fun x=>by simp;omega
  rw [e] at h
  exact wpOp_mono (fun a' w' h'=>pJ f (j+1) _ a' w' hB.2 h') h

def lP (P:Program) (ops:Array Oper) (Q:Exit→Act→World→Prop) (R:Act→World→Prop):dO→Act→World→Prop
 | .done,a,w=>∀ n:kC w,R a n.w
 | .rd o r,a,w=>∃ v,fC P ops w o v a∧lP P ops Q R r (a.put o.dst v) w
 | .one o r,a,w=>∀ n:kC w,if Region.wanted o (yielded ops a.tmps) then o.wp P a n.w (fun a' w'=>Below n.w.heap.size n.w w'∧lP P ops Q R r a' w') Q else lP P ops Q R r (a.put o.dst undef) w
 | .two o r p l,a,w =>
  (∀ n:kC w,if Region.wanted o (yielded ops a.tmps) then o.wp P a n.w (fun a' w'=>Below n.w.heap.size n.w w'∧lP P ops Q R r a' w') Q else lP P ops Q R r (a.put o.dst undef) w) ∧
  (∀ n:kC w,if Region.wanted p (yielded ops a.tmps) then p.wp P a n.w (fun a' w'=>Below n.w.heap.size n.w w'∧lP P ops Q R l a' w') Q else lP P ops Q R l (a.put p.dst undef) w)
 | .three o r p l q u,a,w =>
  (∀ n:kC w,if Region.wanted o (yielded ops a.tmps) then o.wp P a n.w (fun a' w'=>Below n.w.heap.size n.w w'∧lP P ops Q R r a' w') Q else lP P ops Q R r (a.put o.dst undef) w) ∧
  (∀ n:kC w,if Region.wanted p (yielded ops a.tmps) then p.wp P a n.w (fun a' w'=>Below n.w.heap.size n.w w'∧lP P ops Q R l a' w') Q else lP P ops Q R l (a.put p.dst undef) w) ∧
  (∀ n:kC w,if Region.wanted q (yielded ops a.tmps) then q.wp P a n.w (fun a' w'=>Below n.w.heap.size n.w w'∧lP P ops Q R u a' w') Q else lP P ops Q R u (a.put q.dst undef) w)
theorem wH:∀ (r:jV) (a:Act) (w W:World),Below w.heap.size w W→rI P ops Q R r a w→rI P ops Q R r a W
 | .done,_,_,_,hb,h=>fun n=>h (n.up hb)
 | .rd _ k,_,_,_,hb,⟨v,o,ho,hy,h⟩=>⟨v,o,ho,fC.mono hb hy,wH k _ _ _ hb h⟩
 | .one _ _,_,_,_,hb,h=>fun n=>h (n.up hb)
 | .two _ _ _ _,_,_,_,hb,h=>⟨fun n=>h.1 (n.up hb),fun n=>h.2 (n.up hb)⟩
 | .three _ _ _ _ _ _,_,_,_,hb,h=>⟨fun n=>h.1 (n.up hb),fun n=>h.2.1 (n.up hb),fun n=>h.2.2 (n.up hb)⟩
theorem iU {i:Nat} {o:Oper} {a:Act} {w:World} {k:jV} {r:dO} (ho:ops[i]?=some o) (hk:∀ a' w',lP P ops Q R r a' w'→rI P ops Q R k a' w')
  (h:∀ n:kC w,if Region.wanted o (yielded ops a.tmps) then o.wp P a n.w (fun a' w'=>Below n.w.heap.size n.w w'∧lP P ops Q R r a' w') Q else lP P ops Q R r (a.put o.dst undef) w) :
  ∀ n:kC w,wpOp P ops Q i (fun a' w'=>Below n.w.heap.size n.w w'∧rI P ops Q R k a' w') a n.w:=by
 intro n
 have h:=h n
 unfold wpOp
 simp only [ho]
 split
 ·rename_i hw
  rw [if_pos hw] at h
  exact .inl (Oper.wp_mono (fun a' w' h'=>⟨h'.1,hk _ _ h'.2⟩) h)
 ·rename_i hw
  rw [if_neg hw] at h
  exact ⟨Below.refl _ _,wH k _ _ _ n.below (hk _ _ h)⟩
theorem gX:∀ (l:jV) (a:Act) (w:World),l.within ops.size=true→lP P ops Q R (az ops l) a w→rI P ops Q R l a w
 | .done,_,_,_,h=>h
 | .rd i k,a,w,hl,h=>by
  simp only [jV.within,Bool.and_eq_true,decide_eq_true_eq] at hl
  have ho:ops[i]?=some ops[i]:=Array.getElem?_eq_getElem hl.1
  simp only [az,ho] at h
  obtain ⟨v,hy,hk⟩:=h
  exact ⟨v,ops[i],ho,hy,gX k _ _ hl.2 hk⟩
 | .one i k,a,w,hl,h=>by
  simp only [jV.within,Bool.and_eq_true,decide_eq_true_eq] at hl
  have ho:ops[i]?=some ops[i]:=Array.getElem?_eq_getElem hl.1
  simp only [az,ho] at h
  exact iU ho (fun a' w'=>gX k a' w' hl.2) h
 | .two i k j l,a,w,hl,h=>by
  simp only [jV.within,Bool.and_eq_true,decide_eq_true_eq] at hl
  have ho:ops[i]?=some ops[i]:=Array.getElem?_eq_getElem hl.1.1.1
  have hp:ops[j]?=some ops[j]:=Array.getElem?_eq_getElem hl.1.2
  simp only [az,ho,hp] at h
  exact ⟨iU ho (fun a' w'=>gX k a' w' hl.1.1.2) h.1,iU hp (fun a' w'=>gX l a' w' hl.2) h.2⟩
 | .three i k j l q u,a,w,hl,h=>by
  simp only [jV.within,Bool.and_eq_true,decide_eq_true_eq] at hl
  have ho:ops[i]?=some ops[i]:=Array.getElem?_eq_getElem hl.1.1.1.1.1
  have hp:ops[j]?=some ops[j]:=Array.getElem?_eq_getElem hl.1.1.1.2
  have hq:ops[q]?=some ops[q]:=Array.getElem?_eq_getElem hl.1.2
  simp only [az,ho,hp,hq] at h
  exact ⟨iU ho (fun a' w'=>gX k a' w' hl.1.1.1.1.2) h.1,iU hp (fun a' w'=>gX l a' w' hl.1.1.2) h.2.1,iU hq (fun a' w'=>gX u a' w' hl.2) h.2.2⟩

theorem w5 (n i:Nat):(Array.replicate n false).getD i false=false:=by
 rcases Nat.lt_or_ge i n with h|h
 ·simp [h]
 ·simp [Nat.not_lt.2 h]
theorem oA (n:Nat):iK md ops (Array.replicate n false):=fun i o _ hi=>by rw [w5] at hi;cases hi
theorem dI:∀ (t:dO) (a:Act) (w:World),lP P ops Q (Q .normal) t a w→yd P ops Q t a w
 | .done,_,_,h=>h
 | .rd _ r,_,_,⟨v,hy,h⟩=>⟨v,hy,dI r _ _ h⟩
 | .one o r,a,w,h=>fun n=>by
  have h:=h n
  split
  ·rename_i hw;rw [if_pos hw] at h;exact Oper.wp_mono (fun a' w' h'=>⟨h'.1,dI r _ _ h'.2⟩) h
  ·rename_i hw;rw [if_neg hw] at h;exact dI r _ _ h
 | .two o r p l,a,w,h=>⟨fun n=>by
  have h:=h.1 n
  split
  ·rename_i hw;rw [if_pos hw] at h;exact Oper.wp_mono (fun a' w' h'=>⟨h'.1,dI r _ _ h'.2⟩) h
  ·rename_i hw;rw [if_neg hw] at h;exact dI r _ _ h,fun n=>by
  have h:=h.2 n
  split
  ·rename_i hw;rw [if_pos hw] at h;exact Oper.wp_mono (fun a' w' h'=>⟨h'.1,dI l _ _ h'.2⟩) h
  ·rename_i hw;rw [if_neg hw] at h;exact dI l _ _ h⟩
 | .three o r p l q u,a,w,h=>⟨fun n=>by
  have h:=h.1 n
  split
  ·rename_i hw;rw [if_pos hw] at h;exact Oper.wp_mono (fun a' w' h'=>⟨h'.1,dI r _ _ h'.2⟩) h
  ·rename_i hw;rw [if_neg hw] at h;exact dI r _ _ h,fun n=>by
  have h:=h.2.1 n
  split
  ·rename_i hw;rw [if_pos hw] at h;exact Oper.wp_mono (fun a' w' h'=>⟨h'.1,dI l _ _ h'.2⟩) h
  ·rename_i hw;rw [if_neg hw] at h;exact dI l _ _ h,fun n=>by
  have h:=h.2.2 n
  split
  ·rename_i hw;rw [if_pos hw] at h;exact Oper.wp_mono (fun a' w' h'=>⟨h'.1,dI u _ _ h'.2⟩) h
  ·rename_i hw;rw [if_neg hw] at h;exact dI u _ _ h⟩

theorem OA {a:Act} {w:World} (m:Nat) (l:jV) (hs:Region.noSelect ops=true) (hm:Nat.ble m ops.size=true) (hl:l.len=m) (hin:l.within ops.size=true) (hc:mZ .any ops m=true)
  (hB:fB .any ops m l (Array.replicate ops.size false)=true) (ht:uo .any ops (ops.size-m) m (wB m ops.size)=true)
  (h:lP P ops (NoPanic Q) (fun a w=>wpOps P ops (NoPanic Q) ((List.range (ops.size-m)).map (m+·)) a w) (az ops l) a w):wpAny P .any ops (NoPanic Q) ops.size (Array.replicate ops.size false) a w.drew:=by
 have hm:=Nat.le_of_ble_eq_true hm
 have h1:=nJ (md:=.any) hc hs (fun c a w h=>h) l _ a w (oA _) hB (gX l a w hin h)
 have h2:=ud _ _ _ _ _ (jQ w) h1
 have h3:Es P .any ops (NoPanic Q) m (fun a w=>wpAny P .any ops (NoPanic Q) (ops.size-m) (wB m ops.size) a w) l.len (Array.replicate ops.size false) a w.drew:=by
  have mono:∀ (f:Nat) (listed:Array Bool) (a:Act) (w:World),Es P .any ops (NoPanic Q) m (fun a w=>wpOps P ops (NoPanic Q) ((List.range (ops.size-m)).map (m+·)) a w) f listed a w→Es P .any ops (NoPanic Q) m (fun a w=>wpAny P .any ops (NoPanic Q) (ops.size-m) (wB m ops.size) a w) f listed a w:=by
   intro f
   induction f with
   | zero=>exact fun listed a w h=>⟨h.1,fun n=>pJ _ _ _ _ _ ht (h.2 n)⟩
   | succ f ih=>exact fun listed a w h=>⟨fun h0 n=>pJ _ _ _ _ _ ht (h.1 h0 n),fun h0=>⟨(h.2 h0).1,fun i hi n=>wpOp_mono (fun a' w' h'=>⟨h'.1,ih _ a' w' h'.2⟩) ((h.2 h0).2 i hi n)⟩⟩
  exact mono _ _ _ _ h2
 have h4:=ug hc hm (ops.size-m) _ _ _ _ (by simp) (oA _) (fun j _=>w5 _ _) h3
 rw [hl,show m+(ops.size-m)=ops.size by omega] at h4
 exact h4
end
end Go.Proofs.YthlpfjnkieaeeaaGreatDoor
namespace Go.Proofs.YthlpfjnkieaeeaaGreatDoor
set_option linter.unusedVariables false
open Go.RowKit
def gK (S:Nat→Prop) (w W:World):Prop:=∀ b,S b→W.heap[b]?=w.heap[b]?
theorem gK.refl (S:Nat→Prop) (w:World):gK S w w:=fun _ _=>rfl
theorem gK.trans {S:Nat→Prop} {a b c:World} (h:gK S a b) (k:gK S b c):gK S a c:=fun x hx=>(k x hx).trans (h x hx)
section
variable {P:Program} {ops:Array Oper} {Q:Exit→Act→World→Prop} {md:Region.Mode} {S:Nat→Prop}

def gO (P:Program) (ops:Array Oper) (S:Nat→Prop) (w:World) (o:Oper) (v:Value) (a:Act):Prop:=YieldsIf P ops (fun W=>gK S w W) o v a
theorem gO.mono {w W:World} {o:Oper} {v:Value} {a:Act} (hb:gK S w W) (h:gO P ops S w o v a):gO P ops S W o v a :=
 h.imp (fun ⟨h1,h2⟩=>⟨h1,fun X hX=>h2 X (hb.trans hX)⟩) id

theorem gO.grow {S':Nat→Prop} {w:World} {o:Oper} {v:Value} {a:Act} (hs:∀ b,S b→S' b) (h:gO P ops S w o v a):gO P ops S' w o v a :=
 h.imp (fun ⟨h1,h2⟩=>⟨h1,fun X hX=>h2 X fun b hb=>hX b (hs b hb)⟩) id
def NS:List Nat:=[131,201,62]
def td (o:Oper):Bool:=match o.op with
 | .move _|.assign _|.pick ..|.load ..|.binOp ..|.unOp ..|.convert ..|.slice ..|.fieldAddr ..|.field ..|.indexAddr ..|.index ..|.extract ..|.nilCheck ..|.alloc ..|.box ..|.buildSlice ..|.call ⟨.builtin .len,_,_⟩|.call ⟨.builtin .cap,_,_⟩=>false
 | .call ⟨.value (.func f),_,_⟩=>!NS.any (Nat.beq f)
 | _=>true
def Mq (ops:Array Oper) (i:Nat):Nat→Nat→Bool
 | 0,_=>false
 | n+1,j=>(ops[j]?).any fun p=>(p.after.any fun e=>Region.binds .any e && Nat.beq e.on i) || p.after.any fun e=>Region.binds .any e && Mq ops i n e.on
theorem vP {ops:Array Oper} {listed:Array Bool} (hcl:iK .any ops listed) {i:Nat}:∀ (n j:Nat),Mq ops i n j=true→(∀ o,ops[j]?=some o→∀ e ∈ o.after,Region.binds .any e=true→listed.getD e.on false=true)→listed.getD i false=true
 | 0,_,h,_=>by cases h
 | n+1,j,h,hj=>by
  unfold Mq at h
  obtain ⟨p,hp⟩:∃ p,ops[j]?=some p:=by
   cases hp:ops[j]? with
   | none=>rw [hp] at h;cases h
   | some p=>exact ⟨p,rfl⟩
  rw [hp,Option.any_some] at h
  rcases Bool.or_eq_true_iff.1 h with h|h
  ·obtain ⟨q,hq,h5⟩:=Array.any_eq_true.1 h
   simp only [Bool.and_eq_true] at h5
   have:=hj p hp _ (Array.getElem_mem hq) h5.1
   rwa [Nat.eq_of_beq_eq_true h5.2] at this
  ·obtain ⟨q,hq,h5⟩:=Array.any_eq_true.1 h
   simp only [Bool.and_eq_true] at h5
   have hl:=hj p hp _ (Array.getElem_mem hq) h5.1
   exact vP hcl n _ h5.2 fun o ho e he hb=>hcl _ o ho hl e he hb
def zm (ops:Array Oper) (i:Nat):Bool:=(List.range ops.size).all fun j=>!((ops[j]?).any td) || Mq ops i 8 j
def Fn (ops:Array Oper) (o:Oper):Bool:=(List.range ops.size).all fun i=>!((ops[i]?).any fun q=>q.dst == o.dst) || zm ops i
def px (P:Program) (ops:Array Oper) (w:World) (o:Oper) (v:Value) (a:Act):Prop:=YieldsIf P ops (fun W=>Below w.heap.size w W) o v a
theorem px.mono {w W:World} {o:Oper} {v:Value} {a:Act} (hb:Below w.heap.size w W) (h:px P ops w o v a):px P ops W o v a :=
 h.imp (fun ⟨h1,h2⟩=>⟨h1,fun X hX=>h2 X (ng hb hX)⟩) id
def ni (S:Nat→Prop) (o:Option Oper) (w W:World):Prop:=gK S w W∧(o.any td=false→Below w.heap.size w W)
theorem ni.refl (S:Nat→Prop) (o:Option Oper) (w:World):ni S o w w:=⟨gK.refl S w,fun _=>Below.refl _ _⟩

def lH (P:Program) (md:Region.Mode) (ops:Array Oper) (Q:Exit→Act→World→Prop):(Nat→Prop)→Nat→Array Bool→Act→World→Prop
 | _,0,listed,a,w=>Region.ready md ops listed=[]∧Q .normal a w
 | S,fuel+1,listed,a,w =>
  (Region.ready md ops listed=[]→Q .normal a w) ∧
  ∀ i ∈ Region.ready md ops listed,wpOp P ops Q i (fun a' w'=>ni S ops[i]? w w'∧∃ S',(∀ b,S b→S' b)∧lH P md ops Q S' fuel (listed.setIfInBounds i true) a' w') a w

theorem ue:∀ (fuel:Nat) (S:Nat→Prop) (listed:Array Bool) (a:Act) (w:World),lH P md ops Q S fuel listed a w→wpAny P md ops Q fuel listed a w
 | 0,_,_,_,_,h=>h
 | fuel+1,_,_,_,_,h=>⟨h.1,fun i hi=>wpOp_mono (fun a' w' ⟨_,_,_,h'⟩=>ue fuel _ _ a' w' h') (h.2 i hi)⟩

theorem yf {i:Nat} {oi:Oper} {v:Value} (hi:ops[i]?=some oi) (hsel:∀ (j:Nat) (o:Oper) cs b,ops[j]?=some o→o.op≠.select cs b)
  (hQ:∀ c a w,Q (.panic c) (a.put oi.dst v) w→Q (.panic c) a w) :
  ∀ (fuel:Nat) (S:Nat→Prop) (listed:Array Bool) (a:Act) (w:World),
   (∀ j oj,ops[j]?=some oj→j≠i→listed.getD j true=false→(∀ e ∈ oj.after,Region.binds md e=true→e.on≠i)→oi.apart ops oj=true) →
   i ∈ Region.ready md ops listed→gO P ops S w oi v a →
   lH P md ops Q S fuel (listed.setIfInBounds i true) (a.put oi.dst v) w→lH P md ops Q S (fuel+1) listed a w:=by
 intro fuel
 induction fuel with
 | zero =>
  intro S listed a w _ hr hy H
  refine ⟨fun h=>(by rw [h] at hr;cases hr),fun j hj=>?_⟩
  by_cases hji:j=i
  ·subst hji
   exact YieldsIf.wpOp hi hy (gK.refl S w) ⟨ni.refl S _ w,S,fun _ h=>h,H⟩
  ·have:=ready_mono hj hji
   rw [H.1] at this
   cases this
 | succ fuel ih =>
  intro S listed a w hfree hr hy H
  refine ⟨fun h=>(by rw [h] at hr;cases hr),fun j hj=>?_⟩
  by_cases hji:j=i
  ·subst hji
   exact YieldsIf.wpOp hi hy (gK.refl S w) ⟨ni.refl S _ w,S,fun _ h=>h,H⟩
  ·have h1:=H.2 j (ready_mono hj hji)
   obtain ⟨hjun,oj,hoj,hall⟩:=mem_ready.1 hj
   have hnot:∀ e ∈ oj.after,Region.binds md e=true→e.on≠i:=fun e he hb heq=>by
    have h1:=hall e he hb
    have h0:=(mem_ready.1 hr).1
    rw [heq] at h1
    rcases Nat.lt_or_ge i listed.size with h'|h'
    ·simp [h'] at h0 h1;rw [h0] at h1;cases h1
    ·simp [Array.getElem?_eq_none h'] at h1
   have h2:=wpOp_putIf hoj (hfree j oj hoj hji hjun hnot) (fun cs b=>hsel i oi cs b hi) (fun cs b=>hsel j oj cs b hoj) hQ hy h1
   have hfree':∀ k ok,ops[k]?=some ok→k≠i→(listed.setIfInBounds j true).getD k true=false →
     (∀ e ∈ ok.after,Region.binds md e=true→e.on≠i)→oi.apart ops ok=true:=fun k ok hk hki hun hno=>by
    refine hfree k ok hk hki ?_ hno
    by_cases hjk:j=k
    ·subst hjk;exact hjun
    ·rw [getD_set_ne true hjk] at hun;exact hun
   refine wpOp_mono (fun a' w' ⟨h3,h4,S',hSS,h5⟩=>⟨h4,S',hSS,ih S' (listed.setIfInBounds j true) a' w' hfree' (ready_mono hr (Ne.symm hji)) (gO.grow hSS (gO.mono h4.1 h3)) ?_⟩) h2
   rw [Array.setIfInBounds_comm _ _ hji]
   exact h5

theorem wo {i:Nat} {oi:Oper} {v:Value} (hi:ops[i]?=some oi) (hbe:zm ops i=true) (hsel:∀ (j:Nat) (o:Oper) cs b,ops[j]?=some o→o.op≠.select cs b)
  (hQ:∀ c a w,Q (.panic c) (a.put oi.dst v) w→Q (.panic c) a w) :
  ∀ (fuel:Nat) (S:Nat→Prop) (listed:Array Bool) (a:Act) (w:World),iK .any ops listed →
   (∀ j oj,ops[j]?=some oj→j≠i→listed.getD j true=false→(∀ e ∈ oj.after,Region.binds .any e=true→e.on≠i)→oi.apart ops oj=true) →
   i ∈ Region.ready .any ops listed→px P ops w oi v a →
   lH P .any ops Q S fuel (listed.setIfInBounds i true) (a.put oi.dst v) w→lH P .any ops Q S (fuel+1) listed a w:=by
 intro fuel
 induction fuel with
 | zero =>
  intro S listed a w _ _ hr hy H
  refine ⟨fun h=>(by rw [h] at hr;cases hr),fun j hj=>?_⟩
  by_cases hji:j=i
  ·subst hji
   exact YieldsIf.wpOp hi hy (Below.refl _ _) ⟨ni.refl S _ w,S,fun _ h=>h,H⟩
  ·have:=ready_mono hj hji
   rw [H.1] at this
   cases this
 | succ fuel ih =>
  intro S listed a w hcl hfree hr hy H
  refine ⟨fun h=>(by rw [h] at hr;cases hr),fun j hj=>?_⟩
  by_cases hji:j=i
  ·subst hji
   exact YieldsIf.wpOp hi hy (Below.refl _ _) ⟨ni.refl S _ w,S,fun _ h=>h,H⟩
  ·have h1:=H.2 j (ready_mono hj hji)
   obtain ⟨hjun,oj,hoj,hall⟩:=mem_ready.1 hj
   have hnot:∀ e ∈ oj.after,Region.binds .any e=true→e.on≠i:=fun e he hb heq=>by
    have h1:=hall e he hb
    have h0:=(mem_ready.1 hr).1
    rw [heq] at h1
    rcases Nat.lt_or_ge i listed.size with h'|h'
    ·simp [h'] at h0 h1;rw [h0] at h1;cases h1
    ·simp [Array.getElem?_eq_none h'] at h1
   have hmod:td oj=false:=by
    cases hm:td oj with
    | false=>rfl
    | true =>
     have h3:=List.all_eq_true.1 hbe j (List.mem_range.2 (Array.getElem?_eq_some_iff.1 hoj).1)
     rw [hoj,Option.any_some,hm] at h3
     simp only [Bool.not_true,Bool.false_or] at h3
     have h4:=vP hcl 8 j h3 fun o ho e he hb=>by
      rw [hoj] at ho;cases ho
      exact hall e he hb
     have h5:=(mem_ready.1 hr).1
     rcases Nat.lt_or_ge i listed.size with h'|h'
     ·simp [h'] at h4 h5;rw [h4] at h5;cases h5
     ·simp [Array.getElem?_eq_none h'] at h4
   have h2:=wpOp_putIf hoj (hfree j oj hoj hji hjun hnot) (fun cs b=>hsel i oi cs b hi) (fun cs b=>hsel j oj cs b hoj) hQ hy h1
   have hfree':∀ k ok,ops[k]?=some ok→k≠i→(listed.setIfInBounds j true).getD k true=false →
     (∀ e ∈ ok.after,Region.binds .any e=true→e.on≠i)→oi.apart ops ok=true:=fun k ok hk hki hun hno=>by
    refine hfree k ok hk hki ?_ hno
    by_cases hjk:j=k
    ·subst hjk;exact hjun
    ·rw [getD_set_ne true hjk] at hun;exact hun
   refine wpOp_mono (fun a' w' ⟨h3,h4,S',hSS,h5⟩=>⟨h4,S',hSS,ih S' (listed.setIfInBounds j true) a' w' (ci hcl hj) hfree' (ready_mono hr (Ne.symm hji)) (px.mono (h4.2 (by rw [hoj];exact hmod)) h3) ?_⟩) h2
   rw [Array.setIfInBounds_comm _ _ hji]
   exact h5

def jl (P:Program) (ops:Array Oper) (Q:Exit→Act→World→Prop):(Nat→Prop)→dO→Act→World→Prop
 | _,.done,a,w=>Q .normal a w
 | S,.rd o r,a,w=>∃ v,(gO P ops S w o v a∨(Fn ops o=true∧px P ops w o v a))∧jl P ops Q S r (a.put o.dst v) w
 | S,.one o r,a,w=>if Region.wanted o (yielded ops a.tmps) then o.wp P a w (fun a' w'=>ni S (some o) w w'∧∃ S',(∀ b,S b→S' b)∧jl P ops Q S' r a' w') Q else ∃ S',(∀ b,S b→S' b)∧jl P ops Q S' r (a.put o.dst undef) w
 | S,.two o r p l,a,w =>
  (if Region.wanted o (yielded ops a.tmps) then o.wp P a w (fun a' w'=>ni S (some o) w w'∧∃ S',(∀ b,S b→S' b)∧jl P ops Q S' r a' w') Q else ∃ S',(∀ b,S b→S' b)∧jl P ops Q S' r (a.put o.dst undef) w) ∧
  (if Region.wanted p (yielded ops a.tmps) then p.wp P a w (fun a' w'=>ni S (some p) w w'∧∃ S',(∀ b,S b→S' b)∧jl P ops Q S' l a' w') Q else ∃ S',(∀ b,S b→S' b)∧jl P ops Q S' l (a.put p.dst undef) w)
 | S,.three o r p l q u,a,w =>
  (if Region.wanted o (yielded ops a.tmps) then o.wp P a w (fun a' w'=>ni S (some o) w w'∧∃ S',(∀ b,S b→S' b)∧jl P ops Q S' r a' w') Q else ∃ S',(∀ b,S b→S' b)∧jl P ops Q S' r (a.put o.dst undef) w) ∧
  (if Region.wanted p (yielded ops a.tmps) then p.wp P a w (fun a' w'=>ni S (some p) w w'∧∃ S',(∀ b,S b→S' b)∧jl P ops Q S' l a' w') Q else ∃ S',(∀ b,S b→S' b)∧jl P ops Q S' l (a.put p.dst undef) w) ∧
  (if Region.wanted q (yielded ops a.tmps) then q.wp P a w (fun a' w'=>ni S (some q) w w'∧∃ S',(∀ b,S b→S' b)∧jl P ops Q S' u a' w') Q else ∃ S',(∀ b,S b→S' b)∧jl P ops Q S' u (a.put q.dst undef) w)

theorem ni.lower {S S1:Nat→Prop} {o:Option Oper} {w W:World} (hs:∀ b,S b→S1 b) (h:ni S1 o w W):ni S o w W:=⟨fun b hb=>h.1 b (hs b hb),h.2⟩
theorem mn {S S1:Nat→Prop} {o:Oper} {r:dO} {a:Act} {w:World} (hs:∀ b,S b→S1 b) (h:jl P ops Q S1 (.one o r) a w):jl P ops Q S (.one o r) a w:=by
 unfold jl at h ⊢
 split
 ·rename_i hw
  rw [if_pos hw] at h
  exact Oper.wp_mono (fun a' w' ⟨h1,S',h2,h3⟩=>⟨h1.lower hs,S',fun b hb=>h2 b (hs b hb),h3⟩) h
 ·rename_i hw
  rw [if_neg hw] at h
  obtain ⟨S',h2,h3⟩:=h
  exact ⟨S',fun b hb=>h2 b (hs b hb),h3⟩

theorem iT {i:Nat} {o:Oper} {a:Act} {w:World} {K K':(Nat→Prop)→Act→World→Prop} (ho:ops[i]?=some o) (hk:∀ S a' w',K S a' w'→K' S a' w')
  (h:if Region.wanted o (yielded ops a.tmps) then o.wp P a w (fun a' w'=>ni S (some o) w w'∧∃ S',(∀ b,S b→S' b)∧K S' a' w') Q else ∃ S',(∀ b,S b→S' b)∧K S' (a.put o.dst undef) w):wpOp P ops Q i (fun a' w'=>ni S ops[i]? w w'∧∃ S',(∀ b,S b→S' b)∧K' S' a' w') a w:=by
 unfold wpOp
 simp only [ho]
 split
 ·rename_i hw
  rw [if_pos hw] at h
  exact .inl (Oper.wp_mono (fun a' w' h'=>⟨h'.1,let ⟨S',h1,h2⟩:=h'.2;⟨S',h1,hk _ _ _ h2⟩⟩) h)
 ·rename_i hw
  rw [if_neg hw] at h
  exact ⟨ni.refl S _ w,let ⟨S',h1,h2⟩:=h;⟨S',h1,hk _ _ _ h2⟩⟩

theorem fw (hs:Region.noSelect ops=true) (hQ:∀ c a w,¬ Q (.panic c) a w):∀ (l:jV) (S:Nat→Prop) (listed:Array Bool) (a:Act) (w:World),iK .any ops listed→l.within ops.size=true→du .any ops l listed=true→jl P ops Q S (az ops l) a w→lH P .any ops Q S l.len listed a w
 | .done,S,listed,a,w,_,_,hB,h=>⟨by simpa [du] using hB,h⟩
 | .rd i r,S,listed,a,w,hcl,hl,hB,h=>by
  simp only [jV.within,Bool.and_eq_true,decide_eq_true_eq] at hl
  have ho:ops[i]?=some ops[i]:=Array.getElem?_eq_getElem hl.1
  simp only [az,ho] at h
  simp only [du,Bool.and_eq_true] at hB
  obtain ⟨⟨hr,hf⟩,hB'⟩:=hB
  obtain ⟨v,hy,hK⟩:=h
  rcases hy with hy|⟨hown,hy⟩
  ·exact yf ho (Region.noSelect_spec hs) (fun c a w h=>absurd h (hQ c _ w)) r.len S listed a w (Region.free_spec ho hf) (by simpa using hr) hy (fw hs hQ r _ _ _ _ (ci hcl (by simpa using hr)) hl.2 hB' hK)
  ·have hbe:zm ops i=true:=by
    have:=List.all_eq_true.1 hown i (List.mem_range.2 hl.1)
    simpa [ho] using this
   exact wo ho hbe (Region.noSelect_spec hs) (fun c a w h=>absurd h (hQ c _ w)) r.len S listed a w hcl (Region.free_spec ho hf) (by simpa using hr) hy (fw hs hQ r _ _ _ _ (ci hcl (by simpa using hr)) hl.2 hB' hK)
 | .one i r,S,listed,a,w,hcl,hl,hB,h=>by
  simp only [jV.within,Bool.and_eq_true,decide_eq_true_eq] at hl
  have ho:ops[i]?=some ops[i]:=Array.getElem?_eq_getElem hl.1
  simp only [az,ho] at h
  simp only [du,Bool.and_eq_true,beq_iff_eq] at hB
  refine ⟨fun h0=>(by rw [hB.1] at h0;cases h0),fun j hj=>?_⟩
  rw [hB.1] at hj
  obtain rfl:=List.mem_singleton.1 hj
  exact iT ho (fun S' a' w'=>fw hs hQ r S' _ a' w' (ci hcl (by rw [hB.1];simp)) hl.2 hB.2) h
 | .two i r j l,S,listed,a,w,hcl,hl,hB,h=>by
  simp only [jV.within,Bool.and_eq_true,decide_eq_true_eq] at hl
  have ho:ops[i]?=some ops[i]:=Array.getElem?_eq_getElem hl.1.1.1
  have hp:ops[j]?=some ops[j]:=Array.getElem?_eq_getElem hl.1.2
  simp only [az,ho,hp] at h
  simp only [du,Bool.and_eq_true,beq_iff_eq] at hB
  obtain ⟨⟨⟨h1,h2⟩,h3⟩,h4⟩:=hB
  refine ⟨fun h0=>(by rw [h1] at h0;cases h0),fun q hq=>?_⟩
  rw [h1] at hq
  simp only [List.mem_cons,List.not_mem_nil,or_false] at hq
  rcases hq with rfl|rfl
  ·exact iT ho (fun S' a' w'=>fw hs hQ r S' _ a' w' (ci hcl (by rw [h1];simp)) hl.1.1.2 h3) h.1
  ·refine iT hp (fun S' a' w' h'=>?_) h.2
   show lH P .any ops Q S' r.len _ _ _
   rw [h2]
   exact fw hs hQ l S' _ a' w' (ci hcl (by rw [h1];simp)) hl.2 h4 h'
 | .three i r j l q0 u,S,listed,a,w,hcl,hl,hB,h=>by
  simp only [jV.within,Bool.and_eq_true,decide_eq_true_eq] at hl
  have ho:ops[i]?=some ops[i]:=Array.getElem?_eq_getElem hl.1.1.1.1.1
  have hp:ops[j]?=some ops[j]:=Array.getElem?_eq_getElem hl.1.1.1.2
  have hq0:ops[q0]?=some ops[q0]:=Array.getElem?_eq_getElem hl.1.2
  simp only [az,ho,hp,hq0] at h
  simp only [du,Bool.and_eq_true,beq_iff_eq] at hB
  obtain ⟨⟨⟨⟨⟨h1,h2⟩,h2'⟩,h3⟩,h4⟩,h5⟩:=hB
  refine ⟨fun h0=>(by rw [h1] at h0;cases h0),fun q hq=>?_⟩
  rw [h1] at hq
  simp only [List.mem_cons,List.not_mem_nil,or_false] at hq
  rcases hq with rfl|rfl|rfl
  ·exact iT ho (fun S' a' w'=>fw hs hQ r S' _ a' w' (ci hcl (by rw [h1];simp)) hl.1.1.1.1.2 h3) h.1
  ·refine iT hp (fun S' a' w' h'=>?_) h.2.1
   show lH P .any ops Q S' r.len _ _ _
   rw [h2]
   exact fw hs hQ l S' _ a' w' (ci hcl (by rw [h1];simp)) hl.1.1.2 h4 h'
  ·refine iT hq0 (fun S' a' w' h'=>?_) h.2.2
   show lH P .any ops Q S' r.len _ _ _
   rw [h2']
   exact fw hs hQ u S' _ a' w' (ci hcl (by rw [h1];simp)) hl.2 h5 h'

theorem M9 {a:Act} {w:World} (u:jV) (hs:Region.noSelect ops=true) (hul:u.len=ops.size) (huin:u.within ops.size=true) (hu:du .any ops u (Array.replicate ops.size false)=true)
  (h:jl P ops (NoPanic Q) S (az ops u) a w.drew):wpAny P .any ops (NoPanic Q) ops.size (Array.replicate ops.size false) a w.drew:=by
 have:=ue _ _ _ _ _ (fw hs (fun c a w h=>h) u S _ a w.drew (oA _) huin hu h)
 rwa [hul] at this
end
end Go.Proofs.YthlpfjnkieaeeaaGreatDoor
namespace Go.Proofs.YthlpfjnkieaeeaaGreatDoor
set_option linter.unusedVariables false
open Go.RowKit
def D8 (rd:Option Nat):Fence:={ Fence.wide with round:=rd }
def qW (o:Oper):Bool:=match o.op with|.defer _=>true|_=>false
theorem Fz {o:Oper} (h:qW o=false):∀ c,o.op≠.defer c:=fun c e=>by simp [qW,e] at h
def BM (rd:Option Nat) (ops:Array Oper):Bool:=match rd with|none=>true|some _=>ops.toList.all fun o=>!qW o
section
variable {P:Program} {rd:Option Nat} {n:Nat} {ops:Array Oper} {Q:Exit→Act→World→Prop} {md:Region.Mode}
theorem tv {f:FuncId} {args:Array Value} {w:World} {R:Ending→World→Prop}:CallsIn (D8 rd) n P f args w R↔Calls P f args w R:=callsIn_wide
theorem KD {o:Oper} {a:Act} {K:Act→World→Prop}:∀ {r:Result Next},o.upon P a K Q r→o.uponIn (D8 rd) n P a K Q r
 | .ok x w',h=>by
  cases x with
  | enter f args=>exact ⟨fun h=>(by cases h),tv.2 h⟩
  | row row args=>exact ⟨fun h=>(by cases h),fun c cs _=>let ⟨v,w',h1,h2⟩:=h c cs;⟨v,w',h1,stepsIn_wide.2 h2⟩⟩
  | _=>first|exact h|exact (h:False).elim
 | .halt x w',h=>by cases x <;> exact h
theorem Oper.wp_in {o:Oper} {a:Act} {w:World} {K:Act→World→Prop} (hd:rd=none∨qW o=false) (h:o.wp P a w K Q):o.wpIn (D8 rd) n P a w K Q:=by
 refine ⟨fun f _=>trivial,?_⟩
 have e:o.semAt (D8 rd).round a.eval=execOp a.eval o:=by
  rcases hd with rfl|hd
  ·rfl
  ·exact Oper.semAt_eq _ _ _ (Fz hd)
 rw [e]
 exact KD h
theorem HP (h:BM rd ops=true) {i:Nat} {o:Oper} (ho:ops[i]?=some o):rd=none∨qW o=false:=by
 cases rd with
 | none=>exact .inl rfl
 | some l =>
  have:=List.all_eq_true.1 h o (Array.mem_toList_iff.2 (Array.mem_of_getElem? ho))
  simpa using this
theorem Kx (hd:BM rd ops=true) (hlo:¬ LetsOut Q) {i:Nat} {a:Act} {w:World} {K K':Act→World→Prop} (hK:∀ a w,K a w→K' a w) (h:wpOp P ops Q i K a w):wpOpIn (D8 rd) n P ops Q i K' a w:=by
 unfold wpOp at h
 unfold wpOpIn
 cases ho:ops[i]? with
 | none=>simp only [ho] at h;exact hK _ _ h
 | some o =>
  simp only [ho] at h ⊢
  split
  ·rename_i hw
   rw [if_pos hw] at h
   rcases h with h|h
   ·exact Oper.wp_in (HP hd ho) (Oper.wp_mono hK h)
   ·exact absurd h.2 hlo
  ·rename_i hw
   rw [if_neg hw] at h
   exact ⟨fun f _=>trivial,hK _ _ h⟩
theorem zG (hd:BM rd ops=true) (hlo:¬ LetsOut Q):∀ (f:Nat) (listed:Array Bool) (a:Act) (w:World),wpAny P md ops Q f listed a w→wpAnyIn (D8 rd) n P md ops Q f listed a w
 | 0,_,_,_,h=>h
 | f+1,_,_,_,h=>⟨h.1,fun i hi=>Kx hd hlo (fun a' w' h'=>zG hd hlo f _ a' w' h') (h.2 i hi)⟩
def wg (Q:Exit→Act→World→Prop):Exit→Act→World→Prop
 | .normal,a,w=>Q .normal a w
 | _,_,_=>False
theorem wg.imp:∀ (e:Exit) (a:Act) (w:World),NoPanic (wg Q) e a w→Q e a w:=fun e a w h=>by
 cases e <;> first|exact h|exact (h:False).elim
theorem Fr:¬ LetsOut (NoPanic (wg Q)):=fun ⟨_,_,h⟩=>h
theorem qn {id:Nat} {a:Act} {w:World} (hd:BM rd ops=true) (hm:P.follows .mixedOrders=true) (h:wpAny P .any ops (NoPanic (wg Q)) ops.size (Array.replicate ops.size false) a w.drew):(Code.region id ops true).wpIn (D8 rd) n P Q a w :=
 wpIn_mono (wpIn_region_any hm (zG hd Fr _ _ _ _ h)) wg.imp
end
end Go.Proofs.YthlpfjnkieaeeaaGreatDoor
namespace Go.Proofs.YthlpfjnkieaeeaaGreatDoor
set_option linter.unusedVariables false
namespace Am
open Go.RowKit
section
structure SV where
 p:(Nat→Prop)→World→Value→Prop
 st:∀ {St St':Nat→Prop} {w w':World} {v:Value},(∀ b,St b→St' b)→(∀ b cur t z,St b→w.heap[b]?=some (.cells cur t z)→w'.heap[b]?=some (.cells cur t z))→p St w v→p St' w' v
 one:∀ {St:Nat→Prop} {w:World} {v:Value},p St w v→v.cells=#[v]∧v.oneCell'=true

inductive CV where
 | top
 | c (v:Value)
 | err (k:Nat)
 | agg (n:Nat) (f:Nat→CV)
 | tup (n:Nat) (f:Nat→CV)
 | rs (k n:Nat) (f:Nat→Nat→CV)
 | rp (n:Nat) (f:Nat→CV)
 | os (i:Nat) (g:Option Nat) (off n k:Nat)
 | op (i:Nat) (g:Option Nat) (off:Nat)
 | fn (g:FuncId) (n:Nat) (f:Nat→CV)
 | pv (p:SV)

def bv (al:List Addr) (St:Nat→Prop) (w:World):CV→Value→Prop
 | .top,_=>True
 | .c v,x=>x=v
 | .err k,x=>x=ev al k
 | .agg n f,x=>∃ cs:Array Value,x=.agg cs∧cs.size=n∧∀ i,i<n→bv al St w (f i) (cs.getD i undef)
 | .tup n f,x=>∃ cs:Array Value,x=.tuple cs∧cs.size=n∧∀ i,i<n→bv al St w (f i) (cs.getD i undef)
 | .rs k n f,x=>∃ ao cap,x=.slice ao n cap∧n≤cap∧cap≤9223372036854775807∧(ao=none→cap=0)∧∀ a,ao=some a→0<n →
   a.spot=none∧St a.block∧∀ i j,i<n→j<k→∃ v,w.cell? ⟨a.block,a.off+(i * k+j),none⟩=some v∧bv al St w (f i j) v
 | .rp n f,x=>∃ b o,x=.pointer (some ⟨b,o,none⟩)∧St b∧∀ j,j<n→∃ v,w.cell? ⟨b,o+j,none⟩=some v∧bv al St w (f j) v
 | .os _ none _ n _,x=>n=0∧x=.slice none 0 0
 | .os _ (some g) off n k,x=>∃ cap,x=.slice (some ⟨g,off,none⟩) n cap∧n≤cap∧cap≤9223372036854775807∧∃ cur t z,w.heap[g]?=some (.cells cur t z)∧off+cap * k≤cur.size
 | .op _ g off,x=>∃ b,g=some b∧x=.pointer (some ⟨b,off,none⟩)
 | .fn g n f,x=>∃ cs:Array Value,x=.func (.func g) #[] cs∧cs.size=n∧∀ i,i<n→bv al St w (f i) (cs.getD i undef)
 | .pv p,x=>p.p St w x

structure qk (St:Nat→Prop) (w w':World):Prop where
 st:∀ b cur t z,St b→w.heap[b]?=some (.cells cur t z)→w'.heap[b]?=some (.cells cur t z)
 sh:∀ (b:Nat) cur t z,w.heap[b]?=some (.cells cur t z)→∃ cur' z',w'.heap[b]?=some (.cells cur' t z')∧cur'.size=cur.size

theorem qk.of_below {St:Nat→Prop} {w w':World} (h:Below w.heap.size w w') (hs:∀ b,St b→b<w.heap.size):qk St w w' where
 st:=fun b cur t z hb hc=>(h.block b (hs b hb)).trans hc
 sh:=fun b cur t z hb=>⟨cur,z,(h.block b (Array.getElem?_eq_some_iff.1 hb).1).trans hb,rfl⟩

theorem cY {w w':World} {b:Nat} (h:w'.heap[b]?=w.heap[b]?) (o:Nat):w'.cell? ⟨b,o,none⟩=w.cell? ⟨b,o,none⟩:=World.cell?_of_block (w:=w) (a:=⟨b,o,none⟩) h

theorem sM {w w':World} {b o:Nat} {v:Value} (h:∀ cur t z,w.heap[b]?=some (.cells cur t z)→w'.heap[b]?=some (.cells cur t z)) (hv:w.cell? ⟨b,o,none⟩=some v):w'.cell? ⟨b,o,none⟩=some v:=by
 unfold World.cell? at hv ⊢
 split at hv
 ·rename_i cur t z hc
  rw [h _ _ _ hc]
  exact hv
 ·cases hv

theorem bv.evo {al:List Addr} {St St':Nat→Prop} {w w':World} (he:qk St w w') (hs:∀ b,St b→St' b):∀ (c:CV) (v:Value),bv al St w c v→bv al St' w' c v
 | .top,_,_=>trivial
 | .c _,_,h=>h
 | .err _,_,h=>h
 | .agg n f,_,⟨cs,h1,h2,h3⟩=>⟨cs,h1,h2,fun i hi=>bv.evo he hs (f i) _ (h3 i hi)⟩
 | .tup n f,_,⟨cs,h1,h2,h3⟩=>⟨cs,h1,h2,fun i hi=>bv.evo he hs (f i) _ (h3 i hi)⟩
 | .rs k n f,_,⟨ao,cap,h1,h2,h3,h4,h5⟩=>⟨ao,cap,h1,h2,h3,h4,fun a ha hn=>by
   obtain ⟨h6,h7,h8⟩:=h5 a ha hn
   refine ⟨h6,hs _ h7,fun i j hi hj=>?_⟩
   obtain ⟨v,hv,hr⟩:=h8 i j hi hj
   exact ⟨v,sM (fun cur t z hc=>he.st _ cur t z h7 hc) hv,bv.evo he hs (f i j) v hr⟩⟩
 | .rp n f,_,⟨b,o,h1,h2,h3⟩=>⟨b,o,h1,hs _ h2,fun j hj=>by
   obtain ⟨v,hv,hr⟩:=h3 j hj
   exact ⟨v,sM (fun cur t z hc=>he.st _ cur t z h2 hc) hv,bv.evo he hs (f j) v hr⟩⟩
 | .os _ none _ _ _,_,h=>h
 | .os _ (some g) off n k,_,⟨cap,h1,h2,h3,cur,t,z,h4,h5⟩=>by
   obtain ⟨cur',z',h6,h7⟩:=he.sh g cur t z h4
   exact ⟨cap,h1,h2,h3,cur',t,z',h6,by omega⟩
 | .op _ _ _,_,h=>h
 | .fn g n f,_,⟨cs,h1,h2,h3⟩=>⟨cs,h1,h2,fun i hi=>bv.evo he hs (f i) _ (h3 i hi)⟩
 | .pv p,_,h=>p.st hs he.st h

structure OP where
 p:List Addr→(Nat→Prop)→World→Nat→(Nat→Prop)→Prop
 st:∀ {al:List Addr} {St St':Nat→Prop} {w w':World} {g:Nat} {F:Nat→Prop},qk St w w'→(∀ b,St b→St' b)→(∀ b,F b→w'.heap[b]?=w.heap[b]?)→p al St w g F→p al St' w' g F

inductive bp where
 | dead
 | blk (n:Nat) (f:Nat→CV)
 | frz (n:Nat) (f:Nat→CV)
 | obj (p:OP)

def bp.rep (al:List Addr) (St:Nat→Prop) (w:World) (F:Nat→Prop):Option Nat→bp→Prop
 | _,.dead=>∀ b,¬ F b
 | none,.blk n _=>n=0∧∀ b,¬ F b
 | some g,.blk n f=>(∀ b,F b↔b=g)∧∃ cur t,w.heap[g]?=some (.cells cur t (0,0))∧n≤cur.size∧∀ i,i<n→bv al St w (f i) (cur.getD i undef)
 | none,.frz n _=>n=0∧∀ b,¬ F b
 | some g,.frz n f=>(∀ b,¬ F b)∧St g∧∃ cur t z,w.heap[g]?=some (.cells cur t z)∧n≤cur.size∧∀ i,i<n→bv al St w (f i) (cur.getD i undef)
 | none,.obj _=>∀ b,¬ F b
 | some g,.obj p=>p.p al St w g F

theorem bp.rep_evo {al:List Addr} {St St':Nat→Prop} {w w':World} (he:qk St w w') (hs:∀ b,St b→St' b) {F:Nat→Prop} (hF:∀ b,F b→w'.heap[b]?=w.heap[b]?):∀ {g:Option Nat} {r:bp},r.rep al St w F g→r.rep al St' w' F g
 | none,.dead,h=>h
 | some _,.dead,h=>h
 | none,.blk _ _,h=>h
 | some g,.blk n f,⟨h0,cur,t,h1,h2,h4⟩=>⟨h0,cur,t,(hF g ((h0 g).2 rfl)).trans h1,h2,fun i hi=>bv.evo he hs _ _ (h4 i hi)⟩
 | none,.frz _ _,h=>h
 | some g,.frz n f,⟨h0,hg,cur,t,z,h1,h2,h4⟩=>⟨h0,hs _ hg,cur,t,z,he.st g cur t z hg h1,h2,fun i hi=>bv.evo he hs _ _ (h4 i hi)⟩
 | none,.obj _,h=>h
 | some _,.obj p,h=>p.st he hs hF h

structure AS where
 env:List (Nat×CV)
 b:Nat→CV
 H:List (Option Nat×bp)

def look:List (Nat×CV)→(Nat→CV)→Nat→CV
 | [],b,d=>b d
 |(e,v)::r,b,d=>match Nat.beq e d with|true=>v|false=>look r b d

theorem pu (e d:Nat):(Nat.beq e d=true∧e=d)∨(Nat.beq e d=false∧e≠d):=by
 by_cases h:e=d
 ·exact .inl ⟨by subst h;exact Nat.beq_refl e,h⟩
 ·exact .inr ⟨by cases hb:Nat.beq e d with|true=>exact absurd (Nat.eq_of_beq_eq_true hb) h|false=>rfl,h⟩

theorem eR (r:List (Nat×CV)) (b:Nat→CV) (d:Nat) (v:CV):look ((d,v)::r) b d=v:=by
 rcases pu d d with ⟨h,_⟩|⟨_,h⟩
 ·simp [look]
 ·exact absurd rfl h
theorem c9 (r:List (Nat×CV)) (b:Nat→CV) {e d:Nat} (v:CV) (hn:e≠d):look ((e,v)::r) b d=look r b d:=by
 rcases pu e d with ⟨_,h⟩|⟨h,_⟩
 ·exact absurd h hn
 ·simp [look,h]

def AS.eval (s:AS):Operand→CV
 | .tmp t=>look s.env s.b t
 | .const v=>.c v
 | .global g=>.c (.pointer (some ⟨g,0,none⟩))
 | .func f=>.c (.func (.func f) #[] #[])

def AS.put (s:AS) (dst:Option Tmp) (v:CV):AS:=match dst with|some d=>⟨(d,v)::s.env,s.b,s.H⟩|none=>s

structure Gh where
 gs:List Nat
 al:List Addr
 w0:World
 F0:Nat→Prop
 St0:Nat→Prop
 N:Nat
 rd:Option Nat
 yl:Bool

structure iI (F0:Nat→Prop) (w0 w:World):Prop where
 os:w.os=w0.os
 tape:w.tape=w0.tape
 output:w.output=w0.output
 size:w0.heap.size≤w.heap.size
 block:∀ k,k<w0.heap.size→¬ F0 k→w.heap[k]?=w0.heap[k]?
 sh:∀ (b:Nat) cur t z,w0.heap[b]?=some (.cells cur t z)→∃ cur' z',w.heap[b]?=some (.cells cur' t z')∧cur'.size=cur.size

theorem iI.refl (F0:Nat→Prop) (w:World):iI F0 w w:=⟨rfl,rfl,rfl,Nat.le_refl _,fun _ _ _=>rfl,fun _ cur _ z h=>⟨cur,z,h,rfl⟩⟩
theorem iI.then {F0:Nat→Prop} {a b c:World} (h:iI F0 a b) (k:Below b.heap.size b c):iI F0 a c :=
 ⟨k.os.trans h.os,k.tape.trans h.tape,k.output.trans h.output,Nat.le_trans h.size k.size,fun i hi hn=>(k.block i (Nat.lt_of_lt_of_le hi h.size)).trans (h.block i hi hn),fun i cur t z hb=>by
  obtain ⟨cur',z',h1,h2⟩:=h.sh i cur t z hb
  exact ⟨cur',z',(k.block i (Array.getElem?_eq_some_iff.1 h1).1).trans h1,h2⟩⟩
theorem iI.below {w w':World} (h:iI (fun _=>False) w w'):Below w.heap.size w w':=⟨h.os,h.tape,h.output,h.size,fun k hk=>h.block k hk (fun h=>h)⟩

structure BJ (al:List Addr) (St:Nat→Prop) (w:World) (base:Nat) (F0:Nat→Prop) (H:List (Option Nat×bp)) (fp:Nat→Nat→Prop):Prop where
 rep:∀ (i:Nat) (g:Option Nat) (r:bp),H[i]?=some (g,r)→r.rep al St w (fp i) g
 dis:∀ i j b,fp i b→fp j b→i=j
 own:∀ i b,fp i b→b<w.heap.size∧¬ St b∧(base≤b∨F0 b)
 out:∀ i,H.length≤i→∀ b,¬ fp i b
def cH (al:List Addr) (St:Nat→Prop) (w:World) (base:Nat) (F0:Nat→Prop) (H:List (Option Nat×bp)):Prop:=∃ fp,BJ al St w base F0 H fp

def nq (D:Nat):Deferred:={ target:=.collected D,args:=#[] }
def oF (G:Gh) (St:Nat→Prop) (w:World) (ds:List Deferred):Prop:=∃ Ds:List Nat,ds=Ds.map nq∧Ds.Nodup∧∀ D ∈ Ds,(St D∧w.heap[D]?=some (.deferred (some [])))∧G.w0.heap.size≤D∧D ∉ rG G.gs∧∀ a ∈ G.al,a.block≠D
theorem oF.none (G:Gh) (St:Nat→Prop) (w:World):oF G St w []:=⟨[],rfl,List.nodup_nil,fun _ h=>by cases h⟩
theorem oF.keep {G:Gh} {St St':Nat→Prop} {w w':World} {ds:List Deferred} (h:oF G St w ds) (hs:∀ b,St b→St' b) (hw:∀ b,St b→w'.heap[b]?=w.heap[b]?):oF G St' w' ds:=by
 obtain ⟨Ds,h1,h2,h3⟩:=h
 exact ⟨Ds,h1,h2,fun D hD=>⟨⟨hs D (h3 D hD).1.1,(hw D (h3 D hD).1.1).trans (h3 D hD).1.2⟩,(h3 D hD).2⟩⟩
theorem oF.grow {G:Gh} {St St':Nat→Prop} {w:World} {ds:List Deferred} (h:oF G St w ds) (hs:∀ b,St b→St' b):oF G St' w ds:=h.keep hs fun _ _=>rfl
structure aC (G:Gh) (St:Nat→Prop) (s:AS) (a:Act) (w:World):Prop where
 df:oF G St w a.defers
 sz:a.tmps.size=G.N
 env:∀ d,bv G.al St w (look s.env s.b d) (a.tmps.getD d undef)
 un:iI G.F0 G.w0 w
 s1:∀ b,G.St0 b→St b
 s2:∀ b,St b→G.St0 b∨G.w0.heap.size≤b∨G.F0 b
 s3:∀ b,St b→b<w.heap.size
 hp:cH G.al St w G.w0.heap.size G.F0 s.H
 sn:fY w G.gs G.al
 sg:(∀ g ∈ rG G.gs,St g)∧∀ a ∈ G.al,St a.block
def wd (G:Gh) (s:AS) (a:Act) (w:World):Prop:=∃ St,aC G St s a w

theorem aC.eval {G:Gh} {St:Nat→Prop} {s:AS} {a:Act} {w:World} (h:aC G St s a w):∀ x:Operand,bv G.al St w (s.eval x) (a.eval x)
 | .tmp t=>h.env t
 | .const _=>rfl
 | .global _=>rfl
 | .func _=>rfl

theorem aC.put {G:Gh} {St:Nat→Prop} {s:AS} {a:Act} {w:World} (h:aC G St s a w) {dst:Option Tmp} {v:CV} {x:Value} (hd:∀ d,dst=some d→d<G.N) (hv:bv G.al St w v x) :
  aC G St (s.put dst v) (a.put dst x) w:=by
 cases dst with
 | none=>exact h
 | some d =>
  have hlt:=hd d rfl
  refine ⟨h.df,by simp [Act.put,h.sz],fun e=>?_,h.un,h.s1,h.s2,h.s3,h.hp,h.sn,h.sg⟩
  by_cases hde:d=e
  ·subst hde
   show bv _ _ _ (look ((d,v)::s.env) s.b d) _
   rw [eR]
   simpa [Act.put,h.sz,hlt] using hv
  ·show bv _ _ _ (look ((d,v)::s.env) s.b e) _
   rw [c9 _ _ _ hde]
   have:=h.env e
   simpa [Act.put,Array.getElem?_setIfInBounds_ne hde] using this

theorem fY.keep {w w':World} {gs:List Nat} {al:List Addr} (h:fY w gs al) (h1:∀ g ∈ rG gs,w'.heap[g]?=w.heap[g]?) (h2:∀ a ∈ al,w'.heap[a.block]?=w.heap[a.block]?):fY w' gs al :=
 ⟨h.len,h.nd,fun i g hi hl=>(cY (h1 g hl) 0).trans (h.var i g hi hl),fun x hx=>by
  obtain ⟨c,t,hc⟩:=h.row x hx
  exact ⟨c,t,(h2 x hx).trans hc⟩,fun h3 h4=>Ez (h.tab h3 h4) (fun o=>cY (h1 _ h3) o) (fun o=>cY (h1 _ h4) o),fun g hg=>by
   have h3:=h.lt g hg
   have h4:=h1 g hg
   rw [Array.getElem?_eq_getElem h3] at h4
   exact (Array.getElem?_eq_some_iff.1 h4).1⟩

theorem aC.ext {G:Gh} {St:Nat→Prop} {s:AS} {a:Act} {w w':World} (h:aC G St s a w) (hb:Below w.heap.size w w'):aC G St s a w':=by
 have he:qk St w w':=qk.of_below hb h.s3
 refine ⟨h.df.keep (fun _ h=>h) (fun b hb'=>hb.block b (h.s3 b hb')),h.sz,fun d=>bv.evo he (fun _ x=>x) _ _ (h.env d),h.un.then hb,h.s1,h.s2,fun b hs=>Nat.lt_of_lt_of_le (h.s3 b hs) hb.size,?_,?_,h.sg⟩
 ·obtain ⟨fp,hp⟩:=h.hp
  exact ⟨fp,fun i g r hi=>bp.rep_evo he (fun _ x=>x) (fun b hF=>hb.block b (hp.own i b hF).1) (hp.rep i g r hi),hp.dis,fun i b hF=>⟨Nat.lt_of_lt_of_le (hp.own i b hF).1 hb.size,(hp.own i b hF).2⟩,hp.out⟩
 ·exact fY.keep h.sn (fun g hg=>hb.block g (h.s3 _ (h.sg.1 g hg))) (fun x hx=>hb.block _ (h.s3 _ (h.sg.2 x hx)))
theorem aC.take {G:Gh} {St:Nat→Prop} {s:AS} {tmps:Array Value} {D:Nat} {Ds:List Nat} {w:World} (h:aC G St s { tmps:=tmps,defers:=nq D::Ds.map nq } w) :
  w.heap[D]?=some (.deferred (some []))∧aC G St s { tmps:=tmps,defers:=Ds.map nq } (w.putObj D (.deferred none)):=by
 obtain ⟨Ds',h1,h2,h3⟩:=h.df
 have h1:(D::Ds).map nq=Ds'.map nq:=h1
 have inj:∀ (l m:List Nat),l.map nq=m.map nq→l=m:=fun l=>by
  induction l with
  | nil=>intro m hm;cases m with|nil=>rfl|cons=>simp at hm
  | cons x l ih =>
   intro m hm
   cases m with
   | nil=>simp at hm
   | cons y m =>
    simp only [List.map_cons,List.cons.injEq] at hm
    have e:x=y:=by
     have:=congrArg Deferred.target hm.1
     simp only [nq,Target.collected.injEq] at this
     exact this
    rw [e,ih m hm.2]
 have e:=inj _ _ h1
 subst e
 obtain ⟨⟨hS,hD⟩,hb,hg,ha⟩:=h3 D (List.mem_cons_self ..)
 have hold:∀ b,b≠D→(w.putObj D (.deferred none)).heap[b]?=w.heap[b]?:=fun b hb=>World.putObj_heap_other hb
 have hrow:∀ (b:Nat) cur t z,w.heap[b]?=some (.cells cur t z)→b≠D:=fun b cur t z hc e=>by rw [e,hD] at hc;cases hc
 have he:qk St w (w.putObj D (.deferred none)):=⟨fun b cur t z _ hc=>(hold b (hrow b cur t z hc)).trans hc,fun b cur t z hc=>⟨cur,z,(hold b (hrow b cur t z hc)).trans hc,rfl⟩⟩
 refine ⟨hD,⟨Ds,rfl,(List.nodup_cons.1 h2).2,fun E hE=>?_⟩,h.sz,fun d=>bv.evo he (fun _ x=>x) _ _ (h.env d),⟨h.un.os,h.un.tape,h.un.output,by simp [h.un.size],fun k hk hF=>(hold k jO).trans (h.un.block k hk hF),fun b cur t z hc=>?_⟩,h.s1,h.s2,fun b hb=>by simpa using h.s3 b hb,?_,?_,h.sg⟩
 ·obtain ⟨⟨k1,k2⟩,k3⟩:=h3 E (List.mem_cons_of_mem _ hE)
  exact ⟨⟨k1,(hold E (fun e=>(List.nodup_cons.1 h2).1 (e ▸ hE))).trans k2⟩,k3⟩
 ·obtain ⟨cur',z',k1,k2⟩:=h.un.sh b cur t z hc
  exact ⟨cur',z',(hold b (hrow b _ _ _ k1)).trans k1,k2⟩
 ·obtain ⟨fp,hp⟩:=h.hp
  have hne:∀ i b,fp i b→b≠D:=fun i b hF e=>(hp.own i b hF).2.1 (e ▸ hS)
  exact ⟨fp,fun i g r hi=>bp.rep_evo he (fun _ x=>x) (fun b hF=>hold b (hne i b hF)) (hp.rep i g r hi),hp.dis,fun i b hF=>by simpa using hp.own i b hF,hp.out⟩
 ·exact fY.keep h.sn (fun g hg'=>hold g (fun e=>hg (e ▸ hg'))) (fun x hx=>hold _ (ha x hx))
theorem wd.ext {G:Gh} {s:AS} {a:Act} {w w':World} (h:wd G s a w) (hb:Below w.heap.size w w'):wd G s a w':=h.imp fun _ h=>h.ext hb

def ab (x y:CV):Prop:=∀ al St w v,bv al St w x v→bv al St w y v
theorem ab.refl (x:CV):ab x x:=fun _ _ _ _ h=>h
theorem cZ {v:CV}:ab v v:=ab.refl v
theorem ab.top (x:CV):ab x .top:=fun _ _ _ _ _=>trivial
theorem ab.of_eq {x y:CV} (h:x=y):ab x y:=h ▸ ab.refl x
theorem ab.trans {x y z:CV} (h:ab x y) (k:ab y z):ab x z:=fun al St w v hr=>k al St w v (h al St w v hr)
theorem ab.nil:ab (.c .nilIface) (.err 0):=fun _ _ _ _ h=>h
theorem ab.nilS (k:Nat) (f:Nat→Nat→CV):ab (.c (.slice none 0 0)) (.rs k 0 f):=fun _ _ _ _ h=>⟨none,0,h,Nat.le_refl _,by decide,fun _=>rfl,fun _ ha=>by cases ha⟩
theorem ab.rs {k n m:Nat} {f g:Nat→Nat→CV} (hn:n=m) (h:∀ i j,i<n→j<k→ab (f i j) (g i j)):ab (.rs k n f) (.rs k m g):=by
 subst hn
 rintro al St w v ⟨ao,cap,h1,h2,h3,h4,h5⟩
 refine ⟨ao,cap,h1,h2,h3,h4,fun a ha hn=>?_⟩
 obtain ⟨h6,h7,h8⟩:=h5 a ha hn
 refine ⟨h6,h7,fun i j hi hj=>?_⟩
 obtain ⟨v,hv,hr⟩:=h8 i j hi hj
 exact ⟨v,hv,h i j hi hj _ _ _ _ hr⟩
theorem ab.agg {n m:Nat} {f g:Nat→CV} (hn:n=m) (h:∀ i,i<n→ab (f i) (g i)):ab (.agg n f) (.agg m g):=by
 subst hn
 rintro al St w v ⟨cs,h1,h2,h3⟩
 exact ⟨cs,h1,h2,fun i hi=>h i hi _ _ _ _ (h3 i hi)⟩
theorem ab.tup {n m:Nat} {f g:Nat→CV} (hn:n=m) (h:∀ i,i<n→ab (f i) (g i)):ab (.tup n f) (.tup m g):=by
 subst hn
 rintro al St w v ⟨cs,h1,h2,h3⟩
 exact ⟨cs,h1,h2,fun i hi=>h i hi _ _ _ _ (h3 i hi)⟩

def fl (l:List CV) (i:Nat):CV:=match l,i with|[],_=>.top|x::_,0=>x|_::r,i+1=>fl r i

inductive oE:List CV→List CV→Prop where
 | nil:oE [] []
 | cons {x y:CV} {l m:List CV} (h:ab x y) (t:oE l m):oE (x::l) (y::m)

inductive bZ (env:List (Nat×CV)) (b:Nat→CV):List (Nat×CV)→Prop where
 | nil:bZ env b []
 | cons {d:Nat} {v:CV} {r:List (Nat×CV)} (h:ab (look env b d) v) (t:bZ env b r):bZ env b ((d,v)::r)

theorem bZ.look {env:List (Nat×CV)} {b b':Nat→CV} {env':List (Nat×CV)} (h:bZ env b env') (hb:∀ d,(∀ v,(d,v) ∉ env')→ab (look env b d) (b' d)):∀ d,ab (look env b d) (look env' b' d):=by
 have key:∀ l,bZ env b l→∀ d,(∃ v,(d,v) ∈ l)→ab (Am.look env b d) (Am.look l b' d):=by
  intro l hl
  induction hl with
  | nil=>intro d ⟨v,hv⟩;cases hv
  | @cons e v r h1 _ ih =>
   intro d ⟨u,hu⟩
   by_cases hed:e=d
   ·subst hed;rw [eR];exact h1
   ·rw [c9 _ _ _ hed]
    refine ih d ⟨u,?_⟩
    rcases List.mem_cons.1 hu with h2|h2
    ·cases h2;exact absurd rfl hed
    ·exact h2
 have key2:∀ l:List (Nat×CV),∀ d,(∀ v,(d,v) ∉ l)→Am.look l b' d=b' d:=by
  intro l
  induction l with
  | nil=>intro d _;rfl
  | cons x r ih =>
   intro d hd
   obtain ⟨e,v⟩:=x
   have hed:e≠d:=fun h=>hd v (by rw [h];exact List.mem_cons_self ..)
   rw [c9 _ _ _ hed]
   exact ih d fun u hu=>hd u (List.mem_cons_of_mem _ hu)
 intro d
 by_cases hd:∃ v,(d,v) ∈ env'
 ·exact key env' h d hd
 ·have hd':∀ v,(d,v) ∉ env':=fun v hv=>hd ⟨v,hv⟩
  rw [key2 env' d hd']
  exact hb d hd'

theorem aC.ent {G:Gh} {St:Nat→Prop} {env env':List (Nat×CV)} {b b':Nat→CV} {H:List (Option Nat×bp)} {a:Act} {w:World} (h:aC G St ⟨env,b,H⟩ a w) (he:∀ d,ab (look env b d) (look env' b' d)):aC G St ⟨env',b',H⟩ a w :=
 ⟨h.df,h.sz,fun d=>he d _ _ _ _ (h.env d),h.un,h.s1,h.s2,h.s3,h.hp,h.sn,h.sg⟩

def gZ (H:List (Option Nat×bp)) (l:List Nat):List (Option Nat×bp):=l.map fun j=>H.getD j (none,.dead)
theorem cH.pick {al:List Addr} {St:Nat→Prop} {w:World} {base:Nat} {F0:Nat→Prop} {H H':List (Option Nat×bp)} (h:cH al St w base F0 H) (l:List Nat) (hl:l.Nodup) (hH:gZ H l=H'):cH al St w base F0 H':=by
 obtain ⟨fp,hp⟩:=h
 subst hH
 refine ⟨fun i b=>∃ j,l[i]?=some j∧fp j b,fun i g r hi=>?_,fun i j b ⟨p,hp1,hp2⟩ ⟨q,hq1,hq2⟩=>?_,fun i b ⟨p,_,hp2⟩=>hp.own p b hp2,fun i hi b ⟨p,hp1,_⟩=>?_⟩
 ·simp only [gZ,List.getElem?_map,Option.map_eq_some_iff] at hi
  obtain ⟨j,hj,he⟩:=hi
  have e:(fun b=>∃ q,l[i]?=some q∧fp q b)=fp j:=funext fun b=>propext ⟨fun ⟨q,h1,h2⟩=>by rw [hj] at h1;cases h1;exact h2,fun h=>⟨j,hj,h⟩⟩
  show r.rep al St w (fun b=>∃ q,l[i]?=some q∧fp q b) g
  rw [e]
  by_cases hlt:j<H.length
  ·refine hp.rep j g r ?_
   rw [List.getElem?_eq_getElem hlt,← he]
   simp [hlt]
  ·rw [List.getD_eq_getElem?_getD,List.getElem?_eq_none jO] at he
   cases he
   exact fun b hb=>hp.out j jO b hb
 ·have:=hp.dis p q b hp2 hq2
  subst this
  have hi:=(List.getElem?_eq_some_iff.1 hp1).1
  exact (List.getElem?_inj hi hl).1 (hp1.trans hq1.symm)
 ·simp only [gZ,List.length_map] at hi
  rw [List.getElem?_eq_none hi] at hp1
  cases hp1
inductive aS:List (Option Nat×bp)→List (Option Nat×bp)→Prop where
 | nil:aS [] []
 | same {x:Option Nat×bp} {l m:List (Option Nat×bp)} (t:aS l m):aS (x::l) (x::m)
 | blk {g:Option Nat} {n N:Nat} {f F:Nat→CV} {l m:List (Option Nat×bp)} (hn:n=N) (hF:∀ j,j<N→ab (f j) (F j)) (t:aS l m):aS ((g,.blk n f)::l) ((g,.blk N F)::m)
 | dead {g:Option Nat} {r:bp} {l m:List (Option Nat×bp)} (hr:∀ al St w F,bp.rep al St w F g r→∀ b,¬ F b) (t:aS l m):aS ((g,r)::l) ((g,.dead)::m)
theorem aS.refl:∀ l:List (Option Nat×bp),aS l l
 | []=>.nil
 | _::r=>.same (aS.refl r)
theorem aS.at {l m:List (Option Nat×bp)} (h:aS l m):l.length=m.length∧∀ (i:Nat) (g:Option Nat) (r':bp),m[i]?=some (g,r')→∃ r,l[i]?=some (g,r)∧∀ al St w F,bp.rep al St w F g r→bp.rep al St w F g r':=by
 induction h with
 | nil=>exact ⟨rfl,fun i g r h=>by simp at h⟩
 | same _ ih =>
  refine ⟨by simp [ih.1],fun i g r h=>?_⟩
  match i,h with
  | 0,h=>exact ⟨r,h,fun _ _ _ _ h=>h⟩
  | i+1,h=>exact ih.2 i g r h
 | @blk g0 n N f F l m hn hF _ ih =>
  subst hn
  refine ⟨by simp [ih.1],fun i g r h=>?_⟩
  match i,h with
  | 0,h =>
   simp at h
   obtain ⟨rfl,rfl⟩:=h
   refine ⟨.blk n f,rfl,fun al St w F1 h=>?_⟩
   cases g0 with
   | none=>exact h
   | some g =>
    obtain ⟨h1,cur,t,h2,h3,h4⟩:=h
    exact ⟨h1,cur,t,h2,h3,fun j hj=>hF j hj _ _ _ _ (h4 j hj)⟩
  | i+1,h=>exact ih.2 i g r h
 | @dead g0 r0 l m hr _ ih =>
  refine ⟨by simp [ih.1],fun i g r h=>?_⟩
  match i,h with
  | 0,h =>
   simp at h
   obtain ⟨rfl,rfl⟩:=h
   refine ⟨r0,rfl,fun al St w F1 h=>?_⟩
   have:=hr al St w F1 h
   cases g0 <;> exact this
  | i+1,h=>exact ih.2 i g r h
theorem cH.hent {al:List Addr} {St:Nat→Prop} {w:World} {base:Nat} {F0:Nat→Prop} {H H':List (Option Nat×bp)} (h:cH al St w base F0 H) (he:aS H H'):cH al St w base F0 H':=by
 obtain ⟨fp,hp⟩:=h
 obtain ⟨h1,h2⟩:=he.at
 exact ⟨fp,fun i g r hi=>by
  obtain ⟨r0,h3,h4⟩:=h2 i g r hi
  exact h4 _ _ _ _ (hp.rep i g r0 h3),hp.dis,hp.own,fun i hi=>hp.out i jO⟩
theorem cH.none (al:List Addr) (St:Nat→Prop) (w:World) (base:Nat) (F0:Nat→Prop):cH al St w base F0 [] :=
 ⟨fun _ _=>False,fun i g r hi=>by simp at hi,fun _ _ _ h=>h.elim,fun _ _ h=>h.elim,fun _ _ _ h=>h⟩
end
end Am
end Go.Proofs.YthlpfjnkieaeeaaGreatDoor
