/- What the law leans on, part 1: Base, Reg, Reg2, Reg3, Reg4, Reg5, Am1 -/
import Derived.Test.YtnijncmifjnifaaGreatDoorChecked
import Derived.WalkKit
import Derived.WalkLawsBesides
import Derived.WalkSpells
import Derived.Outline
import Derived.Handy
import Derived.Deep.QuietTactic
import Derived.Deep.Draws
import Derived.BigQuiet
import Derived.Lib.Hide
import Derived.LaidEql
import Derived.Laws.IdiomStrings
import Derived.WideLaws
import Derived.Shelf.Unicode.DecodeSlow
import Derived.OrdersHeld
import Derived.Deep.RegionHeld3
import Derived.RangeFuncNested
import Derived.OrdersIn
import Derived.RangeFuncCalls
import Derived.RangeFuncLeaves
import Derived.RangeFuncRecord

set_option maxRecDepth 100000
namespace Go.Proofs.YtnijncmifjnifaaGreatDoor
set_option linter.unusedVariables false
open Go.RowKit

theorem below_drewN {B:Nat} {a w:World} (h:Below B a w) (n:Nat):Below B a (w.drewN n):=⟨h.os,h.tape,h.output,h.size,h.block⟩
theorem below_then {a b c:World} (h:Below a.heap.size a b) (k:Below b.heap.size b c):Below a.heap.size a c:=h.trans (k.mono h.size)
theorem below_cell {a b:World} (h:Below a.heap.size a b) {p:Addr} {v:Value} (hc:a.cell? p=some v):b.cell? p=some v :=
 (h.cell (World.block_lt_of_cell? a p hc)).trans hc

theorem wpList_value {P:Program} {ops:Array Oper} {Q:Exit→Act→World→Prop} {rest:List Oper} {o:Oper} {a:Act} {w:World} (v:Value) (w':World)
  (hg:o.guard=none) (hr:(execOp a.eval o).run P w=.ok (.value v) w') (hK:wpList P ops Q rest (a.put o.dst v) w'):wpList P ops Q (o::rest) a w :=
 wpList_plain hg fun K hk=>by
  unfold Oper.wp
  rw [hr]
  exact hk _ _ hK

def Bs (w:World) (v:Value) (l:List UInt8):Prop :=
 ∃ ao cap,v=.slice ao l.length cap∧l.length≤cap∧cap≤9223372036854775807∧(ao=none→cap=0) ∧
  ∀ x,ao=some x→(0<l.length→x.spot=none)∧∀ i,i<l.length→w.cell? ⟨x.block,x.off+i,none⟩=some (.int .u8 (l.getD i 0).toNat)

theorem Bs.below {a b:World} {v:Value} {l:List UInt8} (h:Bs a v l) (k:Below a.heap.size a b):Bs b v l:=by
 obtain ⟨ao,cap,rfl,h1,h2,h3,h4⟩:=h
 exact ⟨ao,cap,rfl,h1,h2,h3,fun x hx=>⟨(h4 x hx).1,fun i hi=>below_cell k ((h4 x hx).2 i hi)⟩⟩

theorem Bs.cons {w:World} {v:Value} {l:List UInt8} (h:Bs w v l) (hl:0<l.length) :
  ∃ b o cap,v=.slice (some ⟨b,o,none⟩) l.length cap∧l.length≤cap∧cap≤9223372036854775807∧∀ i,i<l.length→w.cell? ⟨b,o+i,none⟩=some (.int .u8 (l.getD i 0).toNat):=by
 obtain ⟨ao,cap,rfl,h1,h2,h3,h4⟩:=h
 cases ao with
 | none=>have:=h3 rfl;omega
 | some x =>
  obtain ⟨b,o,sp⟩:=x
  grind

theorem Bs.len {w:World} {ao:Option Addr} {n cap:Nat} {l:List UInt8} (h:Bs w (.slice ao n cap) l):n=l.length:=by
 obtain ⟨_,_,e,_⟩:=h
 injection e

theorem Bs.nil (w:World):Bs w (.slice none 0 0) []:=⟨none,0,rfl,by simp,by simp,fun _=>rfl,fun x h=>by cases h⟩

theorem Bs.of_cells {w:World} {b o cap:Nat} {l:List UInt8} (h1:l.length≤cap) (h2:cap≤9223372036854775807)
  (h:∀ i,i<l.length→w.cell? ⟨b,o+i,none⟩=some (.int .u8 (l.getD i 0).toNat)):Bs w (.slice (some ⟨b,o,none⟩) l.length cap) l :=
 ⟨_,cap,rfl,h1,h2,by simp,fun x hx=>by grind⟩

theorem Bs.piece {w:World} {ao:Option Addr} {n cap:Nat} {l:List UInt8} (h:Bs w (.slice ao n cap) l) (lo hi:Nat) (h1:lo≤hi) (h2:hi≤n) :
  Bs w (.slice (if cap=lo then ao else ao.map (·.add lo)) (hi-lo) (cap-lo)) ((l.take hi).drop lo):=by
 obtain ⟨ao',cap',e,h3,h4,h5,h6⟩:=h
 injection e with e1 e2 e3
 subst e1 e2 e3
 have hlen:((l.take hi).drop lo).length=hi-lo:=by simp;omega
 refine ⟨_,_,by rw [hlen],by rw [hlen];omega,by omega,?_,?_⟩
 ·intro hn
  split at hn
  ·omega
  simp_all
 ·intro x hx
  split at hx
  ·grind
  ·obtain ⟨y,rfl,rfl⟩:=Option.map_eq_some_iff.1 hx
   obtain ⟨hs,hc⟩:=h6 y rfl
   obtain ⟨b,o,sp⟩:=y
   grind [Addr.add_lit]

theorem Bs.from {w:World} {ao:Option Addr} {n cap:Nat} {l:List UInt8} (h:Bs w (.slice ao n cap) l) (lo:Nat) (h2:lo≤n) :
  Bs w (.slice (if cap=lo then ao else ao.map (·.add lo)) (n-lo) (cap-lo)) (l.drop lo):=by
 have:=h.piece lo n h2 (Nat.le_refl _)
 have e:l.take n=l:=by rw [h.len,List.take_length]
 rwa [e] at this

theorem run_string_bs {P:Program} {w:World} {ao:Option Addr} {n cap:Nat} {l:List UInt8} (h:Bs w (.slice ao n cap) l) (src dst e:TypeId)
  (hs:P.underlying src=some (.slice e)) (he:P.underlying e=some (.int .u8)) (hd:P.underlying dst=some .string) :
  (convert src dst (.slice ao n cap)).run P w=.ok (.string ⟨l.toArray⟩) w:=by
 obtain ⟨ao',cap',e0,h3,h4,h5,h6⟩:=h
 injection e0 with e1 e2 e3
 subst e1 e2 e3
 cases ao with
 | none =>
  have:=h5 rfl
  have hl:l=[]:=List.eq_nil_of_length_eq_zero (by omega)
  subst hl
  rw [run_convert_bytes_string w src dst e none _ cap hs he hd]
  rfl
 | some x =>
  obtain ⟨b,o,sp⟩:=x
  grind [run_convert_bytes_back,Addr.add_lit]

def ev (al:List Addr) (k:Nat):Value:=if k=0 then .nilIface else .iface 252 (.pointer al[k-1]?)

def tabA:Nat:=29
def tabB:Nat:=30
def Am.kL:List Nat:=[0x428a2f98,0x71374491,0xb5c0fbcf,0xe9b5dba5,0x3956c25b,0x59f111f1,0x923f82a4,0xab1c5ed5,
 0xd807aa98,0x12835b01,0x243185be,0x550c7dc3,0x72be5d74,0x80deb1fe,0x9bdc06a7,0xc19bf174,
 0xe49b69c1,0xefbe4786,0x0fc19dc6,0x240ca1cc,0x2de92c6f,0x4a7484aa,0x5cb0a9dc,0x76f988da,
 0x983e5152,0xa831c66d,0xb00327c8,0xbf597fc7,0xc6e00bf3,0xd5a79147,0x06ca6351,0x14292967,
 0x27b70a85,0x2e1b2138,0x4d2c6dfc,0x53380d13,0x650a7354,0x766a0abb,0x81c2c92e,0x92722c85,
 0xa2bfe8a1,0xa81a664b,0xc24b8b70,0xc76c51a3,0xd192e819,0xd6990624,0xf40e3585,0x106aa070,
 0x19a4c116,0x1e376c08,0x2748774c,0x34b0bcb5,0x391c0cb3,0x4ed8aa4a,0x5b9cca4f,0x682e6ff3,
 0x748f82ee,0x78a5636f,0x84c87814,0x8cc70208,0x90befffa,0xa4506ceb,0xbef9a3f7,0xc67178f2]
def Am.firstL:List Nat:=[0x6a09e667,0xbb67ae85,0x3c6ef372,0xa54ff53a,0x510e527f,0x9b05688c,0x1f83d9ab,0x5be0cd19]
def tabX:List (Nat×List Value):=[(1000000031,Am.firstL.map fun (n:Nat)=>.int .u32 n),(1000000032,Am.kL.map fun (n:Nat)=>.int .u32 n)]
def isTab (g:Nat):Bool:=Nat.beq g tabA || Nat.beq g tabB || tabX.any fun t=>Nat.beq g t.1
def errG (gs:List Nat):List Nat:=gs.filter fun g=>!isTab g
def lst (gs:List Nat):List Nat:=gs.filter fun g=>Nat.blt g 1000000000
theorem lst_mem {gs:List Nat} {g:Nat}:g ∈ lst gs↔g ∈ gs∧g<1000000000:=by simp [lst]
structure SentL (w:World) (gs:List Nat) (al:List Addr):Prop where
 len:al.length=(errG gs).length
 nd:∀ (i j g g':Nat),(errG gs)[i]?=some g→g ∈ lst gs→(errG gs)[j]?=some g'→g' ∈ lst gs→al[i]?=al[j]?→i=j
 var:∀ i g,(errG gs)[i]?=some g→g ∈ lst gs→w.cell? ⟨g,0,none⟩=some (ev al (i+1))
 row:∀ a ∈ al,∃ c t,w.heap[a.block]?=some (.cells c t (0,0))
 tab:tabA ∈ lst gs→tabB ∈ lst gs→Lib.Utf8Tabs tabA tabB w
 tbl:∀ t ∈ tabX,t.1 ∈ lst gs→∀ (i:Nat) (v:Value),t.2[i]?=some v→w.cell? ⟨t.1,i,none⟩=some v
 lt:∀ g ∈ lst gs,g<w.heap.size
theorem tabs_keep {w w':World} {g3 g4:Nat} (h:Lib.Utf8Tabs g3 g4 w) (h1:∀ o,w'.cell? ⟨g3,o,none⟩=w.cell? ⟨g3,o,none⟩) (h2:∀ o,w'.cell? ⟨g4,o,none⟩=w.cell? ⟨g4,o,none⟩):Lib.Utf8Tabs g3 g4 w' :=
 ⟨fun c hc=>(h1 c).trans (h.1 c hc),fun i hi=>⟨(h2 _).trans (h.2 i hi).1,(h2 _).trans (h.2 i hi).2⟩⟩
theorem SentL.below {a b:World} {gs:List Nat} {al:List Addr} (h:SentL a gs al) (k:Below a.heap.size a b):SentL b gs al :=
 ⟨h.len,h.nd,fun i g hi hl=>below_cell k (h.var i g hi hl),fun x hx=>by
  obtain ⟨c,t,hc⟩:=h.row x hx
  exact ⟨c,t,by rw [k.block x.block (Array.getElem?_eq_some_iff.1 hc).1];exact hc⟩,fun h1 h2=>Utf8Tabs_below (h.tab h1 h2) k,fun t ht hl i v hv=>below_cell k (h.tbl t ht hl i v hv),fun g hg=>Nat.lt_of_lt_of_le (h.lt g hg) k.size⟩

def gs:List Nat:=[2,3,4,5,6,7,8,9,10,11,12,13,14,15,16,17,18,1,0,19,20,21,22,23,24,25,26,27]
def gsT:List Nat:=gs++[tabA,tabB]
class OkG (l:List Nat):Prop where
 eq:errG l=gs
instance okG:OkG gs:=⟨by decide⟩
instance okT:OkG gsT:=⟨by decide⟩
def gsS:List Nat:=gsT++tabX.map (·.1)
instance okS:OkG gsS:=⟨by decide⟩
class OkS (l:List Nat):Prop where
 a:∀ t ∈ tabX,t.1 ∈ lst l
abbrev Sent (w:World) (al:List Addr):Prop:=SentL w gs al
class HasE (l:List Nat) (k:Nat):Prop where
 eq:(errG l)[k]?=gs[k]?
 lt:∀ g,gs[k]?=some g→g ∈ lst l
theorem hasE_of {l:List Nat} [h:OkG l] (k:Nat) (hk:(gs[k]?).any (fun g=>Nat.blt g 1000000000)=true):HasE l k:=⟨by rw [OkG.eq],fun g hg=>by
 rw [hg] at hk
 refine lst_mem.2 ⟨?_,Nat.le_of_ble_eq_true hk⟩
 have h1:g ∈ errG l:=by rw [OkG.eq];exact List.mem_of_getElem? hg
 exact (List.mem_filter.1 h1).1⟩
instance hasE0 {l:List Nat} [OkG l]:HasE l 0:=hasE_of 0 (by decide)
instance hasE1 {l:List Nat} [OkG l]:HasE l 1:=hasE_of 1 (by decide)
instance hasE2 {l:List Nat} [OkG l]:HasE l 2:=hasE_of 2 (by decide)
instance hasE3 {l:List Nat} [OkG l]:HasE l 3:=hasE_of 3 (by decide)
instance hasE4 {l:List Nat} [OkG l]:HasE l 4:=hasE_of 4 (by decide)
instance hasE5 {l:List Nat} [OkG l]:HasE l 5:=hasE_of 5 (by decide)
instance hasE6 {l:List Nat} [OkG l]:HasE l 6:=hasE_of 6 (by decide)
instance hasE7 {l:List Nat} [OkG l]:HasE l 7:=hasE_of 7 (by decide)
instance hasE8 {l:List Nat} [OkG l]:HasE l 8:=hasE_of 8 (by decide)
instance hasE9 {l:List Nat} [OkG l]:HasE l 9:=hasE_of 9 (by decide)
instance hasE10 {l:List Nat} [OkG l]:HasE l 10:=hasE_of 10 (by decide)
instance hasE11 {l:List Nat} [OkG l]:HasE l 11:=hasE_of 11 (by decide)
instance hasE12 {l:List Nat} [OkG l]:HasE l 12:=hasE_of 12 (by decide)
instance hasE13 {l:List Nat} [OkG l]:HasE l 13:=hasE_of 13 (by decide)
instance hasE14 {l:List Nat} [OkG l]:HasE l 14:=hasE_of 14 (by decide)
instance hasE15 {l:List Nat} [OkG l]:HasE l 15:=hasE_of 15 (by decide)
instance hasE16 {l:List Nat} [OkG l]:HasE l 16:=hasE_of 16 (by decide)
instance hasE17 {l:List Nat} [OkG l]:HasE l 17:=hasE_of 17 (by decide)
instance hasE18 {l:List Nat} [OkG l]:HasE l 18:=hasE_of 18 (by decide)
instance hasE19 {l:List Nat} [OkG l]:HasE l 19:=hasE_of 19 (by decide)
instance hasE20 {l:List Nat} [OkG l]:HasE l 20:=hasE_of 20 (by decide)
instance hasE21 {l:List Nat} [OkG l]:HasE l 21:=hasE_of 21 (by decide)
instance hasE22 {l:List Nat} [OkG l]:HasE l 22:=hasE_of 22 (by decide)
instance hasE23 {l:List Nat} [OkG l]:HasE l 23:=hasE_of 23 (by decide)
instance hasE24 {l:List Nat} [OkG l]:HasE l 24:=hasE_of 24 (by decide)
instance hasE25 {l:List Nat} [OkG l]:HasE l 25:=hasE_of 25 (by decide)
instance hasE26 {l:List Nat} [OkG l]:HasE l 26:=hasE_of 26 (by decide)
instance hasE27 {l:List Nat} [OkG l]:HasE l 27:=hasE_of 27 (by decide)
class Ok2 (l:List Nat):Prop where
 h0:HasE l 0
 h3:HasE l 3
instance ok2_0 {l:List Nat} [h:Ok2 l]:HasE l 0:=h.h0
instance ok2_3 {l:List Nat} [h:Ok2 l]:HasE l 3:=h.h3
instance ok2_all {l:List Nat} [OkG l]:Ok2 l:=⟨inferInstance,inferInstance⟩
class Ok9 (l:List Nat):Prop where
 h0:HasE l 0
 h1:HasE l 1
 h2:HasE l 2
 h3:HasE l 3
 h4:HasE l 4
 h5:HasE l 5
 h6:HasE l 6
 h7:HasE l 7
 h23:HasE l 23
instance ok9_0 {l:List Nat} [h:Ok9 l]:HasE l 0:=h.h0
instance ok9_1 {l:List Nat} [h:Ok9 l]:HasE l 1:=h.h1
instance ok9_2 {l:List Nat} [h:Ok9 l]:HasE l 2:=h.h2
instance ok9_3 {l:List Nat} [h:Ok9 l]:HasE l 3:=h.h3
instance ok9_4 {l:List Nat} [h:Ok9 l]:HasE l 4:=h.h4
instance ok9_5 {l:List Nat} [h:Ok9 l]:HasE l 5:=h.h5
instance ok9_6 {l:List Nat} [h:Ok9 l]:HasE l 6:=h.h6
instance ok9_7 {l:List Nat} [h:Ok9 l]:HasE l 7:=h.h7
instance ok9_23 {l:List Nat} [h:Ok9 l]:HasE l 23:=h.h23
instance ok9_all {l:List Nat} [OkG l]:Ok9 l:=⟨inferInstance,inferInstance,inferInstance,inferInstance,inferInstance,inferInstance,inferInstance,inferInstance,inferInstance⟩
instance ok9_two {l:List Nat} [Ok9 l]:Ok2 l:=⟨inferInstance,inferInstance⟩
theorem gs_sub {l:List Nat} [OkG l]:∀ g ∈ gs,g ∈ l:=fun g hg=>by
 rw [← OkG.eq (l:=l)] at hg
 exact (List.mem_filter.1 hg).1
theorem lst_sub {l:List Nat} [OkG l] {g:Nat} (h:g ∈ lst gs):g ∈ lst l:=lst_mem.2 ⟨gs_sub g (lst_mem.1 h).1,(lst_mem.1 h).2⟩
theorem SentL.std {w:World} {l:List Nat} {al:List Addr} [OkG l] (h:SentL w l al):Sent w al where
 len:=h.len.trans (by rw [OkG.eq,OkG.eq])
 nd:=fun i j g g' hi hl hj hl' e=>h.nd i j g g' (by rw [OkG.eq] at hi ⊢;exact hi) (lst_sub hl) (by rw [OkG.eq] at hj ⊢;exact hj) (lst_sub hl') e
 var:=fun i g hi hl=>h.var i g (by rw [OkG.eq] at hi ⊢;exact hi) (lst_sub hl)
 row:=h.row
 tab:=fun h1 h2=>h.tab (lst_sub h1) (lst_sub h2)
 tbl:=fun t ht hl=>h.tbl t ht (lst_sub hl)
 lt:=fun g hg=>h.lt g (lst_sub hg)

theorem ev_zero (al:List Addr):ev al 0=.nilIface:=rfl

@[go_sem] theorem eqGuard_ev_nil (op:BinOp) (t:TypeId) (x:Operand) (c:Value) (al:List Addr) (k:Nat):eqGuard op t x (.const c) (ev al k) .nilIface=pure ():=by
 grind [ev,eqGuard_nil_constR,eqGuard_at_iface]
theorem errorIface:Tryz.prog.underlying 37=some (.interface (Tryz.prog.methodsAt 37)):=by kernel_rfl
@[go_sem] theorem run_eql_ev_nil (al:List Addr) (k:Nat) (w:World):(binOp .eql 37 (ev al k) .nilIface).run Tryz.prog w=.ok (.bool (decide (k=0))) w:=by
 grind [ev,run_eql_nil_nil,errorIface,run_eql_held_nil]
@[go_sem] theorem run_neq_ev_nil (al:List Addr) (k:Nat) (w:World):(binOp .neq 37 (ev al k) .nilIface).run Tryz.prog w=.ok (.bool (!decide (k=0))) w:=by
 grind [ev,run_neq_nil_nil,errorIface,run_neq_held_nil]
end Go.Proofs.YtnijncmifjnifaaGreatDoor
namespace Go.Proofs.YtnijncmifjnifaaGreatDoor
set_option linter.unusedVariables false
open Go.RowKit

def Ext (w:World):Type:={ W:World // Below w.heap.size w W }
def Ext.w {w:World} (n:Ext w):World:=n.1
theorem Ext.below {w:World} (n:Ext w):Below w.heap.size w n.w:=n.2
instance (w:World):Nonempty (Ext w):=⟨⟨w,Below.refl _ _⟩⟩
theorem Ext.cell {w:World} {p:Addr} {v:Value} (h:w.cell? p=some v) (n:Ext w):n.w.cell? p=some v:=below_cell n.below h
def Ext.up {w W:World} (h:Below w.heap.size w W) (n:Ext W):Ext w:=⟨n.w,below_then h n.below⟩

section
variable {P:Program} {ops:Array Oper} {Q:Exit→Act→World→Prop} {md:Region.Mode}

def wpAnyE (P:Program) (md:Region.Mode) (ops:Array Oper) (Q:Exit→Act→World→Prop):Nat→Array Bool→Act→World→Prop
 | 0,listed,a,w=>Region.ready md ops listed=[]∧∀ n:Ext w,Q .normal a n.w
 | fuel+1,listed,a,w =>
  (Region.ready md ops listed=[]→∀ n:Ext w,Q .normal a n.w) ∧
  ∀ i ∈ Region.ready md ops listed,∀ n:Ext w,wpOp P ops Q i (fun a' w'=>Below n.w.heap.size n.w w'∧wpAnyE P md ops Q fuel (listed.setIfInBounds i true) a' w') a n.w

theorem wpAnyE_mono:∀ (fuel:Nat) (listed:Array Bool) (a:Act) (w W:World),Below w.heap.size w W→wpAnyE P md ops Q fuel listed a w→wpAnyE P md ops Q fuel listed a W
 | 0,_,_,_,_,hb,h=>⟨h.1,fun n=>h.2 (n.up hb)⟩
 | _+1,_,_,_,_,hb,h=>⟨fun h0 n=>h.1 h0 (n.up hb),fun i hi n=>h.2 i hi (n.up hb)⟩

theorem wpAny_of_E:∀ (fuel:Nat) (listed:Array Bool) (a:Act) (w:World),wpAnyE P md ops Q fuel listed a w→wpAny P md ops Q fuel listed a w
 | 0,_,_,w,h=>⟨h.1,h.2 ⟨w,Below.refl _ _⟩⟩
 | fuel+1,_,_,w,h=>⟨fun h0=>h.1 h0 ⟨w,Below.refl _ _⟩,fun i hi=>wpOp_mono (fun a' w' h'=>wpAny_of_E fuel _ a' w' h'.2) (h.2 i hi ⟨w,Below.refl _ _⟩)⟩

def YieldsE (P:Program) (ops:Array Oper) (w:World) (o:Oper) (v:Value) (a:Act):Prop:=YieldsIf P ops (fun W=>Below w.heap.size w W) o v a

theorem YieldsE.mono {w W:World} {o:Oper} {v:Value} {a:Act} (hb:Below w.heap.size w W) (h:YieldsE P ops w o v a):YieldsE P ops W o v a :=
 h.imp (fun ⟨h1,h2⟩=>⟨h1,fun X hX=>h2 X (below_then hb hX)⟩) id

theorem wpAnyE_first {i:Nat} {oi:Oper} {v:Value} (hi:ops[i]?=some oi) (hsel:∀ (j:Nat) (o:Oper) cs b,ops[j]?=some o→o.op≠.select cs b)
  (hQ:∀ c a w,Q (.panic c) (a.put oi.dst v) w→Q (.panic c) a w) :
  ∀ (fuel:Nat) (listed:Array Bool) (a:Act) (w:World),
   (∀ j oj,ops[j]?=some oj→j≠i→listed.getD j true=false→(∀ e ∈ oj.after,Region.binds md e=true→e.on≠i)→oi.apart ops oj=true) →
   i ∈ Region.ready md ops listed→YieldsE P ops w oi v a →
   wpAnyE P md ops Q fuel (listed.setIfInBounds i true) (a.put oi.dst v) w→wpAnyE P md ops Q (fuel+1) listed a w:=by
 intro fuel
 induction fuel with
 | zero =>
  intro listed a w _ hr hy H
  refine ⟨fun h=>(by rw [h] at hr;cases hr),fun j hj n=>?_⟩
  by_cases hji:j=i
  ·subst hji
   exact YieldsIf.wpOp hi hy n.below ⟨Below.refl _ _,wpAnyE_mono 0 _ _ _ _ n.below H⟩
  ·have:=ready_mono hj hji
   rw [H.1] at this
   cases this
 | succ fuel ih =>
  intro listed a w hfree hr hy H
  refine ⟨fun h=>(by rw [h] at hr;cases hr),fun j hj n=>?_⟩
  by_cases hji:j=i
  ·subst hji
   exact YieldsIf.wpOp hi hy n.below ⟨Below.refl _ _,wpAnyE_mono (fuel+1) _ _ _ _ n.below H⟩
  ·have h1:=H.2 j (ready_mono hj hji) n
   obtain ⟨hjun,oj,hoj,hall⟩:=mem_ready.1 hj
   have hnot:∀ e ∈ oj.after,Region.binds md e=true→e.on≠i:=fun e he hb heq=>by
    grind [mem_ready]
   have h2:=wpOp_putIf hoj (hfree j oj hoj hji hjun hnot) (fun cs b=>hsel i oi cs b hi) (fun cs b=>hsel j oj cs b hoj) hQ (YieldsE.mono n.below hy) h1
   have hfree':∀ k ok,ops[k]?=some ok→k≠i→(listed.setIfInBounds j true).getD k true=false →
     (∀ e ∈ ok.after,Region.binds md e=true→e.on≠i)→oi.apart ops ok=true:=fun k ok hk hki hun hno=>by
    refine hfree k ok hk hki ?_ hno
    by_cases hjk:j=k
    ·subst hjk;exact hjun
    simp_all
   refine wpOp_mono (fun a' w' h3=>⟨h3.2.1,ih (listed.setIfInBounds j true) a' w' hfree' (ready_mono hr (Ne.symm hji)) (YieldsE.mono h3.2.1 h3.1) ?_⟩) h2
   grind [Array.setIfInBounds_comm]

def wpE (P:Program) (ops:Array Oper) (Q:Exit→Act→World→Prop):List (Nat×Bool)→Act→World→Prop
 | [],a,w=>∀ n:Ext w,Q .normal a n.w
 |(i,false)::r,a,w=>∃ v o,ops[i]?=some o∧YieldsE P ops w o v a∧wpE P ops Q r (a.put o.dst v) w
 |(i,true)::r,a,w=>∀ n:Ext w,wpOp P ops Q i (fun a' w'=>Below n.w.heap.size n.w w'∧wpE P ops Q r a' w') a n.w

def orderB (md:Region.Mode) (ops:Array Oper):List (Nat×Bool)→Array Bool→Bool
 | [],listed=>Region.ready md ops listed == []
 |(i,false)::r,listed=>(Region.ready md ops listed).contains i && Region.free md ops listed i && orderB md ops r (listed.setIfInBounds i true)
 |(i,true)::r,listed=>Region.ready md ops listed == [i] && orderB md ops r (listed.setIfInBounds i true)

theorem below_drew1 (w:World):Below w.heap.size w w.drew:=⟨rfl,rfl,rfl,Nat.le_refl _,fun _ _=>rfl⟩

def opsOf (ops:Array Oper) (l:List (Nat×Bool)):List (Oper×Bool):=l.filterMap fun x=>(ops[x.1]?).map fun o=>(o,x.2)

def wpO (P:Program) (ops:Array Oper) (Q:Exit→Act→World→Prop):List (Oper×Bool)→Act→World→Prop
 | [],a,w=>∀ n:Ext w,Q .normal a n.w
 |(o,false)::r,a,w=>∃ v,YieldsE P ops w o v a∧wpO P ops Q r (a.put o.dst v) w
 |(o,true)::r,a,w=>∀ n:Ext w,if Region.wanted o (yielded ops a.tmps) then o.wp P a n.w (fun a' w'=>Below n.w.heap.size n.w w'∧wpO P ops Q r a' w') Q else wpO P ops Q r (a.put o.dst undef) w

end
end Go.Proofs.YtnijncmifjnifaaGreatDoor
namespace Go.Proofs.YtnijncmifjnifaaGreatDoor
set_option linter.unusedVariables false
open Go.RowKit

inductive Ord where
 | done
 | rd (i:Nat) (k:Ord)
 | one (i:Nat) (k:Ord)
 | two (i:Nat) (k:Ord) (j:Nat) (m:Ord)
 | three (i:Nat) (k:Ord) (j:Nat) (m:Ord) (q:Nat) (l:Ord)

def Ord.len:Ord→Nat
 | .done=>0
 | .rd _ k=>k.len+1
 | .one _ k=>k.len+1
 | .two _ k _ _=>k.len+1
 | .three _ k _ _ _ _=>k.len+1

def Ord.within (n:Nat):Ord→Bool
 | .done=>true
 | .rd i k=>decide (i<n) && k.within n
 | .one i k=>decide (i<n) && k.within n
 | .two i k j m=>decide (i<n) && k.within n && decide (j<n) && m.within n
 | .three i k j m q l=>decide (i<n) && k.within n && decide (j<n) && m.within n && decide (q<n) && l.within n

section
variable {P:Program} {ops:Array Oper} {Q:Exit→Act→World→Prop} {md:Region.Mode}

def wpT (P:Program) (ops:Array Oper) (Q:Exit→Act→World→Prop):Ord→Act→World→Prop
 | .done,a,w=>∀ n:Ext w,Q .normal a n.w
 | .rd i k,a,w=>∃ v o,ops[i]?=some o∧YieldsE P ops w o v a∧wpT P ops Q k (a.put o.dst v) w
 | .one i k,a,w=>∀ n:Ext w,wpOp P ops Q i (fun a' w'=>Below n.w.heap.size n.w w'∧wpT P ops Q k a' w') a n.w
 | .two i k j m,a,w =>
  (∀ n:Ext w,wpOp P ops Q i (fun a' w'=>Below n.w.heap.size n.w w'∧wpT P ops Q k a' w') a n.w) ∧
  (∀ n:Ext w,wpOp P ops Q j (fun a' w'=>Below n.w.heap.size n.w w'∧wpT P ops Q m a' w') a n.w)
 | .three i k j m q l,a,w =>
  (∀ n:Ext w,wpOp P ops Q i (fun a' w'=>Below n.w.heap.size n.w w'∧wpT P ops Q k a' w') a n.w) ∧
  (∀ n:Ext w,wpOp P ops Q j (fun a' w'=>Below n.w.heap.size n.w w'∧wpT P ops Q m a' w') a n.w) ∧
  (∀ n:Ext w,wpOp P ops Q q (fun a' w'=>Below n.w.heap.size n.w w'∧wpT P ops Q l a' w') a n.w)

theorem wpT_mono:∀ (r:Ord) (a:Act) (w W:World),Below w.heap.size w W→wpT P ops Q r a w→wpT P ops Q r a W
 | .done,_,_,_,hb,h=>fun n=>h (n.up hb)
 | .rd _ k,_,_,_,hb,⟨v,o,ho,hy,h⟩=>⟨v,o,ho,YieldsE.mono hb hy,wpT_mono k _ _ _ hb h⟩
 | .one _ _,_,_,_,hb,h=>fun n=>h (n.up hb)
 | .two _ _ _ _,_,_,_,hb,h=>⟨fun n=>h.1 (n.up hb),fun n=>h.2 (n.up hb)⟩
 | .three _ _ _ _ _ _,_,_,_,hb,h=>⟨fun n=>h.1 (n.up hb),fun n=>h.2.1 (n.up hb),fun n=>h.2.2 (n.up hb)⟩

def orderT (md:Region.Mode) (ops:Array Oper):Ord→Array Bool→Bool
 | .done,listed=>Region.ready md ops listed == []
 | .rd i k,listed=>(Region.ready md ops listed).contains i && Region.free md ops listed i && orderT md ops k (listed.setIfInBounds i true)
 | .one i k,listed=>Region.ready md ops listed == [i] && orderT md ops k (listed.setIfInBounds i true)
 | .two i k j m,listed=>Region.ready md ops listed == [i,j] && (k.len == m.len) && orderT md ops k (listed.setIfInBounds i true) && orderT md ops m (listed.setIfInBounds j true)
 | .three i k j m q l,listed=>Region.ready md ops listed == [i,j,q] && (k.len == m.len) && (k.len == l.len) && orderT md ops k (listed.setIfInBounds i true) && orderT md ops m (listed.setIfInBounds j true) && orderT md ops l (listed.setIfInBounds q true)

theorem wpAnyE_ofT (hs:Region.noSelect ops=true) (hQ:∀ c a w,¬ Q (.panic c) a w):∀ (l:Ord) (listed:Array Bool) (a:Act) (w:World),orderT md ops l listed=true→wpT P ops Q l a w→wpAnyE P md ops Q l.len listed a w
 | .done,listed,a,w,hB,h=>⟨by simpa [orderT] using hB,h⟩
 | .rd i r,listed,a,w,hB,h=>by
  simp only [orderT,Bool.and_eq_true] at hB
  obtain ⟨⟨hr,hf⟩,hB'⟩:=hB
  obtain ⟨v,o,ho,hy,hK⟩:=h
  exact wpAnyE_first ho (Region.noSelect_spec hs) (fun c a w h=>absurd h (hQ c _ w)) r.len listed a w (Region.free_spec ho hf) (by simpa using hr) hy (wpAnyE_ofT hs hQ r _ _ _ hB' hK)
 | .one i r,listed,a,w,hB,h=>by
  simp only [orderT,Bool.and_eq_true,beq_iff_eq] at hB
  refine ⟨fun h0=>(by rw [hB.1] at h0;cases h0),fun j hj n=>?_⟩
  rw [hB.1] at hj
  obtain rfl:=List.mem_singleton.1 hj
  exact wpOp_mono (fun a' w' h'=>⟨h'.1,wpAnyE_ofT hs hQ r _ _ _ hB.2 h'.2⟩) (h n)
 | .two i r j m,listed,a,w,hB,h=>by
  simp only [orderT,Bool.and_eq_true,beq_iff_eq] at hB
  obtain ⟨⟨⟨h1,h2⟩,h3⟩,h4⟩:=hB
  refine ⟨fun h0=>(by rw [h1] at h0;cases h0),fun q hq n=>?_⟩
  rw [h1] at hq
  simp only [List.mem_cons,List.not_mem_nil,or_false] at hq
  rcases hq with rfl|rfl
  ·exact wpOp_mono (fun a' w' h'=>⟨h'.1,wpAnyE_ofT hs hQ r _ _ _ h3 h'.2⟩) (h.1 n)
  ·refine wpOp_mono (fun a' w' h'=>⟨h'.1,?_⟩) (h.2 n)
   show wpAnyE P md ops Q r.len _ _ _
   rw [h2]
   exact wpAnyE_ofT hs hQ m _ _ _ h4 h'.2
 | .three i r j m q0 l,listed,a,w,hB,h=>by
  simp only [orderT,Bool.and_eq_true,beq_iff_eq] at hB
  obtain ⟨⟨⟨⟨⟨h1,h2⟩,h2'⟩,h3⟩,h4⟩,h5⟩:=hB
  refine ⟨fun h0=>(by rw [h1] at h0;cases h0),fun q hq n=>?_⟩
  rw [h1] at hq
  simp only [List.mem_cons,List.not_mem_nil,or_false] at hq
  rcases hq with rfl|rfl|rfl
  ·exact wpOp_mono (fun a' w' h'=>⟨h'.1,wpAnyE_ofT hs hQ r _ _ _ h3 h'.2⟩) (h.1 n)
  ·refine wpOp_mono (fun a' w' h'=>⟨h'.1,?_⟩) (h.2.1 n)
   show wpAnyE P md ops Q r.len _ _ _
   rw [h2]
   exact wpAnyE_ofT hs hQ m _ _ _ h4 h'.2
  ·refine wpOp_mono (fun a' w' h'=>⟨h'.1,?_⟩) (h.2.2 n)
   show wpAnyE P md ops Q r.len _ _ _
   rw [h2']
   exact wpAnyE_ofT hs hQ l _ _ _ h5 h'.2

inductive OrdO where
 | done
 | rd (o:Oper) (k:OrdO)
 | one (o:Oper) (k:OrdO)
 | two (o:Oper) (k:OrdO) (p:Oper) (m:OrdO)
 | three (o:Oper) (k:OrdO) (p:Oper) (m:OrdO) (q:Oper) (l:OrdO)

def opsOfT (ops:Array Oper):Ord→OrdO
 | .done=>.done
 | .rd i k=>match ops[i]? with|some o=>.rd o (opsOfT ops k)|none=>.done
 | .one i k=>match ops[i]? with|some o=>.one o (opsOfT ops k)|none=>.done
 | .two i k j m=>match ops[i]?,ops[j]? with|some o,some p=>.two o (opsOfT ops k) p (opsOfT ops m)|_,_=>.done
 | .three i k j m q l=>match ops[i]?,ops[j]?,ops[q]? with|some o,some p,some r=>.three o (opsOfT ops k) p (opsOfT ops m) r (opsOfT ops l)|_,_,_=>.done

def wpX (P:Program) (ops:Array Oper) (Q:Exit→Act→World→Prop):OrdO→Act→World→Prop
 | .done,a,w=>∀ n:Ext w,Q .normal a n.w
 | .rd o r,a,w=>∃ v,YieldsE P ops w o v a∧wpX P ops Q r (a.put o.dst v) w
 | .one o r,a,w=>∀ n:Ext w,if Region.wanted o (yielded ops a.tmps) then o.wp P a n.w (fun a' w'=>Below n.w.heap.size n.w w'∧wpX P ops Q r a' w') Q else wpX P ops Q r (a.put o.dst undef) w
 | .two o r p m,a,w =>
  (∀ n:Ext w,if Region.wanted o (yielded ops a.tmps) then o.wp P a n.w (fun a' w'=>Below n.w.heap.size n.w w'∧wpX P ops Q r a' w') Q else wpX P ops Q r (a.put o.dst undef) w) ∧
  (∀ n:Ext w,if Region.wanted p (yielded ops a.tmps) then p.wp P a n.w (fun a' w'=>Below n.w.heap.size n.w w'∧wpX P ops Q m a' w') Q else wpX P ops Q m (a.put p.dst undef) w)
 | .three o r p m q l,a,w =>
  (∀ n:Ext w,if Region.wanted o (yielded ops a.tmps) then o.wp P a n.w (fun a' w'=>Below n.w.heap.size n.w w'∧wpX P ops Q r a' w') Q else wpX P ops Q r (a.put o.dst undef) w) ∧
  (∀ n:Ext w,if Region.wanted p (yielded ops a.tmps) then p.wp P a n.w (fun a' w'=>Below n.w.heap.size n.w w'∧wpX P ops Q m a' w') Q else wpX P ops Q m (a.put p.dst undef) w) ∧
  (∀ n:Ext w,if Region.wanted q (yielded ops a.tmps) then q.wp P a n.w (fun a' w'=>Below n.w.heap.size n.w w'∧wpX P ops Q l a' w') Q else wpX P ops Q l (a.put q.dst undef) w)

theorem wpOp_of_X {i:Nat} {o:Oper} {a:Act} {w:World} {k:Ord} {r:OrdO} (ho:ops[i]?=some o) (hk:∀ a' w',wpX P ops Q r a' w'→wpT P ops Q k a' w')
  (h:∀ n:Ext w,if Region.wanted o (yielded ops a.tmps) then o.wp P a n.w (fun a' w'=>Below n.w.heap.size n.w w'∧wpX P ops Q r a' w') Q else wpX P ops Q r (a.put o.dst undef) w) :
  ∀ n:Ext w,wpOp P ops Q i (fun a' w'=>Below n.w.heap.size n.w w'∧wpT P ops Q k a' w') a n.w:=by
 intro n
 have h:=h n
 unfold wpOp
 simp only [ho]
 split
 ·grind [Oper.wp_mono]
 ·rename_i hw
  rw [if_neg hw] at h
  exact ⟨Below.refl _ _,wpT_mono k _ _ _ n.below (hk _ _ h)⟩

theorem wpT_of_X:∀ (l:Ord) (a:Act) (w:World),l.within ops.size=true→wpX P ops Q (opsOfT ops l) a w→wpT P ops Q l a w
 | .done,_,_,_,h=>h
 | .rd i k,a,w,hl,h=>by
  simp only [Ord.within,Bool.and_eq_true,decide_eq_true_eq] at hl
  have ho:ops[i]?=some ops[i]:=Array.getElem?_eq_getElem hl.1
  simp only [opsOfT,ho] at h
  obtain ⟨v,hy,hk⟩:=h
  exact ⟨v,ops[i],ho,hy,wpT_of_X k _ _ hl.2 hk⟩
 | .one i k,a,w,hl,h=>by
  simp only [Ord.within,Bool.and_eq_true,decide_eq_true_eq] at hl
  have ho:ops[i]?=some ops[i]:=Array.getElem?_eq_getElem hl.1
  simp only [opsOfT,ho] at h
  exact wpOp_of_X ho (fun a' w'=>wpT_of_X k a' w' hl.2) h
 | .two i k j m,a,w,hl,h=>by
  simp only [Ord.within,Bool.and_eq_true,decide_eq_true_eq] at hl
  have ho:ops[i]?=some ops[i]:=Array.getElem?_eq_getElem hl.1.1.1
  have hp:ops[j]?=some ops[j]:=Array.getElem?_eq_getElem hl.1.2
  simp only [opsOfT,ho,hp] at h
  exact ⟨wpOp_of_X ho (fun a' w'=>wpT_of_X k a' w' hl.1.1.2) h.1,wpOp_of_X hp (fun a' w'=>wpT_of_X m a' w' hl.2) h.2⟩
 | .three i k j m q l,a,w,hl,h=>by
  simp only [Ord.within,Bool.and_eq_true,decide_eq_true_eq] at hl
  have ho:ops[i]?=some ops[i]:=Array.getElem?_eq_getElem hl.1.1.1.1.1
  have hp:ops[j]?=some ops[j]:=Array.getElem?_eq_getElem hl.1.1.1.2
  have hq:ops[q]?=some ops[q]:=Array.getElem?_eq_getElem hl.1.2
  simp only [opsOfT,ho,hp,hq] at h
  exact ⟨wpOp_of_X ho (fun a' w'=>wpT_of_X k a' w' hl.1.1.1.1.2) h.1,wpOp_of_X hp (fun a' w'=>wpT_of_X m a' w' hl.1.1.2) h.2.1,wpOp_of_X hq (fun a' w'=>wpT_of_X l a' w' hl.2) h.2.2⟩

theorem any_X {a:Act} {w:World} (l:Ord) (hs:Region.noSelect ops=true) (hl:l.len=ops.size)
  (hin:l.within ops.size=true)
  (hB:orderT .any ops l (Array.replicate ops.size false)=true) (h:wpX P ops (NoPanic Q) (opsOfT ops l) a w):wpAny P .any ops (NoPanic Q) ops.size (Array.replicate ops.size false) a w.drew:=by
 refine wpAny_of_E _ _ _ _ (wpAnyE_mono _ _ _ _ _ (below_drew1 w) ?_)
 have:=wpAnyE_ofT hs (fun c a w h=>h) l _ a w hB (wpT_of_X l a w hin h)
 rwa [hl] at this
end
end Go.Proofs.YtnijncmifjnifaaGreatDoor
namespace Go.Proofs.YtnijncmifjnifaaGreatDoor
set_option linter.unusedVariables false
open Go.RowKit
section
variable {P:Program} {ops:Array Oper} {Q:Exit→Act→World→Prop} {md:Region.Mode} {m:Nat} {R:Act→World→Prop}

def fullB (m:Nat) (listed:Array Bool):Bool:=(List.range m).all fun i=>listed.getD i false
theorem fullB_spec {listed:Array Bool}:fullB m listed=true↔∀ i,i<m→listed.getD i false=true:=by
 simp [fullB,List.all_eq_true]
def ClosedL (md:Region.Mode) (ops:Array Oper) (listed:Array Bool):Prop:=∀ (i:Nat) o,ops[i]?=some o→listed.getD i false=true→∀ e ∈ o.after,Region.binds md e=true→listed.getD e.on false=true
def coverB (md:Region.Mode) (ops:Array Oper) (m:Nat):Bool :=
 ((List.range m).all fun i=>(List.range (m+1)).any fun k=>Nat.blt i k && (ops[k]?).any fun o=>o.after.any fun e=>Region.binds md e && e.on == i) &&
 ((List.range ops.size).all fun j=>Nat.ble j m || (List.range j).any fun k=>Nat.ble m k && (ops[j]?).any fun o=>o.after.any fun e=>Region.binds md e && e.on == k)

theorem any_some {α:Type} {p:α→Bool} {x:Option α} (h:x.any p=true):∃ o,x=some o∧p o=true:=by
 cases x with
 | none=>cases h
 | some o=>exact ⟨o,rfl,h⟩
theorem not_both {listed:Array Bool} {i j:Nat} (hji:j≠i) (h0:listed.getD j true=false) (h1:(listed.setIfInBounds i true).getD j false=true):False:=by
 have e:(listed.setIfInBounds i true)[j]?=listed[j]?:=Array.getElem?_setIfInBounds_ne (Ne.symm hji)
 simp only [Array.getD_eq_getD_getElem?] at h0 h1
 grind
theorem cover_ready (hc:coverB md ops m=true) {listed:Array Bool} (hcl:ClosedL md ops listed):∀ (n j:Nat),j=m+n→(∀ o,ops[j]?=some o→∀ e ∈ o.after,Region.binds md e=true→listed.getD e.on false=true)→j<ops.size→fullB m listed=true:=by
 simp only [coverB,Bool.and_eq_true,List.all_eq_true,List.any_eq_true,List.mem_range,Bool.or_eq_true] at hc
 obtain ⟨h1,h2⟩:=hc
 intro n
 induction n using Nat.strongRecOn with
 | _ n ih =>
  intro j hj hr hlt
  by_cases hn:n=0
  ·subst hn
   have hj:j=m:=by omega
   subst hj
   rw [fullB_spec]
   have key:∀ d i,i+d=j→d≠0→listed.getD i false=true:=by
    intro d
    induction d using Nat.strongRecOn with
    | _ d ihd =>
     intro i hid hd
     obtain ⟨k,hk,hk2⟩:=h1 i (by omega)
     obtain ⟨hik,hk3⟩:=hk2
     have hik:i<k:=Nat.le_of_ble_eq_true hik
     obtain ⟨o,ho,ha⟩:=any_some hk3
     obtain ⟨e,he,hbe⟩:=Array.any_eq_true'.1 ha
     simp only [Bool.and_eq_true,beq_iff_eq] at hbe
     by_cases hkj:k=j
     ·grind
     ·have:=hcl k o ho (ihd (j-k) (by omega) k (by omega) (by omega)) e he hbe.1
      rwa [hbe.2] at this
   intro i hi
   exact key (j-i) i (by omega) (by omega)
  ·have h3:=h2 j hlt
   rcases h3 with h3|⟨k,hk,hk2,hk3⟩
   ·have:=Nat.le_of_ble_eq_true h3;omega
   ·have hk2:m≤k:=Nat.le_of_ble_eq_true hk2
    obtain ⟨o,ho,ha⟩:=any_some hk3
    obtain ⟨e,he,hbe⟩:=Array.any_eq_true'.1 ha
    simp only [Bool.and_eq_true,beq_iff_eq] at hbe
    have hl:=hr o ho e he hbe.1
    rw [hbe.2] at hl
    refine ih (k-m) (by omega) k (by omega) (fun o' ho' e' he' hb'=>hcl k o' ho' hl e' he' hb') ?_
    omega

theorem ready_lt (hc:coverB md ops m=true) {listed:Array Bool} (hcl:ClosedL md ops listed) (hf:fullB m listed=false) {j:Nat} (hj:j ∈ Region.ready md ops listed):j<m:=by
 rcases Nat.lt_or_ge j m with h|h
 ·exact h
 ·obtain ⟨hun,o,ho,hall⟩:=mem_ready.1 hj
  have:=cover_ready hc hcl (j-m) j (by omega) (fun o' ho' e he hb=>by
   simp_all) (Array.getElem?_eq_some_iff.1 ho).1
  grind

def wpB (P:Program) (md:Region.Mode) (ops:Array Oper) (Q:Exit→Act→World→Prop) (m:Nat) (R:Act→World→Prop):Nat→Array Bool→Act→World→Prop
 | 0,listed,a,w=>fullB m listed=true∧∀ n:Ext w,R a n.w
 | f+1,listed,a,w=>(fullB m listed=true→∀ n:Ext w,R a n.w) ∧
  (fullB m listed=false→Region.ready md ops listed≠[]∧∀ i ∈ Region.ready md ops listed,∀ n:Ext w,wpOp P ops Q i (fun a' w'=>Below n.w.heap.size n.w w'∧wpB P md ops Q m R f (listed.setIfInBounds i true) a' w') a n.w)

theorem wpB_mono:∀ (f:Nat) (listed:Array Bool) (a:Act) (w W:World),Below w.heap.size w W→wpB P md ops Q m R f listed a w→wpB P md ops Q m R f listed a W
 | 0,_,_,_,_,hb,h=>⟨h.1,fun n=>h.2 (n.up hb)⟩
 | _+1,_,_,_,_,hb,h=>⟨fun h0 n=>h.1 h0 (n.up hb),fun h0=>⟨(h.2 h0).1,fun i hi n=>(h.2 h0).2 i hi (n.up hb)⟩⟩

theorem getD_set_true {listed:Array Bool} {i j:Nat} (h:listed.getD j false=true):(listed.setIfInBounds i true).getD j false=true:=by
 by_cases hij:i=j
 ·subst hij
  have:i<listed.size:=by
   rcases Nat.lt_or_ge i listed.size with h'|h'
   ·exact h'
   ·simp_all
  simp [this]
 simp_all

theorem closed_set {listed:Array Bool} (hcl:ClosedL md ops listed) {i:Nat} (hi:i ∈ Region.ready md ops listed):ClosedL md ops (listed.setIfInBounds i true):=by
 obtain ⟨hun,oi,hoi,hall⟩:=mem_ready.1 hi
 intro k o ho hk e he hb
 by_cases hik:k=i
 ·grind [getD_set_true]
 ·have hk':listed.getD k false=true:=by simpa [Array.getElem?_setIfInBounds_ne (Ne.symm hik)] using hk
  exact getD_set_true (hcl k o ho hk' e he hb)

theorem wpB_first {i:Nat} {oi:Oper} {v:Value} (hc:coverB md ops m=true) (hi:ops[i]?=some oi) (him:i<m) (hsel:∀ (j:Nat) (o:Oper) cs b,ops[j]?=some o→o.op≠.select cs b)
  (hQ:∀ c a w,Q (.panic c) (a.put oi.dst v) w→Q (.panic c) a w) :
  ∀ (fuel:Nat) (listed:Array Bool) (a:Act) (w:World),ClosedL md ops listed →
   (∀ j oj,ops[j]?=some oj→j<m→j≠i→listed.getD j true=false→(∀ e ∈ oj.after,Region.binds md e=true→e.on≠i)→oi.apart ops oj=true) →
   i ∈ Region.ready md ops listed→YieldsE P ops w oi v a →
   wpB P md ops Q m R fuel (listed.setIfInBounds i true) (a.put oi.dst v) w→wpB P md ops Q m R (fuel+1) listed a w:=by
 have nf:∀ {listed:Array Bool},i ∈ Region.ready md ops listed→fullB m listed=false:=fun {listed} hr=>by
  grind [fullB_spec,mem_ready]
 intro fuel
 induction fuel with
 | zero =>
  intro listed a w hcl _ hr hy H
  have hnf:=nf hr
  refine ⟨fun h=>(by rw [hnf] at h;cases h),fun _=>⟨(by grind),fun j hj n=>?_⟩⟩
  by_cases hji:j=i
  ·subst hji
   exact YieldsIf.wpOp hi hy n.below ⟨Below.refl _ _,wpB_mono 0 _ _ _ _ n.below H⟩
  ·have hjm:=ready_lt hc hcl hnf hj
   have h1:=fullB_spec.1 H.1 j hjm
   grind [not_both,mem_ready]
 | succ fuel ih =>
  intro listed a w hcl hfree hr hy H
  have hnf:=nf hr
  refine ⟨fun h=>(by rw [hnf] at h;cases h),fun _=>⟨(by grind),fun j hj n=>?_⟩⟩
  by_cases hji:j=i
  ·subst hji
   exact YieldsIf.wpOp hi hy n.below ⟨Below.refl _ _,wpB_mono (fuel+1) _ _ _ _ n.below H⟩
  ·have hjm:=ready_lt hc hcl hnf hj
   obtain ⟨hjun,oj,hoj,hall⟩:=mem_ready.1 hj
   have hnf2:fullB m (listed.setIfInBounds i true)=false:=by
    cases h:fullB m (listed.setIfInBounds i true) with
    | false=>rfl
    | true =>
     grind [fullB_spec,not_both]
   have h1:=(H.2 hnf2).2 j (ready_mono hj hji) n
   have hnot:∀ e ∈ oj.after,Region.binds md e=true→e.on≠i:=fun e he hb heq=>by
    grind [mem_ready]
   have h2:=wpOp_putIf hoj (hfree j oj hoj hjm hji hjun hnot) (fun cs b=>hsel i oi cs b hi) (fun cs b=>hsel j oj cs b hoj) hQ (YieldsE.mono n.below hy) h1
   have hfree':∀ k ok,ops[k]?=some ok→k<m→k≠i→(listed.setIfInBounds j true).getD k true=false →
     (∀ e ∈ ok.after,Region.binds md e=true→e.on≠i)→oi.apart ops ok=true:=fun k ok hk hkm hki hun hno=>by
    refine hfree k ok hk hkm hki ?_ hno
    by_cases hjk:j=k
    ·subst hjk;exact hjun
    simp_all
   refine wpOp_mono (fun a' w' h3=>⟨h3.2.1,ih (listed.setIfInBounds j true) a' w' (closed_set hcl hj) hfree' (ready_mono hr (Ne.symm hji)) (YieldsE.mono h3.2.1 h3.1) ?_⟩) h2
   grind [Array.setIfInBounds_comm]

def wpTB (P:Program) (ops:Array Oper) (Q:Exit→Act→World→Prop) (R:Act→World→Prop):Ord→Act→World→Prop
 | .done,a,w=>∀ n:Ext w,R a n.w
 | .rd i k,a,w=>∃ v o,ops[i]?=some o∧YieldsE P ops w o v a∧wpTB P ops Q R k (a.put o.dst v) w
 | .one i k,a,w=>∀ n:Ext w,wpOp P ops Q i (fun a' w'=>Below n.w.heap.size n.w w'∧wpTB P ops Q R k a' w') a n.w
 | .two i k j l,a,w =>
  (∀ n:Ext w,wpOp P ops Q i (fun a' w'=>Below n.w.heap.size n.w w'∧wpTB P ops Q R k a' w') a n.w) ∧
  (∀ n:Ext w,wpOp P ops Q j (fun a' w'=>Below n.w.heap.size n.w w'∧wpTB P ops Q R l a' w') a n.w)
 | .three i k j l q u,a,w =>
  (∀ n:Ext w,wpOp P ops Q i (fun a' w'=>Below n.w.heap.size n.w w'∧wpTB P ops Q R k a' w') a n.w) ∧
  (∀ n:Ext w,wpOp P ops Q j (fun a' w'=>Below n.w.heap.size n.w w'∧wpTB P ops Q R l a' w') a n.w) ∧
  (∀ n:Ext w,wpOp P ops Q q (fun a' w'=>Below n.w.heap.size n.w w'∧wpTB P ops Q R u a' w') a n.w)

def freeB (md:Region.Mode) (ops:Array Oper) (m:Nat) (listed:Array Bool) (i:Nat):Bool:=match ops[i]? with
 | none=>false
 | some oi=>(List.range m).all fun j=>Nat.beq j i || listed.getD j true || match ops[j]? with|none=>true|some oj=>(oj.after.any fun e=>Region.binds md e && e.on == i) || oi.apart ops oj
theorem freeB_spec {listed:Array Bool} {i:Nat} {oi:Oper} (hi:ops[i]?=some oi) (h:freeB md ops m listed i=true) :
  ∀ j oj,ops[j]?=some oj→j<m→j≠i→listed.getD j true=false→(∀ e ∈ oj.after,Region.binds md e=true→e.on≠i)→oi.apart ops oj=true:=by
 grind [freeB,Nat.eq_of_beq_eq_true]

def orderB2 (md:Region.Mode) (ops:Array Oper) (m:Nat):Ord→Array Bool→Bool
 | .done,listed=>fullB m listed
 | .rd i k,listed=>(Region.ready md ops listed).contains i && Nat.blt i m && freeB md ops m listed i && orderB2 md ops m k (listed.setIfInBounds i true)
 | .one i k,listed=>!fullB m listed && Region.ready md ops listed == [i] && orderB2 md ops m k (listed.setIfInBounds i true)
 | .two i k j l,listed=>!fullB m listed && Region.ready md ops listed == [i,j] && (k.len == l.len) && orderB2 md ops m k (listed.setIfInBounds i true) && orderB2 md ops m l (listed.setIfInBounds j true)
 | .three i k j l q u,listed=>!fullB m listed && Region.ready md ops listed == [i,j,q] && (k.len == l.len) && (k.len == u.len) && orderB2 md ops m k (listed.setIfInBounds i true) && orderB2 md ops m l (listed.setIfInBounds j true) && orderB2 md ops m u (listed.setIfInBounds q true)

theorem wpB_of (hc:coverB md ops m=true) (hs:Region.noSelect ops=true) (hQ:∀ c a w,¬ Q (.panic c) a w):∀ (l:Ord) (listed:Array Bool) (a:Act) (w:World),ClosedL md ops listed→orderB2 md ops m l listed=true→wpTB P ops Q R l a w→wpB P md ops Q m R l.len listed a w
 | .done,listed,a,w,_,hB,h=>⟨hB,h⟩
 | .rd i r,listed,a,w,hcl,hB,h=>by
  simp only [orderB2,Bool.and_eq_true] at hB
  obtain ⟨⟨⟨hr,him⟩,hf⟩,hB'⟩:=hB
  obtain ⟨v,o,ho,hy,hK⟩:=h
  have hr':i ∈ Region.ready md ops listed:=by simpa using hr
  exact wpB_first hc ho (Nat.le_of_ble_eq_true him) (Region.noSelect_spec hs) (fun c a w h=>absurd h (hQ c _ w)) r.len listed a w hcl (freeB_spec ho hf) hr' hy (wpB_of hc hs hQ r _ _ _ (closed_set hcl hr') hB' hK)
 | .one i r,listed,a,w,hcl,hB,h=>by
  simp only [orderB2,Bool.and_eq_true,beq_iff_eq,Bool.not_eq_true'] at hB
  obtain ⟨⟨hnf,hr⟩,hB'⟩:=hB
  have hi:i ∈ Region.ready md ops listed:=by rw [hr];exact List.mem_singleton.2 rfl
  refine ⟨fun h0=>(by rw [hnf] at h0;cases h0),fun _=>⟨(by rw [hr];simp),fun j hj n=>?_⟩⟩
  rw [hr] at hj
  obtain rfl:=List.mem_singleton.1 hj
  exact wpOp_mono (fun a' w' h'=>⟨h'.1,wpB_of hc hs hQ r _ _ _ (closed_set hcl hi) hB' h'.2⟩) (h n)
 | .two i r j l,listed,a,w,hcl,hB,h=>by
  simp only [orderB2,Bool.and_eq_true,beq_iff_eq,Bool.not_eq_true'] at hB
  obtain ⟨⟨⟨⟨hnf,h1⟩,h2⟩,h3⟩,h4⟩:=hB
  have hi:i ∈ Region.ready md ops listed:=by rw [h1];simp
  have hj:j ∈ Region.ready md ops listed:=by rw [h1];simp
  refine ⟨fun h0=>(by rw [hnf] at h0;cases h0),fun _=>⟨(by rw [h1];simp),fun q hq n=>?_⟩⟩
  rw [h1] at hq
  simp only [List.mem_cons,List.not_mem_nil,or_false] at hq
  rcases hq with rfl|rfl
  ·exact wpOp_mono (fun a' w' h'=>⟨h'.1,wpB_of hc hs hQ r _ _ _ (closed_set hcl hi) h3 h'.2⟩) (h.1 n)
  ·refine wpOp_mono (fun a' w' h'=>⟨h'.1,?_⟩) (h.2 n)
   show wpB P md ops Q m R r.len _ _ _
   rw [h2]
   exact wpB_of hc hs hQ l _ _ _ (closed_set hcl hj) h4 h'.2
 | .three i r j l q0 u,listed,a,w,hcl,hB,h=>by
  simp only [orderB2,Bool.and_eq_true,beq_iff_eq,Bool.not_eq_true'] at hB
  obtain ⟨⟨⟨⟨⟨⟨hnf,h1⟩,h2⟩,h2'⟩,h3⟩,h4⟩,h5⟩:=hB
  have hi:i ∈ Region.ready md ops listed:=by rw [h1];simp
  have hj:j ∈ Region.ready md ops listed:=by rw [h1];simp
  have hq0:q0 ∈ Region.ready md ops listed:=by rw [h1];simp
  refine ⟨fun h0=>(by rw [hnf] at h0;cases h0),fun _=>⟨(by rw [h1];simp),fun q hq n=>?_⟩⟩
  rw [h1] at hq
  simp only [List.mem_cons,List.not_mem_nil,or_false] at hq
  rcases hq with rfl|rfl|rfl
  ·exact wpOp_mono (fun a' w' h'=>⟨h'.1,wpB_of hc hs hQ r _ _ _ (closed_set hcl hi) h3 h'.2⟩) (h.1 n)
  ·refine wpOp_mono (fun a' w' h'=>⟨h'.1,?_⟩) (h.2.1 n)
   show wpB P md ops Q m R r.len _ _ _
   rw [h2]
   exact wpB_of hc hs hQ l _ _ _ (closed_set hcl hj) h4 h'.2
  ·refine wpOp_mono (fun a' w' h'=>⟨h'.1,?_⟩) (h.2.2 n)
   show wpB P md ops Q m R r.len _ _ _
   rw [h2']
   exact wpB_of hc hs hQ u _ _ _ (closed_set hcl hq0) h5 h'.2

theorem wpAny_fuel:∀ (f k:Nat) (listed:Array Bool) (a:Act) (w:World),wpAny P md ops Q f listed a w→wpAny P md ops Q (f+k) listed a w
 | 0,0,_,_,_,h=>h
 | 0,k+1,listed,a,w,h=>by
  rw [Nat.zero_add]
  exact ⟨fun _=>h.2,fun i hi=>(by rw [h.1] at hi;cases hi)⟩
 | f+1,k,listed,a,w,h=>by
  rw [Nat.add_right_comm]
  exact ⟨h.1,fun i hi=>wpOp_mono (fun a' w' h'=>wpAny_fuel f k _ a' w' h') (h.2 i hi)⟩

def barL (m n:Nat):Array Bool:=(List.replicate m true++List.replicate (n-m) false).toArray
theorem listed_bar {listed:Array Bool} (hm:m≤ops.size) (hsz:listed.size=ops.size) (hf:fullB m listed=true) (ht:∀ j,m≤j→listed.getD j false=false):listed=barL m ops.size:=by
 apply Array.ext_getElem?
 intro j
 rcases Nat.lt_or_ge j listed.size with h|h
 ·have e:listed[j]?=some (listed.getD j false):=by simp [h]
  grind [fullB_spec,barL]
 grind [barL]

theorem wpAny_of_B (hc:coverB md ops m=true) (hm:m≤ops.size) (g:Nat):∀ (f:Nat) (listed:Array Bool) (a:Act) (w:World),listed.size=ops.size→ClosedL md ops listed→(∀ j,m≤j→listed.getD j false=false) →
  wpB P md ops Q m (fun a w=>wpAny P md ops Q g (barL m ops.size) a w) f listed a w→wpAny P md ops Q (f+g) listed a w
 | 0,listed,a,w,hsz,_,ht,h=>by
  rw [Nat.zero_add,listed_bar hm hsz h.1 ht]
  exact h.2 ⟨w,Below.refl _ _⟩
 | f+1,listed,a,w,hsz,hcl,ht,h=>by
  cases hf:fullB m listed with
  | true =>
   rw [listed_bar hm hsz hf ht,Nat.add_comm]
   exact wpAny_fuel g (f+1) _ a w (h.1 hf ⟨w,Below.refl _ _⟩)
  | false =>
   obtain ⟨hne,h2⟩:=h.2 hf
   rw [Nat.add_right_comm]
   refine ⟨fun h0=>absurd h0 hne,fun i hi=>wpOp_mono (fun a' w' h'=>wpAny_of_B hc hm g f _ a' w' (by simp [hsz]) (closed_set hcl hi) (fun j hj=>?_) h'.2) (h2 i hi ⟨w,Below.refl _ _⟩)⟩
   have him:=ready_lt hc hcl hf hi
   have:=ht j hj
   simpa [Array.getElem?_setIfInBounds_ne (show i≠j by omega)] using this

def tailB (md:Region.Mode) (ops:Array Oper):Nat→Nat→Array Bool→Bool
 | 0,_,listed=>Region.ready md ops listed == []
 | f+1,i,listed=>Region.ready md ops listed == [i] && tailB md ops f (i+1) (listed.setIfInBounds i true)
theorem wpAny_tail:∀ (f i:Nat) (listed:Array Bool) (a:Act) (w:World),tailB md ops f i listed=true→wpOps P ops Q ((List.range f).map (i+·)) a w→wpAny P md ops Q f listed a w
 | 0,i,listed,a,w,hB,h=>⟨by simpa [tailB] using hB,by simpa [wpOps] using h⟩
 | f+1,i,listed,a,w,hB,h=>by
  simp only [tailB,Bool.and_eq_true,beq_iff_eq] at hB
  refine ⟨fun h0=>(by rw [hB.1] at h0;cases h0),fun j hj=>?_⟩
  rw [hB.1] at hj
  obtain rfl:=List.mem_singleton.1 hj
  rw [List.range_succ_eq_map,List.map_cons,wpOps_cons,Nat.add_zero,List.map_map] at h
  have e:((fun x=>j+x) ∘ Nat.succ)=(fun x=>j+1+x):=funext fun x=>by simp;omega
  rw [e] at h
  exact wpOp_mono (fun a' w' h'=>wpAny_tail f (j+1) _ a' w' hB.2 h') h

def wpXB (P:Program) (ops:Array Oper) (Q:Exit→Act→World→Prop) (R:Act→World→Prop):OrdO→Act→World→Prop
 | .done,a,w=>∀ n:Ext w,R a n.w
 | .rd o r,a,w=>∃ v,YieldsE P ops w o v a∧wpXB P ops Q R r (a.put o.dst v) w
 | .one o r,a,w=>∀ n:Ext w,if Region.wanted o (yielded ops a.tmps) then o.wp P a n.w (fun a' w'=>Below n.w.heap.size n.w w'∧wpXB P ops Q R r a' w') Q else wpXB P ops Q R r (a.put o.dst undef) w
 | .two o r p l,a,w =>
  (∀ n:Ext w,if Region.wanted o (yielded ops a.tmps) then o.wp P a n.w (fun a' w'=>Below n.w.heap.size n.w w'∧wpXB P ops Q R r a' w') Q else wpXB P ops Q R r (a.put o.dst undef) w) ∧
  (∀ n:Ext w,if Region.wanted p (yielded ops a.tmps) then p.wp P a n.w (fun a' w'=>Below n.w.heap.size n.w w'∧wpXB P ops Q R l a' w') Q else wpXB P ops Q R l (a.put p.dst undef) w)
 | .three o r p l q u,a,w =>
  (∀ n:Ext w,if Region.wanted o (yielded ops a.tmps) then o.wp P a n.w (fun a' w'=>Below n.w.heap.size n.w w'∧wpXB P ops Q R r a' w') Q else wpXB P ops Q R r (a.put o.dst undef) w) ∧
  (∀ n:Ext w,if Region.wanted p (yielded ops a.tmps) then p.wp P a n.w (fun a' w'=>Below n.w.heap.size n.w w'∧wpXB P ops Q R l a' w') Q else wpXB P ops Q R l (a.put p.dst undef) w) ∧
  (∀ n:Ext w,if Region.wanted q (yielded ops a.tmps) then q.wp P a n.w (fun a' w'=>Below n.w.heap.size n.w w'∧wpXB P ops Q R u a' w') Q else wpXB P ops Q R u (a.put q.dst undef) w)
theorem wpTB_mono:∀ (r:Ord) (a:Act) (w W:World),Below w.heap.size w W→wpTB P ops Q R r a w→wpTB P ops Q R r a W
 | .done,_,_,_,hb,h=>fun n=>h (n.up hb)
 | .rd _ k,_,_,_,hb,⟨v,o,ho,hy,h⟩=>⟨v,o,ho,YieldsE.mono hb hy,wpTB_mono k _ _ _ hb h⟩
 | .one _ _,_,_,_,hb,h=>fun n=>h (n.up hb)
 | .two _ _ _ _,_,_,_,hb,h=>⟨fun n=>h.1 (n.up hb),fun n=>h.2 (n.up hb)⟩
 | .three _ _ _ _ _ _,_,_,_,hb,h=>⟨fun n=>h.1 (n.up hb),fun n=>h.2.1 (n.up hb),fun n=>h.2.2 (n.up hb)⟩
theorem wpOp_of_XB {i:Nat} {o:Oper} {a:Act} {w:World} {k:Ord} {r:OrdO} (ho:ops[i]?=some o) (hk:∀ a' w',wpXB P ops Q R r a' w'→wpTB P ops Q R k a' w')
  (h:∀ n:Ext w,if Region.wanted o (yielded ops a.tmps) then o.wp P a n.w (fun a' w'=>Below n.w.heap.size n.w w'∧wpXB P ops Q R r a' w') Q else wpXB P ops Q R r (a.put o.dst undef) w) :
  ∀ n:Ext w,wpOp P ops Q i (fun a' w'=>Below n.w.heap.size n.w w'∧wpTB P ops Q R k a' w') a n.w:=by
 intro n
 have h:=h n
 unfold wpOp
 simp only [ho]
 split
 ·grind [Oper.wp_mono]
 ·rename_i hw
  rw [if_neg hw] at h
  exact ⟨Below.refl _ _,wpTB_mono k _ _ _ n.below (hk _ _ h)⟩
theorem wpTB_of_X:∀ (l:Ord) (a:Act) (w:World),l.within ops.size=true→wpXB P ops Q R (opsOfT ops l) a w→wpTB P ops Q R l a w
 | .done,_,_,_,h=>h
 | .rd i k,a,w,hl,h=>by
  simp only [Ord.within,Bool.and_eq_true,decide_eq_true_eq] at hl
  have ho:ops[i]?=some ops[i]:=Array.getElem?_eq_getElem hl.1
  simp only [opsOfT,ho] at h
  obtain ⟨v,hy,hk⟩:=h
  exact ⟨v,ops[i],ho,hy,wpTB_of_X k _ _ hl.2 hk⟩
 | .one i k,a,w,hl,h=>by
  simp only [Ord.within,Bool.and_eq_true,decide_eq_true_eq] at hl
  have ho:ops[i]?=some ops[i]:=Array.getElem?_eq_getElem hl.1
  simp only [opsOfT,ho] at h
  exact wpOp_of_XB ho (fun a' w'=>wpTB_of_X k a' w' hl.2) h
 | .two i k j l,a,w,hl,h=>by
  simp only [Ord.within,Bool.and_eq_true,decide_eq_true_eq] at hl
  have ho:ops[i]?=some ops[i]:=Array.getElem?_eq_getElem hl.1.1.1
  have hp:ops[j]?=some ops[j]:=Array.getElem?_eq_getElem hl.1.2
  simp only [opsOfT,ho,hp] at h
  exact ⟨wpOp_of_XB ho (fun a' w'=>wpTB_of_X k a' w' hl.1.1.2) h.1,wpOp_of_XB hp (fun a' w'=>wpTB_of_X l a' w' hl.2) h.2⟩
 | .three i k j l q u,a,w,hl,h=>by
  simp only [Ord.within,Bool.and_eq_true,decide_eq_true_eq] at hl
  have ho:ops[i]?=some ops[i]:=Array.getElem?_eq_getElem hl.1.1.1.1.1
  have hp:ops[j]?=some ops[j]:=Array.getElem?_eq_getElem hl.1.1.1.2
  have hq:ops[q]?=some ops[q]:=Array.getElem?_eq_getElem hl.1.2
  simp only [opsOfT,ho,hp,hq] at h
  exact ⟨wpOp_of_XB ho (fun a' w'=>wpTB_of_X k a' w' hl.1.1.1.1.2) h.1,wpOp_of_XB hp (fun a' w'=>wpTB_of_X l a' w' hl.1.1.2) h.2.1,wpOp_of_XB hq (fun a' w'=>wpTB_of_X u a' w' hl.2) h.2.2⟩

theorem rep_false (n i:Nat):(Array.replicate n false).getD i false=false:=by
 rcases Nat.lt_or_ge i n with h|h
 ·simp [h]
 grind
theorem closed_none (n:Nat):ClosedL md ops (Array.replicate n false):=fun i o _ hi=>by rw [rep_false] at hi;cases hi
theorem wpX_of_XB:∀ (t:OrdO) (a:Act) (w:World),wpXB P ops Q (Q .normal) t a w→wpX P ops Q t a w
 | .done,_,_,h=>h
 | .rd _ r,_,_,⟨v,hy,h⟩=>⟨v,hy,wpX_of_XB r _ _ h⟩
 | .one o r,a,w,h=>fun n=>by
  have h:=h n
  split
  ·rename_i hw;rw [if_pos hw] at h;exact Oper.wp_mono (fun a' w' h'=>⟨h'.1,wpX_of_XB r _ _ h'.2⟩) h
  ·rename_i hw;rw [if_neg hw] at h;exact wpX_of_XB r _ _ h
 | .two o r p l,a,w,h=>⟨fun n=>by
  have h:=h.1 n
  split
  ·rename_i hw;rw [if_pos hw] at h;exact Oper.wp_mono (fun a' w' h'=>⟨h'.1,wpX_of_XB r _ _ h'.2⟩) h
  ·rename_i hw;rw [if_neg hw] at h;exact wpX_of_XB r _ _ h,fun n=>by
  have h:=h.2 n
  split
  ·rename_i hw;rw [if_pos hw] at h;exact Oper.wp_mono (fun a' w' h'=>⟨h'.1,wpX_of_XB l _ _ h'.2⟩) h
  ·rename_i hw;rw [if_neg hw] at h;exact wpX_of_XB l _ _ h⟩
 | .three o r p l q u,a,w,h=>⟨fun n=>by
  have h:=h.1 n
  split
  ·rename_i hw;rw [if_pos hw] at h;exact Oper.wp_mono (fun a' w' h'=>⟨h'.1,wpX_of_XB r _ _ h'.2⟩) h
  ·rename_i hw;rw [if_neg hw] at h;exact wpX_of_XB r _ _ h,fun n=>by
  have h:=h.2.1 n
  split
  ·rename_i hw;rw [if_pos hw] at h;exact Oper.wp_mono (fun a' w' h'=>⟨h'.1,wpX_of_XB l _ _ h'.2⟩) h
  ·rename_i hw;rw [if_neg hw] at h;exact wpX_of_XB l _ _ h,fun n=>by
  have h:=h.2.2 n
  split
  ·rename_i hw;rw [if_pos hw] at h;exact Oper.wp_mono (fun a' w' h'=>⟨h'.1,wpX_of_XB u _ _ h'.2⟩) h
  ·rename_i hw;rw [if_neg hw] at h;exact wpX_of_XB u _ _ h⟩

theorem any_XB {a:Act} {w:World} (m:Nat) (l:Ord) (hs:Region.noSelect ops=true) (hm:Nat.ble m ops.size=true) (hl:l.len=m) (hin:l.within ops.size=true) (hc:coverB .any ops m=true)
  (hB:orderB2 .any ops m l (Array.replicate ops.size false)=true) (ht:tailB .any ops (ops.size-m) m (barL m ops.size)=true)
  (h:wpXB P ops (NoPanic Q) (fun a w=>wpOps P ops (NoPanic Q) ((List.range (ops.size-m)).map (m+·)) a w) (opsOfT ops l) a w):wpAny P .any ops (NoPanic Q) ops.size (Array.replicate ops.size false) a w.drew:=by
 have hm:=Nat.le_of_ble_eq_true hm
 have h1:=wpB_of (md:=.any) hc hs (fun c a w h=>h) l _ a w (closed_none _) hB (wpTB_of_X l a w hin h)
 have h2:=wpB_mono _ _ _ _ _ (below_drew1 w) h1
 have h3:wpB P .any ops (NoPanic Q) m (fun a w=>wpAny P .any ops (NoPanic Q) (ops.size-m) (barL m ops.size) a w) l.len (Array.replicate ops.size false) a w.drew:=by
  have mono:∀ (f:Nat) (listed:Array Bool) (a:Act) (w:World),wpB P .any ops (NoPanic Q) m (fun a w=>wpOps P ops (NoPanic Q) ((List.range (ops.size-m)).map (m+·)) a w) f listed a w→wpB P .any ops (NoPanic Q) m (fun a w=>wpAny P .any ops (NoPanic Q) (ops.size-m) (barL m ops.size) a w) f listed a w:=by
   intro f
   induction f with
   | zero=>exact fun listed a w h=>⟨h.1,fun n=>wpAny_tail _ _ _ _ _ ht (h.2 n)⟩
   | succ f ih=>exact fun listed a w h=>⟨fun h0 n=>wpAny_tail _ _ _ _ _ ht (h.1 h0 n),fun h0=>⟨(h.2 h0).1,fun i hi n=>wpOp_mono (fun a' w' h'=>⟨h'.1,ih _ a' w' h'.2⟩) ((h.2 h0).2 i hi n)⟩⟩
  exact mono _ _ _ _ h2
 have h4:=wpAny_of_B hc hm (ops.size-m) _ _ _ _ (by simp) (closed_none _) (fun j _=>rep_false _ _) h3
 simp_all
end
end Go.Proofs.YtnijncmifjnifaaGreatDoor
namespace Go.Proofs.YtnijncmifjnifaaGreatDoor
set_option linter.unusedVariables false
open Go.RowKit
def KeepS (S:Nat→Prop) (w W:World):Prop:=∀ b,S b→W.heap[b]?=w.heap[b]?
theorem KeepS.refl (S:Nat→Prop) (w:World):KeepS S w w:=fun _ _=>rfl
theorem KeepS.trans {S:Nat→Prop} {a b c:World} (h:KeepS S a b) (k:KeepS S b c):KeepS S a c:=fun x hx=>(k x hx).trans (h x hx)
section
variable {P:Program} {ops:Array Oper} {Q:Exit→Act→World→Prop} {md:Region.Mode} {S:Nat→Prop}

def YieldsS (P:Program) (ops:Array Oper) (S:Nat→Prop) (w:World) (o:Oper) (v:Value) (a:Act):Prop:=YieldsIf P ops (fun W=>KeepS S w W) o v a
theorem YieldsS.mono {w W:World} {o:Oper} {v:Value} {a:Act} (hb:KeepS S w W) (h:YieldsS P ops S w o v a):YieldsS P ops S W o v a :=
 h.imp (fun ⟨h1,h2⟩=>⟨h1,fun X hX=>h2 X (hb.trans hX)⟩) id

theorem YieldsS.grow {S':Nat→Prop} {w:World} {o:Oper} {v:Value} {a:Act} (hs:∀ b,S b→S' b) (h:YieldsS P ops S w o v a):YieldsS P ops S' w o v a :=
 h.imp (fun ⟨h1,h2⟩=>⟨h1,fun X hX=>h2 X fun b hb=>hX b (hs b hb)⟩) id
def quietF:List Nat:=[75,137,141]
def isMod (o:Oper):Bool:=match o.op with
 | .move _|.assign _|.pick ..|.load ..|.binOp ..|.unOp ..|.convert ..|.slice ..|.fieldAddr ..|.field ..|.indexAddr ..|.index ..|.extract ..|.nilCheck ..|.alloc ..|.box ..|.buildSlice ..|.call ⟨.builtin .len,_,_⟩|.call ⟨.builtin .cap,_,_⟩=>false
 | .call ⟨.value (.func f),_,_⟩=>!quietF.any (Nat.beq f)
 | _=>true
def depB (ops:Array Oper) (i:Nat):Nat→Nat→Bool
 | 0,_=>false
 | n+1,j=>(ops[j]?).any fun p=>(p.after.any fun e=>Region.binds .any e && Nat.beq e.on i) || p.after.any fun e=>Region.binds .any e && depB ops i n e.on
theorem dep_listed {ops:Array Oper} {listed:Array Bool} (hcl:ClosedL .any ops listed) {i:Nat}:∀ (n j:Nat),depB ops i n j=true→(∀ o,ops[j]?=some o→∀ e ∈ o.after,Region.binds .any e=true→listed.getD e.on false=true)→listed.getD i false=true
 | 0,_,h,_=>by cases h
 | n+1,j,h,hj=>by
  unfold depB at h
  obtain ⟨p,hp⟩:∃ p,ops[j]?=some p:=by
   cases hp:ops[j]? with
   | none=>rw [hp] at h;cases h
   | some p=>exact ⟨p,rfl⟩
  rw [hp,Option.any_some] at h
  rcases Bool.or_eq_true_iff.1 h with h|h
  ·obtain ⟨q,hq,h5⟩:=Array.any_eq_true.1 h
   simp only [Bool.and_eq_true] at h5
   have:=hj p hp _ (Array.getElem_mem hq) h5.1
   rwa [Nat.eq_of_beq_eq_true h5.2] at this
  ·obtain ⟨q,hq,h5⟩:=Array.any_eq_true.1 h
   simp only [Bool.and_eq_true] at h5
   have hl:=hj p hp _ (Array.getElem_mem hq) h5.1
   exact dep_listed hcl n _ h5.2 fun o ho e he hb=>hcl _ o ho hl e he hb
def behindB (ops:Array Oper) (i:Nat):Bool:=(List.range ops.size).all fun j=>!((ops[j]?).any isMod) || depB ops i 8 j
def ownB (ops:Array Oper) (o:Oper):Bool:=(List.range ops.size).all fun i=>!((ops[i]?).any fun q=>q.dst == o.dst) || behindB ops i
def YieldsB (P:Program) (ops:Array Oper) (w:World) (o:Oper) (v:Value) (a:Act):Prop:=YieldsIf P ops (fun W=>Below w.heap.size w W) o v a
theorem YieldsB.mono {w W:World} {o:Oper} {v:Value} {a:Act} (hb:Below w.heap.size w W) (h:YieldsB P ops w o v a):YieldsB P ops W o v a :=
 h.imp (fun ⟨h1,h2⟩=>⟨h1,fun X hX=>h2 X (below_then hb hX)⟩) id
def Kept (S:Nat→Prop) (o:Option Oper) (w W:World):Prop:=KeepS S w W∧(o.any isMod=false→Below w.heap.size w W)
theorem Kept.refl (S:Nat→Prop) (o:Option Oper) (w:World):Kept S o w w:=⟨KeepS.refl S w,fun _=>Below.refl _ _⟩

def wpAnyS (P:Program) (md:Region.Mode) (ops:Array Oper) (Q:Exit→Act→World→Prop):(Nat→Prop)→Nat→Array Bool→Act→World→Prop
 | _,0,listed,a,w=>Region.ready md ops listed=[]∧Q .normal a w
 | S,fuel+1,listed,a,w =>
  (Region.ready md ops listed=[]→Q .normal a w) ∧
  ∀ i ∈ Region.ready md ops listed,wpOp P ops Q i (fun a' w'=>Kept S ops[i]? w w'∧∃ S',(∀ b,S b→S' b)∧wpAnyS P md ops Q S' fuel (listed.setIfInBounds i true) a' w') a w

theorem wpAny_of_S:∀ (fuel:Nat) (S:Nat→Prop) (listed:Array Bool) (a:Act) (w:World),wpAnyS P md ops Q S fuel listed a w→wpAny P md ops Q fuel listed a w
 | 0,_,_,_,_,h=>h
 | fuel+1,_,_,_,_,h=>⟨h.1,fun i hi=>wpOp_mono (fun a' w' ⟨_,_,_,h'⟩=>wpAny_of_S fuel _ _ a' w' h') (h.2 i hi)⟩

theorem wpAnyS_first {i:Nat} {oi:Oper} {v:Value} (hi:ops[i]?=some oi) (hsel:∀ (j:Nat) (o:Oper) cs b,ops[j]?=some o→o.op≠.select cs b)
  (hQ:∀ c a w,Q (.panic c) (a.put oi.dst v) w→Q (.panic c) a w) :
  ∀ (fuel:Nat) (S:Nat→Prop) (listed:Array Bool) (a:Act) (w:World),
   (∀ j oj,ops[j]?=some oj→j≠i→listed.getD j true=false→(∀ e ∈ oj.after,Region.binds md e=true→e.on≠i)→oi.apart ops oj=true) →
   i ∈ Region.ready md ops listed→YieldsS P ops S w oi v a →
   wpAnyS P md ops Q S fuel (listed.setIfInBounds i true) (a.put oi.dst v) w→wpAnyS P md ops Q S (fuel+1) listed a w:=by
 intro fuel
 induction fuel with
 | zero =>
  intro S listed a w _ hr hy H
  refine ⟨fun h=>(by rw [h] at hr;cases hr),fun j hj=>?_⟩
  by_cases hji:j=i
  ·subst hji
   exact YieldsIf.wpOp hi hy (KeepS.refl S w) ⟨Kept.refl S _ w,S,fun _ h=>h,H⟩
  ·have:=ready_mono hj hji
   rw [H.1] at this
   cases this
 | succ fuel ih =>
  intro S listed a w hfree hr hy H
  refine ⟨fun h=>(by rw [h] at hr;cases hr),fun j hj=>?_⟩
  by_cases hji:j=i
  ·subst hji
   exact YieldsIf.wpOp hi hy (KeepS.refl S w) ⟨Kept.refl S _ w,S,fun _ h=>h,H⟩
  ·have h1:=H.2 j (ready_mono hj hji)
   obtain ⟨hjun,oj,hoj,hall⟩:=mem_ready.1 hj
   have hnot:∀ e ∈ oj.after,Region.binds md e=true→e.on≠i:=fun e he hb heq=>by
    grind [mem_ready]
   have h2:=wpOp_putIf hoj (hfree j oj hoj hji hjun hnot) (fun cs b=>hsel i oi cs b hi) (fun cs b=>hsel j oj cs b hoj) hQ hy h1
   have hfree':∀ k ok,ops[k]?=some ok→k≠i→(listed.setIfInBounds j true).getD k true=false →
     (∀ e ∈ ok.after,Region.binds md e=true→e.on≠i)→oi.apart ops ok=true:=fun k ok hk hki hun hno=>by
    refine hfree k ok hk hki ?_ hno
    by_cases hjk:j=k
    ·subst hjk;exact hjun
    simp_all
   refine wpOp_mono (fun a' w' ⟨h3,h4,S',hSS,h5⟩=>⟨h4,S',hSS,ih S' (listed.setIfInBounds j true) a' w' hfree' (ready_mono hr (Ne.symm hji)) (YieldsS.grow hSS (YieldsS.mono h4.1 h3)) ?_⟩) h2
   grind [Array.setIfInBounds_comm]

theorem wpAnyS_firstB {i:Nat} {oi:Oper} {v:Value} (hi:ops[i]?=some oi) (hbe:behindB ops i=true) (hsel:∀ (j:Nat) (o:Oper) cs b,ops[j]?=some o→o.op≠.select cs b)
  (hQ:∀ c a w,Q (.panic c) (a.put oi.dst v) w→Q (.panic c) a w) :
  ∀ (fuel:Nat) (S:Nat→Prop) (listed:Array Bool) (a:Act) (w:World),ClosedL .any ops listed →
   (∀ j oj,ops[j]?=some oj→j≠i→listed.getD j true=false→(∀ e ∈ oj.after,Region.binds .any e=true→e.on≠i)→oi.apart ops oj=true) →
   i ∈ Region.ready .any ops listed→YieldsB P ops w oi v a →
   wpAnyS P .any ops Q S fuel (listed.setIfInBounds i true) (a.put oi.dst v) w→wpAnyS P .any ops Q S (fuel+1) listed a w:=by
 intro fuel
 induction fuel with
 | zero =>
  intro S listed a w _ _ hr hy H
  refine ⟨fun h=>(by rw [h] at hr;cases hr),fun j hj=>?_⟩
  by_cases hji:j=i
  ·subst hji
   exact YieldsIf.wpOp hi hy (Below.refl _ _) ⟨Kept.refl S _ w,S,fun _ h=>h,H⟩
  ·have:=ready_mono hj hji
   rw [H.1] at this
   cases this
 | succ fuel ih =>
  intro S listed a w hcl hfree hr hy H
  refine ⟨fun h=>(by rw [h] at hr;cases hr),fun j hj=>?_⟩
  by_cases hji:j=i
  ·subst hji
   exact YieldsIf.wpOp hi hy (Below.refl _ _) ⟨Kept.refl S _ w,S,fun _ h=>h,H⟩
  ·have h1:=H.2 j (ready_mono hj hji)
   obtain ⟨hjun,oj,hoj,hall⟩:=mem_ready.1 hj
   have hnot:∀ e ∈ oj.after,Region.binds .any e=true→e.on≠i:=fun e he hb heq=>by
    grind [mem_ready]
   have hmod:isMod oj=false:=by
    cases hm:isMod oj with
    | false=>rfl
    | true =>
     have h3:=List.all_eq_true.1 hbe j (List.mem_range.2 (Array.getElem?_eq_some_iff.1 hoj).1)
     grind [dep_listed,mem_ready]
   have h2:=wpOp_putIf hoj (hfree j oj hoj hji hjun hnot) (fun cs b=>hsel i oi cs b hi) (fun cs b=>hsel j oj cs b hoj) hQ hy h1
   have hfree':∀ k ok,ops[k]?=some ok→k≠i→(listed.setIfInBounds j true).getD k true=false →
     (∀ e ∈ ok.after,Region.binds .any e=true→e.on≠i)→oi.apart ops ok=true:=fun k ok hk hki hun hno=>by
    refine hfree k ok hk hki ?_ hno
    by_cases hjk:j=k
    ·subst hjk;exact hjun
    simp_all
   refine wpOp_mono (fun a' w' ⟨h3,h4,S',hSS,h5⟩=>⟨h4,S',hSS,ih S' (listed.setIfInBounds j true) a' w' (closed_set hcl hj) hfree' (ready_mono hr (Ne.symm hji)) (YieldsB.mono (h4.2 (by rw [hoj];exact hmod)) h3) ?_⟩) h2
   grind [Array.setIfInBounds_comm]

def wpXS (P:Program) (ops:Array Oper) (Q:Exit→Act→World→Prop):(Nat→Prop)→OrdO→Act→World→Prop
 | _,.done,a,w=>Q .normal a w
 | S,.rd o r,a,w=>∃ v,(YieldsS P ops S w o v a∨(ownB ops o=true∧YieldsB P ops w o v a))∧wpXS P ops Q S r (a.put o.dst v) w
 | S,.one o r,a,w=>if Region.wanted o (yielded ops a.tmps) then o.wp P a w (fun a' w'=>Kept S (some o) w w'∧∃ S',(∀ b,S b→S' b)∧wpXS P ops Q S' r a' w') Q else ∃ S',(∀ b,S b→S' b)∧wpXS P ops Q S' r (a.put o.dst undef) w
 | S,.two o r p l,a,w =>
  (if Region.wanted o (yielded ops a.tmps) then o.wp P a w (fun a' w'=>Kept S (some o) w w'∧∃ S',(∀ b,S b→S' b)∧wpXS P ops Q S' r a' w') Q else ∃ S',(∀ b,S b→S' b)∧wpXS P ops Q S' r (a.put o.dst undef) w) ∧
  (if Region.wanted p (yielded ops a.tmps) then p.wp P a w (fun a' w'=>Kept S (some p) w w'∧∃ S',(∀ b,S b→S' b)∧wpXS P ops Q S' l a' w') Q else ∃ S',(∀ b,S b→S' b)∧wpXS P ops Q S' l (a.put p.dst undef) w)
 | S,.three o r p l q u,a,w =>
  (if Region.wanted o (yielded ops a.tmps) then o.wp P a w (fun a' w'=>Kept S (some o) w w'∧∃ S',(∀ b,S b→S' b)∧wpXS P ops Q S' r a' w') Q else ∃ S',(∀ b,S b→S' b)∧wpXS P ops Q S' r (a.put o.dst undef) w) ∧
  (if Region.wanted p (yielded ops a.tmps) then p.wp P a w (fun a' w'=>Kept S (some p) w w'∧∃ S',(∀ b,S b→S' b)∧wpXS P ops Q S' l a' w') Q else ∃ S',(∀ b,S b→S' b)∧wpXS P ops Q S' l (a.put p.dst undef) w) ∧
  (if Region.wanted q (yielded ops a.tmps) then q.wp P a w (fun a' w'=>Kept S (some q) w w'∧∃ S',(∀ b,S b→S' b)∧wpXS P ops Q S' u a' w') Q else ∃ S',(∀ b,S b→S' b)∧wpXS P ops Q S' u (a.put q.dst undef) w)

theorem Kept.lower {S S1:Nat→Prop} {o:Option Oper} {w W:World} (hs:∀ b,S b→S1 b) (h:Kept S1 o w W):Kept S o w W:=⟨fun b hb=>h.1 b (hs b hb),h.2⟩
theorem wpXS_lower {S S1:Nat→Prop} {o:Oper} {r:OrdO} {a:Act} {w:World} (hs:∀ b,S b→S1 b) (h:wpXS P ops Q S1 (.one o r) a w):wpXS P ops Q S (.one o r) a w:=by
 unfold wpXS at h ⊢
 split
 ·rename_i hw
  rw [if_pos hw] at h
  exact Oper.wp_mono (fun a' w' ⟨h1,S',h2,h3⟩=>⟨h1.lower hs,S',fun b hb=>h2 b (hs b hb),h3⟩) h
 grind

theorem wpOp_of_XS {i:Nat} {o:Oper} {a:Act} {w:World} {K K':(Nat→Prop)→Act→World→Prop} (ho:ops[i]?=some o) (hk:∀ S a' w',K S a' w'→K' S a' w')
  (h:if Region.wanted o (yielded ops a.tmps) then o.wp P a w (fun a' w'=>Kept S (some o) w w'∧∃ S',(∀ b,S b→S' b)∧K S' a' w') Q else ∃ S',(∀ b,S b→S' b)∧K S' (a.put o.dst undef) w):wpOp P ops Q i (fun a' w'=>Kept S ops[i]? w w'∧∃ S',(∀ b,S b→S' b)∧K' S' a' w') a w:=by
 grind [wpOp,Oper.wp_mono,Kept.refl]

theorem wpAnyS_ofX (hs:Region.noSelect ops=true) (hQ:∀ c a w,¬ Q (.panic c) a w):∀ (l:Ord) (S:Nat→Prop) (listed:Array Bool) (a:Act) (w:World),ClosedL .any ops listed→l.within ops.size=true→orderT .any ops l listed=true→wpXS P ops Q S (opsOfT ops l) a w→wpAnyS P .any ops Q S l.len listed a w
 | .done,S,listed,a,w,_,_,hB,h=>⟨by simpa [orderT] using hB,h⟩
 | .rd i r,S,listed,a,w,hcl,hl,hB,h=>by
  simp only [Ord.within,Bool.and_eq_true,decide_eq_true_eq] at hl
  have ho:ops[i]?=some ops[i]:=Array.getElem?_eq_getElem hl.1
  simp only [opsOfT,ho] at h
  simp only [orderT,Bool.and_eq_true] at hB
  obtain ⟨⟨hr,hf⟩,hB'⟩:=hB
  obtain ⟨v,hy,hK⟩:=h
  rcases hy with hy|⟨hown,hy⟩
  ·exact wpAnyS_first ho (Region.noSelect_spec hs) (fun c a w h=>absurd h (hQ c _ w)) r.len S listed a w (Region.free_spec ho hf) (by simpa using hr) hy (wpAnyS_ofX hs hQ r _ _ _ _ (closed_set hcl (by simpa using hr)) hl.2 hB' hK)
  ·have hbe:behindB ops i=true:=by
    have:=List.all_eq_true.1 hown i (List.mem_range.2 hl.1)
    simpa [ho] using this
   exact wpAnyS_firstB ho hbe (Region.noSelect_spec hs) (fun c a w h=>absurd h (hQ c _ w)) r.len S listed a w hcl (Region.free_spec ho hf) (by simpa using hr) hy (wpAnyS_ofX hs hQ r _ _ _ _ (closed_set hcl (by simpa using hr)) hl.2 hB' hK)
 | .one i r,S,listed,a,w,hcl,hl,hB,h=>by
  simp only [Ord.within,Bool.and_eq_true,decide_eq_true_eq] at hl
  have ho:ops[i]?=some ops[i]:=Array.getElem?_eq_getElem hl.1
  simp only [opsOfT,ho] at h
  simp only [orderT,Bool.and_eq_true,beq_iff_eq] at hB
  refine ⟨fun h0=>(by rw [hB.1] at h0;cases h0),fun j hj=>?_⟩
  rw [hB.1] at hj
  obtain rfl:=List.mem_singleton.1 hj
  exact wpOp_of_XS ho (fun S' a' w'=>wpAnyS_ofX hs hQ r S' _ a' w' (closed_set hcl (by rw [hB.1];simp)) hl.2 hB.2) h
 | .two i r j l,S,listed,a,w,hcl,hl,hB,h=>by
  simp only [Ord.within,Bool.and_eq_true,decide_eq_true_eq] at hl
  have ho:ops[i]?=some ops[i]:=Array.getElem?_eq_getElem hl.1.1.1
  have hp:ops[j]?=some ops[j]:=Array.getElem?_eq_getElem hl.1.2
  simp only [opsOfT,ho,hp] at h
  simp only [orderT,Bool.and_eq_true,beq_iff_eq] at hB
  obtain ⟨⟨⟨h1,h2⟩,h3⟩,h4⟩:=hB
  refine ⟨fun h0=>(by rw [h1] at h0;cases h0),fun q hq=>?_⟩
  rw [h1] at hq
  simp only [List.mem_cons,List.not_mem_nil,or_false] at hq
  rcases hq with rfl|rfl
  ·exact wpOp_of_XS ho (fun S' a' w'=>wpAnyS_ofX hs hQ r S' _ a' w' (closed_set hcl (by rw [h1];simp)) hl.1.1.2 h3) h.1
  ·refine wpOp_of_XS hp (fun S' a' w' h'=>?_) h.2
   show wpAnyS P .any ops Q S' r.len _ _ _
   rw [h2]
   exact wpAnyS_ofX hs hQ l S' _ a' w' (closed_set hcl (by rw [h1];simp)) hl.2 h4 h'
 | .three i r j l q0 u,S,listed,a,w,hcl,hl,hB,h=>by
  simp only [Ord.within,Bool.and_eq_true,decide_eq_true_eq] at hl
  have ho:ops[i]?=some ops[i]:=Array.getElem?_eq_getElem hl.1.1.1.1.1
  have hp:ops[j]?=some ops[j]:=Array.getElem?_eq_getElem hl.1.1.1.2
  have hq0:ops[q0]?=some ops[q0]:=Array.getElem?_eq_getElem hl.1.2
  simp only [opsOfT,ho,hp,hq0] at h
  simp only [orderT,Bool.and_eq_true,beq_iff_eq] at hB
  obtain ⟨⟨⟨⟨⟨h1,h2⟩,h2'⟩,h3⟩,h4⟩,h5⟩:=hB
  refine ⟨fun h0=>(by rw [h1] at h0;cases h0),fun q hq=>?_⟩
  rw [h1] at hq
  simp only [List.mem_cons,List.not_mem_nil,or_false] at hq
  rcases hq with rfl|rfl|rfl
  ·exact wpOp_of_XS ho (fun S' a' w'=>wpAnyS_ofX hs hQ r S' _ a' w' (closed_set hcl (by rw [h1];simp)) hl.1.1.1.1.2 h3) h.1
  ·refine wpOp_of_XS hp (fun S' a' w' h'=>?_) h.2.1
   show wpAnyS P .any ops Q S' r.len _ _ _
   rw [h2]
   exact wpAnyS_ofX hs hQ l S' _ a' w' (closed_set hcl (by rw [h1];simp)) hl.1.1.2 h4 h'
  ·refine wpOp_of_XS hq0 (fun S' a' w' h'=>?_) h.2.2
   show wpAnyS P .any ops Q S' r.len _ _ _
   rw [h2']
   exact wpAnyS_ofX hs hQ u S' _ a' w' (closed_set hcl (by rw [h1];simp)) hl.2 h5 h'

theorem any_S {a:Act} {w:World} (u:Ord) (hs:Region.noSelect ops=true) (hul:u.len=ops.size) (huin:u.within ops.size=true) (hu:orderT .any ops u (Array.replicate ops.size false)=true)
  (h:wpXS P ops (NoPanic Q) S (opsOfT ops u) a w.drew):wpAny P .any ops (NoPanic Q) ops.size (Array.replicate ops.size false) a w.drew:=by
 have:=wpAny_of_S _ _ _ _ _ (wpAnyS_ofX hs (fun c a w h=>h) u S _ a w.drew (closed_none _) huin hu h)
 rwa [hul] at this
end
end Go.Proofs.YtnijncmifjnifaaGreatDoor
namespace Go.Proofs.YtnijncmifjnifaaGreatDoor
set_option linter.unusedVariables false
open Go.RowKit
def frd (rd:Option Nat):Fence:={ Fence.wide with round:=rd }
def isDefer (o:Oper):Bool:=match o.op with|.defer _=>true|_=>false
theorem not_defer {o:Oper} (h:isDefer o=false):∀ c,o.op≠.defer c:=fun c e=>by simp [isDefer,e] at h
def rdB (rd:Option Nat) (ops:Array Oper):Bool:=match rd with|none=>true|some _=>ops.toList.all fun o=>!isDefer o
section
variable {P:Program} {rd:Option Nat} {n:Nat} {ops:Array Oper} {Q:Exit→Act→World→Prop} {md:Region.Mode}
theorem callsIn_frd {f:FuncId} {args:Array Value} {w:World} {R:Ending→World→Prop}:CallsIn (frd rd) n P f args w R↔Calls P f args w R:=callsIn_wide
theorem upon_in {o:Oper} {a:Act} {K:Act→World→Prop}:∀ {r:Result Next},o.upon P a K Q r→o.uponIn (frd rd) n P a K Q r
 | .ok x w',h=>by
  cases x with
  | enter f args=>exact ⟨fun h=>(by cases h),callsIn_frd.2 h⟩
  | row row args=>exact ⟨fun h=>(by cases h),fun c cs _=>let ⟨v,w',h1,h2⟩:=h c cs;⟨v,w',h1,stepsIn_wide.2 h2⟩⟩
  | _=>first|exact h|exact (h:False).elim
 | .halt x w',h=>by cases x <;> exact h
theorem Oper.wp_in {o:Oper} {a:Act} {w:World} {K:Act→World→Prop} (hd:rd=none∨isDefer o=false) (h:o.wp P a w K Q):o.wpIn (frd rd) n P a w K Q:=by
 refine ⟨fun f _=>trivial,?_⟩
 have e:o.semAt (frd rd).round a.eval=execOp a.eval o:=by
  rcases hd with rfl|hd
  ·rfl
  ·exact Oper.semAt_eq _ _ _ (not_defer hd)
 rw [e]
 exact upon_in h
theorem rdB_at (h:rdB rd ops=true) {i:Nat} {o:Oper} (ho:ops[i]?=some o):rd=none∨isDefer o=false:=by
 cases rd with
 | none=>exact .inl rfl
 | some l =>
  have:=List.all_eq_true.1 h o (Array.mem_toList_iff.2 (Array.mem_of_getElem? ho))
  simpa using this
theorem wpOp_in (hd:rdB rd ops=true) (hlo:¬ LetsOut Q) {i:Nat} {a:Act} {w:World} {K K':Act→World→Prop} (hK:∀ a w,K a w→K' a w) (h:wpOp P ops Q i K a w):wpOpIn (frd rd) n P ops Q i K' a w:=by
 unfold wpOp at h
 unfold wpOpIn
 cases ho:ops[i]? with
 | none=>simp_all
 | some o =>
  simp only [ho] at h ⊢
  split
  ·grind [Oper.wp_in,rdB_at,Oper.wp_mono]
  ·rename_i hw
   rw [if_neg hw] at h
   exact ⟨fun f _=>trivial,hK _ _ h⟩
theorem wpAny_in (hd:rdB rd ops=true) (hlo:¬ LetsOut Q):∀ (f:Nat) (listed:Array Bool) (a:Act) (w:World),wpAny P md ops Q f listed a w→wpAnyIn (frd rd) n P md ops Q f listed a w
 | 0,_,_,_,h=>h
 | f+1,_,_,_,h=>⟨h.1,fun i hi=>wpOp_in hd hlo (fun a' w' h'=>wpAny_in hd hlo f _ a' w' h') (h.2 i hi)⟩
def OnlyN (Q:Exit→Act→World→Prop):Exit→Act→World→Prop
 | .normal,a,w=>Q .normal a w
 | _,_,_=>False
theorem OnlyN.imp:∀ (e:Exit) (a:Act) (w:World),NoPanic (OnlyN Q) e a w→Q e a w:=fun e a w h=>by
 cases e <;> first|exact h|exact (h:False).elim
theorem onlyN_out:¬ LetsOut (NoPanic (OnlyN Q)):=fun ⟨_,_,h⟩=>h
theorem wpIn_any {id:Nat} {a:Act} {w:World} (hd:rdB rd ops=true) (hm:P.follows .mixedOrders=true) (h:wpAny P .any ops (NoPanic (OnlyN Q)) ops.size (Array.replicate ops.size false) a w.drew):(Code.region id ops true).wpIn (frd rd) n P Q a w :=
 wpIn_mono (wpIn_region_any hm (wpAny_in hd onlyN_out _ _ _ _ h)) OnlyN.imp
end
end Go.Proofs.YtnijncmifjnifaaGreatDoor
namespace Go.Proofs.YtnijncmifjnifaaGreatDoor
set_option linter.unusedVariables false
namespace Am
open Go.RowKit
section
structure SV where
 p:(Nat→Prop)→World→Value→Prop
 st:∀ {St St':Nat→Prop} {w w':World} {v:Value},(∀ b,St b→St' b)→(∀ b cur t z,St b→w.heap[b]?=some (.cells cur t z)→w'.heap[b]?=some (.cells cur t z))→p St w v→p St' w' v
 one:∀ {St:Nat→Prop} {w:World} {v:Value},p St w v→v.cells=#[v]∧v.oneCell'=true

inductive CV where
 | top
 | c (v:Value)
 | err (k:Nat)
 | agg (n:Nat) (f:Nat→CV)
 | tup (n:Nat) (f:Nat→CV)
 | rs (k n:Nat) (f:Nat→Nat→CV)
 | rp (n:Nat) (f:Nat→CV)
 | os (i:Nat) (g:Option Nat) (off n k:Nat)
 | op (i:Nat) (g:Option Nat) (off:Nat)
 | fn (g:FuncId) (n:Nat) (f:Nat→CV)
 | pv (p:SV)

def RepC (al:List Addr) (St:Nat→Prop) (w:World):CV→Value→Prop
 | .top,_=>True
 | .c v,x=>x=v
 | .err k,x=>x=ev al k
 | .agg n f,x=>∃ cs:Array Value,x=.agg cs∧cs.size=n∧∀ i,i<n→RepC al St w (f i) (cs.getD i undef)
 | .tup n f,x=>∃ cs:Array Value,x=.tuple cs∧cs.size=n∧∀ i,i<n→RepC al St w (f i) (cs.getD i undef)
 | .rs k n f,x=>∃ ao cap,x=.slice ao n cap∧n≤cap∧cap≤9223372036854775807∧(ao=none→cap=0)∧∀ a,ao=some a→0<n →
   a.spot=none∧St a.block∧∀ i j,i<n→j<k→∃ v,w.cell? ⟨a.block,a.off+(i * k+j),none⟩=some v∧RepC al St w (f i j) v
 | .rp n f,x=>∃ b o,x=.pointer (some ⟨b,o,none⟩)∧St b∧∀ j,j<n→∃ v,w.cell? ⟨b,o+j,none⟩=some v∧RepC al St w (f j) v
 | .os _ none _ n _,x=>n=0∧x=.slice none 0 0
 | .os _ (some g) off n k,x=>∃ cap,x=.slice (some ⟨g,off,none⟩) n cap∧n≤cap∧cap≤9223372036854775807∧∃ cur t z,w.heap[g]?=some (.cells cur t z)∧off+cap * k≤cur.size
 | .op _ g off,x=>∃ b,g=some b∧x=.pointer (some ⟨b,off,none⟩)
 | .fn g n f,x=>∃ cs:Array Value,x=.func (.func g) #[] cs∧cs.size=n∧∀ i,i<n→RepC al St w (f i) (cs.getD i undef)
 | .pv p,x=>p.p St w x

structure Evo (St:Nat→Prop) (w w':World):Prop where
 st:∀ b cur t z,St b→w.heap[b]?=some (.cells cur t z)→w'.heap[b]?=some (.cells cur t z)
 sh:∀ (b:Nat) cur t z,w.heap[b]?=some (.cells cur t z)→∃ cur' z',w'.heap[b]?=some (.cells cur' t z')∧cur'.size=cur.size

theorem Evo.of_below {St:Nat→Prop} {w w':World} (h:Below w.heap.size w w') (hs:∀ b,St b→b<w.heap.size):Evo St w w' where
 st:=fun b cur t z hb hc=>(h.block b (hs b hb)).trans hc
 sh:=fun b cur t z hb=>⟨cur,z,(h.block b (Array.getElem?_eq_some_iff.1 hb).1).trans hb,rfl⟩

theorem cell_of_block {w w':World} {b:Nat} (h:w'.heap[b]?=w.heap[b]?) (o:Nat):w'.cell? ⟨b,o,none⟩=w.cell? ⟨b,o,none⟩:=World.cell?_of_block (w:=w) (a:=⟨b,o,none⟩) h

theorem cell_keep {w w':World} {b o:Nat} {v:Value} (h:∀ cur t z,w.heap[b]?=some (.cells cur t z)→w'.heap[b]?=some (.cells cur t z)) (hv:w.cell? ⟨b,o,none⟩=some v):w'.cell? ⟨b,o,none⟩=some v:=by
 grind [World.cell?]

theorem RepC.evo {al:List Addr} {St St':Nat→Prop} {w w':World} (he:Evo St w w') (hs:∀ b,St b→St' b):∀ (c:CV) (v:Value),RepC al St w c v→RepC al St' w' c v
 | .top,_,_=>trivial
 | .c _,_,h=>h
 | .err _,_,h=>h
 | .agg n f,_,⟨cs,h1,h2,h3⟩=>⟨cs,h1,h2,fun i hi=>RepC.evo he hs (f i) _ (h3 i hi)⟩
 | .tup n f,_,⟨cs,h1,h2,h3⟩=>⟨cs,h1,h2,fun i hi=>RepC.evo he hs (f i) _ (h3 i hi)⟩
 | .rs k n f,_,⟨ao,cap,h1,h2,h3,h4,h5⟩=>⟨ao,cap,h1,h2,h3,h4,fun a ha hn=>by
   obtain ⟨h6,h7,h8⟩:=h5 a ha hn
   refine ⟨h6,hs _ h7,fun i j hi hj=>?_⟩
   obtain ⟨v,hv,hr⟩:=h8 i j hi hj
   exact ⟨v,cell_keep (fun cur t z hc=>he.st _ cur t z h7 hc) hv,RepC.evo he hs (f i j) v hr⟩⟩
 | .rp n f,_,⟨b,o,h1,h2,h3⟩=>⟨b,o,h1,hs _ h2,fun j hj=>by
   obtain ⟨v,hv,hr⟩:=h3 j hj
   exact ⟨v,cell_keep (fun cur t z hc=>he.st _ cur t z h2 hc) hv,RepC.evo he hs (f j) v hr⟩⟩
 | .os _ none _ _ _,_,h=>h
 | .os _ (some g) off n k,_,⟨cap,h1,h2,h3,cur,t,z,h4,h5⟩=>by
   obtain ⟨cur',z',h6,h7⟩:=he.sh g cur t z h4
   exact ⟨cap,h1,h2,h3,cur',t,z',h6,by omega⟩
 | .op _ _ _,_,h=>h
 | .fn g n f,_,⟨cs,h1,h2,h3⟩=>⟨cs,h1,h2,fun i hi=>RepC.evo he hs (f i) _ (h3 i hi)⟩
 | .pv p,_,h=>p.st hs he.st h

structure OP where
 p:List Addr→(Nat→Prop)→World→Nat→(Nat→Prop)→Prop
 st:∀ {al:List Addr} {St St':Nat→Prop} {w w':World} {g:Nat} {F:Nat→Prop},Evo St w w'→(∀ b,St b→St' b)→(∀ b,F b→w'.heap[b]?=w.heap[b]?)→p al St w g F→p al St' w' g F

inductive Res where
 | dead
 | blk (n:Nat) (f:Nat→CV)
 | frz (n:Nat) (f:Nat→CV)
 | obj (p:OP)

def Res.rep (al:List Addr) (St:Nat→Prop) (w:World) (F:Nat→Prop):Option Nat→Res→Prop
 | _,.dead=>∀ b,¬ F b
 | none,.blk n _=>n=0∧∀ b,¬ F b
 | some g,.blk n f=>(∀ b,F b↔b=g)∧∃ cur t,w.heap[g]?=some (.cells cur t (0,0))∧n≤cur.size∧∀ i,i<n→RepC al St w (f i) (cur.getD i undef)
 | none,.frz n _=>n=0∧∀ b,¬ F b
 | some g,.frz n f=>(∀ b,¬ F b)∧St g∧∃ cur t z,w.heap[g]?=some (.cells cur t z)∧n≤cur.size∧∀ i,i<n→RepC al St w (f i) (cur.getD i undef)
 | none,.obj _=>∀ b,¬ F b
 | some g,.obj p=>p.p al St w g F

theorem Res.rep_evo {al:List Addr} {St St':Nat→Prop} {w w':World} (he:Evo St w w') (hs:∀ b,St b→St' b) {F:Nat→Prop} (hF:∀ b,F b→w'.heap[b]?=w.heap[b]?):∀ {g:Option Nat} {r:Res},r.rep al St w F g→r.rep al St' w' F g
 | none,.dead,h=>h
 | some _,.dead,h=>h
 | none,.blk _ _,h=>h
 | some g,.blk n f,⟨h0,cur,t,h1,h2,h4⟩=>⟨h0,cur,t,(hF g ((h0 g).2 rfl)).trans h1,h2,fun i hi=>RepC.evo he hs _ _ (h4 i hi)⟩
 | none,.frz _ _,h=>h
 | some g,.frz n f,⟨h0,hg,cur,t,z,h1,h2,h4⟩=>⟨h0,hs _ hg,cur,t,z,he.st g cur t z hg h1,h2,fun i hi=>RepC.evo he hs _ _ (h4 i hi)⟩
 | none,.obj _,h=>h
 | some _,.obj p,h=>p.st he hs hF h

structure AS where
 env:List (Nat×CV)
 b:Nat→CV
 H:List (Option Nat×Res)

def look:List (Nat×CV)→(Nat→CV)→Nat→CV
 | [],b,d=>b d
 |(e,v)::r,b,d=>match Nat.beq e d with|true=>v|false=>look r b d

theorem beq_cases (e d:Nat):(Nat.beq e d=true∧e=d)∨(Nat.beq e d=false∧e≠d):=by
 grind [Nat.beq_refl,Nat.eq_of_beq_eq_true]

theorem look_same (r:List (Nat×CV)) (b:Nat→CV) (d:Nat) (v:CV):look ((d,v)::r) b d=v:=by
 grind [beq_cases,look]
theorem look_other (r:List (Nat×CV)) (b:Nat→CV) {e d:Nat} (v:CV) (hn:e≠d):look ((e,v)::r) b d=look r b d:=by
 grind [beq_cases,look]

def AS.eval (s:AS):Operand→CV
 | .tmp t=>look s.env s.b t
 | .const v=>.c v
 | .global g=>.c (.pointer (some ⟨g,0,none⟩))
 | .func f=>.c (.func (.func f) #[] #[])

def AS.put (s:AS) (dst:Option Tmp) (v:CV):AS:=match dst with|some d=>⟨(d,v)::s.env,s.b,s.H⟩|none=>s

structure Gh where
 gs:List Nat
 al:List Addr
 w0:World
 F0:Nat→Prop
 St0:Nat→Prop
 N:Nat
 rd:Option Nat
 yl:Bool

structure Under (F0:Nat→Prop) (w0 w:World):Prop where
 os:w.os=w0.os
 tape:w.tape=w0.tape
 output:w.output=w0.output
 size:w0.heap.size≤w.heap.size
 block:∀ k,k<w0.heap.size→¬ F0 k→w.heap[k]?=w0.heap[k]?
 sh:∀ (b:Nat) cur t z,w0.heap[b]?=some (.cells cur t z)→∃ cur' z',w.heap[b]?=some (.cells cur' t z')∧cur'.size=cur.size

theorem Under.refl (F0:Nat→Prop) (w:World):Under F0 w w:=⟨rfl,rfl,rfl,Nat.le_refl _,fun _ _ _=>rfl,fun _ cur _ z h=>⟨cur,z,h,rfl⟩⟩
theorem Under.then {F0:Nat→Prop} {a b c:World} (h:Under F0 a b) (k:Below b.heap.size b c):Under F0 a c :=
 ⟨k.os.trans h.os,k.tape.trans h.tape,k.output.trans h.output,Nat.le_trans h.size k.size,fun i hi hn=>(k.block i (Nat.lt_of_lt_of_le hi h.size)).trans (h.block i hi hn),fun i cur t z hb=>by
  obtain ⟨cur',z',h1,h2⟩:=h.sh i cur t z hb
  exact ⟨cur',z',(k.block i (Array.getElem?_eq_some_iff.1 h1).1).trans h1,h2⟩⟩
theorem Under.below {w w':World} (h:Under (fun _=>False) w w'):Below w.heap.size w w':=⟨h.os,h.tape,h.output,h.size,fun k hk=>h.block k hk (fun h=>h)⟩

structure HFoot (al:List Addr) (St:Nat→Prop) (w:World) (base:Nat) (F0:Nat→Prop) (H:List (Option Nat×Res)) (fp:Nat→Nat→Prop):Prop where
 rep:∀ (i:Nat) (g:Option Nat) (r:Res),H[i]?=some (g,r)→r.rep al St w (fp i) g
 dis:∀ i j b,fp i b→fp j b→i=j
 own:∀ i b,fp i b→b<w.heap.size∧¬ St b∧(base≤b∨F0 b)
 out:∀ i,H.length≤i→∀ b,¬ fp i b
def HRel (al:List Addr) (St:Nat→Prop) (w:World) (base:Nat) (F0:Nat→Prop) (H:List (Option Nat×Res)):Prop:=∃ fp,HFoot al St w base F0 H fp

def markD (D:Nat):Deferred:={ target:=.collected D,args:=#[] }
def DefOk (G:Gh) (St:Nat→Prop) (w:World) (ds:List Deferred):Prop:=∃ Ds:List Nat,ds=Ds.map markD∧Ds.Nodup∧∀ D ∈ Ds,(St D∧w.heap[D]?=some (.deferred (some [])))∧G.w0.heap.size≤D∧D ∉ lst G.gs∧∀ a ∈ G.al,a.block≠D
theorem DefOk.none (G:Gh) (St:Nat→Prop) (w:World):DefOk G St w []:=⟨[],rfl,List.nodup_nil,fun _ h=>by cases h⟩
theorem DefOk.keep {G:Gh} {St St':Nat→Prop} {w w':World} {ds:List Deferred} (h:DefOk G St w ds) (hs:∀ b,St b→St' b) (hw:∀ b,St b→w'.heap[b]?=w.heap[b]?):DefOk G St' w' ds:=by
 obtain ⟨Ds,h1,h2,h3⟩:=h
 exact ⟨Ds,h1,h2,fun D hD=>⟨⟨hs D (h3 D hD).1.1,(hw D (h3 D hD).1.1).trans (h3 D hD).1.2⟩,(h3 D hD).2⟩⟩
theorem DefOk.grow {G:Gh} {St St':Nat→Prop} {w:World} {ds:List Deferred} (h:DefOk G St w ds) (hs:∀ b,St b→St' b):DefOk G St' w ds:=h.keep hs fun _ _=>rfl
structure RelSt (G:Gh) (St:Nat→Prop) (s:AS) (a:Act) (w:World):Prop where
 df:DefOk G St w a.defers
 sz:a.tmps.size=G.N
 env:∀ d,RepC G.al St w (look s.env s.b d) (a.tmps.getD d undef)
 un:Under G.F0 G.w0 w
 s1:∀ b,G.St0 b→St b
 s2:∀ b,St b→G.St0 b∨G.w0.heap.size≤b∨G.F0 b
 s3:∀ b,St b→b<w.heap.size
 hp:HRel G.al St w G.w0.heap.size G.F0 s.H
 sn:SentL w G.gs G.al
 sg:(∀ g ∈ lst G.gs,St g)∧∀ a ∈ G.al,St a.block
def Rel (G:Gh) (s:AS) (a:Act) (w:World):Prop:=∃ St,RelSt G St s a w

theorem RelSt.eval {G:Gh} {St:Nat→Prop} {s:AS} {a:Act} {w:World} (h:RelSt G St s a w):∀ x:Operand,RepC G.al St w (s.eval x) (a.eval x)
 | .tmp t=>h.env t
 | .const _=>rfl
 | .global _=>rfl
 | .func _=>rfl

theorem RelSt.put {G:Gh} {St:Nat→Prop} {s:AS} {a:Act} {w:World} (h:RelSt G St s a w) {dst:Option Tmp} {v:CV} {x:Value} (hd:∀ d,dst=some d→d<G.N) (hv:RepC G.al St w v x) :
  RelSt G St (s.put dst v) (a.put dst x) w:=by
 cases dst with
 | none=>exact h
 | some d =>
  have hlt:=hd d rfl
  refine ⟨h.df,by simp [Act.put,h.sz],fun e=>?_,h.un,h.s1,h.s2,h.s3,h.hp,h.sn,h.sg⟩
  by_cases hde:d=e
  ·subst hde
   show RepC _ _ _ (look ((d,v)::s.env) s.b d) _
   rw [look_same]
   simpa [Act.put,h.sz,hlt] using hv
  ·show RepC _ _ _ (look ((d,v)::s.env) s.b e) _
   rw [look_other _ _ _ hde]
   have:=h.env e
   simpa [Act.put,Array.getElem?_setIfInBounds_ne hde] using this

theorem SentL.keep {w w':World} {gs:List Nat} {al:List Addr} (h:SentL w gs al) (h1:∀ g ∈ lst gs,w'.heap[g]?=w.heap[g]?) (h2:∀ a ∈ al,w'.heap[a.block]?=w.heap[a.block]?):SentL w' gs al :=
 ⟨h.len,h.nd,fun i g hi hl=>(cell_of_block (h1 g hl) 0).trans (h.var i g hi hl),fun x hx=>by
  obtain ⟨c,t,hc⟩:=h.row x hx
  simp_all,fun h3 h4=>tabs_keep (h.tab h3 h4) (fun o=>cell_of_block (h1 _ h3) o) (fun o=>cell_of_block (h1 _ h4) o),fun t ht hl i v hv=>(cell_of_block (h1 _ hl) i).trans (h.tbl t ht hl i v hv),fun g hg=>by
   have h3:=h.lt g hg
   grind⟩

theorem RelSt.ext {G:Gh} {St:Nat→Prop} {s:AS} {a:Act} {w w':World} (h:RelSt G St s a w) (hb:Below w.heap.size w w'):RelSt G St s a w':=by
 have he:Evo St w w':=Evo.of_below hb h.s3
 refine ⟨h.df.keep (fun _ h=>h) (fun b hb'=>hb.block b (h.s3 b hb')),h.sz,fun d=>RepC.evo he (fun _ x=>x) _ _ (h.env d),h.un.then hb,h.s1,h.s2,fun b hs=>Nat.lt_of_lt_of_le (h.s3 b hs) hb.size,?_,?_,h.sg⟩
 ·obtain ⟨fp,hp⟩:=h.hp
  exact ⟨fp,fun i g r hi=>Res.rep_evo he (fun _ x=>x) (fun b hF=>hb.block b (hp.own i b hF).1) (hp.rep i g r hi),hp.dis,fun i b hF=>⟨Nat.lt_of_lt_of_le (hp.own i b hF).1 hb.size,(hp.own i b hF).2⟩,hp.out⟩
 ·exact SentL.keep h.sn (fun g hg=>hb.block g (h.s3 _ (h.sg.1 g hg))) (fun x hx=>hb.block _ (h.s3 _ (h.sg.2 x hx)))
theorem RelSt.take {G:Gh} {St:Nat→Prop} {s:AS} {tmps:Array Value} {D:Nat} {Ds:List Nat} {w:World} (h:RelSt G St s { tmps:=tmps,defers:=markD D::Ds.map markD } w) :
  w.heap[D]?=some (.deferred (some []))∧RelSt G St s { tmps:=tmps,defers:=Ds.map markD } (w.putObj D (.deferred none)):=by
 obtain ⟨Ds',h1,h2,h3⟩:=h.df
 have h1:(D::Ds).map markD=Ds'.map markD:=h1
 have inj:∀ (l m:List Nat),l.map markD=m.map markD→l=m:=fun l=>by
  induction l with
  | nil=>simp_all
  | cons x l ih =>
   intro m hm
   cases m with
   | nil=>simp at hm
   | cons y m =>
    grind [markD]
 have e:=inj _ _ h1
 subst e
 obtain ⟨⟨hS,hD⟩,hb,hg,ha⟩:=h3 D (List.mem_cons_self ..)
 have hold:∀ b,b≠D→(w.putObj D (.deferred none)).heap[b]?=w.heap[b]?:=fun b hb=>World.putObj_heap_other hb
 have hrow:∀ (b:Nat) cur t z,w.heap[b]?=some (.cells cur t z)→b≠D:=fun b cur t z hc e=>by simp_all
 have he:Evo St w (w.putObj D (.deferred none)):=⟨fun b cur t z _ hc=>(hold b (hrow b cur t z hc)).trans hc,fun b cur t z hc=>⟨cur,z,(hold b (hrow b cur t z hc)).trans hc,rfl⟩⟩
 refine ⟨hD,⟨Ds,rfl,(List.nodup_cons.1 h2).2,fun E hE=>?_⟩,h.sz,fun d=>RepC.evo he (fun _ x=>x) _ _ (h.env d),⟨h.un.os,h.un.tape,h.un.output,by simp [h.un.size],fun k hk hF=>(hold k (by omega)).trans (h.un.block k hk hF),fun b cur t z hc=>?_⟩,h.s1,h.s2,fun b hb=>by simpa using h.s3 b hb,?_,?_,h.sg⟩
 ·grind
 ·obtain ⟨cur',z',k1,k2⟩:=h.un.sh b cur t z hc
  grind
 ·obtain ⟨fp,hp⟩:=h.hp
  have hne:∀ i b,fp i b→b≠D:=fun i b hF e=>(hp.own i b hF).2.1 (e ▸ hS)
  exact ⟨fp,fun i g r hi=>Res.rep_evo he (fun _ x=>x) (fun b hF=>hold b (hne i b hF)) (hp.rep i g r hi),hp.dis,fun i b hF=>by simpa using hp.own i b hF,hp.out⟩
 ·exact SentL.keep h.sn (fun g hg'=>hold g (fun e=>hg (e ▸ hg'))) (fun x hx=>hold _ (ha x hx))
theorem Rel.ext {G:Gh} {s:AS} {a:Act} {w w':World} (h:Rel G s a w) (hb:Below w.heap.size w w'):Rel G s a w':=h.imp fun _ h=>h.ext hb

def CEnt (x y:CV):Prop:=∀ al St w v,RepC al St w x v→RepC al St w y v
theorem CEnt.refl (x:CV):CEnt x x:=fun _ _ _ _ h=>h
theorem cZ {v:CV}:CEnt v v:=CEnt.refl v
theorem CEnt.top (x:CV):CEnt x .top:=fun _ _ _ _ _=>trivial
theorem CEnt.of_eq {x y:CV} (h:x=y):CEnt x y:=h ▸ CEnt.refl x
theorem CEnt.trans {x y z:CV} (h:CEnt x y) (k:CEnt y z):CEnt x z:=fun al St w v hr=>k al St w v (h al St w v hr)
theorem CEnt.nil:CEnt (.c .nilIface) (.err 0):=fun _ _ _ _ h=>h
theorem CEnt.nilS (k:Nat) (f:Nat→Nat→CV):CEnt (.c (.slice none 0 0)) (.rs k 0 f):=fun _ _ _ _ h=>⟨none,0,h,Nat.le_refl _,by decide,fun _=>rfl,fun _ ha=>by cases ha⟩
theorem CEnt.rs {k n m:Nat} {f g:Nat→Nat→CV} (hn:n=m) (h:∀ i j,i<n→j<k→CEnt (f i j) (g i j)):CEnt (.rs k n f) (.rs k m g):=by
 subst hn
 rintro al St w v ⟨ao,cap,h1,h2,h3,h4,h5⟩
 refine ⟨ao,cap,h1,h2,h3,h4,fun a ha hn=>?_⟩
 obtain ⟨h6,h7,h8⟩:=h5 a ha hn
 refine ⟨h6,h7,fun i j hi hj=>?_⟩
 obtain ⟨v,hv,hr⟩:=h8 i j hi hj
 exact ⟨v,hv,h i j hi hj _ _ _ _ hr⟩
theorem CEnt.agg {n m:Nat} {f g:Nat→CV} (hn:n=m) (h:∀ i,i<n→CEnt (f i) (g i)):CEnt (.agg n f) (.agg m g):=by
 subst hn
 rintro al St w v ⟨cs,h1,h2,h3⟩
 exact ⟨cs,h1,h2,fun i hi=>h i hi _ _ _ _ (h3 i hi)⟩
theorem CEnt.tup {n m:Nat} {f g:Nat→CV} (hn:n=m) (h:∀ i,i<n→CEnt (f i) (g i)):CEnt (.tup n f) (.tup m g):=by
 subst hn
 rintro al St w v ⟨cs,h1,h2,h3⟩
 exact ⟨cs,h1,h2,fun i hi=>h i hi _ _ _ _ (h3 i hi)⟩

def fl (l:List CV) (i:Nat):CV:=match l,i with|[],_=>.top|x::_,0=>x|_::r,i+1=>fl r i

inductive EntL:List CV→List CV→Prop where
 | nil:EntL [] []
 | cons {x y:CV} {l m:List CV} (h:CEnt x y) (t:EntL l m):EntL (x::l) (y::m)

inductive EntE (env:List (Nat×CV)) (b:Nat→CV):List (Nat×CV)→Prop where
 | nil:EntE env b []
 | cons {d:Nat} {v:CV} {r:List (Nat×CV)} (h:CEnt (look env b d) v) (t:EntE env b r):EntE env b ((d,v)::r)

theorem EntE.look {env:List (Nat×CV)} {b b':Nat→CV} {env':List (Nat×CV)} (h:EntE env b env') (hb:∀ d,(∀ v,(d,v) ∉ env')→CEnt (look env b d) (b' d)):∀ d,CEnt (look env b d) (look env' b' d):=by
 have key:∀ l,EntE env b l→∀ d,(∃ v,(d,v) ∈ l)→CEnt (Am.look env b d) (Am.look l b' d):=by
  intro l hl
  induction hl with
  | nil=>intro d ⟨v,hv⟩;cases hv
  | @cons e v r h1 _ ih =>
   intro d ⟨u,hu⟩
   by_cases hed:e=d
   ·subst hed;rw [look_same];exact h1
   ·rw [look_other _ _ _ hed]
    refine ih d ⟨u,?_⟩
    grind
 have key2:∀ l:List (Nat×CV),∀ d,(∀ v,(d,v) ∉ l)→Am.look l b' d=b' d:=by
  intro l
  induction l with
  | nil=>intro d _;rfl
  | cons x r ih =>
   grind [look_other]
 intro d
 by_cases hd:∃ v,(d,v) ∈ env'
 ·exact key env' h d hd
 ·have hd':∀ v,(d,v) ∉ env':=fun v hv=>hd ⟨v,hv⟩
  rw [key2 env' d hd']
  exact hb d hd'

theorem RelSt.ent {G:Gh} {St:Nat→Prop} {env env':List (Nat×CV)} {b b':Nat→CV} {H:List (Option Nat×Res)} {a:Act} {w:World} (h:RelSt G St ⟨env,b,H⟩ a w) (he:∀ d,CEnt (look env b d) (look env' b' d)):RelSt G St ⟨env',b',H⟩ a w :=
 ⟨h.df,h.sz,fun d=>he d _ _ _ _ (h.env d),h.un,h.s1,h.s2,h.s3,h.hp,h.sn,h.sg⟩

def pickL (H:List (Option Nat×Res)) (l:List Nat):List (Option Nat×Res):=l.map fun j=>H.getD j (none,.dead)
theorem HRel.pick {al:List Addr} {St:Nat→Prop} {w:World} {base:Nat} {F0:Nat→Prop} {H H':List (Option Nat×Res)} (h:HRel al St w base F0 H) (l:List Nat) (hl:l.Nodup) (hH:pickL H l=H'):HRel al St w base F0 H':=by
 obtain ⟨fp,hp⟩:=h
 subst hH
 refine ⟨fun i b=>∃ j,l[i]?=some j∧fp j b,fun i g r hi=>?_,fun i j b ⟨p,hp1,hp2⟩ ⟨q,hq1,hq2⟩=>?_,fun i b ⟨p,_,hp2⟩=>hp.own p b hp2,fun i hi b ⟨p,hp1,_⟩=>?_⟩
 ·simp only [pickL,List.getElem?_map,Option.map_eq_some_iff] at hi
  obtain ⟨j,hj,he⟩:=hi
  have e:(fun b=>∃ q,l[i]?=some q∧fp q b)=fp j:=funext fun b=>propext ⟨fun ⟨q,h1,h2⟩=>by simp_all,fun h=>⟨j,hj,h⟩⟩
  show r.rep al St w (fun b=>∃ q,l[i]?=some q∧fp q b) g
  rw [e]
  by_cases hlt:j<H.length
  ·refine hp.rep j g r ?_
   simp_all
  ·rw [List.getD_eq_getElem?_getD,List.getElem?_eq_none (by omega)] at he
   cases he
   exact fun b hb=>hp.out j (by omega) b hb
 ·have:=hp.dis p q b hp2 hq2
  grind [List.getElem?_inj]
 grind [pickL]
inductive HEnt:List (Option Nat×Res)→List (Option Nat×Res)→Prop where
 | nil:HEnt [] []
 | same {x:Option Nat×Res} {l m:List (Option Nat×Res)} (t:HEnt l m):HEnt (x::l) (x::m)
 | blk {g:Option Nat} {n N:Nat} {f F:Nat→CV} {l m:List (Option Nat×Res)} (hn:n=N) (hF:∀ j,j<N→CEnt (f j) (F j)) (t:HEnt l m):HEnt ((g,.blk n f)::l) ((g,.blk N F)::m)
 | dead {g:Option Nat} {r:Res} {l m:List (Option Nat×Res)} (hr:∀ al St w F,Res.rep al St w F g r→∀ b,¬ F b) (t:HEnt l m):HEnt ((g,r)::l) ((g,.dead)::m)
theorem HEnt.refl:∀ l:List (Option Nat×Res),HEnt l l
 | []=>.nil
 | _::r=>.same (HEnt.refl r)
theorem HEnt.at {l m:List (Option Nat×Res)} (h:HEnt l m):l.length=m.length∧∀ (i:Nat) (g:Option Nat) (r':Res),m[i]?=some (g,r')→∃ r,l[i]?=some (g,r)∧∀ al St w F,Res.rep al St w F g r→Res.rep al St w F g r':=by
 induction h with
 | nil=>simp_all
 | same _ ih =>
  grind
 | @blk g0 n N f F l m hn hF _ ih =>
  subst hn
  refine ⟨by simp [ih.1],fun i g r h=>?_⟩
  match i,h with
  | 0,h =>
   simp at h
   obtain ⟨rfl,rfl⟩:=h
   refine ⟨.blk n f,rfl,fun al St w F1 h=>?_⟩
   cases g0 with
   | none=>exact h
   | some g =>
    obtain ⟨h1,cur,t,h2,h3,h4⟩:=h
    exact ⟨h1,cur,t,h2,h3,fun j hj=>hF j hj _ _ _ _ (h4 j hj)⟩
  | i+1,h=>exact ih.2 i g r h
 | @dead g0 r0 l m hr _ ih =>
  refine ⟨by simp [ih.1],fun i g r h=>?_⟩
  match i,h with
  | 0,h =>
   simp at h
   obtain ⟨rfl,rfl⟩:=h
   refine ⟨r0,rfl,fun al St w F1 h=>?_⟩
   have:=hr al St w F1 h
   cases g0 <;> exact this
  | i+1,h=>exact ih.2 i g r h
theorem HRel.hent {al:List Addr} {St:Nat→Prop} {w:World} {base:Nat} {F0:Nat→Prop} {H H':List (Option Nat×Res)} (h:HRel al St w base F0 H) (he:HEnt H H'):HRel al St w base F0 H':=by
 obtain ⟨fp,hp⟩:=h
 obtain ⟨h1,h2⟩:=he.at
 exact ⟨fp,fun i g r hi=>by
  obtain ⟨r0,h3,h4⟩:=h2 i g r hi
  exact h4 _ _ _ _ (hp.rep i g r0 h3),hp.dis,hp.own,fun i hi=>hp.out i (by omega)⟩
theorem HRel.none (al:List Addr) (St:Nat→Prop) (w:World) (base:Nat) (F0:Nat→Prop):HRel al St w base F0 [] :=
 ⟨fun _ _=>False,fun i g r hi=>by simp at hi,fun _ _ _ h=>h.elim,fun _ _ h=>h.elim,fun _ _ _ h=>h⟩
end
end Am
end Go.Proofs.YtnijncmifjnifaaGreatDoor
