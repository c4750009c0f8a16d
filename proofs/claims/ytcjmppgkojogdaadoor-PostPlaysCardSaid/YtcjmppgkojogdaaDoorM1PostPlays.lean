/- What the law leans on, part 1: W35s, Base, Reg, Reg2, Reg3, Reg4, Reg5, Am1, Am2, Am3, Am4, Am5 -/
import Derived.Test.YtcjmppgkojogdaaDoorProg
import Derived.Conc.LoneCalls
import Derived.Conc.LoneSelect
import Derived.KernelRfl
import Derived.Laws.Rows
import Derived.Test.YtcjmppgkojogdaaDoorChecked
import Derived.WalkKit
import Derived.WalkLawsBesides
import Derived.WalkSpells
import Derived.Outline
import Derived.Handy
import Derived.Deep.QuietTactic
import Derived.Deep.Draws
import Derived.BigQuiet
import Derived.Lib.Hide
import Derived.LaidEql
import Derived.Laws.IdiomStrings
import Derived.WideLaws
import Derived.Shelf.Unicode.DecodeSlow
import Derived.OrdersHeld
import Derived.Deep.RegionHeld3
import Derived.RangeFuncNested
import Derived.OrdersIn
import Derived.RangeFuncCalls
import Derived.RangeFuncLeaves
import Derived.RangeFuncRecord

set_option maxRecDepth 100000
namespace Go.Proofs.YtcjmppgkojogdaaDoor
open Go.Conc Go.RowKit

set_option maxRecDepth 100000 in
theorem put35s_room {w:World} {g c cap s r:Nat} {buf:Array Value} {tm:Bool} (x:ByteArray) (h0:w.cell? ⟨g,0,none⟩=some (.chan (some c))) (hc:w.heap[c]?=some (.chan cap buf false s r tm)) (hr:buf.size<cap) :
  Calls Tryd.prog 26 #[.pointer (some ⟨g,0,none⟩),.string x] w fun e w'=>e=.returned (.bool true)∧w'=w.setChan c cap (buf.push (.string x)) false (s+1) r tm:=by
 refine calls_of_loneTo fun cs=>?_
 have e:Frame.enter Tryd.prog 26 #[.pointer (some ⟨g,0,none⟩),.string x] .normal=(base 26).at ⟨#[.pointer (some ⟨g,0,none⟩),.string x,undef,undef,undef,undef,undef,undef,undef,undef,undef,undef,undef],[]⟩ [.code (Tryd.f26.body.getD .skip)]:=by
  simp [Frame.enter,Frame.at,Tryd.func26,base,Tryd.f26]
 rw [e]
 refine LoneTo.goes (n:=60) ?_
 simp only [Tryd.f26,Option.getD_some]
 s_c stepG_seq
 s_reg
 s_op
 s_c stepG_region_end
 s_c stepG_seq
 s_c stepG_seq
 s_reg
 s_op
 s_op
 s_op
 s_op
 s_c stepG_region_end
 s_reg
 s_op
 s_c stepG_region_end
 s_c stepG_seq
 s_reg
 s_stop
 refine LoneTo.step (step_lone_select_send_room (c:=c) (cap:=cap) (buf:=buf) (s:=s) (r:=r) (tm:=tm) (stepG_comm (cases:=#[scase c (.string x) (.string ⟨#[]⟩)]) (blocking:=false) (shape:=.select) (w':=w) rfl rfl (by decide) (by simp [go_sem,execOp,scase,Act.eval])) hc hr) ?_
 rw [Frame.finish_at]
 walk_nrm
 refine LoneTo.goes (n:=40) ?_
 s_op
 s_op
 s_c stepG_region_end
 s_c stepG_block
 s_cond true
 s_c stepG_seq
 s_reg
 s_op
 s_c stepG_region_end
 s_c stepG_ret'
 s_stop
 exact LoneTo.done ⟨.returned (.bool true),_,rfl,⟨rfl,rfl⟩,rfl,rfl,rfl,rfl,_,Tryd.func26,by simp [results,Tryd.f26,Frame.at]⟩

set_option maxRecDepth 100000 in
theorem put35s_full {w:World} {g c cap s r:Nat} {buf:Array Value} {tm:Bool} (x:ByteArray) (h0:w.cell? ⟨g,0,none⟩=some (.chan (some c))) (hc:w.heap[c]?=some (.chan cap buf false s r tm)) (hr:cap≤buf.size) :
  Calls Tryd.prog 26 #[.pointer (some ⟨g,0,none⟩),.string x] w fun e w'=>e=.returned (.bool false)∧w'=w:=by
 refine calls_of_loneTo fun cs=>?_
 have e:Frame.enter Tryd.prog 26 #[.pointer (some ⟨g,0,none⟩),.string x] .normal=(base 26).at ⟨#[.pointer (some ⟨g,0,none⟩),.string x,undef,undef,undef,undef,undef,undef,undef,undef,undef,undef,undef],[]⟩ [.code (Tryd.f26.body.getD .skip)]:=by
  simp [Frame.enter,Frame.at,Tryd.func26,base,Tryd.f26]
 rw [e]
 refine LoneTo.goes (n:=60) ?_
 simp only [Tryd.f26,Option.getD_some]
 s_c stepG_seq
 s_reg
 s_op
 s_c stepG_region_end
 s_c stepG_seq
 s_c stepG_seq
 s_reg
 s_op
 s_op
 s_op
 s_op
 s_c stepG_region_end
 s_reg
 s_op
 s_c stepG_region_end
 s_c stepG_seq
 s_reg
 s_stop
 refine LoneTo.step (step_lone_select_send_full (c:=c) (cap:=cap) (buf:=buf) (s:=s) (r:=r) (tm:=tm) (stepG_comm (cases:=#[scase c (.string x) (.string ⟨#[]⟩)]) (blocking:=false) (shape:=.select) (w':=w) rfl rfl (by decide) (by simp [go_sem,execOp,scase,Act.eval])) hc hr) ?_
 rw [Frame.finish_at]
 walk_nrm
 refine LoneTo.goes (n:=40) ?_
 s_op
 s_op
 s_c stepG_region_end
 s_c stepG_block
 s_cond false
 s_c stepG_seq
 s_reg
 s_op
 s_c stepG_region_end
 s_c stepG_ret'
 s_stop
 exact LoneTo.done ⟨.returned (.bool false),_,rfl,⟨rfl,rfl⟩,rfl,rfl,rfl,rfl,_,Tryd.func26,by simp [results,Tryd.f26,Frame.at]⟩

set_option maxRecDepth 100000 in
theorem take35s_some {w:World} {g c cap s r:Nat} {buf:Array Value} {tm:Bool} (x:ByteArray) (h0:w.cell? ⟨g,0,none⟩=some (.chan (some c))) (hc:w.heap[c]?=some (.chan cap buf false s r tm)) (hr:0<buf.size) (hx:buf.getD 0 undef=.string x) :
  Calls Tryd.prog 10 #[.pointer (some ⟨g,0,none⟩)] w fun e w'=>e=.returned (.tuple #[.string x,.bool true])∧w'=w.setChan c cap (buf.extract 1 buf.size) false s (r+1) tm:=by
 refine calls_of_loneTo fun cs=>?_
 have e:Frame.enter Tryd.prog 10 #[.pointer (some ⟨g,0,none⟩)] .normal=(base 10).at ⟨#[.pointer (some ⟨g,0,none⟩),undef,undef,undef,undef,undef,undef,undef,undef,undef,undef,undef,undef,undef,undef,undef],[]⟩ [.code (Tryd.f10.body.getD .skip)]:=by
  simp [Frame.enter,Frame.at,Tryd.func10,base,Tryd.f10]
 rw [e]
 refine LoneTo.goes (n:=60) ?_
 simp only [Tryd.f10,Option.getD_some]
 s_c stepG_seq
 s_reg
 s_op
 s_op
 s_c stepG_region_end
 s_c stepG_seq
 s_reg
 s_op
 s_op
 s_op
 s_op
 s_c stepG_region_end
 s_c stepG_seq
 s_reg
 s_stop
 refine LoneTo.step (step_lone_select_recv_buf (c:=c) (cap:=cap) (buf:=buf) (closed:=false) (s:=s) (r:=r) (tm:=tm) (stepG_comm (cases:=#[rcase c (.string ⟨#[]⟩)]) (blocking:=false) (shape:=.select) (w':=w) rfl rfl (by decide) (by simp [go_sem,execOp,rcase,Act.eval])) hc hr) ?_
 rw [Frame.finish_at,hx]
 walk_nrm
 refine LoneTo.goes (n:=40) ?_
 s_op
 s_op
 s_c stepG_region_end
 s_c stepG_block
 s_cond true
 s_c stepG_seq
 s_reg
 s_op
 s_op
 s_c stepG_region_end
 s_c stepG_seq
 s_reg
 s_op
 s_op
 s_op
 s_c stepG_region_end
 s_c stepG_ret'
 s_stop
 exact LoneTo.done ⟨.returned (.tuple #[.string x,.bool true]),_,rfl,⟨rfl,rfl⟩,rfl,rfl,rfl,rfl,_,Tryd.func10,by simp [results,Tryd.f10,Frame.at]⟩

set_option maxRecDepth 100000 in
theorem take35s_none {w:World} {g c cap s r:Nat} {tm:Bool} (h0:w.cell? ⟨g,0,none⟩=some (.chan (some c))) (hc:w.heap[c]?=some (.chan cap #[] false s r tm)) :
  Calls Tryd.prog 10 #[.pointer (some ⟨g,0,none⟩)] w fun e w'=>e=.returned (.tuple #[.string ⟨#[]⟩,.bool false])∧w'=w:=by
 refine calls_of_loneTo fun cs=>?_
 have e:Frame.enter Tryd.prog 10 #[.pointer (some ⟨g,0,none⟩)] .normal=(base 10).at ⟨#[.pointer (some ⟨g,0,none⟩),undef,undef,undef,undef,undef,undef,undef,undef,undef,undef,undef,undef,undef,undef,undef],[]⟩ [.code (Tryd.f10.body.getD .skip)]:=by
  simp [Frame.enter,Frame.at,Tryd.func10,base,Tryd.f10]
 rw [e]
 refine LoneTo.goes (n:=60) ?_
 simp only [Tryd.f10,Option.getD_some]
 s_c stepG_seq
 s_reg
 s_op
 s_op
 s_c stepG_region_end
 s_c stepG_seq
 s_reg
 s_op
 s_op
 s_op
 s_op
 s_c stepG_region_end
 s_c stepG_seq
 s_reg
 s_stop
 refine LoneTo.step (step_lone_select_default (c:=c) (cap:=cap) (s:=s) (r:=r) (tm:=tm) (stepG_comm (cases:=#[rcase c (.string ⟨#[]⟩)]) (blocking:=false) (shape:=.select) (w':=w) rfl rfl (by decide) (by simp [go_sem,execOp,rcase,Act.eval])) hc) ?_
 rw [Frame.finish_at]
 walk_nrm
 refine LoneTo.goes (n:=40) ?_
 s_op
 s_op
 s_c stepG_region_end
 s_c stepG_block
 s_cond false
 s_c stepG_seq
 s_reg
 s_op
 s_c stepG_region_end
 s_c stepG_seq
 s_reg
 s_op
 s_op
 s_op
 s_c stepG_region_end
 s_c stepG_ret'
 s_stop
 exact LoneTo.done ⟨.returned (.tuple #[.string ⟨#[]⟩,.bool false]),_,rfl,⟨rfl,rfl⟩,rfl,rfl,rfl,rfl,_,Tryd.func10,by simp [results,Tryd.f10,Frame.at]⟩
end Go.Proofs.YtcjmppgkojogdaaDoor
namespace Go.Proofs.YtcjmppgkojogdaaDoor
set_option linter.unusedVariables false
open Go.RowKit

theorem below_then {a b c:World} (h:Below a.heap.size a b) (k:Below b.heap.size b c):Below a.heap.size a c:=h.trans (k.mono h.size)
theorem below_cell {a b:World} (h:Below a.heap.size a b) {p:Addr} {v:Value} (hc:a.cell? p=some v):b.cell? p=some v :=
 (h.cell (World.block_lt_of_cell? a p hc)).trans hc

theorem wpList_value {P:Program} {ops:Array Oper} {Q:Exit→Act→World→Prop} {rest:List Oper} {o:Oper} {a:Act} {w:World} (v:Value) (w':World)
  (hg:o.guard=none) (hr:(execOp a.eval o).run P w=.ok (.value v) w') (hK:wpList P ops Q rest (a.put o.dst v) w'):wpList P ops Q (o::rest) a w :=
 wpList_plain hg fun K hk=>by
  unfold Oper.wp
  rw [hr]
  exact hk _ _ hK

def Bs (w:World) (v:Value) (l:List UInt8):Prop :=
 ∃ ao cap,v=.slice ao l.length cap∧l.length≤cap∧cap≤9223372036854775807∧(ao=none→cap=0) ∧
  ∀ x,ao=some x→(0<l.length→x.spot=none)∧∀ i,i<l.length→w.cell? ⟨x.block,x.off+i,none⟩=some (.int .u8 (l.getD i 0).toNat)

theorem Bs.below {a b:World} {v:Value} {l:List UInt8} (h:Bs a v l) (k:Below a.heap.size a b):Bs b v l:=by
 obtain ⟨ao,cap,rfl,h1,h2,h3,h4⟩:=h
 exact ⟨ao,cap,rfl,h1,h2,h3,fun x hx=>⟨(h4 x hx).1,fun i hi=>below_cell k ((h4 x hx).2 i hi)⟩⟩

theorem Bs.cons {w:World} {v:Value} {l:List UInt8} (h:Bs w v l) (hl:0<l.length) :
  ∃ b o cap,v=.slice (some ⟨b,o,none⟩) l.length cap∧l.length≤cap∧cap≤9223372036854775807∧∀ i,i<l.length→w.cell? ⟨b,o+i,none⟩=some (.int .u8 (l.getD i 0).toNat):=by
 obtain ⟨ao,cap,rfl,h1,h2,h3,h4⟩:=h
 cases ao with
 | none=>have:=h3 rfl;omega
 | some x =>
  obtain ⟨b,o,sp⟩:=x
  obtain ⟨hs,hc⟩:=h4 _ rfl
  have hs:=hs hl
  simp only at hs
  subst hs
  exact ⟨b,o,cap,rfl,h1,by omega,hc⟩

theorem Bs.len {w:World} {ao:Option Addr} {n cap:Nat} {l:List UInt8} (h:Bs w (.slice ao n cap) l):n=l.length:=by
 obtain ⟨_,_,e,_⟩:=h
 injection e

theorem Bs.nil (w:World):Bs w (.slice none 0 0) []:=⟨none,0,rfl,by simp,by simp,fun _=>rfl,fun x h=>by cases h⟩

theorem Bs.piece {w:World} {ao:Option Addr} {n cap:Nat} {l:List UInt8} (h:Bs w (.slice ao n cap) l) (lo hi:Nat) (h1:lo≤hi) (h2:hi≤n) :
  Bs w (.slice (if cap=lo then ao else ao.map (·.add lo)) (hi-lo) (cap-lo)) ((l.take hi).drop lo):=by
 obtain ⟨ao',cap',e,h3,h4,h5,h6⟩:=h
 injection e with e1 e2 e3
 subst e1 e2 e3
 have hlen:((l.take hi).drop lo).length=hi-lo:=by simp;omega
 refine ⟨_,_,by rw [hlen],by rw [hlen];omega,by omega,?_,?_⟩
 ·intro hn
  split at hn
  ·omega
  ·have:ao=none:=by simpa using hn
   have:=h5 this
   omega
 ·intro x hx
  split at hx
  ·have hz:hi-lo=0:=by omega
   exact ⟨fun h=>by rw [hlen] at h;omega,fun i hi'=>by rw [hlen] at hi';omega⟩
  ·obtain ⟨y,rfl,rfl⟩:=Option.map_eq_some_iff.1 hx
   obtain ⟨hs,hc⟩:=h6 y rfl
   obtain ⟨b,o,sp⟩:=y
   by_cases hz:hi-lo=0
   ·exact ⟨fun h=>by rw [hlen] at h;omega,fun i hi'=>by rw [hlen] at hi';omega⟩
   have hs:=hs (by omega)
   simp only at hs
   subst hs
   rw [Addr.add_lit]
   refine ⟨fun _=>rfl,fun i hi'=>?_⟩
   rw [hlen] at hi'
   show w.cell? ⟨b,o+lo+i,none⟩=_
   rw [Nat.add_assoc,hc (lo+i) (by omega)]
   simp [List.getD,List.getElem?_take,show lo+i<hi by omega]

theorem Bs.from {w:World} {ao:Option Addr} {n cap:Nat} {l:List UInt8} (h:Bs w (.slice ao n cap) l) (lo:Nat) (h2:lo≤n) :
  Bs w (.slice (if cap=lo then ao else ao.map (·.add lo)) (n-lo) (cap-lo)) (l.drop lo):=by
 have:=h.piece lo n h2 (Nat.le_refl _)
 have e:l.take n=l:=by rw [h.len,List.take_length]
 rwa [e] at this

def ev (al:List Addr) (k:Nat):Value:=if k=0 then .nilIface else .iface 77 (.pointer al[k-1]?)

def tabA:Nat:=1000000028
def tabB:Nat:=1000000029
def errG (gs:List Nat):List Nat:=gs.filter fun g=>!(Nat.beq g tabA || Nat.beq g tabB)
def lst (gs:List Nat):List Nat:=gs.filter fun g=>Nat.blt g 1000000000
theorem lst_mem {gs:List Nat} {g:Nat}:g ∈ lst gs↔g ∈ gs∧g<1000000000:=by simp [lst]
structure SentL (w:World) (gs:List Nat) (al:List Addr):Prop where
 len:al.length=(errG gs).length
 nd:∀ (i j g g':Nat),(errG gs)[i]?=some g→g ∈ lst gs→(errG gs)[j]?=some g'→g' ∈ lst gs→al[i]?=al[j]?→i=j
 var:∀ i g,(errG gs)[i]?=some g→g ∈ lst gs→w.cell? ⟨g,0,none⟩=some (ev al (i+1))
 row:∀ a ∈ al,∃ c t,w.heap[a.block]?=some (.cells c t (0,0))
 tab:tabA ∈ lst gs→tabB ∈ lst gs→Lib.Utf8Tabs tabA tabB w
 lt:∀ g ∈ lst gs,g<w.heap.size
theorem tabs_keep {w w':World} {g3 g4:Nat} (h:Lib.Utf8Tabs g3 g4 w) (h1:∀ o,w'.cell? ⟨g3,o,none⟩=w.cell? ⟨g3,o,none⟩) (h2:∀ o,w'.cell? ⟨g4,o,none⟩=w.cell? ⟨g4,o,none⟩):Lib.Utf8Tabs g3 g4 w' :=
 ⟨fun c hc=>(h1 c).trans (h.1 c hc),fun i hi=>⟨(h2 _).trans (h.2 i hi).1,(h2 _).trans (h.2 i hi).2⟩⟩
theorem SentL.below {a b:World} {gs:List Nat} {al:List Addr} (h:SentL a gs al) (k:Below a.heap.size a b):SentL b gs al :=
 ⟨h.len,h.nd,fun i g hi hl=>below_cell k (h.var i g hi hl),fun x hx=>by
  obtain ⟨c,t,hc⟩:=h.row x hx
  exact ⟨c,t,by rw [k.block x.block (Array.getElem?_eq_some_iff.1 hc).1];exact hc⟩,fun h1 h2=>Utf8Tabs_below (h.tab h1 h2) k,fun g hg=>Nat.lt_of_lt_of_le (h.lt g hg) k.size⟩

def gs:List Nat:=[0,1,2,3,4,5,6,7,8,9,10,11,12,13,14,15,16,17,18,19,20,21,22,23,24,25,26,27]
def gsT:List Nat:=gs++[tabA,tabB]
class OkG (l:List Nat):Prop where
 eq:errG l=gs
instance okG:OkG gs:=⟨by decide⟩
instance okT:OkG gsT:=⟨by decide⟩
abbrev Sent (w:World) (al:List Addr):Prop:=SentL w gs al
class HasE (l:List Nat) (k:Nat):Prop where
 eq:(errG l)[k]?=gs[k]?
 lt:∀ g,gs[k]?=some g→g ∈ lst l
theorem hasE_of {l:List Nat} [h:OkG l] (k:Nat) (hk:(gs[k]?).any (fun g=>Nat.blt g 1000000000)=true):HasE l k:=⟨by rw [OkG.eq],fun g hg=>by
 rw [hg] at hk
 refine lst_mem.2 ⟨?_,Nat.le_of_ble_eq_true hk⟩
 have h1:g ∈ errG l:=by rw [OkG.eq];exact List.mem_of_getElem? hg
 exact (List.mem_filter.1 h1).1⟩
instance hasE0 {l:List Nat} [OkG l]:HasE l 0:=hasE_of 0 (by decide)
instance hasE1 {l:List Nat} [OkG l]:HasE l 1:=hasE_of 1 (by decide)
instance hasE2 {l:List Nat} [OkG l]:HasE l 2:=hasE_of 2 (by decide)
instance hasE3 {l:List Nat} [OkG l]:HasE l 3:=hasE_of 3 (by decide)
instance hasE4 {l:List Nat} [OkG l]:HasE l 4:=hasE_of 4 (by decide)
instance hasE5 {l:List Nat} [OkG l]:HasE l 5:=hasE_of 5 (by decide)
instance hasE6 {l:List Nat} [OkG l]:HasE l 6:=hasE_of 6 (by decide)
instance hasE7 {l:List Nat} [OkG l]:HasE l 7:=hasE_of 7 (by decide)
instance hasE8 {l:List Nat} [OkG l]:HasE l 8:=hasE_of 8 (by decide)
instance hasE9 {l:List Nat} [OkG l]:HasE l 9:=hasE_of 9 (by decide)
instance hasE10 {l:List Nat} [OkG l]:HasE l 10:=hasE_of 10 (by decide)
instance hasE11 {l:List Nat} [OkG l]:HasE l 11:=hasE_of 11 (by decide)
instance hasE12 {l:List Nat} [OkG l]:HasE l 12:=hasE_of 12 (by decide)
instance hasE13 {l:List Nat} [OkG l]:HasE l 13:=hasE_of 13 (by decide)
instance hasE14 {l:List Nat} [OkG l]:HasE l 14:=hasE_of 14 (by decide)
instance hasE15 {l:List Nat} [OkG l]:HasE l 15:=hasE_of 15 (by decide)
instance hasE16 {l:List Nat} [OkG l]:HasE l 16:=hasE_of 16 (by decide)
instance hasE17 {l:List Nat} [OkG l]:HasE l 17:=hasE_of 17 (by decide)
instance hasE18 {l:List Nat} [OkG l]:HasE l 18:=hasE_of 18 (by decide)
instance hasE19 {l:List Nat} [OkG l]:HasE l 19:=hasE_of 19 (by decide)
instance hasE20 {l:List Nat} [OkG l]:HasE l 20:=hasE_of 20 (by decide)
instance hasE21 {l:List Nat} [OkG l]:HasE l 21:=hasE_of 21 (by decide)
instance hasE22 {l:List Nat} [OkG l]:HasE l 22:=hasE_of 22 (by decide)
instance hasE23 {l:List Nat} [OkG l]:HasE l 23:=hasE_of 23 (by decide)
instance hasE24 {l:List Nat} [OkG l]:HasE l 24:=hasE_of 24 (by decide)
instance hasE25 {l:List Nat} [OkG l]:HasE l 25:=hasE_of 25 (by decide)
instance hasE26 {l:List Nat} [OkG l]:HasE l 26:=hasE_of 26 (by decide)
instance hasE27 {l:List Nat} [OkG l]:HasE l 27:=hasE_of 27 (by decide)
class Ok2 (l:List Nat):Prop where
 h0:HasE l 0
 h3:HasE l 3
instance ok2_0 {l:List Nat} [h:Ok2 l]:HasE l 0:=h.h0
instance ok2_3 {l:List Nat} [h:Ok2 l]:HasE l 3:=h.h3
instance ok2_all {l:List Nat} [OkG l]:Ok2 l:=⟨inferInstance,inferInstance⟩
class Ok9 (l:List Nat):Prop where
 h0:HasE l 0
 h1:HasE l 1
 h2:HasE l 2
 h3:HasE l 3
 h4:HasE l 4
 h5:HasE l 5
 h6:HasE l 6
 h7:HasE l 7
 h23:HasE l 23
instance ok9_0 {l:List Nat} [h:Ok9 l]:HasE l 0:=h.h0
instance ok9_1 {l:List Nat} [h:Ok9 l]:HasE l 1:=h.h1
instance ok9_2 {l:List Nat} [h:Ok9 l]:HasE l 2:=h.h2
instance ok9_3 {l:List Nat} [h:Ok9 l]:HasE l 3:=h.h3
instance ok9_4 {l:List Nat} [h:Ok9 l]:HasE l 4:=h.h4
instance ok9_5 {l:List Nat} [h:Ok9 l]:HasE l 5:=h.h5
instance ok9_6 {l:List Nat} [h:Ok9 l]:HasE l 6:=h.h6
instance ok9_7 {l:List Nat} [h:Ok9 l]:HasE l 7:=h.h7
instance ok9_23 {l:List Nat} [h:Ok9 l]:HasE l 23:=h.h23
instance ok9_all {l:List Nat} [OkG l]:Ok9 l:=⟨inferInstance,inferInstance,inferInstance,inferInstance,inferInstance,inferInstance,inferInstance,inferInstance,inferInstance⟩
instance ok9_two {l:List Nat} [Ok9 l]:Ok2 l:=⟨inferInstance,inferInstance⟩
theorem gs_sub {l:List Nat} [OkG l]:∀ g ∈ gs,g ∈ l:=fun g hg=>by
 rw [← OkG.eq (l:=l)] at hg
 exact (List.mem_filter.1 hg).1
theorem lst_sub {l:List Nat} [OkG l] {g:Nat} (h:g ∈ lst gs):g ∈ lst l:=lst_mem.2 ⟨gs_sub g (lst_mem.1 h).1,(lst_mem.1 h).2⟩
theorem SentL.std {w:World} {l:List Nat} {al:List Addr} [OkG l] (h:SentL w l al):Sent w al where
 len:=h.len.trans (by rw [OkG.eq,OkG.eq])
 nd:=fun i j g g' hi hl hj hl' e=>h.nd i j g g' (by rw [OkG.eq] at hi ⊢;exact hi) (lst_sub hl) (by rw [OkG.eq] at hj ⊢;exact hj) (lst_sub hl') e
 var:=fun i g hi hl=>h.var i g (by rw [OkG.eq] at hi ⊢;exact hi) (lst_sub hl)
 row:=h.row
 tab:=fun h1 h2=>h.tab (lst_sub h1) (lst_sub h2)
 lt:=fun g hg=>h.lt g (lst_sub hg)

theorem ev_zero (al:List Addr):ev al 0=.nilIface:=rfl

@[go_sem] theorem eqGuard_ev_nil (op:BinOp) (t:TypeId) (x:Operand) (c:Value) (al:List Addr) (k:Nat):eqGuard op t x (.const c) (ev al k) .nilIface=pure ():=by
 unfold ev
 split
 ·exact eqGuard_nil_constR op t x c
 ·exact eqGuard_at_iface op t x _ _ _ _
theorem errorIface:Tryd.prog.underlying 27=some (.interface (Tryd.prog.methodsAt 27)):=by kernel_rfl
@[go_sem] theorem run_eql_ev_nil (al:List Addr) (k:Nat) (w:World):(binOp .eql 27 (ev al k) .nilIface).run Tryd.prog w=.ok (.bool (decide (k=0))) w:=by
 unfold ev
 split
 ·subst k
  exact run_eql_nil_nil w _ errorIface
 ·rename_i hk
  simp only [hk,decide_false]
  exact run_eql_held_nil w _ _ _ errorIface
@[go_sem] theorem run_neq_ev_nil (al:List Addr) (k:Nat) (w:World):(binOp .neq 27 (ev al k) .nilIface).run Tryd.prog w=.ok (.bool (!decide (k=0))) w:=by
 unfold ev
 split
 ·subst k
  exact run_neq_nil_nil w _ errorIface
 ·rename_i hk
  simp only [hk,decide_false]
  exact run_neq_held_nil w _ _ _ errorIface
end Go.Proofs.YtcjmppgkojogdaaDoor
namespace Go.Proofs.YtcjmppgkojogdaaDoor
set_option linter.unusedVariables false
open Go.RowKit

def Ext (w:World):Type:={ W:World // Below w.heap.size w W }
def Ext.w {w:World} (n:Ext w):World:=n.1
theorem Ext.below {w:World} (n:Ext w):Below w.heap.size w n.w:=n.2
instance (w:World):Nonempty (Ext w):=⟨⟨w,Below.refl _ _⟩⟩
theorem Ext.cell {w:World} {p:Addr} {v:Value} (h:w.cell? p=some v) (n:Ext w):n.w.cell? p=some v:=below_cell n.below h
def Ext.up {w W:World} (h:Below w.heap.size w W) (n:Ext W):Ext w:=⟨n.w,below_then h n.below⟩

section
variable {P:Program} {ops:Array Oper} {Q:Exit→Act→World→Prop} {md:Region.Mode}

def wpAnyE (P:Program) (md:Region.Mode) (ops:Array Oper) (Q:Exit→Act→World→Prop):Nat→Array Bool→Act→World→Prop
 | 0,listed,a,w=>Region.ready md ops listed=[]∧∀ n:Ext w,Q .normal a n.w
 | fuel+1,listed,a,w =>
  (Region.ready md ops listed=[]→∀ n:Ext w,Q .normal a n.w) ∧
  ∀ i ∈ Region.ready md ops listed,∀ n:Ext w,wpOp P ops Q i (fun a' w'=>Below n.w.heap.size n.w w'∧wpAnyE P md ops Q fuel (listed.setIfInBounds i true) a' w') a n.w

theorem wpAnyE_mono:∀ (fuel:Nat) (listed:Array Bool) (a:Act) (w W:World),Below w.heap.size w W→wpAnyE P md ops Q fuel listed a w→wpAnyE P md ops Q fuel listed a W
 | 0,_,_,_,_,hb,h=>⟨h.1,fun n=>h.2 (n.up hb)⟩
 | _+1,_,_,_,_,hb,h=>⟨fun h0 n=>h.1 h0 (n.up hb),fun i hi n=>h.2 i hi (n.up hb)⟩

theorem wpAny_of_E:∀ (fuel:Nat) (listed:Array Bool) (a:Act) (w:World),wpAnyE P md ops Q fuel listed a w→wpAny P md ops Q fuel listed a w
 | 0,_,_,w,h=>⟨h.1,h.2 ⟨w,Below.refl _ _⟩⟩
 | fuel+1,_,_,w,h=>⟨fun h0=>h.1 h0 ⟨w,Below.refl _ _⟩,fun i hi=>wpOp_mono (fun a' w' h'=>wpAny_of_E fuel _ a' w' h'.2) (h.2 i hi ⟨w,Below.refl _ _⟩)⟩

def YieldsE (P:Program) (ops:Array Oper) (w:World) (o:Oper) (v:Value) (a:Act):Prop:=YieldsIf P ops (fun W=>Below w.heap.size w W) o v a

theorem YieldsE.mono {w W:World} {o:Oper} {v:Value} {a:Act} (hb:Below w.heap.size w W) (h:YieldsE P ops w o v a):YieldsE P ops W o v a :=
 h.imp (fun ⟨h1,h2⟩=>⟨h1,fun X hX=>h2 X (below_then hb hX)⟩) id

theorem wpAnyE_first {i:Nat} {oi:Oper} {v:Value} (hi:ops[i]?=some oi) (hsel:∀ (j:Nat) (o:Oper) cs b,ops[j]?=some o→o.op≠.select cs b)
  (hQ:∀ c a w,Q (.panic c) (a.put oi.dst v) w→Q (.panic c) a w) :
  ∀ (fuel:Nat) (listed:Array Bool) (a:Act) (w:World),
   (∀ j oj,ops[j]?=some oj→j≠i→listed.getD j true=false→(∀ e ∈ oj.after,Region.binds md e=true→e.on≠i)→oi.apart ops oj=true) →
   i ∈ Region.ready md ops listed→YieldsE P ops w oi v a →
   wpAnyE P md ops Q fuel (listed.setIfInBounds i true) (a.put oi.dst v) w→wpAnyE P md ops Q (fuel+1) listed a w:=by
 intro fuel
 induction fuel with
 | zero =>
  intro listed a w _ hr hy H
  refine ⟨fun h=>(by rw [h] at hr;cases hr),fun j hj n=>?_⟩
  by_cases hji:j=i
  ·subst hji
   exact YieldsIf.wpOp hi hy n.below ⟨Below.refl _ _,wpAnyE_mono 0 _ _ _ _ n.below H⟩
  ·have:=ready_mono hj hji
   rw [H.1] at this
   cases this
 | succ fuel ih =>
  intro listed a w hfree hr hy H
  refine ⟨fun h=>(by rw [h] at hr;cases hr),fun j hj n=>?_⟩
  by_cases hji:j=i
  ·subst hji
   exact YieldsIf.wpOp hi hy n.below ⟨Below.refl _ _,wpAnyE_mono (fuel+1) _ _ _ _ n.below H⟩
  ·have h1:=H.2 j (ready_mono hj hji) n
   obtain ⟨hjun,oj,hoj,hall⟩:=mem_ready.1 hj
   have hnot:∀ e ∈ oj.after,Region.binds md e=true→e.on≠i:=fun e he hb heq=>by
    have h1:=hall e he hb
    have h0:=(mem_ready.1 hr).1
    rw [heq] at h1
    rcases Nat.lt_or_ge i listed.size with h'|h'
    ·simp [h'] at h0 h1;rw [h0] at h1;cases h1
    ·simp [Array.getElem?_eq_none h'] at h1
   have h2:=wpOp_putIf hoj (hfree j oj hoj hji hjun hnot) (fun cs b=>hsel i oi cs b hi) (fun cs b=>hsel j oj cs b hoj) hQ (YieldsE.mono n.below hy) h1
   have hfree':∀ k ok,ops[k]?=some ok→k≠i→(listed.setIfInBounds j true).getD k true=false →
     (∀ e ∈ ok.after,Region.binds md e=true→e.on≠i)→oi.apart ops ok=true:=fun k ok hk hki hun hno=>by
    refine hfree k ok hk hki ?_ hno
    by_cases hjk:j=k
    ·subst hjk;exact hjun
    ·rw [getD_set_ne true hjk] at hun;exact hun
   refine wpOp_mono (fun a' w' h3=>⟨h3.2.1,ih (listed.setIfInBounds j true) a' w' hfree' (ready_mono hr (Ne.symm hji)) (YieldsE.mono h3.2.1 h3.1) ?_⟩) h2
   rw [Array.setIfInBounds_comm _ _ hji]
   exact h3.2.2

def wpE (P:Program) (ops:Array Oper) (Q:Exit→Act→World→Prop):List (Nat×Bool)→Act→World→Prop
 | [],a,w=>∀ n:Ext w,Q .normal a n.w
 |(i,false)::r,a,w=>∃ v o,ops[i]?=some o∧YieldsE P ops w o v a∧wpE P ops Q r (a.put o.dst v) w
 |(i,true)::r,a,w=>∀ n:Ext w,wpOp P ops Q i (fun a' w'=>Below n.w.heap.size n.w w'∧wpE P ops Q r a' w') a n.w

def orderB (md:Region.Mode) (ops:Array Oper):List (Nat×Bool)→Array Bool→Bool
 | [],listed=>Region.ready md ops listed == []
 |(i,false)::r,listed=>(Region.ready md ops listed).contains i && Region.free md ops listed i && orderB md ops r (listed.setIfInBounds i true)
 |(i,true)::r,listed=>Region.ready md ops listed == [i] && orderB md ops r (listed.setIfInBounds i true)

theorem below_drew1 (w:World):Below w.heap.size w w.drew:=⟨rfl,rfl,rfl,Nat.le_refl _,fun _ _=>rfl⟩

def opsOf (ops:Array Oper) (l:List (Nat×Bool)):List (Oper×Bool):=l.filterMap fun x=>(ops[x.1]?).map fun o=>(o,x.2)

def wpO (P:Program) (ops:Array Oper) (Q:Exit→Act→World→Prop):List (Oper×Bool)→Act→World→Prop
 | [],a,w=>∀ n:Ext w,Q .normal a n.w
 |(o,false)::r,a,w=>∃ v,YieldsE P ops w o v a∧wpO P ops Q r (a.put o.dst v) w
 |(o,true)::r,a,w=>∀ n:Ext w,if Region.wanted o (yielded ops a.tmps) then o.wp P a n.w (fun a' w'=>Below n.w.heap.size n.w w'∧wpO P ops Q r a' w') Q else wpO P ops Q r (a.put o.dst undef) w

end
end Go.Proofs.YtcjmppgkojogdaaDoor
namespace Go.Proofs.YtcjmppgkojogdaaDoor
set_option linter.unusedVariables false
open Go.RowKit

inductive Ord where
 | done
 | rd (i:Nat) (k:Ord)
 | one (i:Nat) (k:Ord)
 | two (i:Nat) (k:Ord) (j:Nat) (m:Ord)
 | three (i:Nat) (k:Ord) (j:Nat) (m:Ord) (q:Nat) (l:Ord)

def Ord.len:Ord→Nat
 | .done=>0
 | .rd _ k=>k.len+1
 | .one _ k=>k.len+1
 | .two _ k _ _=>k.len+1
 | .three _ k _ _ _ _=>k.len+1

def Ord.within (n:Nat):Ord→Bool
 | .done=>true
 | .rd i k=>decide (i<n) && k.within n
 | .one i k=>decide (i<n) && k.within n
 | .two i k j m=>decide (i<n) && k.within n && decide (j<n) && m.within n
 | .three i k j m q l=>decide (i<n) && k.within n && decide (j<n) && m.within n && decide (q<n) && l.within n

section
variable {P:Program} {ops:Array Oper} {Q:Exit→Act→World→Prop} {md:Region.Mode}

def wpT (P:Program) (ops:Array Oper) (Q:Exit→Act→World→Prop):Ord→Act→World→Prop
 | .done,a,w=>∀ n:Ext w,Q .normal a n.w
 | .rd i k,a,w=>∃ v o,ops[i]?=some o∧YieldsE P ops w o v a∧wpT P ops Q k (a.put o.dst v) w
 | .one i k,a,w=>∀ n:Ext w,wpOp P ops Q i (fun a' w'=>Below n.w.heap.size n.w w'∧wpT P ops Q k a' w') a n.w
 | .two i k j m,a,w =>
  (∀ n:Ext w,wpOp P ops Q i (fun a' w'=>Below n.w.heap.size n.w w'∧wpT P ops Q k a' w') a n.w) ∧
  (∀ n:Ext w,wpOp P ops Q j (fun a' w'=>Below n.w.heap.size n.w w'∧wpT P ops Q m a' w') a n.w)
 | .three i k j m q l,a,w =>
  (∀ n:Ext w,wpOp P ops Q i (fun a' w'=>Below n.w.heap.size n.w w'∧wpT P ops Q k a' w') a n.w) ∧
  (∀ n:Ext w,wpOp P ops Q j (fun a' w'=>Below n.w.heap.size n.w w'∧wpT P ops Q m a' w') a n.w) ∧
  (∀ n:Ext w,wpOp P ops Q q (fun a' w'=>Below n.w.heap.size n.w w'∧wpT P ops Q l a' w') a n.w)

theorem wpT_mono:∀ (r:Ord) (a:Act) (w W:World),Below w.heap.size w W→wpT P ops Q r a w→wpT P ops Q r a W
 | .done,_,_,_,hb,h=>fun n=>h (n.up hb)
 | .rd _ k,_,_,_,hb,⟨v,o,ho,hy,h⟩=>⟨v,o,ho,YieldsE.mono hb hy,wpT_mono k _ _ _ hb h⟩
 | .one _ _,_,_,_,hb,h=>fun n=>h (n.up hb)
 | .two _ _ _ _,_,_,_,hb,h=>⟨fun n=>h.1 (n.up hb),fun n=>h.2 (n.up hb)⟩
 | .three _ _ _ _ _ _,_,_,_,hb,h=>⟨fun n=>h.1 (n.up hb),fun n=>h.2.1 (n.up hb),fun n=>h.2.2 (n.up hb)⟩

def orderT (md:Region.Mode) (ops:Array Oper):Ord→Array Bool→Bool
 | .done,listed=>Region.ready md ops listed == []
 | .rd i k,listed=>(Region.ready md ops listed).contains i && Region.free md ops listed i && orderT md ops k (listed.setIfInBounds i true)
 | .one i k,listed=>Region.ready md ops listed == [i] && orderT md ops k (listed.setIfInBounds i true)
 | .two i k j m,listed=>Region.ready md ops listed == [i,j] && (k.len == m.len) && orderT md ops k (listed.setIfInBounds i true) && orderT md ops m (listed.setIfInBounds j true)
 | .three i k j m q l,listed=>Region.ready md ops listed == [i,j,q] && (k.len == m.len) && (k.len == l.len) && orderT md ops k (listed.setIfInBounds i true) && orderT md ops m (listed.setIfInBounds j true) && orderT md ops l (listed.setIfInBounds q true)

theorem wpAnyE_ofT (hs:Region.noSelect ops=true) (hQ:∀ c a w,¬ Q (.panic c) a w):∀ (l:Ord) (listed:Array Bool) (a:Act) (w:World),orderT md ops l listed=true→wpT P ops Q l a w→wpAnyE P md ops Q l.len listed a w
 | .done,listed,a,w,hB,h=>⟨by simpa [orderT] using hB,h⟩
 | .rd i r,listed,a,w,hB,h=>by
  simp only [orderT,Bool.and_eq_true] at hB
  obtain ⟨⟨hr,hf⟩,hB'⟩:=hB
  obtain ⟨v,o,ho,hy,hK⟩:=h
  exact wpAnyE_first ho (Region.noSelect_spec hs) (fun c a w h=>absurd h (hQ c _ w)) r.len listed a w (Region.free_spec ho hf) (by simpa using hr) hy (wpAnyE_ofT hs hQ r _ _ _ hB' hK)
 | .one i r,listed,a,w,hB,h=>by
  simp only [orderT,Bool.and_eq_true,beq_iff_eq] at hB
  refine ⟨fun h0=>(by rw [hB.1] at h0;cases h0),fun j hj n=>?_⟩
  rw [hB.1] at hj
  obtain rfl:=List.mem_singleton.1 hj
  exact wpOp_mono (fun a' w' h'=>⟨h'.1,wpAnyE_ofT hs hQ r _ _ _ hB.2 h'.2⟩) (h n)
 | .two i r j m,listed,a,w,hB,h=>by
  simp only [orderT,Bool.and_eq_true,beq_iff_eq] at hB
  obtain ⟨⟨⟨h1,h2⟩,h3⟩,h4⟩:=hB
  refine ⟨fun h0=>(by rw [h1] at h0;cases h0),fun q hq n=>?_⟩
  rw [h1] at hq
  simp only [List.mem_cons,List.not_mem_nil,or_false] at hq
  rcases hq with rfl|rfl
  ·exact wpOp_mono (fun a' w' h'=>⟨h'.1,wpAnyE_ofT hs hQ r _ _ _ h3 h'.2⟩) (h.1 n)
  ·refine wpOp_mono (fun a' w' h'=>⟨h'.1,?_⟩) (h.2 n)
   show wpAnyE P md ops Q r.len _ _ _
   rw [h2]
   exact wpAnyE_ofT hs hQ m _ _ _ h4 h'.2
 | .three i r j m q0 l,listed,a,w,hB,h=>by
  simp only [orderT,Bool.and_eq_true,beq_iff_eq] at hB
  obtain ⟨⟨⟨⟨⟨h1,h2⟩,h2'⟩,h3⟩,h4⟩,h5⟩:=hB
  refine ⟨fun h0=>(by rw [h1] at h0;cases h0),fun q hq n=>?_⟩
  rw [h1] at hq
  simp only [List.mem_cons,List.not_mem_nil,or_false] at hq
  rcases hq with rfl|rfl|rfl
  ·exact wpOp_mono (fun a' w' h'=>⟨h'.1,wpAnyE_ofT hs hQ r _ _ _ h3 h'.2⟩) (h.1 n)
  ·refine wpOp_mono (fun a' w' h'=>⟨h'.1,?_⟩) (h.2.1 n)
   show wpAnyE P md ops Q r.len _ _ _
   rw [h2]
   exact wpAnyE_ofT hs hQ m _ _ _ h4 h'.2
  ·refine wpOp_mono (fun a' w' h'=>⟨h'.1,?_⟩) (h.2.2 n)
   show wpAnyE P md ops Q r.len _ _ _
   rw [h2']
   exact wpAnyE_ofT hs hQ l _ _ _ h5 h'.2

inductive OrdO where
 | done
 | rd (o:Oper) (k:OrdO)
 | one (o:Oper) (k:OrdO)
 | two (o:Oper) (k:OrdO) (p:Oper) (m:OrdO)
 | three (o:Oper) (k:OrdO) (p:Oper) (m:OrdO) (q:Oper) (l:OrdO)

def opsOfT (ops:Array Oper):Ord→OrdO
 | .done=>.done
 | .rd i k=>match ops[i]? with|some o=>.rd o (opsOfT ops k)|none=>.done
 | .one i k=>match ops[i]? with|some o=>.one o (opsOfT ops k)|none=>.done
 | .two i k j m=>match ops[i]?,ops[j]? with|some o,some p=>.two o (opsOfT ops k) p (opsOfT ops m)|_,_=>.done
 | .three i k j m q l=>match ops[i]?,ops[j]?,ops[q]? with|some o,some p,some r=>.three o (opsOfT ops k) p (opsOfT ops m) r (opsOfT ops l)|_,_,_=>.done

def wpX (P:Program) (ops:Array Oper) (Q:Exit→Act→World→Prop):OrdO→Act→World→Prop
 | .done,a,w=>∀ n:Ext w,Q .normal a n.w
 | .rd o r,a,w=>∃ v,YieldsE P ops w o v a∧wpX P ops Q r (a.put o.dst v) w
 | .one o r,a,w=>∀ n:Ext w,if Region.wanted o (yielded ops a.tmps) then o.wp P a n.w (fun a' w'=>Below n.w.heap.size n.w w'∧wpX P ops Q r a' w') Q else wpX P ops Q r (a.put o.dst undef) w
 | .two o r p m,a,w =>
  (∀ n:Ext w,if Region.wanted o (yielded ops a.tmps) then o.wp P a n.w (fun a' w'=>Below n.w.heap.size n.w w'∧wpX P ops Q r a' w') Q else wpX P ops Q r (a.put o.dst undef) w) ∧
  (∀ n:Ext w,if Region.wanted p (yielded ops a.tmps) then p.wp P a n.w (fun a' w'=>Below n.w.heap.size n.w w'∧wpX P ops Q m a' w') Q else wpX P ops Q m (a.put p.dst undef) w)
 | .three o r p m q l,a,w =>
  (∀ n:Ext w,if Region.wanted o (yielded ops a.tmps) then o.wp P a n.w (fun a' w'=>Below n.w.heap.size n.w w'∧wpX P ops Q r a' w') Q else wpX P ops Q r (a.put o.dst undef) w) ∧
  (∀ n:Ext w,if Region.wanted p (yielded ops a.tmps) then p.wp P a n.w (fun a' w'=>Below n.w.heap.size n.w w'∧wpX P ops Q m a' w') Q else wpX P ops Q m (a.put p.dst undef) w) ∧
  (∀ n:Ext w,if Region.wanted q (yielded ops a.tmps) then q.wp P a n.w (fun a' w'=>Below n.w.heap.size n.w w'∧wpX P ops Q l a' w') Q else wpX P ops Q l (a.put q.dst undef) w)

theorem wpOp_of_X {i:Nat} {o:Oper} {a:Act} {w:World} {k:Ord} {r:OrdO} (ho:ops[i]?=some o) (hk:∀ a' w',wpX P ops Q r a' w'→wpT P ops Q k a' w')
  (h:∀ n:Ext w,if Region.wanted o (yielded ops a.tmps) then o.wp P a n.w (fun a' w'=>Below n.w.heap.size n.w w'∧wpX P ops Q r a' w') Q else wpX P ops Q r (a.put o.dst undef) w) :
  ∀ n:Ext w,wpOp P ops Q i (fun a' w'=>Below n.w.heap.size n.w w'∧wpT P ops Q k a' w') a n.w:=by
 intro n
 have h:=h n
 unfold wpOp
 simp only [ho]
 split
 ·rename_i hw
  rw [if_pos hw] at h
  exact .inl (Oper.wp_mono (fun a' w' h'=>⟨h'.1,hk _ _ h'.2⟩) h)
 ·rename_i hw
  rw [if_neg hw] at h
  exact ⟨Below.refl _ _,wpT_mono k _ _ _ n.below (hk _ _ h)⟩

theorem wpT_of_X:∀ (l:Ord) (a:Act) (w:World),l.within ops.size=true→wpX P ops Q (opsOfT ops l) a w→wpT P ops Q l a w
 | .done,_,_,_,h=>h
 | .rd i k,a,w,hl,h=>by
  simp only [Ord.within,Bool.and_eq_true,decide_eq_true_eq] at hl
  have ho:ops[i]?=some ops[i]:=Array.getElem?_eq_getElem hl.1
  simp only [opsOfT,ho] at h
  obtain ⟨v,hy,hk⟩:=h
  exact ⟨v,ops[i],ho,hy,wpT_of_X k _ _ hl.2 hk⟩
 | .one i k,a,w,hl,h=>by
  simp only [Ord.within,Bool.and_eq_true,decide_eq_true_eq] at hl
  have ho:ops[i]?=some ops[i]:=Array.getElem?_eq_getElem hl.1
  simp only [opsOfT,ho] at h
  exact wpOp_of_X ho (fun a' w'=>wpT_of_X k a' w' hl.2) h
 | .two i k j m,a,w,hl,h=>by
  simp only [Ord.within,Bool.and_eq_true,decide_eq_true_eq] at hl
  have ho:ops[i]?=some ops[i]:=Array.getElem?_eq_getElem hl.1.1.1
  have hp:ops[j]?=some ops[j]:=Array.getElem?_eq_getElem hl.1.2
  simp only [opsOfT,ho,hp] at h
  exact ⟨wpOp_of_X ho (fun a' w'=>wpT_of_X k a' w' hl.1.1.2) h.1,wpOp_of_X hp (fun a' w'=>wpT_of_X m a' w' hl.2) h.2⟩
 | .three i k j m q l,a,w,hl,h=>by
  simp only [Ord.within,Bool.and_eq_true,decide_eq_true_eq] at hl
  have ho:ops[i]?=some ops[i]:=Array.getElem?_eq_getElem hl.1.1.1.1.1
  have hp:ops[j]?=some ops[j]:=Array.getElem?_eq_getElem hl.1.1.1.2
  have hq:ops[q]?=some ops[q]:=Array.getElem?_eq_getElem hl.1.2
  simp only [opsOfT,ho,hp,hq] at h
  exact ⟨wpOp_of_X ho (fun a' w'=>wpT_of_X k a' w' hl.1.1.1.1.2) h.1,wpOp_of_X hp (fun a' w'=>wpT_of_X m a' w' hl.1.1.2) h.2.1,wpOp_of_X hq (fun a' w'=>wpT_of_X l a' w' hl.2) h.2.2⟩

theorem any_X {a:Act} {w:World} (l:Ord) (hs:Region.noSelect ops=true) (hl:l.len=ops.size)
  (hin:l.within ops.size=true)
  (hB:orderT .any ops l (Array.replicate ops.size false)=true) (h:wpX P ops (NoPanic Q) (opsOfT ops l) a w):wpAny P .any ops (NoPanic Q) ops.size (Array.replicate ops.size false) a w.drew:=by
 refine wpAny_of_E _ _ _ _ (wpAnyE_mono _ _ _ _ _ (below_drew1 w) ?_)
 have:=wpAnyE_ofT hs (fun c a w h=>h) l _ a w hB (wpT_of_X l a w hin h)
 rwa [hl] at this
end
end Go.Proofs.YtcjmppgkojogdaaDoor
namespace Go.Proofs.YtcjmppgkojogdaaDoor
set_option linter.unusedVariables false
open Go.RowKit
section
variable {P:Program} {ops:Array Oper} {Q:Exit→Act→World→Prop} {md:Region.Mode} {m:Nat} {R:Act→World→Prop}

def fullB (m:Nat) (listed:Array Bool):Bool:=(List.range m).all fun i=>listed.getD i false
theorem fullB_spec {listed:Array Bool}:fullB m listed=true↔∀ i,i<m→listed.getD i false=true:=by
 simp [fullB,List.all_eq_true]
def ClosedL (md:Region.Mode) (ops:Array Oper) (listed:Array Bool):Prop:=∀ (i:Nat) o,ops[i]?=some o→listed.getD i false=true→∀ e ∈ o.after,Region.binds md e=true→listed.getD e.on false=true
def coverB (md:Region.Mode) (ops:Array Oper) (m:Nat):Bool :=
 ((List.range m).all fun i=>(List.range (m+1)).any fun k=>Nat.blt i k && (ops[k]?).any fun o=>o.after.any fun e=>Region.binds md e && e.on == i) &&
 ((List.range ops.size).all fun j=>Nat.ble j m || (List.range j).any fun k=>Nat.ble m k && (ops[j]?).any fun o=>o.after.any fun e=>Region.binds md e && e.on == k)

theorem any_some {α:Type} {p:α→Bool} {x:Option α} (h:x.any p=true):∃ o,x=some o∧p o=true:=by
 cases x with
 | none=>cases h
 | some o=>exact ⟨o,rfl,h⟩
theorem not_both {listed:Array Bool} {i j:Nat} (hji:j≠i) (h0:listed.getD j true=false) (h1:(listed.setIfInBounds i true).getD j false=true):False:=by
 have e:(listed.setIfInBounds i true)[j]?=listed[j]?:=Array.getElem?_setIfInBounds_ne (Ne.symm hji)
 simp only [Array.getD_eq_getD_getElem?] at h0 h1
 rw [e] at h1
 cases h:listed[j]? with
 | none=>rw [h] at h0;cases h0
 | some b=>rw [h] at h0 h1;simp at h0 h1;rw [h0] at h1;cases h1
theorem cover_ready (hc:coverB md ops m=true) {listed:Array Bool} (hcl:ClosedL md ops listed):∀ (n j:Nat),j=m+n→(∀ o,ops[j]?=some o→∀ e ∈ o.after,Region.binds md e=true→listed.getD e.on false=true)→j<ops.size→fullB m listed=true:=by
 simp only [coverB,Bool.and_eq_true,List.all_eq_true,List.any_eq_true,List.mem_range,Bool.or_eq_true] at hc
 obtain ⟨h1,h2⟩:=hc
 intro n
 induction n using Nat.strongRecOn with
 | _ n ih =>
  intro j hj hr hlt
  by_cases hn:n=0
  ·subst hn
   have hj:j=m:=by omega
   subst hj
   rw [fullB_spec]
   have key:∀ d i,i+d=j→d≠0→listed.getD i false=true:=by
    intro d
    induction d using Nat.strongRecOn with
    | _ d ihd =>
     intro i hid hd
     obtain ⟨k,hk,hk2⟩:=h1 i (by omega)
     obtain ⟨hik,hk3⟩:=hk2
     have hik:i<k:=Nat.le_of_ble_eq_true hik
     obtain ⟨o,ho,ha⟩:=any_some hk3
     obtain ⟨e,he,hbe⟩:=Array.any_eq_true'.1 ha
     simp only [Bool.and_eq_true,beq_iff_eq] at hbe
     by_cases hkj:k=j
     ·subst hkj
      have:=hr o ho e he hbe.1
      rwa [hbe.2] at this
     ·have:=hcl k o ho (ihd (j-k) (by omega) k (by omega) (by omega)) e he hbe.1
      rwa [hbe.2] at this
   intro i hi
   exact key (j-i) i (by omega) (by omega)
  ·have h3:=h2 j hlt
   rcases h3 with h3|⟨k,hk,hk2,hk3⟩
   ·have:=Nat.le_of_ble_eq_true h3;omega
   ·have hk2:m≤k:=Nat.le_of_ble_eq_true hk2
    obtain ⟨o,ho,ha⟩:=any_some hk3
    obtain ⟨e,he,hbe⟩:=Array.any_eq_true'.1 ha
    simp only [Bool.and_eq_true,beq_iff_eq] at hbe
    have hl:=hr o ho e he hbe.1
    rw [hbe.2] at hl
    refine ih (k-m) (by omega) k (by omega) (fun o' ho' e' he' hb'=>hcl k o' ho' hl e' he' hb') ?_
    omega

theorem ready_lt (hc:coverB md ops m=true) {listed:Array Bool} (hcl:ClosedL md ops listed) (hf:fullB m listed=false) {j:Nat} (hj:j ∈ Region.ready md ops listed):j<m:=by
 rcases Nat.lt_or_ge j m with h|h
 ·exact h
 ·obtain ⟨hun,o,ho,hall⟩:=mem_ready.1 hj
  have:=cover_ready hc hcl (j-m) j (by omega) (fun o' ho' e he hb=>by
   rw [ho] at ho';cases ho'
   exact hall e he hb) (Array.getElem?_eq_some_iff.1 ho).1
  rw [this] at hf;cases hf

def wpB (P:Program) (md:Region.Mode) (ops:Array Oper) (Q:Exit→Act→World→Prop) (m:Nat) (R:Act→World→Prop):Nat→Array Bool→Act→World→Prop
 | 0,listed,a,w=>fullB m listed=true∧∀ n:Ext w,R a n.w
 | f+1,listed,a,w=>(fullB m listed=true→∀ n:Ext w,R a n.w) ∧
  (fullB m listed=false→Region.ready md ops listed≠[]∧∀ i ∈ Region.ready md ops listed,∀ n:Ext w,wpOp P ops Q i (fun a' w'=>Below n.w.heap.size n.w w'∧wpB P md ops Q m R f (listed.setIfInBounds i true) a' w') a n.w)

theorem wpB_mono:∀ (f:Nat) (listed:Array Bool) (a:Act) (w W:World),Below w.heap.size w W→wpB P md ops Q m R f listed a w→wpB P md ops Q m R f listed a W
 | 0,_,_,_,_,hb,h=>⟨h.1,fun n=>h.2 (n.up hb)⟩
 | _+1,_,_,_,_,hb,h=>⟨fun h0 n=>h.1 h0 (n.up hb),fun h0=>⟨(h.2 h0).1,fun i hi n=>(h.2 h0).2 i hi (n.up hb)⟩⟩

theorem getD_set_true {listed:Array Bool} {i j:Nat} (h:listed.getD j false=true):(listed.setIfInBounds i true).getD j false=true:=by
 by_cases hij:i=j
 ·subst hij
  have:i<listed.size:=by
   rcases Nat.lt_or_ge i listed.size with h'|h'
   ·exact h'
   ·simp [Array.getElem?_eq_none h'] at h
  simp [this]
 ·simpa [Array.getElem?_setIfInBounds_ne hij] using h

theorem closed_set {listed:Array Bool} (hcl:ClosedL md ops listed) {i:Nat} (hi:i ∈ Region.ready md ops listed):ClosedL md ops (listed.setIfInBounds i true):=by
 obtain ⟨hun,oi,hoi,hall⟩:=mem_ready.1 hi
 intro k o ho hk e he hb
 by_cases hik:k=i
 ·subst hik
  rw [hoi] at ho;cases ho
  exact getD_set_true (hall e he hb)
 ·have hk':listed.getD k false=true:=by simpa [Array.getElem?_setIfInBounds_ne (Ne.symm hik)] using hk
  exact getD_set_true (hcl k o ho hk' e he hb)

theorem wpB_first {i:Nat} {oi:Oper} {v:Value} (hc:coverB md ops m=true) (hi:ops[i]?=some oi) (him:i<m) (hsel:∀ (j:Nat) (o:Oper) cs b,ops[j]?=some o→o.op≠.select cs b)
  (hQ:∀ c a w,Q (.panic c) (a.put oi.dst v) w→Q (.panic c) a w) :
  ∀ (fuel:Nat) (listed:Array Bool) (a:Act) (w:World),ClosedL md ops listed →
   (∀ j oj,ops[j]?=some oj→j<m→j≠i→listed.getD j true=false→(∀ e ∈ oj.after,Region.binds md e=true→e.on≠i)→oi.apart ops oj=true) →
   i ∈ Region.ready md ops listed→YieldsE P ops w oi v a →
   wpB P md ops Q m R fuel (listed.setIfInBounds i true) (a.put oi.dst v) w→wpB P md ops Q m R (fuel+1) listed a w:=by
 have nf:∀ {listed:Array Bool},i ∈ Region.ready md ops listed→fullB m listed=false:=fun {listed} hr=>by
  cases h:fullB m listed with
  | false=>rfl
  | true =>
   have:=fullB_spec.1 h i him
   have h0:=(mem_ready.1 hr).1
   rcases Nat.lt_or_ge i listed.size with h'|h'
   ·simp [h'] at h0 this;rw [h0] at this;cases this
   ·simp [Array.getElem?_eq_none h'] at this
 intro fuel
 induction fuel with
 | zero =>
  intro listed a w hcl _ hr hy H
  have hnf:=nf hr
  refine ⟨fun h=>(by rw [hnf] at h;cases h),fun _=>⟨(by intro h;rw [h] at hr;cases hr),fun j hj n=>?_⟩⟩
  by_cases hji:j=i
  ·subst hji
   exact YieldsIf.wpOp hi hy n.below ⟨Below.refl _ _,wpB_mono 0 _ _ _ _ n.below H⟩
  ·have hjm:=ready_lt hc hcl hnf hj
   have h1:=fullB_spec.1 H.1 j hjm
   exact (not_both hji (mem_ready.1 hj).1 h1).elim
 | succ fuel ih =>
  intro listed a w hcl hfree hr hy H
  have hnf:=nf hr
  refine ⟨fun h=>(by rw [hnf] at h;cases h),fun _=>⟨(by intro h;rw [h] at hr;cases hr),fun j hj n=>?_⟩⟩
  by_cases hji:j=i
  ·subst hji
   exact YieldsIf.wpOp hi hy n.below ⟨Below.refl _ _,wpB_mono (fuel+1) _ _ _ _ n.below H⟩
  ·have hjm:=ready_lt hc hcl hnf hj
   obtain ⟨hjun,oj,hoj,hall⟩:=mem_ready.1 hj
   have hnf2:fullB m (listed.setIfInBounds i true)=false:=by
    cases h:fullB m (listed.setIfInBounds i true) with
    | false=>rfl
    | true =>
     have h1:=fullB_spec.1 h j hjm
     exact (not_both hji hjun h1).elim
   have h1:=(H.2 hnf2).2 j (ready_mono hj hji) n
   have hnot:∀ e ∈ oj.after,Region.binds md e=true→e.on≠i:=fun e he hb heq=>by
    have h1:=hall e he hb
    have h0:=(mem_ready.1 hr).1
    rw [heq] at h1
    rcases Nat.lt_or_ge i listed.size with h'|h'
    ·simp [h'] at h0 h1;rw [h0] at h1;cases h1
    ·simp [Array.getElem?_eq_none h'] at h1
   have h2:=wpOp_putIf hoj (hfree j oj hoj hjm hji hjun hnot) (fun cs b=>hsel i oi cs b hi) (fun cs b=>hsel j oj cs b hoj) hQ (YieldsE.mono n.below hy) h1
   have hfree':∀ k ok,ops[k]?=some ok→k<m→k≠i→(listed.setIfInBounds j true).getD k true=false →
     (∀ e ∈ ok.after,Region.binds md e=true→e.on≠i)→oi.apart ops ok=true:=fun k ok hk hkm hki hun hno=>by
    refine hfree k ok hk hkm hki ?_ hno
    by_cases hjk:j=k
    ·subst hjk;exact hjun
    ·rw [getD_set_ne true hjk] at hun;exact hun
   refine wpOp_mono (fun a' w' h3=>⟨h3.2.1,ih (listed.setIfInBounds j true) a' w' (closed_set hcl hj) hfree' (ready_mono hr (Ne.symm hji)) (YieldsE.mono h3.2.1 h3.1) ?_⟩) h2
   rw [Array.setIfInBounds_comm _ _ hji]
   exact h3.2.2

def wpTB (P:Program) (ops:Array Oper) (Q:Exit→Act→World→Prop) (R:Act→World→Prop):Ord→Act→World→Prop
 | .done,a,w=>∀ n:Ext w,R a n.w
 | .rd i k,a,w=>∃ v o,ops[i]?=some o∧YieldsE P ops w o v a∧wpTB P ops Q R k (a.put o.dst v) w
 | .one i k,a,w=>∀ n:Ext w,wpOp P ops Q i (fun a' w'=>Below n.w.heap.size n.w w'∧wpTB P ops Q R k a' w') a n.w
 | .two i k j l,a,w =>
  (∀ n:Ext w,wpOp P ops Q i (fun a' w'=>Below n.w.heap.size n.w w'∧wpTB P ops Q R k a' w') a n.w) ∧
  (∀ n:Ext w,wpOp P ops Q j (fun a' w'=>Below n.w.heap.size n.w w'∧wpTB P ops Q R l a' w') a n.w)
 | .three i k j l q u,a,w =>
  (∀ n:Ext w,wpOp P ops Q i (fun a' w'=>Below n.w.heap.size n.w w'∧wpTB P ops Q R k a' w') a n.w) ∧
  (∀ n:Ext w,wpOp P ops Q j (fun a' w'=>Below n.w.heap.size n.w w'∧wpTB P ops Q R l a' w') a n.w) ∧
  (∀ n:Ext w,wpOp P ops Q q (fun a' w'=>Below n.w.heap.size n.w w'∧wpTB P ops Q R u a' w') a n.w)

def freeB (md:Region.Mode) (ops:Array Oper) (m:Nat) (listed:Array Bool) (i:Nat):Bool:=match ops[i]? with
 | none=>false
 | some oi=>(List.range m).all fun j=>Nat.beq j i || listed.getD j true || match ops[j]? with|none=>true|some oj=>(oj.after.any fun e=>Region.binds md e && e.on == i) || oi.apart ops oj
theorem freeB_spec {listed:Array Bool} {i:Nat} {oi:Oper} (hi:ops[i]?=some oi) (h:freeB md ops m listed i=true) :
  ∀ j oj,ops[j]?=some oj→j<m→j≠i→listed.getD j true=false→(∀ e ∈ oj.after,Region.binds md e=true→e.on≠i)→oi.apart ops oj=true:=by
 intro j oj hj hjm hji hun hno
 simp only [freeB,hi,List.all_eq_true,List.mem_range] at h
 have:=h j hjm
 simp only [hun,hj,Bool.or_false,Bool.or_eq_true] at this
 rcases this with h1|h1|h1
 ·exact absurd (Nat.eq_of_beq_eq_true h1) hji
 ·obtain ⟨e,he,hb⟩:=Array.any_eq_true'.1 h1
  simp only [Bool.and_eq_true,beq_iff_eq] at hb
  exact absurd hb.2 (hno e he hb.1)
 ·exact h1

def orderB2 (md:Region.Mode) (ops:Array Oper) (m:Nat):Ord→Array Bool→Bool
 | .done,listed=>fullB m listed
 | .rd i k,listed=>(Region.ready md ops listed).contains i && Nat.blt i m && freeB md ops m listed i && orderB2 md ops m k (listed.setIfInBounds i true)
 | .one i k,listed=>!fullB m listed && Region.ready md ops listed == [i] && orderB2 md ops m k (listed.setIfInBounds i true)
 | .two i k j l,listed=>!fullB m listed && Region.ready md ops listed == [i,j] && (k.len == l.len) && orderB2 md ops m k (listed.setIfInBounds i true) && orderB2 md ops m l (listed.setIfInBounds j true)
 | .three i k j l q u,listed=>!fullB m listed && Region.ready md ops listed == [i,j,q] && (k.len == l.len) && (k.len == u.len) && orderB2 md ops m k (listed.setIfInBounds i true) && orderB2 md ops m l (listed.setIfInBounds j true) && orderB2 md ops m u (listed.setIfInBounds q true)

theorem wpB_of (hc:coverB md ops m=true) (hs:Region.noSelect ops=true) (hQ:∀ c a w,¬ Q (.panic c) a w):∀ (l:Ord) (listed:Array Bool) (a:Act) (w:World),ClosedL md ops listed→orderB2 md ops m l listed=true→wpTB P ops Q R l a w→wpB P md ops Q m R l.len listed a w
 | .done,listed,a,w,_,hB,h=>⟨hB,h⟩
 | .rd i r,listed,a,w,hcl,hB,h=>by
  simp only [orderB2,Bool.and_eq_true] at hB
  obtain ⟨⟨⟨hr,him⟩,hf⟩,hB'⟩:=hB
  obtain ⟨v,o,ho,hy,hK⟩:=h
  have hr':i ∈ Region.ready md ops listed:=by simpa using hr
  exact wpB_first hc ho (Nat.le_of_ble_eq_true him) (Region.noSelect_spec hs) (fun c a w h=>absurd h (hQ c _ w)) r.len listed a w hcl (freeB_spec ho hf) hr' hy (wpB_of hc hs hQ r _ _ _ (closed_set hcl hr') hB' hK)
 | .one i r,listed,a,w,hcl,hB,h=>by
  simp only [orderB2,Bool.and_eq_true,beq_iff_eq,Bool.not_eq_true'] at hB
  obtain ⟨⟨hnf,hr⟩,hB'⟩:=hB
  have hi:i ∈ Region.ready md ops listed:=by rw [hr];exact List.mem_singleton.2 rfl
  refine ⟨fun h0=>(by rw [hnf] at h0;cases h0),fun _=>⟨(by rw [hr];simp),fun j hj n=>?_⟩⟩
  rw [hr] at hj
  obtain rfl:=List.mem_singleton.1 hj
  exact wpOp_mono (fun a' w' h'=>⟨h'.1,wpB_of hc hs hQ r _ _ _ (closed_set hcl hi) hB' h'.2⟩) (h n)
 | .two i r j l,listed,a,w,hcl,hB,h=>by
  simp only [orderB2,Bool.and_eq_true,beq_iff_eq,Bool.not_eq_true'] at hB
  obtain ⟨⟨⟨⟨hnf,h1⟩,h2⟩,h3⟩,h4⟩:=hB
  have hi:i ∈ Region.ready md ops listed:=by rw [h1];simp
  have hj:j ∈ Region.ready md ops listed:=by rw [h1];simp
  refine ⟨fun h0=>(by rw [hnf] at h0;cases h0),fun _=>⟨(by rw [h1];simp),fun q hq n=>?_⟩⟩
  rw [h1] at hq
  simp only [List.mem_cons,List.not_mem_nil,or_false] at hq
  rcases hq with rfl|rfl
  ·exact wpOp_mono (fun a' w' h'=>⟨h'.1,wpB_of hc hs hQ r _ _ _ (closed_set hcl hi) h3 h'.2⟩) (h.1 n)
  ·refine wpOp_mono (fun a' w' h'=>⟨h'.1,?_⟩) (h.2 n)
   show wpB P md ops Q m R r.len _ _ _
   rw [h2]
   exact wpB_of hc hs hQ l _ _ _ (closed_set hcl hj) h4 h'.2
 | .three i r j l q0 u,listed,a,w,hcl,hB,h=>by
  simp only [orderB2,Bool.and_eq_true,beq_iff_eq,Bool.not_eq_true'] at hB
  obtain ⟨⟨⟨⟨⟨⟨hnf,h1⟩,h2⟩,h2'⟩,h3⟩,h4⟩,h5⟩:=hB
  have hi:i ∈ Region.ready md ops listed:=by rw [h1];simp
  have hj:j ∈ Region.ready md ops listed:=by rw [h1];simp
  have hq0:q0 ∈ Region.ready md ops listed:=by rw [h1];simp
  refine ⟨fun h0=>(by rw [hnf] at h0;cases h0),fun _=>⟨(by rw [h1];simp),fun q hq n=>?_⟩⟩
  rw [h1] at hq
  simp only [List.mem_cons,List.not_mem_nil,or_false] at hq
  rcases hq with rfl|rfl|rfl
  ·exact wpOp_mono (fun a' w' h'=>⟨h'.1,wpB_of hc hs hQ r _ _ _ (closed_set hcl hi) h3 h'.2⟩) (h.1 n)
  ·refine wpOp_mono (fun a' w' h'=>⟨h'.1,?_⟩) (h.2.1 n)
   show wpB P md ops Q m R r.len _ _ _
   rw [h2]
   exact wpB_of hc hs hQ l _ _ _ (closed_set hcl hj) h4 h'.2
  ·refine wpOp_mono (fun a' w' h'=>⟨h'.1,?_⟩) (h.2.2 n)
   show wpB P md ops Q m R r.len _ _ _
   rw [h2']
   exact wpB_of hc hs hQ u _ _ _ (closed_set hcl hq0) h5 h'.2

theorem wpAny_fuel:∀ (f k:Nat) (listed:Array Bool) (a:Act) (w:World),wpAny P md ops Q f listed a w→wpAny P md ops Q (f+k) listed a w
 | 0,0,_,_,_,h=>h
 | 0,k+1,listed,a,w,h=>by
  rw [Nat.zero_add]
  exact ⟨fun _=>h.2,fun i hi=>(by rw [h.1] at hi;cases hi)⟩
 | f+1,k,listed,a,w,h=>by
  rw [Nat.add_right_comm]
  exact ⟨h.1,fun i hi=>wpOp_mono (fun a' w' h'=>wpAny_fuel f k _ a' w' h') (h.2 i hi)⟩

def barL (m n:Nat):Array Bool:=(List.replicate m true++List.replicate (n-m) false).toArray
theorem listed_bar {listed:Array Bool} (hm:m≤ops.size) (hsz:listed.size=ops.size) (hf:fullB m listed=true) (ht:∀ j,m≤j→listed.getD j false=false):listed=barL m ops.size:=by
 apply Array.ext_getElem?
 intro j
 rcases Nat.lt_or_ge j listed.size with h|h
 ·have e:listed[j]?=some (listed.getD j false):=by simp [h]
  rw [e]
  rcases Nat.lt_or_ge j m with h1|h1
  ·rw [fullB_spec.1 hf j h1]
   simp [barL,List.getElem?_append,h1]
  ·rw [ht j h1]
   simp [barL,List.getElem?_append,show ¬ j<m by omega,show j-m<ops.size-m by omega]
 ·rw [Array.getElem?_eq_none h]
  simp [barL]
  omega

def tailB (md:Region.Mode) (ops:Array Oper):Nat→Nat→Array Bool→Bool
 | 0,_,listed=>Region.ready md ops listed == []
 | f+1,i,listed=>Region.ready md ops listed == [i] && tailB md ops f (i+1) (listed.setIfInBounds i true)
def wpXB (P:Program) (ops:Array Oper) (Q:Exit→Act→World→Prop) (R:Act→World→Prop):OrdO→Act→World→Prop
 | .done,a,w=>∀ n:Ext w,R a n.w
 | .rd o r,a,w=>∃ v,YieldsE P ops w o v a∧wpXB P ops Q R r (a.put o.dst v) w
 | .one o r,a,w=>∀ n:Ext w,if Region.wanted o (yielded ops a.tmps) then o.wp P a n.w (fun a' w'=>Below n.w.heap.size n.w w'∧wpXB P ops Q R r a' w') Q else wpXB P ops Q R r (a.put o.dst undef) w
 | .two o r p l,a,w =>
  (∀ n:Ext w,if Region.wanted o (yielded ops a.tmps) then o.wp P a n.w (fun a' w'=>Below n.w.heap.size n.w w'∧wpXB P ops Q R r a' w') Q else wpXB P ops Q R r (a.put o.dst undef) w) ∧
  (∀ n:Ext w,if Region.wanted p (yielded ops a.tmps) then p.wp P a n.w (fun a' w'=>Below n.w.heap.size n.w w'∧wpXB P ops Q R l a' w') Q else wpXB P ops Q R l (a.put p.dst undef) w)
 | .three o r p l q u,a,w =>
  (∀ n:Ext w,if Region.wanted o (yielded ops a.tmps) then o.wp P a n.w (fun a' w'=>Below n.w.heap.size n.w w'∧wpXB P ops Q R r a' w') Q else wpXB P ops Q R r (a.put o.dst undef) w) ∧
  (∀ n:Ext w,if Region.wanted p (yielded ops a.tmps) then p.wp P a n.w (fun a' w'=>Below n.w.heap.size n.w w'∧wpXB P ops Q R l a' w') Q else wpXB P ops Q R l (a.put p.dst undef) w) ∧
  (∀ n:Ext w,if Region.wanted q (yielded ops a.tmps) then q.wp P a n.w (fun a' w'=>Below n.w.heap.size n.w w'∧wpXB P ops Q R u a' w') Q else wpXB P ops Q R u (a.put q.dst undef) w)
theorem wpTB_mono:∀ (r:Ord) (a:Act) (w W:World),Below w.heap.size w W→wpTB P ops Q R r a w→wpTB P ops Q R r a W
 | .done,_,_,_,hb,h=>fun n=>h (n.up hb)
 | .rd _ k,_,_,_,hb,⟨v,o,ho,hy,h⟩=>⟨v,o,ho,YieldsE.mono hb hy,wpTB_mono k _ _ _ hb h⟩
 | .one _ _,_,_,_,hb,h=>fun n=>h (n.up hb)
 | .two _ _ _ _,_,_,_,hb,h=>⟨fun n=>h.1 (n.up hb),fun n=>h.2 (n.up hb)⟩
 | .three _ _ _ _ _ _,_,_,_,hb,h=>⟨fun n=>h.1 (n.up hb),fun n=>h.2.1 (n.up hb),fun n=>h.2.2 (n.up hb)⟩
theorem wpOp_of_XB {i:Nat} {o:Oper} {a:Act} {w:World} {k:Ord} {r:OrdO} (ho:ops[i]?=some o) (hk:∀ a' w',wpXB P ops Q R r a' w'→wpTB P ops Q R k a' w')
  (h:∀ n:Ext w,if Region.wanted o (yielded ops a.tmps) then o.wp P a n.w (fun a' w'=>Below n.w.heap.size n.w w'∧wpXB P ops Q R r a' w') Q else wpXB P ops Q R r (a.put o.dst undef) w) :
  ∀ n:Ext w,wpOp P ops Q i (fun a' w'=>Below n.w.heap.size n.w w'∧wpTB P ops Q R k a' w') a n.w:=by
 intro n
 have h:=h n
 unfold wpOp
 simp only [ho]
 split
 ·rename_i hw
  rw [if_pos hw] at h
  exact .inl (Oper.wp_mono (fun a' w' h'=>⟨h'.1,hk _ _ h'.2⟩) h)
 ·rename_i hw
  rw [if_neg hw] at h
  exact ⟨Below.refl _ _,wpTB_mono k _ _ _ n.below (hk _ _ h)⟩
theorem wpTB_of_X:∀ (l:Ord) (a:Act) (w:World),l.within ops.size=true→wpXB P ops Q R (opsOfT ops l) a w→wpTB P ops Q R l a w
 | .done,_,_,_,h=>h
 | .rd i k,a,w,hl,h=>by
  simp only [Ord.within,Bool.and_eq_true,decide_eq_true_eq] at hl
  have ho:ops[i]?=some ops[i]:=Array.getElem?_eq_getElem hl.1
  simp only [opsOfT,ho] at h
  obtain ⟨v,hy,hk⟩:=h
  exact ⟨v,ops[i],ho,hy,wpTB_of_X k _ _ hl.2 hk⟩
 | .one i k,a,w,hl,h=>by
  simp only [Ord.within,Bool.and_eq_true,decide_eq_true_eq] at hl
  have ho:ops[i]?=some ops[i]:=Array.getElem?_eq_getElem hl.1
  simp only [opsOfT,ho] at h
  exact wpOp_of_XB ho (fun a' w'=>wpTB_of_X k a' w' hl.2) h
 | .two i k j l,a,w,hl,h=>by
  simp only [Ord.within,Bool.and_eq_true,decide_eq_true_eq] at hl
  have ho:ops[i]?=some ops[i]:=Array.getElem?_eq_getElem hl.1.1.1
  have hp:ops[j]?=some ops[j]:=Array.getElem?_eq_getElem hl.1.2
  simp only [opsOfT,ho,hp] at h
  exact ⟨wpOp_of_XB ho (fun a' w'=>wpTB_of_X k a' w' hl.1.1.2) h.1,wpOp_of_XB hp (fun a' w'=>wpTB_of_X l a' w' hl.2) h.2⟩
 | .three i k j l q u,a,w,hl,h=>by
  simp only [Ord.within,Bool.and_eq_true,decide_eq_true_eq] at hl
  have ho:ops[i]?=some ops[i]:=Array.getElem?_eq_getElem hl.1.1.1.1.1
  have hp:ops[j]?=some ops[j]:=Array.getElem?_eq_getElem hl.1.1.1.2
  have hq:ops[q]?=some ops[q]:=Array.getElem?_eq_getElem hl.1.2
  simp only [opsOfT,ho,hp,hq] at h
  exact ⟨wpOp_of_XB ho (fun a' w'=>wpTB_of_X k a' w' hl.1.1.1.1.2) h.1,wpOp_of_XB hp (fun a' w'=>wpTB_of_X l a' w' hl.1.1.2) h.2.1,wpOp_of_XB hq (fun a' w'=>wpTB_of_X u a' w' hl.2) h.2.2⟩

theorem rep_false (n i:Nat):(Array.replicate n false).getD i false=false:=by
 rcases Nat.lt_or_ge i n with h|h
 ·simp [h]
 ·simp [Nat.not_lt.2 h]
theorem closed_none (n:Nat):ClosedL md ops (Array.replicate n false):=fun i o _ hi=>by rw [rep_false] at hi;cases hi
theorem wpX_of_XB:∀ (t:OrdO) (a:Act) (w:World),wpXB P ops Q (Q .normal) t a w→wpX P ops Q t a w
 | .done,_,_,h=>h
 | .rd _ r,_,_,⟨v,hy,h⟩=>⟨v,hy,wpX_of_XB r _ _ h⟩
 | .one o r,a,w,h=>fun n=>by
  have h:=h n
  split
  ·rename_i hw;rw [if_pos hw] at h;exact Oper.wp_mono (fun a' w' h'=>⟨h'.1,wpX_of_XB r _ _ h'.2⟩) h
  ·rename_i hw;rw [if_neg hw] at h;exact wpX_of_XB r _ _ h
 | .two o r p l,a,w,h=>⟨fun n=>by
  have h:=h.1 n
  split
  ·rename_i hw;rw [if_pos hw] at h;exact Oper.wp_mono (fun a' w' h'=>⟨h'.1,wpX_of_XB r _ _ h'.2⟩) h
  ·rename_i hw;rw [if_neg hw] at h;exact wpX_of_XB r _ _ h,fun n=>by
  have h:=h.2 n
  split
  ·rename_i hw;rw [if_pos hw] at h;exact Oper.wp_mono (fun a' w' h'=>⟨h'.1,wpX_of_XB l _ _ h'.2⟩) h
  ·rename_i hw;rw [if_neg hw] at h;exact wpX_of_XB l _ _ h⟩
 | .three o r p l q u,a,w,h=>⟨fun n=>by
  have h:=h.1 n
  split
  ·rename_i hw;rw [if_pos hw] at h;exact Oper.wp_mono (fun a' w' h'=>⟨h'.1,wpX_of_XB r _ _ h'.2⟩) h
  ·rename_i hw;rw [if_neg hw] at h;exact wpX_of_XB r _ _ h,fun n=>by
  have h:=h.2.1 n
  split
  ·rename_i hw;rw [if_pos hw] at h;exact Oper.wp_mono (fun a' w' h'=>⟨h'.1,wpX_of_XB l _ _ h'.2⟩) h
  ·rename_i hw;rw [if_neg hw] at h;exact wpX_of_XB l _ _ h,fun n=>by
  have h:=h.2.2 n
  split
  ·rename_i hw;rw [if_pos hw] at h;exact Oper.wp_mono (fun a' w' h'=>⟨h'.1,wpX_of_XB u _ _ h'.2⟩) h
  ·rename_i hw;rw [if_neg hw] at h;exact wpX_of_XB u _ _ h⟩

end
end Go.Proofs.YtcjmppgkojogdaaDoor
namespace Go.Proofs.YtcjmppgkojogdaaDoor
set_option linter.unusedVariables false
open Go.RowKit
def KeepS (S:Nat→Prop) (w W:World):Prop:=∀ b,S b→W.heap[b]?=w.heap[b]?
theorem KeepS.refl (S:Nat→Prop) (w:World):KeepS S w w:=fun _ _=>rfl
theorem KeepS.trans {S:Nat→Prop} {a b c:World} (h:KeepS S a b) (k:KeepS S b c):KeepS S a c:=fun x hx=>(k x hx).trans (h x hx)
section
variable {P:Program} {ops:Array Oper} {Q:Exit→Act→World→Prop} {md:Region.Mode} {S:Nat→Prop}

def YieldsS (P:Program) (ops:Array Oper) (S:Nat→Prop) (w:World) (o:Oper) (v:Value) (a:Act):Prop:=YieldsIf P ops (fun W=>KeepS S w W) o v a
theorem YieldsS.mono {w W:World} {o:Oper} {v:Value} {a:Act} (hb:KeepS S w W) (h:YieldsS P ops S w o v a):YieldsS P ops S W o v a :=
 h.imp (fun ⟨h1,h2⟩=>⟨h1,fun X hX=>h2 X (hb.trans hX)⟩) id

theorem YieldsS.grow {S':Nat→Prop} {w:World} {o:Oper} {v:Value} {a:Act} (hs:∀ b,S b→S' b) (h:YieldsS P ops S w o v a):YieldsS P ops S' w o v a :=
 h.imp (fun ⟨h1,h2⟩=>⟨h1,fun X hX=>h2 X fun b hb=>hX b (hs b hb)⟩) id
def quietF:List Nat:=[1000000000,1000000000,1000000000]
def isMod (o:Oper):Bool:=match o.op with
 | .move _|.assign _|.pick ..|.load ..|.binOp ..|.unOp ..|.convert ..|.slice ..|.fieldAddr ..|.field ..|.indexAddr ..|.index ..|.extract ..|.nilCheck ..|.alloc ..|.box ..|.buildSlice ..|.call ⟨.builtin .len,_,_⟩|.call ⟨.builtin .cap,_,_⟩=>false
 | .call ⟨.value (.func f),_,_⟩=>!quietF.any (Nat.beq f)
 | _=>true
def depB (ops:Array Oper) (i:Nat):Nat→Nat→Bool
 | 0,_=>false
 | n+1,j=>(ops[j]?).any fun p=>(p.after.any fun e=>Region.binds .any e && Nat.beq e.on i) || p.after.any fun e=>Region.binds .any e && depB ops i n e.on
theorem dep_listed {ops:Array Oper} {listed:Array Bool} (hcl:ClosedL .any ops listed) {i:Nat}:∀ (n j:Nat),depB ops i n j=true→(∀ o,ops[j]?=some o→∀ e ∈ o.after,Region.binds .any e=true→listed.getD e.on false=true)→listed.getD i false=true
 | 0,_,h,_=>by cases h
 | n+1,j,h,hj=>by
  unfold depB at h
  obtain ⟨p,hp⟩:∃ p,ops[j]?=some p:=by
   cases hp:ops[j]? with
   | none=>rw [hp] at h;cases h
   | some p=>exact ⟨p,rfl⟩
  rw [hp,Option.any_some] at h
  rcases Bool.or_eq_true_iff.1 h with h|h
  ·obtain ⟨q,hq,h5⟩:=Array.any_eq_true.1 h
   simp only [Bool.and_eq_true] at h5
   have:=hj p hp _ (Array.getElem_mem hq) h5.1
   rwa [Nat.eq_of_beq_eq_true h5.2] at this
  ·obtain ⟨q,hq,h5⟩:=Array.any_eq_true.1 h
   simp only [Bool.and_eq_true] at h5
   have hl:=hj p hp _ (Array.getElem_mem hq) h5.1
   exact dep_listed hcl n _ h5.2 fun o ho e he hb=>hcl _ o ho hl e he hb
def behindB (ops:Array Oper) (i:Nat):Bool:=(List.range ops.size).all fun j=>!((ops[j]?).any isMod) || depB ops i 8 j
def ownB (ops:Array Oper) (o:Oper):Bool:=(List.range ops.size).all fun i=>!((ops[i]?).any fun q=>q.dst == o.dst) || behindB ops i
def YieldsB (P:Program) (ops:Array Oper) (w:World) (o:Oper) (v:Value) (a:Act):Prop:=YieldsIf P ops (fun W=>Below w.heap.size w W) o v a
theorem YieldsB.mono {w W:World} {o:Oper} {v:Value} {a:Act} (hb:Below w.heap.size w W) (h:YieldsB P ops w o v a):YieldsB P ops W o v a :=
 h.imp (fun ⟨h1,h2⟩=>⟨h1,fun X hX=>h2 X (below_then hb hX)⟩) id
def Kept (S:Nat→Prop) (o:Option Oper) (w W:World):Prop:=KeepS S w W∧(o.any isMod=false→Below w.heap.size w W)
theorem Kept.refl (S:Nat→Prop) (o:Option Oper) (w:World):Kept S o w w:=⟨KeepS.refl S w,fun _=>Below.refl _ _⟩

def wpAnyS (P:Program) (md:Region.Mode) (ops:Array Oper) (Q:Exit→Act→World→Prop):(Nat→Prop)→Nat→Array Bool→Act→World→Prop
 | _,0,listed,a,w=>Region.ready md ops listed=[]∧Q .normal a w
 | S,fuel+1,listed,a,w =>
  (Region.ready md ops listed=[]→Q .normal a w) ∧
  ∀ i ∈ Region.ready md ops listed,wpOp P ops Q i (fun a' w'=>Kept S ops[i]? w w'∧∃ S',(∀ b,S b→S' b)∧wpAnyS P md ops Q S' fuel (listed.setIfInBounds i true) a' w') a w

theorem wpAny_of_S:∀ (fuel:Nat) (S:Nat→Prop) (listed:Array Bool) (a:Act) (w:World),wpAnyS P md ops Q S fuel listed a w→wpAny P md ops Q fuel listed a w
 | 0,_,_,_,_,h=>h
 | fuel+1,_,_,_,_,h=>⟨h.1,fun i hi=>wpOp_mono (fun a' w' ⟨_,_,_,h'⟩=>wpAny_of_S fuel _ _ a' w' h') (h.2 i hi)⟩

theorem wpAnyS_first {i:Nat} {oi:Oper} {v:Value} (hi:ops[i]?=some oi) (hsel:∀ (j:Nat) (o:Oper) cs b,ops[j]?=some o→o.op≠.select cs b)
  (hQ:∀ c a w,Q (.panic c) (a.put oi.dst v) w→Q (.panic c) a w) :
  ∀ (fuel:Nat) (S:Nat→Prop) (listed:Array Bool) (a:Act) (w:World),
   (∀ j oj,ops[j]?=some oj→j≠i→listed.getD j true=false→(∀ e ∈ oj.after,Region.binds md e=true→e.on≠i)→oi.apart ops oj=true) →
   i ∈ Region.ready md ops listed→YieldsS P ops S w oi v a →
   wpAnyS P md ops Q S fuel (listed.setIfInBounds i true) (a.put oi.dst v) w→wpAnyS P md ops Q S (fuel+1) listed a w:=by
 intro fuel
 induction fuel with
 | zero =>
  intro S listed a w _ hr hy H
  refine ⟨fun h=>(by rw [h] at hr;cases hr),fun j hj=>?_⟩
  by_cases hji:j=i
  ·subst hji
   exact YieldsIf.wpOp hi hy (KeepS.refl S w) ⟨Kept.refl S _ w,S,fun _ h=>h,H⟩
  ·have:=ready_mono hj hji
   rw [H.1] at this
   cases this
 | succ fuel ih =>
  intro S listed a w hfree hr hy H
  refine ⟨fun h=>(by rw [h] at hr;cases hr),fun j hj=>?_⟩
  by_cases hji:j=i
  ·subst hji
   exact YieldsIf.wpOp hi hy (KeepS.refl S w) ⟨Kept.refl S _ w,S,fun _ h=>h,H⟩
  ·have h1:=H.2 j (ready_mono hj hji)
   obtain ⟨hjun,oj,hoj,hall⟩:=mem_ready.1 hj
   have hnot:∀ e ∈ oj.after,Region.binds md e=true→e.on≠i:=fun e he hb heq=>by
    have h1:=hall e he hb
    have h0:=(mem_ready.1 hr).1
    rw [heq] at h1
    rcases Nat.lt_or_ge i listed.size with h'|h'
    ·simp [h'] at h0 h1;rw [h0] at h1;cases h1
    ·simp [Array.getElem?_eq_none h'] at h1
   have h2:=wpOp_putIf hoj (hfree j oj hoj hji hjun hnot) (fun cs b=>hsel i oi cs b hi) (fun cs b=>hsel j oj cs b hoj) hQ hy h1
   have hfree':∀ k ok,ops[k]?=some ok→k≠i→(listed.setIfInBounds j true).getD k true=false →
     (∀ e ∈ ok.after,Region.binds md e=true→e.on≠i)→oi.apart ops ok=true:=fun k ok hk hki hun hno=>by
    refine hfree k ok hk hki ?_ hno
    by_cases hjk:j=k
    ·subst hjk;exact hjun
    ·rw [getD_set_ne true hjk] at hun;exact hun
   refine wpOp_mono (fun a' w' ⟨h3,h4,S',hSS,h5⟩=>⟨h4,S',hSS,ih S' (listed.setIfInBounds j true) a' w' hfree' (ready_mono hr (Ne.symm hji)) (YieldsS.grow hSS (YieldsS.mono h4.1 h3)) ?_⟩) h2
   rw [Array.setIfInBounds_comm _ _ hji]
   exact h5

theorem wpAnyS_firstB {i:Nat} {oi:Oper} {v:Value} (hi:ops[i]?=some oi) (hbe:behindB ops i=true) (hsel:∀ (j:Nat) (o:Oper) cs b,ops[j]?=some o→o.op≠.select cs b)
  (hQ:∀ c a w,Q (.panic c) (a.put oi.dst v) w→Q (.panic c) a w) :
  ∀ (fuel:Nat) (S:Nat→Prop) (listed:Array Bool) (a:Act) (w:World),ClosedL .any ops listed →
   (∀ j oj,ops[j]?=some oj→j≠i→listed.getD j true=false→(∀ e ∈ oj.after,Region.binds .any e=true→e.on≠i)→oi.apart ops oj=true) →
   i ∈ Region.ready .any ops listed→YieldsB P ops w oi v a →
   wpAnyS P .any ops Q S fuel (listed.setIfInBounds i true) (a.put oi.dst v) w→wpAnyS P .any ops Q S (fuel+1) listed a w:=by
 intro fuel
 induction fuel with
 | zero =>
  intro S listed a w _ _ hr hy H
  refine ⟨fun h=>(by rw [h] at hr;cases hr),fun j hj=>?_⟩
  by_cases hji:j=i
  ·subst hji
   exact YieldsIf.wpOp hi hy (Below.refl _ _) ⟨Kept.refl S _ w,S,fun _ h=>h,H⟩
  ·have:=ready_mono hj hji
   rw [H.1] at this
   cases this
 | succ fuel ih =>
  intro S listed a w hcl hfree hr hy H
  refine ⟨fun h=>(by rw [h] at hr;cases hr),fun j hj=>?_⟩
  by_cases hji:j=i
  ·subst hji
   exact YieldsIf.wpOp hi hy (Below.refl _ _) ⟨Kept.refl S _ w,S,fun _ h=>h,H⟩
  ·have h1:=H.2 j (ready_mono hj hji)
   obtain ⟨hjun,oj,hoj,hall⟩:=mem_ready.1 hj
   have hnot:∀ e ∈ oj.after,Region.binds .any e=true→e.on≠i:=fun e he hb heq=>by
    have h1:=hall e he hb
    have h0:=(mem_ready.1 hr).1
    rw [heq] at h1
    rcases Nat.lt_or_ge i listed.size with h'|h'
    ·simp [h'] at h0 h1;rw [h0] at h1;cases h1
    ·simp [Array.getElem?_eq_none h'] at h1
   have hmod:isMod oj=false:=by
    cases hm:isMod oj with
    | false=>rfl
    | true =>
     have h3:=List.all_eq_true.1 hbe j (List.mem_range.2 (Array.getElem?_eq_some_iff.1 hoj).1)
     rw [hoj,Option.any_some,hm] at h3
     simp only [Bool.not_true,Bool.false_or] at h3
     have h4:=dep_listed hcl 8 j h3 fun o ho e he hb=>by
      rw [hoj] at ho;cases ho
      exact hall e he hb
     have h5:=(mem_ready.1 hr).1
     rcases Nat.lt_or_ge i listed.size with h'|h'
     ·simp [h'] at h4 h5;rw [h4] at h5;cases h5
     ·simp [Array.getElem?_eq_none h'] at h4
   have h2:=wpOp_putIf hoj (hfree j oj hoj hji hjun hnot) (fun cs b=>hsel i oi cs b hi) (fun cs b=>hsel j oj cs b hoj) hQ hy h1
   have hfree':∀ k ok,ops[k]?=some ok→k≠i→(listed.setIfInBounds j true).getD k true=false →
     (∀ e ∈ ok.after,Region.binds .any e=true→e.on≠i)→oi.apart ops ok=true:=fun k ok hk hki hun hno=>by
    refine hfree k ok hk hki ?_ hno
    by_cases hjk:j=k
    ·subst hjk;exact hjun
    ·rw [getD_set_ne true hjk] at hun;exact hun
   refine wpOp_mono (fun a' w' ⟨h3,h4,S',hSS,h5⟩=>⟨h4,S',hSS,ih S' (listed.setIfInBounds j true) a' w' (closed_set hcl hj) hfree' (ready_mono hr (Ne.symm hji)) (YieldsB.mono (h4.2 (by rw [hoj];exact hmod)) h3) ?_⟩) h2
   rw [Array.setIfInBounds_comm _ _ hji]
   exact h5

def wpXS (P:Program) (ops:Array Oper) (Q:Exit→Act→World→Prop):(Nat→Prop)→OrdO→Act→World→Prop
 | _,.done,a,w=>Q .normal a w
 | S,.rd o r,a,w=>∃ v,(YieldsS P ops S w o v a∨(ownB ops o=true∧YieldsB P ops w o v a))∧wpXS P ops Q S r (a.put o.dst v) w
 | S,.one o r,a,w=>if Region.wanted o (yielded ops a.tmps) then o.wp P a w (fun a' w'=>Kept S (some o) w w'∧∃ S',(∀ b,S b→S' b)∧wpXS P ops Q S' r a' w') Q else ∃ S',(∀ b,S b→S' b)∧wpXS P ops Q S' r (a.put o.dst undef) w
 | S,.two o r p l,a,w =>
  (if Region.wanted o (yielded ops a.tmps) then o.wp P a w (fun a' w'=>Kept S (some o) w w'∧∃ S',(∀ b,S b→S' b)∧wpXS P ops Q S' r a' w') Q else ∃ S',(∀ b,S b→S' b)∧wpXS P ops Q S' r (a.put o.dst undef) w) ∧
  (if Region.wanted p (yielded ops a.tmps) then p.wp P a w (fun a' w'=>Kept S (some p) w w'∧∃ S',(∀ b,S b→S' b)∧wpXS P ops Q S' l a' w') Q else ∃ S',(∀ b,S b→S' b)∧wpXS P ops Q S' l (a.put p.dst undef) w)
 | S,.three o r p l q u,a,w =>
  (if Region.wanted o (yielded ops a.tmps) then o.wp P a w (fun a' w'=>Kept S (some o) w w'∧∃ S',(∀ b,S b→S' b)∧wpXS P ops Q S' r a' w') Q else ∃ S',(∀ b,S b→S' b)∧wpXS P ops Q S' r (a.put o.dst undef) w) ∧
  (if Region.wanted p (yielded ops a.tmps) then p.wp P a w (fun a' w'=>Kept S (some p) w w'∧∃ S',(∀ b,S b→S' b)∧wpXS P ops Q S' l a' w') Q else ∃ S',(∀ b,S b→S' b)∧wpXS P ops Q S' l (a.put p.dst undef) w) ∧
  (if Region.wanted q (yielded ops a.tmps) then q.wp P a w (fun a' w'=>Kept S (some q) w w'∧∃ S',(∀ b,S b→S' b)∧wpXS P ops Q S' u a' w') Q else ∃ S',(∀ b,S b→S' b)∧wpXS P ops Q S' u (a.put q.dst undef) w)

theorem Kept.lower {S S1:Nat→Prop} {o:Option Oper} {w W:World} (hs:∀ b,S b→S1 b) (h:Kept S1 o w W):Kept S o w W:=⟨fun b hb=>h.1 b (hs b hb),h.2⟩
theorem wpXS_lower {S S1:Nat→Prop} {o:Oper} {r:OrdO} {a:Act} {w:World} (hs:∀ b,S b→S1 b) (h:wpXS P ops Q S1 (.one o r) a w):wpXS P ops Q S (.one o r) a w:=by
 unfold wpXS at h ⊢
 split
 ·rename_i hw
  rw [if_pos hw] at h
  exact Oper.wp_mono (fun a' w' ⟨h1,S',h2,h3⟩=>⟨h1.lower hs,S',fun b hb=>h2 b (hs b hb),h3⟩) h
 ·rename_i hw
  rw [if_neg hw] at h
  obtain ⟨S',h2,h3⟩:=h
  exact ⟨S',fun b hb=>h2 b (hs b hb),h3⟩

theorem wpOp_of_XS {i:Nat} {o:Oper} {a:Act} {w:World} {K K':(Nat→Prop)→Act→World→Prop} (ho:ops[i]?=some o) (hk:∀ S a' w',K S a' w'→K' S a' w')
  (h:if Region.wanted o (yielded ops a.tmps) then o.wp P a w (fun a' w'=>Kept S (some o) w w'∧∃ S',(∀ b,S b→S' b)∧K S' a' w') Q else ∃ S',(∀ b,S b→S' b)∧K S' (a.put o.dst undef) w):wpOp P ops Q i (fun a' w'=>Kept S ops[i]? w w'∧∃ S',(∀ b,S b→S' b)∧K' S' a' w') a w:=by
 unfold wpOp
 simp only [ho]
 split
 ·rename_i hw
  rw [if_pos hw] at h
  exact .inl (Oper.wp_mono (fun a' w' h'=>⟨h'.1,let ⟨S',h1,h2⟩:=h'.2;⟨S',h1,hk _ _ _ h2⟩⟩) h)
 ·rename_i hw
  rw [if_neg hw] at h
  exact ⟨Kept.refl S _ w,let ⟨S',h1,h2⟩:=h;⟨S',h1,hk _ _ _ h2⟩⟩

theorem wpAnyS_ofX (hs:Region.noSelect ops=true) (hQ:∀ c a w,¬ Q (.panic c) a w):∀ (l:Ord) (S:Nat→Prop) (listed:Array Bool) (a:Act) (w:World),ClosedL .any ops listed→l.within ops.size=true→orderT .any ops l listed=true→wpXS P ops Q S (opsOfT ops l) a w→wpAnyS P .any ops Q S l.len listed a w
 | .done,S,listed,a,w,_,_,hB,h=>⟨by simpa [orderT] using hB,h⟩
 | .rd i r,S,listed,a,w,hcl,hl,hB,h=>by
  simp only [Ord.within,Bool.and_eq_true,decide_eq_true_eq] at hl
  have ho:ops[i]?=some ops[i]:=Array.getElem?_eq_getElem hl.1
  simp only [opsOfT,ho] at h
  simp only [orderT,Bool.and_eq_true] at hB
  obtain ⟨⟨hr,hf⟩,hB'⟩:=hB
  obtain ⟨v,hy,hK⟩:=h
  rcases hy with hy|⟨hown,hy⟩
  ·exact wpAnyS_first ho (Region.noSelect_spec hs) (fun c a w h=>absurd h (hQ c _ w)) r.len S listed a w (Region.free_spec ho hf) (by simpa using hr) hy (wpAnyS_ofX hs hQ r _ _ _ _ (closed_set hcl (by simpa using hr)) hl.2 hB' hK)
  ·have hbe:behindB ops i=true:=by
    have:=List.all_eq_true.1 hown i (List.mem_range.2 hl.1)
    simpa [ho] using this
   exact wpAnyS_firstB ho hbe (Region.noSelect_spec hs) (fun c a w h=>absurd h (hQ c _ w)) r.len S listed a w hcl (Region.free_spec ho hf) (by simpa using hr) hy (wpAnyS_ofX hs hQ r _ _ _ _ (closed_set hcl (by simpa using hr)) hl.2 hB' hK)
 | .one i r,S,listed,a,w,hcl,hl,hB,h=>by
  simp only [Ord.within,Bool.and_eq_true,decide_eq_true_eq] at hl
  have ho:ops[i]?=some ops[i]:=Array.getElem?_eq_getElem hl.1
  simp only [opsOfT,ho] at h
  simp only [orderT,Bool.and_eq_true,beq_iff_eq] at hB
  refine ⟨fun h0=>(by rw [hB.1] at h0;cases h0),fun j hj=>?_⟩
  rw [hB.1] at hj
  obtain rfl:=List.mem_singleton.1 hj
  exact wpOp_of_XS ho (fun S' a' w'=>wpAnyS_ofX hs hQ r S' _ a' w' (closed_set hcl (by rw [hB.1];simp)) hl.2 hB.2) h
 | .two i r j l,S,listed,a,w,hcl,hl,hB,h=>by
  simp only [Ord.within,Bool.and_eq_true,decide_eq_true_eq] at hl
  have ho:ops[i]?=some ops[i]:=Array.getElem?_eq_getElem hl.1.1.1
  have hp:ops[j]?=some ops[j]:=Array.getElem?_eq_getElem hl.1.2
  simp only [opsOfT,ho,hp] at h
  simp only [orderT,Bool.and_eq_true,beq_iff_eq] at hB
  obtain ⟨⟨⟨h1,h2⟩,h3⟩,h4⟩:=hB
  refine ⟨fun h0=>(by rw [h1] at h0;cases h0),fun q hq=>?_⟩
  rw [h1] at hq
  simp only [List.mem_cons,List.not_mem_nil,or_false] at hq
  rcases hq with rfl|rfl
  ·exact wpOp_of_XS ho (fun S' a' w'=>wpAnyS_ofX hs hQ r S' _ a' w' (closed_set hcl (by rw [h1];simp)) hl.1.1.2 h3) h.1
  ·refine wpOp_of_XS hp (fun S' a' w' h'=>?_) h.2
   show wpAnyS P .any ops Q S' r.len _ _ _
   rw [h2]
   exact wpAnyS_ofX hs hQ l S' _ a' w' (closed_set hcl (by rw [h1];simp)) hl.2 h4 h'
 | .three i r j l q0 u,S,listed,a,w,hcl,hl,hB,h=>by
  simp only [Ord.within,Bool.and_eq_true,decide_eq_true_eq] at hl
  have ho:ops[i]?=some ops[i]:=Array.getElem?_eq_getElem hl.1.1.1.1.1
  have hp:ops[j]?=some ops[j]:=Array.getElem?_eq_getElem hl.1.1.1.2
  have hq0:ops[q0]?=some ops[q0]:=Array.getElem?_eq_getElem hl.1.2
  simp only [opsOfT,ho,hp,hq0] at h
  simp only [orderT,Bool.and_eq_true,beq_iff_eq] at hB
  obtain ⟨⟨⟨⟨⟨h1,h2⟩,h2'⟩,h3⟩,h4⟩,h5⟩:=hB
  refine ⟨fun h0=>(by rw [h1] at h0;cases h0),fun q hq=>?_⟩
  rw [h1] at hq
  simp only [List.mem_cons,List.not_mem_nil,or_false] at hq
  rcases hq with rfl|rfl|rfl
  ·exact wpOp_of_XS ho (fun S' a' w'=>wpAnyS_ofX hs hQ r S' _ a' w' (closed_set hcl (by rw [h1];simp)) hl.1.1.1.1.2 h3) h.1
  ·refine wpOp_of_XS hp (fun S' a' w' h'=>?_) h.2.1
   show wpAnyS P .any ops Q S' r.len _ _ _
   rw [h2]
   exact wpAnyS_ofX hs hQ l S' _ a' w' (closed_set hcl (by rw [h1];simp)) hl.1.1.2 h4 h'
  ·refine wpOp_of_XS hq0 (fun S' a' w' h'=>?_) h.2.2
   show wpAnyS P .any ops Q S' r.len _ _ _
   rw [h2']
   exact wpAnyS_ofX hs hQ u S' _ a' w' (closed_set hcl (by rw [h1];simp)) hl.2 h5 h'

theorem wpAny_of_BC {m:Nat} (hc:coverB md ops m=true) (hm:m≤ops.size) (g:Nat):∀ (f:Nat) (listed:Array Bool) (a:Act) (w:World),listed.size=ops.size→ClosedL md ops listed→(∀ j,m≤j→listed.getD j false=false) →
  wpB P md ops Q m (fun a w=>ClosedL md ops (barL m ops.size)→wpAny P md ops Q g (barL m ops.size) a w) f listed a w→wpAny P md ops Q (f+g) listed a w
 | 0,listed,a,w,hsz,hcl,ht,h=>by
  rw [Nat.zero_add,listed_bar hm hsz h.1 ht]
  exact h.2 ⟨w,Below.refl _ _⟩ (listed_bar hm hsz h.1 ht ▸ hcl)
 | f+1,listed,a,w,hsz,hcl,ht,h=>by
  cases hf:fullB m listed with
  | true =>
   rw [listed_bar hm hsz hf ht,Nat.add_comm]
   exact wpAny_fuel g (f+1) _ a w (h.1 hf ⟨w,Below.refl _ _⟩ (listed_bar hm hsz hf ht ▸ hcl))
  | false =>
   obtain ⟨hne,h2⟩:=h.2 hf
   rw [Nat.add_right_comm]
   refine ⟨fun h0=>absurd h0 hne,fun i hi=>wpOp_mono (fun a' w' h'=>wpAny_of_BC hc hm g f _ a' w' (by simp [hsz]) (closed_set hcl hi) (fun j hj=>?_) h'.2) (h2 i hi ⟨w,Below.refl _ _⟩)⟩
   have him:=ready_lt hc hcl hf hi
   have:=ht j hj
   simpa [Array.getElem?_setIfInBounds_ne (show i≠j by omega)] using this
theorem any_XS {a:Act} {w:World} (m:Nat) (t u:Ord) (hs:Region.noSelect ops=true) (hm:Nat.ble m ops.size=true) (hl:t.len=m) (hin:t.within ops.size=true) (hc:coverB .any ops m=true)
  (hB:orderB2 .any ops m t (Array.replicate ops.size false)=true) (hul:u.len=ops.size-m) (huin:u.within ops.size=true) (hu:orderT .any ops u (barL m ops.size)=true)
  (h:wpXB P ops (NoPanic Q) (fun a w=>∃ S,wpXS P ops (NoPanic Q) S (opsOfT ops u) a w) (opsOfT ops t) a w):wpAny P .any ops (NoPanic Q) ops.size (Array.replicate ops.size false) a w.drew:=by
 have hm:=Nat.le_of_ble_eq_true hm
 have h1:=wpB_of (md:=.any) hc hs (fun c a w h=>h) t _ a w (closed_none _) hB (wpTB_of_X t a w hin h)
 have h2:=wpB_mono _ _ _ _ _ (below_drew1 w) h1
 have h3:wpB P .any ops (NoPanic Q) m (fun a w=>ClosedL .any ops (barL m ops.size)→wpAny P .any ops (NoPanic Q) (ops.size-m) (barL m ops.size) a w) t.len (Array.replicate ops.size false) a w.drew:=by
  have tail:∀ a w,(∃ S,wpXS P ops (NoPanic Q) S (opsOfT ops u) a w)→ClosedL .any ops (barL m ops.size)→wpAny P .any ops (NoPanic Q) (ops.size-m) (barL m ops.size) a w:=fun a w ⟨S,hS⟩ hcl=>by
   have:=wpAny_of_S _ _ _ _ _ (wpAnyS_ofX hs (fun c a w h=>h) u S (barL m ops.size) a w hcl huin hu hS)
   rwa [hul] at this
  have mono:∀ (f:Nat) (listed:Array Bool) (a:Act) (w:World),wpB P .any ops (NoPanic Q) m (fun a w=>∃ S,wpXS P ops (NoPanic Q) S (opsOfT ops u) a w) f listed a w→wpB P .any ops (NoPanic Q) m (fun a w=>ClosedL .any ops (barL m ops.size)→wpAny P .any ops (NoPanic Q) (ops.size-m) (barL m ops.size) a w) f listed a w:=by
   intro f
   induction f with
   | zero=>exact fun listed a w h=>⟨h.1,fun n=>tail _ _ (h.2 n)⟩
   | succ f ih=>exact fun listed a w h=>⟨fun h0 n=>tail _ _ (h.1 h0 n),fun h0=>⟨(h.2 h0).1,fun i hi n=>wpOp_mono (fun a' w' h'=>⟨h'.1,ih _ a' w' h'.2⟩) ((h.2 h0).2 i hi n)⟩⟩
  exact mono _ _ _ _ h2
 have h4:=wpAny_of_BC hc hm (ops.size-m) _ _ _ _ (by simp) (closed_none _) (fun j _=>rep_false _ _) h3
 rw [hl,show m+(ops.size-m)=ops.size by omega] at h4
 exact h4
theorem any_S {a:Act} {w:World} (u:Ord) (hs:Region.noSelect ops=true) (hul:u.len=ops.size) (huin:u.within ops.size=true) (hu:orderT .any ops u (Array.replicate ops.size false)=true)
  (h:wpXS P ops (NoPanic Q) S (opsOfT ops u) a w.drew):wpAny P .any ops (NoPanic Q) ops.size (Array.replicate ops.size false) a w.drew:=by
 have:=wpAny_of_S _ _ _ _ _ (wpAnyS_ofX hs (fun c a w h=>h) u S _ a w.drew (closed_none _) huin hu h)
 rwa [hul] at this
end
end Go.Proofs.YtcjmppgkojogdaaDoor
namespace Go.Proofs.YtcjmppgkojogdaaDoor
set_option linter.unusedVariables false
open Go.RowKit
def frd (rd:Option Nat):Fence:={ Fence.wide with round:=rd }
def isDefer (o:Oper):Bool:=match o.op with|.defer _=>true|_=>false
theorem not_defer {o:Oper} (h:isDefer o=false):∀ c,o.op≠.defer c:=fun c e=>by simp [isDefer,e] at h
def rdB (rd:Option Nat) (ops:Array Oper):Bool:=match rd with|none=>true|some _=>ops.toList.all fun o=>!isDefer o
section
variable {P:Program} {rd:Option Nat} {n:Nat} {ops:Array Oper} {Q:Exit→Act→World→Prop} {md:Region.Mode}
theorem callsIn_frd {f:FuncId} {args:Array Value} {w:World} {R:Ending→World→Prop}:CallsIn (frd rd) n P f args w R↔Calls P f args w R:=callsIn_wide
theorem upon_in {o:Oper} {a:Act} {K:Act→World→Prop}:∀ {r:Result Next},o.upon P a K Q r→o.uponIn (frd rd) n P a K Q r
 | .ok x w',h=>by
  cases x with
  | enter f args=>exact ⟨fun h=>(by cases h),callsIn_frd.2 h⟩
  | row row args=>exact ⟨fun h=>(by cases h),fun c cs _=>let ⟨v,w',h1,h2⟩:=h c cs;⟨v,w',h1,stepsIn_wide.2 h2⟩⟩
  | _=>first|exact h|exact (h:False).elim
 | .halt x w',h=>by cases x <;> first|exact h|exact (h:False).elim
theorem Oper.wp_in {o:Oper} {a:Act} {w:World} {K:Act→World→Prop} (hd:rd=none∨isDefer o=false) (h:o.wp P a w K Q):o.wpIn (frd rd) n P a w K Q:=by
 refine ⟨fun f _=>trivial,?_⟩
 have e:o.semAt (frd rd).round a.eval=execOp a.eval o:=by
  rcases hd with rfl|hd
  ·rfl
  ·exact Oper.semAt_eq _ _ _ (not_defer hd)
 rw [e]
 exact upon_in h
theorem rdB_at (h:rdB rd ops=true) {i:Nat} {o:Oper} (ho:ops[i]?=some o):rd=none∨isDefer o=false:=by
 cases rd with
 | none=>exact .inl rfl
 | some l =>
  have:=List.all_eq_true.1 h o (Array.mem_toList_iff.2 (Array.mem_of_getElem? ho))
  simpa using this
theorem wpOp_in (hd:rdB rd ops=true) (hlo:¬ LetsOut Q) {i:Nat} {a:Act} {w:World} {K K':Act→World→Prop} (hK:∀ a w,K a w→K' a w) (h:wpOp P ops Q i K a w):wpOpIn (frd rd) n P ops Q i K' a w:=by
 unfold wpOp at h
 unfold wpOpIn
 cases ho:ops[i]? with
 | none=>simp only [ho] at h;exact hK _ _ h
 | some o =>
  simp only [ho] at h ⊢
  split
  ·rename_i hw
   rw [if_pos hw] at h
   rcases h with h|h
   ·exact Oper.wp_in (rdB_at hd ho) (Oper.wp_mono hK h)
   ·exact absurd h.2 hlo
  ·rename_i hw
   rw [if_neg hw] at h
   exact ⟨fun f _=>trivial,hK _ _ h⟩
theorem wpAny_in (hd:rdB rd ops=true) (hlo:¬ LetsOut Q):∀ (f:Nat) (listed:Array Bool) (a:Act) (w:World),wpAny P md ops Q f listed a w→wpAnyIn (frd rd) n P md ops Q f listed a w
 | 0,_,_,_,h=>h
 | f+1,_,_,_,h=>⟨h.1,fun i hi=>wpOp_in hd hlo (fun a' w' h'=>wpAny_in hd hlo f _ a' w' h') (h.2 i hi)⟩
def OnlyN (Q:Exit→Act→World→Prop):Exit→Act→World→Prop
 | .normal,a,w=>Q .normal a w
 | _,_,_=>False
theorem OnlyN.imp:∀ (e:Exit) (a:Act) (w:World),NoPanic (OnlyN Q) e a w→Q e a w:=fun e a w h=>by
 cases e <;> first|exact h|exact (h:False).elim
theorem onlyN_out:¬ LetsOut (NoPanic (OnlyN Q)):=fun ⟨_,_,h⟩=>h
theorem wpIn_any {id:Nat} {a:Act} {w:World} (hd:rdB rd ops=true) (hm:P.follows .mixedOrders=true) (h:wpAny P .any ops (NoPanic (OnlyN Q)) ops.size (Array.replicate ops.size false) a w.drew):(Code.region id ops true).wpIn (frd rd) n P Q a w :=
 wpIn_mono (wpIn_region_any hm (wpAny_in hd onlyN_out _ _ _ _ h)) OnlyN.imp
end
end Go.Proofs.YtcjmppgkojogdaaDoor
namespace Go.Proofs.YtcjmppgkojogdaaDoor
set_option linter.unusedVariables false
namespace Am
open Go.RowKit
section
structure SV where
 p:(Nat→Prop)→World→Value→Prop
 st:∀ {St St':Nat→Prop} {w w':World} {v:Value},(∀ b,St b→St' b)→(∀ b cur t z,St b→w.heap[b]?=some (.cells cur t z)→w'.heap[b]?=some (.cells cur t z))→p St w v→p St' w' v
 one:∀ {St:Nat→Prop} {w:World} {v:Value},p St w v→v.cells=#[v]∧v.oneCell'=true

inductive CV where
 | top
 | c (v:Value)
 | err (k:Nat)
 | agg (n:Nat) (f:Nat→CV)
 | tup (n:Nat) (f:Nat→CV)
 | rs (k n:Nat) (f:Nat→Nat→CV)
 | rp (n:Nat) (f:Nat→CV)
 | os (i:Nat) (g:Option Nat) (off n k:Nat)
 | op (i:Nat) (g:Option Nat) (off:Nat)
 | fn (g:FuncId) (n:Nat) (f:Nat→CV)
 | pv (p:SV)

def RepC (al:List Addr) (St:Nat→Prop) (w:World):CV→Value→Prop
 | .top,_=>True
 | .c v,x=>x=v
 | .err k,x=>x=ev al k
 | .agg n f,x=>∃ cs:Array Value,x=.agg cs∧cs.size=n∧∀ i,i<n→RepC al St w (f i) (cs.getD i undef)
 | .tup n f,x=>∃ cs:Array Value,x=.tuple cs∧cs.size=n∧∀ i,i<n→RepC al St w (f i) (cs.getD i undef)
 | .rs k n f,x=>∃ ao cap,x=.slice ao n cap∧n≤cap∧cap≤9223372036854775807∧(ao=none→cap=0)∧∀ a,ao=some a→0<n →
   a.spot=none∧St a.block∧∀ i j,i<n→j<k→∃ v,w.cell? ⟨a.block,a.off+(i * k+j),none⟩=some v∧RepC al St w (f i j) v
 | .rp n f,x=>∃ b o,x=.pointer (some ⟨b,o,none⟩)∧St b∧∀ j,j<n→∃ v,w.cell? ⟨b,o+j,none⟩=some v∧RepC al St w (f j) v
 | .os _ none _ n _,x=>n=0∧x=.slice none 0 0
 | .os _ (some g) off n k,x=>∃ cap,x=.slice (some ⟨g,off,none⟩) n cap∧n≤cap∧cap≤9223372036854775807∧∃ cur t z,w.heap[g]?=some (.cells cur t z)∧off+cap * k≤cur.size
 | .op _ g off,x=>∃ b,g=some b∧x=.pointer (some ⟨b,off,none⟩)
 | .fn g n f,x=>∃ cs:Array Value,x=.func (.func g) #[] cs∧cs.size=n∧∀ i,i<n→RepC al St w (f i) (cs.getD i undef)
 | .pv p,x=>p.p St w x

structure Evo (St:Nat→Prop) (w w':World):Prop where
 st:∀ b cur t z,St b→w.heap[b]?=some (.cells cur t z)→w'.heap[b]?=some (.cells cur t z)
 sh:∀ (b:Nat) cur t z,w.heap[b]?=some (.cells cur t z)→∃ cur' z',w'.heap[b]?=some (.cells cur' t z')∧cur'.size=cur.size

theorem Evo.of_below {St:Nat→Prop} {w w':World} (h:Below w.heap.size w w') (hs:∀ b,St b→b<w.heap.size):Evo St w w' where
 st:=fun b cur t z hb hc=>(h.block b (hs b hb)).trans hc
 sh:=fun b cur t z hb=>⟨cur,z,(h.block b (Array.getElem?_eq_some_iff.1 hb).1).trans hb,rfl⟩

theorem cell_of_block {w w':World} {b:Nat} (h:w'.heap[b]?=w.heap[b]?) (o:Nat):w'.cell? ⟨b,o,none⟩=w.cell? ⟨b,o,none⟩:=World.cell?_of_block (w:=w) (a:=⟨b,o,none⟩) h

theorem cell_keep {w w':World} {b o:Nat} {v:Value} (h:∀ cur t z,w.heap[b]?=some (.cells cur t z)→w'.heap[b]?=some (.cells cur t z)) (hv:w.cell? ⟨b,o,none⟩=some v):w'.cell? ⟨b,o,none⟩=some v:=by
 unfold World.cell? at hv ⊢
 split at hv
 ·rename_i cur t z hc
  rw [h _ _ _ hc]
  exact hv
 ·cases hv

theorem RepC.evo {al:List Addr} {St St':Nat→Prop} {w w':World} (he:Evo St w w') (hs:∀ b,St b→St' b):∀ (c:CV) (v:Value),RepC al St w c v→RepC al St' w' c v
 | .top,_,_=>trivial
 | .c _,_,h=>h
 | .err _,_,h=>h
 | .agg n f,_,⟨cs,h1,h2,h3⟩=>⟨cs,h1,h2,fun i hi=>RepC.evo he hs (f i) _ (h3 i hi)⟩
 | .tup n f,_,⟨cs,h1,h2,h3⟩=>⟨cs,h1,h2,fun i hi=>RepC.evo he hs (f i) _ (h3 i hi)⟩
 | .rs k n f,_,⟨ao,cap,h1,h2,h3,h4,h5⟩=>⟨ao,cap,h1,h2,h3,h4,fun a ha hn=>by
   obtain ⟨h6,h7,h8⟩:=h5 a ha hn
   refine ⟨h6,hs _ h7,fun i j hi hj=>?_⟩
   obtain ⟨v,hv,hr⟩:=h8 i j hi hj
   exact ⟨v,cell_keep (fun cur t z hc=>he.st _ cur t z h7 hc) hv,RepC.evo he hs (f i j) v hr⟩⟩
 | .rp n f,_,⟨b,o,h1,h2,h3⟩=>⟨b,o,h1,hs _ h2,fun j hj=>by
   obtain ⟨v,hv,hr⟩:=h3 j hj
   exact ⟨v,cell_keep (fun cur t z hc=>he.st _ cur t z h2 hc) hv,RepC.evo he hs (f j) v hr⟩⟩
 | .os _ none _ _ _,_,h=>h
 | .os _ (some g) off n k,_,⟨cap,h1,h2,h3,cur,t,z,h4,h5⟩=>by
   obtain ⟨cur',z',h6,h7⟩:=he.sh g cur t z h4
   exact ⟨cap,h1,h2,h3,cur',t,z',h6,by omega⟩
 | .op _ _ _,_,h=>h
 | .fn g n f,_,⟨cs,h1,h2,h3⟩=>⟨cs,h1,h2,fun i hi=>RepC.evo he hs (f i) _ (h3 i hi)⟩
 | .pv p,_,h=>p.st hs he.st h

structure OP where
 p:List Addr→(Nat→Prop)→World→Nat→(Nat→Prop)→Prop
 st:∀ {al:List Addr} {St St':Nat→Prop} {w w':World} {g:Nat} {F:Nat→Prop},Evo St w w'→(∀ b,St b→St' b)→(∀ b,F b→w'.heap[b]?=w.heap[b]?)→p al St w g F→p al St' w' g F

inductive Res where
 | dead
 | blk (n:Nat) (f:Nat→CV)
 | frz (n:Nat) (f:Nat→CV)
 | obj (p:OP)

def Res.rep (al:List Addr) (St:Nat→Prop) (w:World) (F:Nat→Prop):Option Nat→Res→Prop
 | _,.dead=>∀ b,¬ F b
 | none,.blk n _=>n=0∧∀ b,¬ F b
 | some g,.blk n f=>(∀ b,F b↔b=g)∧∃ cur t,w.heap[g]?=some (.cells cur t (0,0))∧n≤cur.size∧∀ i,i<n→RepC al St w (f i) (cur.getD i undef)
 | none,.frz n _=>n=0∧∀ b,¬ F b
 | some g,.frz n f=>(∀ b,¬ F b)∧St g∧∃ cur t z,w.heap[g]?=some (.cells cur t z)∧n≤cur.size∧∀ i,i<n→RepC al St w (f i) (cur.getD i undef)
 | none,.obj _=>∀ b,¬ F b
 | some g,.obj p=>p.p al St w g F

theorem Res.rep_evo {al:List Addr} {St St':Nat→Prop} {w w':World} (he:Evo St w w') (hs:∀ b,St b→St' b) {F:Nat→Prop} (hF:∀ b,F b→w'.heap[b]?=w.heap[b]?):∀ {g:Option Nat} {r:Res},r.rep al St w F g→r.rep al St' w' F g
 | none,.dead,h=>h
 | some _,.dead,h=>h
 | none,.blk _ _,h=>h
 | some g,.blk n f,⟨h0,cur,t,h1,h2,h4⟩=>⟨h0,cur,t,(hF g ((h0 g).2 rfl)).trans h1,h2,fun i hi=>RepC.evo he hs _ _ (h4 i hi)⟩
 | none,.frz _ _,h=>h
 | some g,.frz n f,⟨h0,hg,cur,t,z,h1,h2,h4⟩=>⟨h0,hs _ hg,cur,t,z,he.st g cur t z hg h1,h2,fun i hi=>RepC.evo he hs _ _ (h4 i hi)⟩
 | none,.obj _,h=>h
 | some _,.obj p,h=>p.st he hs hF h

structure AS where
 env:List (Nat×CV)
 b:Nat→CV
 H:List (Option Nat×Res)

def look:List (Nat×CV)→(Nat→CV)→Nat→CV
 | [],b,d=>b d
 |(e,v)::r,b,d=>match Nat.beq e d with|true=>v|false=>look r b d

theorem beq_cases (e d:Nat):(Nat.beq e d=true∧e=d)∨(Nat.beq e d=false∧e≠d):=by
 by_cases h:e=d
 ·exact .inl ⟨by subst h;exact Nat.beq_refl e,h⟩
 ·exact .inr ⟨by cases hb:Nat.beq e d with|true=>exact absurd (Nat.eq_of_beq_eq_true hb) h|false=>rfl,h⟩

theorem look_same (r:List (Nat×CV)) (b:Nat→CV) (d:Nat) (v:CV):look ((d,v)::r) b d=v:=by
 rcases beq_cases d d with ⟨h,_⟩|⟨_,h⟩
 ·simp [look,h]
 ·exact absurd rfl h
theorem look_other (r:List (Nat×CV)) (b:Nat→CV) {e d:Nat} (v:CV) (hn:e≠d):look ((e,v)::r) b d=look r b d:=by
 rcases beq_cases e d with ⟨_,h⟩|⟨h,_⟩
 ·exact absurd h hn
 ·simp [look,h]

def AS.eval (s:AS):Operand→CV
 | .tmp t=>look s.env s.b t
 | .const v=>.c v
 | .global g=>.c (.pointer (some ⟨g,0,none⟩))
 | .func f=>.c (.func (.func f) #[] #[])

def AS.put (s:AS) (dst:Option Tmp) (v:CV):AS:=match dst with|some d=>⟨(d,v)::s.env,s.b,s.H⟩|none=>s

structure Gh where
 gs:List Nat
 al:List Addr
 w0:World
 F0:Nat→Prop
 St0:Nat→Prop
 N:Nat
 rd:Option Nat
 yl:Bool

structure Under (F0:Nat→Prop) (w0 w:World):Prop where
 os:w.os=w0.os
 tape:w.tape=w0.tape
 output:w.output=w0.output
 size:w0.heap.size≤w.heap.size
 block:∀ k,k<w0.heap.size→¬ F0 k→w.heap[k]?=w0.heap[k]?
 sh:∀ (b:Nat) cur t z,w0.heap[b]?=some (.cells cur t z)→∃ cur' z',w.heap[b]?=some (.cells cur' t z')∧cur'.size=cur.size

theorem Under.refl (F0:Nat→Prop) (w:World):Under F0 w w:=⟨rfl,rfl,rfl,Nat.le_refl _,fun _ _ _=>rfl,fun _ cur _ z h=>⟨cur,z,h,rfl⟩⟩
theorem Under.then {F0:Nat→Prop} {a b c:World} (h:Under F0 a b) (k:Below b.heap.size b c):Under F0 a c :=
 ⟨k.os.trans h.os,k.tape.trans h.tape,k.output.trans h.output,Nat.le_trans h.size k.size,fun i hi hn=>(k.block i (Nat.lt_of_lt_of_le hi h.size)).trans (h.block i hi hn),fun i cur t z hb=>by
  obtain ⟨cur',z',h1,h2⟩:=h.sh i cur t z hb
  exact ⟨cur',z',(k.block i (Array.getElem?_eq_some_iff.1 h1).1).trans h1,h2⟩⟩
theorem Under.below {w w':World} (h:Under (fun _=>False) w w'):Below w.heap.size w w':=⟨h.os,h.tape,h.output,h.size,fun k hk=>h.block k hk (fun h=>h)⟩

structure HFoot (al:List Addr) (St:Nat→Prop) (w:World) (base:Nat) (F0:Nat→Prop) (H:List (Option Nat×Res)) (fp:Nat→Nat→Prop):Prop where
 rep:∀ (i:Nat) (g:Option Nat) (r:Res),H[i]?=some (g,r)→r.rep al St w (fp i) g
 dis:∀ i j b,fp i b→fp j b→i=j
 own:∀ i b,fp i b→b<w.heap.size∧¬ St b∧(base≤b∨F0 b)
 out:∀ i,H.length≤i→∀ b,¬ fp i b
def HRel (al:List Addr) (St:Nat→Prop) (w:World) (base:Nat) (F0:Nat→Prop) (H:List (Option Nat×Res)):Prop:=∃ fp,HFoot al St w base F0 H fp

def markD (D:Nat):Deferred:={ target:=.collected D,args:=#[] }
def DefOk (G:Gh) (St:Nat→Prop) (w:World) (ds:List Deferred):Prop:=∃ Ds:List Nat,ds=Ds.map markD∧Ds.Nodup∧∀ D ∈ Ds,(St D∧w.heap[D]?=some (.deferred (some [])))∧G.w0.heap.size≤D∧D ∉ lst G.gs∧∀ a ∈ G.al,a.block≠D
theorem DefOk.none (G:Gh) (St:Nat→Prop) (w:World):DefOk G St w []:=⟨[],rfl,List.nodup_nil,fun _ h=>by cases h⟩
theorem DefOk.keep {G:Gh} {St St':Nat→Prop} {w w':World} {ds:List Deferred} (h:DefOk G St w ds) (hs:∀ b,St b→St' b) (hw:∀ b,St b→w'.heap[b]?=w.heap[b]?):DefOk G St' w' ds:=by
 obtain ⟨Ds,h1,h2,h3⟩:=h
 exact ⟨Ds,h1,h2,fun D hD=>⟨⟨hs D (h3 D hD).1.1,(hw D (h3 D hD).1.1).trans (h3 D hD).1.2⟩,(h3 D hD).2⟩⟩
theorem DefOk.grow {G:Gh} {St St':Nat→Prop} {w:World} {ds:List Deferred} (h:DefOk G St w ds) (hs:∀ b,St b→St' b):DefOk G St' w ds:=h.keep hs fun _ _=>rfl
structure RelSt (G:Gh) (St:Nat→Prop) (s:AS) (a:Act) (w:World):Prop where
 df:DefOk G St w a.defers
 sz:a.tmps.size=G.N
 env:∀ d,RepC G.al St w (look s.env s.b d) (a.tmps.getD d undef)
 un:Under G.F0 G.w0 w
 s1:∀ b,G.St0 b→St b
 s2:∀ b,St b→G.St0 b∨G.w0.heap.size≤b∨G.F0 b
 s3:∀ b,St b→b<w.heap.size
 hp:HRel G.al St w G.w0.heap.size G.F0 s.H
 sn:SentL w G.gs G.al
 sg:(∀ g ∈ lst G.gs,St g)∧∀ a ∈ G.al,St a.block
def Rel (G:Gh) (s:AS) (a:Act) (w:World):Prop:=∃ St,RelSt G St s a w

theorem RelSt.eval {G:Gh} {St:Nat→Prop} {s:AS} {a:Act} {w:World} (h:RelSt G St s a w):∀ x:Operand,RepC G.al St w (s.eval x) (a.eval x)
 | .tmp t=>h.env t
 | .const _=>rfl
 | .global _=>rfl
 | .func _=>rfl

theorem RelSt.put {G:Gh} {St:Nat→Prop} {s:AS} {a:Act} {w:World} (h:RelSt G St s a w) {dst:Option Tmp} {v:CV} {x:Value} (hd:∀ d,dst=some d→d<G.N) (hv:RepC G.al St w v x) :
  RelSt G St (s.put dst v) (a.put dst x) w:=by
 cases dst with
 | none=>exact h
 | some d =>
  have hlt:=hd d rfl
  refine ⟨h.df,by simp [Act.put,h.sz],fun e=>?_,h.un,h.s1,h.s2,h.s3,h.hp,h.sn,h.sg⟩
  by_cases hde:d=e
  ·subst hde
   show RepC _ _ _ (look ((d,v)::s.env) s.b d) _
   rw [look_same]
   simpa [Act.put,h.sz,hlt] using hv
  ·show RepC _ _ _ (look ((d,v)::s.env) s.b e) _
   rw [look_other _ _ _ hde]
   have:=h.env e
   simpa [Act.put,Array.getElem?_setIfInBounds_ne hde] using this

theorem SentL.keep {w w':World} {gs:List Nat} {al:List Addr} (h:SentL w gs al) (h1:∀ g ∈ lst gs,w'.heap[g]?=w.heap[g]?) (h2:∀ a ∈ al,w'.heap[a.block]?=w.heap[a.block]?):SentL w' gs al :=
 ⟨h.len,h.nd,fun i g hi hl=>(cell_of_block (h1 g hl) 0).trans (h.var i g hi hl),fun x hx=>by
  obtain ⟨c,t,hc⟩:=h.row x hx
  exact ⟨c,t,(h2 x hx).trans hc⟩,fun h3 h4=>tabs_keep (h.tab h3 h4) (fun o=>cell_of_block (h1 _ h3) o) (fun o=>cell_of_block (h1 _ h4) o),fun g hg=>by
   have h3:=h.lt g hg
   have h4:=h1 g hg
   rw [Array.getElem?_eq_getElem h3] at h4
   exact (Array.getElem?_eq_some_iff.1 h4).1⟩

theorem RelSt.ext {G:Gh} {St:Nat→Prop} {s:AS} {a:Act} {w w':World} (h:RelSt G St s a w) (hb:Below w.heap.size w w'):RelSt G St s a w':=by
 have he:Evo St w w':=Evo.of_below hb h.s3
 refine ⟨h.df.keep (fun _ h=>h) (fun b hb'=>hb.block b (h.s3 b hb')),h.sz,fun d=>RepC.evo he (fun _ x=>x) _ _ (h.env d),h.un.then hb,h.s1,h.s2,fun b hs=>Nat.lt_of_lt_of_le (h.s3 b hs) hb.size,?_,?_,h.sg⟩
 ·obtain ⟨fp,hp⟩:=h.hp
  exact ⟨fp,fun i g r hi=>Res.rep_evo he (fun _ x=>x) (fun b hF=>hb.block b (hp.own i b hF).1) (hp.rep i g r hi),hp.dis,fun i b hF=>⟨Nat.lt_of_lt_of_le (hp.own i b hF).1 hb.size,(hp.own i b hF).2⟩,hp.out⟩
 ·exact SentL.keep h.sn (fun g hg=>hb.block g (h.s3 _ (h.sg.1 g hg))) (fun x hx=>hb.block _ (h.s3 _ (h.sg.2 x hx)))
theorem RelSt.take {G:Gh} {St:Nat→Prop} {s:AS} {tmps:Array Value} {D:Nat} {Ds:List Nat} {w:World} (h:RelSt G St s { tmps:=tmps,defers:=markD D::Ds.map markD } w) :
  w.heap[D]?=some (.deferred (some []))∧RelSt G St s { tmps:=tmps,defers:=Ds.map markD } (w.putObj D (.deferred none)):=by
 obtain ⟨Ds',h1,h2,h3⟩:=h.df
 have h1:(D::Ds).map markD=Ds'.map markD:=h1
 have inj:∀ (l m:List Nat),l.map markD=m.map markD→l=m:=fun l=>by
  induction l with
  | nil=>intro m hm;cases m with|nil=>rfl|cons=>simp at hm
  | cons x l ih =>
   intro m hm
   cases m with
   | nil=>simp at hm
   | cons y m =>
    simp only [List.map_cons,List.cons.injEq] at hm
    have e:x=y:=by
     have:=congrArg Deferred.target hm.1
     simp only [markD,Target.collected.injEq] at this
     exact this
    rw [e,ih m hm.2]
 have e:=inj _ _ h1
 subst e
 obtain ⟨⟨hS,hD⟩,hb,hg,ha⟩:=h3 D (List.mem_cons_self ..)
 have hold:∀ b,b≠D→(w.putObj D (.deferred none)).heap[b]?=w.heap[b]?:=fun b hb=>World.putObj_heap_other hb
 have hrow:∀ (b:Nat) cur t z,w.heap[b]?=some (.cells cur t z)→b≠D:=fun b cur t z hc e=>by rw [e,hD] at hc;cases hc
 have he:Evo St w (w.putObj D (.deferred none)):=⟨fun b cur t z _ hc=>(hold b (hrow b cur t z hc)).trans hc,fun b cur t z hc=>⟨cur,z,(hold b (hrow b cur t z hc)).trans hc,rfl⟩⟩
 refine ⟨hD,⟨Ds,rfl,(List.nodup_cons.1 h2).2,fun E hE=>?_⟩,h.sz,fun d=>RepC.evo he (fun _ x=>x) _ _ (h.env d),⟨h.un.os,h.un.tape,h.un.output,by simp [h.un.size],fun k hk hF=>(hold k (by omega)).trans (h.un.block k hk hF),fun b cur t z hc=>?_⟩,h.s1,h.s2,fun b hb=>by simpa using h.s3 b hb,?_,?_,h.sg⟩
 ·obtain ⟨⟨k1,k2⟩,k3⟩:=h3 E (List.mem_cons_of_mem _ hE)
  exact ⟨⟨k1,(hold E (fun e=>(List.nodup_cons.1 h2).1 (e ▸ hE))).trans k2⟩,k3⟩
 ·obtain ⟨cur',z',k1,k2⟩:=h.un.sh b cur t z hc
  exact ⟨cur',z',(hold b (hrow b _ _ _ k1)).trans k1,k2⟩
 ·obtain ⟨fp,hp⟩:=h.hp
  have hne:∀ i b,fp i b→b≠D:=fun i b hF e=>(hp.own i b hF).2.1 (e ▸ hS)
  exact ⟨fp,fun i g r hi=>Res.rep_evo he (fun _ x=>x) (fun b hF=>hold b (hne i b hF)) (hp.rep i g r hi),hp.dis,fun i b hF=>by simpa using hp.own i b hF,hp.out⟩
 ·exact SentL.keep h.sn (fun g hg'=>hold g (fun e=>hg (e ▸ hg'))) (fun x hx=>hold _ (ha x hx))
theorem Rel.ext {G:Gh} {s:AS} {a:Act} {w w':World} (h:Rel G s a w) (hb:Below w.heap.size w w'):Rel G s a w':=h.imp fun _ h=>h.ext hb

def CEnt (x y:CV):Prop:=∀ al St w v,RepC al St w x v→RepC al St w y v
theorem CEnt.refl (x:CV):CEnt x x:=fun _ _ _ _ h=>h
theorem cZ {v:CV}:CEnt v v:=CEnt.refl v
theorem CEnt.top (x:CV):CEnt x .top:=fun _ _ _ _ _=>trivial
theorem CEnt.of_eq {x y:CV} (h:x=y):CEnt x y:=h ▸ CEnt.refl x
theorem CEnt.trans {x y z:CV} (h:CEnt x y) (k:CEnt y z):CEnt x z:=fun al St w v hr=>k al St w v (h al St w v hr)
theorem CEnt.nil:CEnt (.c .nilIface) (.err 0):=fun _ _ _ _ h=>h
theorem CEnt.nilS (k:Nat) (f:Nat→Nat→CV):CEnt (.c (.slice none 0 0)) (.rs k 0 f):=fun _ _ _ _ h=>⟨none,0,h,Nat.le_refl _,by decide,fun _=>rfl,fun _ ha=>by cases ha⟩
theorem CEnt.rs {k n m:Nat} {f g:Nat→Nat→CV} (hn:n=m) (h:∀ i j,i<n→j<k→CEnt (f i j) (g i j)):CEnt (.rs k n f) (.rs k m g):=by
 subst hn
 rintro al St w v ⟨ao,cap,h1,h2,h3,h4,h5⟩
 refine ⟨ao,cap,h1,h2,h3,h4,fun a ha hn=>?_⟩
 obtain ⟨h6,h7,h8⟩:=h5 a ha hn
 refine ⟨h6,h7,fun i j hi hj=>?_⟩
 obtain ⟨v,hv,hr⟩:=h8 i j hi hj
 exact ⟨v,hv,h i j hi hj _ _ _ _ hr⟩
theorem CEnt.agg {n m:Nat} {f g:Nat→CV} (hn:n=m) (h:∀ i,i<n→CEnt (f i) (g i)):CEnt (.agg n f) (.agg m g):=by
 subst hn
 rintro al St w v ⟨cs,h1,h2,h3⟩
 exact ⟨cs,h1,h2,fun i hi=>h i hi _ _ _ _ (h3 i hi)⟩
theorem CEnt.tup {n m:Nat} {f g:Nat→CV} (hn:n=m) (h:∀ i,i<n→CEnt (f i) (g i)):CEnt (.tup n f) (.tup m g):=by
 subst hn
 rintro al St w v ⟨cs,h1,h2,h3⟩
 exact ⟨cs,h1,h2,fun i hi=>h i hi _ _ _ _ (h3 i hi)⟩

def fl (l:List CV) (i:Nat):CV:=match l,i with|[],_=>.top|x::_,0=>x|_::r,i+1=>fl r i

inductive EntL:List CV→List CV→Prop where
 | nil:EntL [] []
 | cons {x y:CV} {l m:List CV} (h:CEnt x y) (t:EntL l m):EntL (x::l) (y::m)

inductive EntE (env:List (Nat×CV)) (b:Nat→CV):List (Nat×CV)→Prop where
 | nil:EntE env b []
 | cons {d:Nat} {v:CV} {r:List (Nat×CV)} (h:CEnt (look env b d) v) (t:EntE env b r):EntE env b ((d,v)::r)

theorem EntE.look {env:List (Nat×CV)} {b b':Nat→CV} {env':List (Nat×CV)} (h:EntE env b env') (hb:∀ d,(∀ v,(d,v) ∉ env')→CEnt (look env b d) (b' d)):∀ d,CEnt (look env b d) (look env' b' d):=by
 have key:∀ l,EntE env b l→∀ d,(∃ v,(d,v) ∈ l)→CEnt (Am.look env b d) (Am.look l b' d):=by
  intro l hl
  induction hl with
  | nil=>intro d ⟨v,hv⟩;cases hv
  | @cons e v r h1 _ ih =>
   intro d ⟨u,hu⟩
   by_cases hed:e=d
   ·subst hed;rw [look_same];exact h1
   ·rw [look_other _ _ _ hed]
    refine ih d ⟨u,?_⟩
    rcases List.mem_cons.1 hu with h2|h2
    ·cases h2;exact absurd rfl hed
    ·exact h2
 have key2:∀ l:List (Nat×CV),∀ d,(∀ v,(d,v) ∉ l)→Am.look l b' d=b' d:=by
  intro l
  induction l with
  | nil=>intro d _;rfl
  | cons x r ih =>
   intro d hd
   obtain ⟨e,v⟩:=x
   have hed:e≠d:=fun h=>hd v (by rw [h];exact List.mem_cons_self ..)
   rw [look_other _ _ _ hed]
   exact ih d fun u hu=>hd u (List.mem_cons_of_mem _ hu)
 intro d
 by_cases hd:∃ v,(d,v) ∈ env'
 ·exact key env' h d hd
 ·have hd':∀ v,(d,v) ∉ env':=fun v hv=>hd ⟨v,hv⟩
  rw [key2 env' d hd']
  exact hb d hd'

theorem RelSt.ent {G:Gh} {St:Nat→Prop} {env env':List (Nat×CV)} {b b':Nat→CV} {H:List (Option Nat×Res)} {a:Act} {w:World} (h:RelSt G St ⟨env,b,H⟩ a w) (he:∀ d,CEnt (look env b d) (look env' b' d)):RelSt G St ⟨env',b',H⟩ a w :=
 ⟨h.df,h.sz,fun d=>he d _ _ _ _ (h.env d),h.un,h.s1,h.s2,h.s3,h.hp,h.sn,h.sg⟩

def pickL (H:List (Option Nat×Res)) (l:List Nat):List (Option Nat×Res):=l.map fun j=>H.getD j (none,.dead)
theorem HRel.pick {al:List Addr} {St:Nat→Prop} {w:World} {base:Nat} {F0:Nat→Prop} {H H':List (Option Nat×Res)} (h:HRel al St w base F0 H) (l:List Nat) (hl:l.Nodup) (hH:pickL H l=H'):HRel al St w base F0 H':=by
 obtain ⟨fp,hp⟩:=h
 subst hH
 refine ⟨fun i b=>∃ j,l[i]?=some j∧fp j b,fun i g r hi=>?_,fun i j b ⟨p,hp1,hp2⟩ ⟨q,hq1,hq2⟩=>?_,fun i b ⟨p,_,hp2⟩=>hp.own p b hp2,fun i hi b ⟨p,hp1,_⟩=>?_⟩
 ·simp only [pickL,List.getElem?_map,Option.map_eq_some_iff] at hi
  obtain ⟨j,hj,he⟩:=hi
  have e:(fun b=>∃ q,l[i]?=some q∧fp q b)=fp j:=funext fun b=>propext ⟨fun ⟨q,h1,h2⟩=>by rw [hj] at h1;cases h1;exact h2,fun h=>⟨j,hj,h⟩⟩
  show r.rep al St w (fun b=>∃ q,l[i]?=some q∧fp q b) g
  rw [e]
  by_cases hlt:j<H.length
  ·refine hp.rep j g r ?_
   rw [List.getElem?_eq_getElem hlt,← he]
   simp [hlt]
  ·rw [List.getD_eq_getElem?_getD,List.getElem?_eq_none (by omega)] at he
   cases he
   exact fun b hb=>hp.out j (by omega) b hb
 ·have:=hp.dis p q b hp2 hq2
  subst this
  have hi:=(List.getElem?_eq_some_iff.1 hp1).1
  exact (List.getElem?_inj hi hl).1 (hp1.trans hq1.symm)
 ·simp only [pickL,List.length_map] at hi
  rw [List.getElem?_eq_none hi] at hp1
  cases hp1
inductive HEnt:List (Option Nat×Res)→List (Option Nat×Res)→Prop where
 | nil:HEnt [] []
 | same {x:Option Nat×Res} {l m:List (Option Nat×Res)} (t:HEnt l m):HEnt (x::l) (x::m)
 | blk {g:Option Nat} {n N:Nat} {f F:Nat→CV} {l m:List (Option Nat×Res)} (hn:n=N) (hF:∀ j,j<N→CEnt (f j) (F j)) (t:HEnt l m):HEnt ((g,.blk n f)::l) ((g,.blk N F)::m)
 | dead {g:Option Nat} {r:Res} {l m:List (Option Nat×Res)} (hr:∀ al St w F,Res.rep al St w F g r→∀ b,¬ F b) (t:HEnt l m):HEnt ((g,r)::l) ((g,.dead)::m)
theorem HEnt.refl:∀ l:List (Option Nat×Res),HEnt l l
 | []=>.nil
 | _::r=>.same (HEnt.refl r)
theorem HEnt.at {l m:List (Option Nat×Res)} (h:HEnt l m):l.length=m.length∧∀ (i:Nat) (g:Option Nat) (r':Res),m[i]?=some (g,r')→∃ r,l[i]?=some (g,r)∧∀ al St w F,Res.rep al St w F g r→Res.rep al St w F g r':=by
 induction h with
 | nil=>exact ⟨rfl,fun i g r h=>by simp at h⟩
 | same _ ih =>
  refine ⟨by simp [ih.1],fun i g r h=>?_⟩
  match i,h with
  | 0,h=>exact ⟨r,h,fun _ _ _ _ h=>h⟩
  | i+1,h=>exact ih.2 i g r h
 | @blk g0 n N f F l m hn hF _ ih =>
  subst hn
  refine ⟨by simp [ih.1],fun i g r h=>?_⟩
  match i,h with
  | 0,h =>
   simp at h
   obtain ⟨rfl,rfl⟩:=h
   refine ⟨.blk n f,rfl,fun al St w F1 h=>?_⟩
   cases g0 with
   | none=>exact h
   | some g =>
    obtain ⟨h1,cur,t,h2,h3,h4⟩:=h
    exact ⟨h1,cur,t,h2,h3,fun j hj=>hF j hj _ _ _ _ (h4 j hj)⟩
  | i+1,h=>exact ih.2 i g r h
 | @dead g0 r0 l m hr _ ih =>
  refine ⟨by simp [ih.1],fun i g r h=>?_⟩
  match i,h with
  | 0,h =>
   simp at h
   obtain ⟨rfl,rfl⟩:=h
   refine ⟨r0,rfl,fun al St w F1 h=>?_⟩
   have:=hr al St w F1 h
   cases g0 <;> exact this
  | i+1,h=>exact ih.2 i g r h
theorem HRel.hent {al:List Addr} {St:Nat→Prop} {w:World} {base:Nat} {F0:Nat→Prop} {H H':List (Option Nat×Res)} (h:HRel al St w base F0 H) (he:HEnt H H'):HRel al St w base F0 H':=by
 obtain ⟨fp,hp⟩:=h
 obtain ⟨h1,h2⟩:=he.at
 exact ⟨fp,fun i g r hi=>by
  obtain ⟨r0,h3,h4⟩:=h2 i g r hi
  exact h4 _ _ _ _ (hp.rep i g r0 h3),hp.dis,hp.own,fun i hi=>hp.out i (by omega)⟩
theorem HRel.none (al:List Addr) (St:Nat→Prop) (w:World) (base:Nat) (F0:Nat→Prop):HRel al St w base F0 [] :=
 ⟨fun _ _=>False,fun i g r hi=>by simp at hi,fun _ _ _ h=>h.elim,fun _ _ h=>h.elim,fun _ _ _ h=>h⟩
end
section
section
variable {P:Program} {G:Gh} {ops:Array Oper} {o:Oper} {s:AS} {r:List Oper} {K:AS→Prop}

def Wanted (G:Gh) (ops:Array Oper) (o:Oper) (s:AS) (b:Bool):Prop:=∀ St a w,RelSt G St s a w→Region.wanted o (yielded ops a.tmps)=b
theorem wanted_none (h:o.guard=none):Wanted G ops o s true:=fun _ _ _ _=>by simp [Region.wanted,h]
theorem wanted_is {j d:Nat} {b t:Bool} (h:o.guard=some (j,b)) (hd:(ops[j]?).bind (·.dst)=some d) (hN:Nat.blt d G.N=true) (hl:look s.env s.b d=.c (.bool t)) (u:Bool) (hu:(t == b)=u):Wanted G ops o s u:=fun St a w hr=>by
 have hlt:d<a.tmps.size:=by rw [hr.sz];exact Nat.le_of_ble_eq_true hN
 have he:=hr.env d
 rw [hl] at he
 have he:a.tmps.getD d undef=.bool t:=he
 have hg:a.tmps[d]?=some (.bool t):=by
  rw [Array.getElem?_eq_getElem hlt,← he]
  simp [hlt]
 simp only [Region.wanted,h,yielded,hd,Option.bind_some,hg]
 rw [← hu]
 cases t <;> cases b <;> rfl

def ARd (P:Program) (G:Gh) (o:Oper) (s:AS) (v:CV):Prop:=∀ St a w,RelSt G St s a w→∃ x,(∀ W,KeepS St w W→(execOp a.eval o).run P W=.ok (.value x) W)∧RepC G.al St w v x
def ARdO (P:Program) (G:Gh) (o:Oper) (s:AS) (v:CV):Prop:=∀ St a w,RelSt G St s a w→∃ x,(∀ W,Below w.heap.size w W→(execOp a.eval o).run P W=.ok (.value x) W)∧RepC G.al St w v x
theorem keep_of_below {St:Nat→Prop} {a:Act} {w W:World} (h:RelSt G St s a w) (hW:Below w.heap.size w W):KeepS St w W:=fun b hb=>hW.block b (h.s3 b hb)
theorem ARd.own {v:CV} (h:ARd P G o s v):ARdO P G o s v:=fun St a w hr=>by
 obtain ⟨x,h1,h2⟩:=h St a w hr
 exact ⟨x,fun W hW=>h1 W (keep_of_below hr hW),h2⟩
def AEx (P:Program) (G:Gh) (o:Oper) (s:AS) (K:AS→Prop):Prop:=∀ St a w,RelSt G St s a w→∀ Q,o.wp P a w (fun a' w'=>Below w.heap.size w w'∧∃ St',(∀ b,St b→St' b)∧∃ s',K s'∧RelSt G St' s' a' w') Q
def AMd (P:Program) (G:Gh) (o:Oper) (s:AS) (K:AS→Prop):Prop:=∀ St a w,RelSt G St s a w→∀ Q,o.wp P a w (fun a' w'=>KeepS St w w'∧∃ St',(∀ b,St b→St' b)∧∃ s',K s'∧RelSt G St' s' a' w') Q

def oneB (G:Gh) (P:Program) (o:Oper) (a:Act) (w:World) (K:Act→World→Prop) (Q:Exit→Act→World→Prop):Prop:=o.wp P a w K Q∨(G.yl=true∧o.wpIn (frd G.rd) 0 P a w K Q)
def wpSeq (G:Gh) (P:Program) (ops:Array Oper) (Q:Exit→Act→World→Prop):List Oper→Act→World→Prop
 | [],a,w=>Q .normal a w
 | o::r,a,w=>if Region.wanted o (yielded ops a.tmps) then oneB G P o a w (wpSeq G P ops Q r) Q else wpSeq G P ops Q r (a.put o.dst undef) w

theorem wpOps_of_seq {Q:Exit→Act→World→Prop} (hy:G.yl=false):∀ (l:List Nat) (a:Act) (w:World),wpSeq G P ops Q (l.filterMap (ops[·]?)) a w→wpOps P ops Q l a w
 | [],_,_,h=>h
 | i::l,a,w,h=>by
  unfold wpOps
  cases hi:ops[i]? with
  | none =>
   simp only [List.filterMap_cons,hi] at h ⊢
   exact wpOps_of_seq hy l a w h
  | some o =>
   simp only [List.filterMap_cons,hi,wpSeq] at h ⊢
   split
   ·rename_i hw
    rw [if_pos hw] at h
    rcases h with h|h
    ·exact .inl (Oper.wp_mono (fun a' w' h'=>wpOps_of_seq hy l a' w' h') h)
    ·rw [hy] at h;cases h.1
   ·rename_i hw
    rw [if_neg hw] at h
    exact wpOps_of_seq hy l _ w h
theorem wpOpsIn_of_seq {Q:Exit→Act→World→Prop} (hd:rdB G.rd ops=true):∀ (l:List Nat) (a:Act) (w:World),wpSeq G P ops Q (l.filterMap (ops[·]?)) a w→wpOpsIn (frd G.rd) 0 P ops Q l a w
 | [],_,_,h=>h
 | i::l,a,w,h=>by
  unfold wpOpsIn
  cases hi:ops[i]? with
  | none =>
   simp only [List.filterMap_cons,hi] at h ⊢
   exact wpOpsIn_of_seq hd l a w h
  | some o =>
   simp only [List.filterMap_cons,hi,wpSeq] at h ⊢
   split
   ·rename_i hw
    rw [if_pos hw] at h
    rcases h with h|h
    ·exact Oper.wp_in (rdB_at hd hi) (Oper.wp_mono (fun a' w' h'=>wpOpsIn_of_seq hd l a' w' h') h)
    ·exact Oper.wpIn_mono (fun a' w' h'=>wpOpsIn_of_seq hd l a' w' h') h.2
   ·rename_i hw
    rw [if_neg hw] at h
    exact ⟨fun f _=>trivial,wpOpsIn_of_seq hd l _ w h⟩

theorem range_filterMap (ops:Array Oper):(List.range ops.size).filterMap (ops[·]?)=ops.toList:=by
 apply List.ext_getElem?
 intro i
 have h:∀ (l:List Nat),(∀ x ∈ l,x<ops.size)→l.filterMap (ops[·]?)=l.map fun x=>ops.getD x default:=by
  intro l hl
  induction l with
  | nil=>rfl
  | cons x l ih =>
   have hx:=hl x (List.mem_cons_self ..)
   simp only [List.filterMap_cons,List.map_cons,Array.getElem?_eq_getElem hx]
   rw [ih fun y hy=>hl y (List.mem_cons_of_mem _ hy)]
   simp [hx]
 rw [h _ (fun x hx=>List.mem_range.1 hx)]
 by_cases hi:i<ops.size
 ·simp [hi]
 ·simp [hi,Nat.le_of_not_lt hi]

def ASeq (P:Program) (G:Gh) (ops:Array Oper) (l:List Oper) (s:AS) (K:AS→Prop):Prop :=
 ∀ a w,Rel G s a w→∀ Q:Exit→Act→World→Prop,(∀ s' a' w',K s'→Rel G s' a' w'→Q .normal a' w')→wpSeq G P ops Q l a w

def dstOk (G:Gh) (o:Oper):Bool:=match o.dst with|some d=>Nat.blt d G.N|none=>true
theorem dst_of (h:dstOk G o=true):∀ d,o.dst=some d→d<G.N:=fun d hd=>by
 simp only [dstOk,hd] at h
 exact Nat.le_of_ble_eq_true h

theorem jN (h:K s):ASeq P G ops [] s K:=fun _ _ hr _ hQ=>hQ _ _ _ h hr
theorem seq_rdO {v:CV} (hw:Wanted G ops o s true) (hd:dstOk G o=true) (h:ARdO P G o s v) (hk:ASeq P G ops r (s.put o.dst v) K):ASeq P G ops (o::r) s K:=fun a w ⟨St,hr⟩ Q hQ=>by
 unfold wpSeq
 rw [if_pos (hw St a w hr)]
 refine .inl ?_
 obtain ⟨x,hx,hv⟩:=h St a w hr
 unfold Oper.wp
 rw [hx w (Below.refl _ _)]
 exact hk _ _ ⟨St,hr.put (dst_of hd) hv⟩ Q hQ
theorem seq_rd {v:CV} (hw:Wanted G ops o s true) (hd:dstOk G o=true) (h:ARd P G o s v) (hk:ASeq P G ops r (s.put o.dst v) K):ASeq P G ops (o::r) s K:=seq_rdO hw hd h.own hk
theorem seq_skip (hw:Wanted G ops o s false) (hd:dstOk G o=true) (hk:ASeq P G ops r (s.put o.dst (.c undef)) K):ASeq P G ops (o::r) s K:=fun a w ⟨St,hr⟩ Q hQ=>by
 unfold wpSeq
 rw [if_neg (by rw [hw St a w hr];exact Bool.false_ne_true)]
 exact hk _ _ ⟨St,hr.put (v:=.c undef) (dst_of hd) rfl⟩ Q hQ
theorem seq_ex (hw:Wanted G ops o s true) (h:AEx P G o s (fun s'=>ASeq P G ops r s' K)):ASeq P G ops (o::r) s K:=fun a w hr Q hQ=>by
 unfold wpSeq
 obtain ⟨St,hs⟩:=id hr
 rw [if_pos (hw St a w hs)]
 exact .inl (Oper.wp_mono (fun a' w' ⟨_,St',_,s',h1,h2⟩=>h1 a' w' ⟨St',h2⟩ Q hQ) (h St a w hs Q))
theorem seq_md (hw:Wanted G ops o s true) (h:AMd P G o s (fun s'=>ASeq P G ops r s' K)):ASeq P G ops (o::r) s K:=fun a w hr Q hQ=>by
 unfold wpSeq
 obtain ⟨St,hs⟩:=id hr
 rw [if_pos (hw St a w hs)]
 exact .inl (Oper.wp_mono (fun a' w' ⟨_,St',_,s',h1,h2⟩=>h1 a' w' ⟨St',h2⟩ Q hQ) (h St a w hs Q))
theorem AEx.md (h:AEx P G o s K):AMd P G o s K:=fun St a w hr Q=>Oper.wp_mono (fun _ _ h=>⟨keep_of_below hr h.1,h.2⟩) (h St a w hr Q)

def AX (P:Program) (G:Gh) (ops:Array Oper) (t:OrdO) (s:AS) (K:AS→Prop):Prop :=
 ∀ a w,Rel G s a w→∀ (Q:Exit→Act→World→Prop) (R:Act→World→Prop),(∀ s' a' w',K s'→Rel G s' a' w'→R a' w')→wpXB P ops Q R t a w

theorem x_done (h:K s):AX P G ops .done s K:=fun _ _ hr _ _ hQ n=>hQ _ _ _ h (hr.ext n.below)
theorem x_rdO {t:OrdO} {v:CV} (hw:Wanted G ops o s true) (hd:dstOk G o=true) (h:ARdO P G o s v) (hk:AX P G ops t (s.put o.dst v) K):AX P G ops (.rd o t) s K:=fun a w ⟨St,hr⟩ Q R hQ=>by
 obtain ⟨x,hx,hv⟩:=h St a w hr
 exact ⟨x,.inl ⟨hw St a w hr,fun W hW=>hx W hW⟩,hk _ _ ⟨St,hr.put (dst_of hd) hv⟩ Q R hQ⟩
theorem x_rd {t:OrdO} {v:CV} (hw:Wanted G ops o s true) (hd:dstOk G o=true) (h:ARd P G o s v) (hk:AX P G ops t (s.put o.dst v) K):AX P G ops (.rd o t) s K:=x_rdO hw hd h.own hk
theorem x_skip {t:OrdO} (hw:Wanted G ops o s false) (hd:dstOk G o=true) (hk:AX P G ops t (s.put o.dst (.c undef)) K):AX P G ops (.rd o t) s K:=fun a w ⟨St,hr⟩ Q R hQ =>
 ⟨undef,.inr ⟨hw St a w hr,rfl⟩,hk _ _ ⟨St,hr.put (v:=.c undef) (dst_of hd) rfl⟩ Q R hQ⟩
theorem x_one {t:OrdO} (hw:Wanted G ops o s true) (h:AEx P G o s (fun s'=>AX P G ops t s' K)):AX P G ops (.one o t) s K:=fun a w hr Q R hQ n=>by
 obtain ⟨St,hs⟩:=id hr
 rw [if_pos (hw St a w hs)]
 exact Oper.wp_mono (fun a' w' ⟨hb,St',_,s',h1,h2⟩=>⟨hb,h1 a' w' ⟨St',h2⟩ Q R hQ⟩) (h St a n.w (hs.ext n.below) Q)
theorem x_noone {t:OrdO} (hw:Wanted G ops o s false) (hd:dstOk G o=true) (hk:AX P G ops t (s.put o.dst (.c undef)) K):AX P G ops (.one o t) s K:=fun a w ⟨St,hr⟩ Q R hQ n=>by
 rw [if_neg (by rw [hw St a w hr];exact Bool.false_ne_true)]
 exact hk _ _ ⟨St,hr.put (v:=.c undef) (dst_of hd) rfl⟩ Q R hQ
def AZ (P:Program) (G:Gh) (ops:Array Oper) (t:OrdO) (s:AS) (K:AS→Prop):Prop :=
 ∀ St a w,RelSt G St s a w→∀ Q:Exit→Act→World→Prop,(∀ s' a' w',K s'→Rel G s' a' w'→Q .normal a' w')→∃ St',(∀ b,St b→St' b)∧wpXS P ops Q St' t a w
theorem z_done (h:K s):AZ P G ops .done s K:=fun St _ _ hr _ hQ=>⟨St,fun _ h=>h,hQ _ _ _ h ⟨_,hr⟩⟩
theorem z_rd {t:OrdO} {v:CV} (hw:Wanted G ops o s true) (hd:dstOk G o=true) (h:ARd P G o s v) (hk:AZ P G ops t (s.put o.dst v) K):AZ P G ops (.rd o t) s K:=fun St a w hr Q hQ=>by
 obtain ⟨x,hx,hv⟩:=h St a w hr
 obtain ⟨St',hs,h2⟩:=hk _ _ _ (hr.put (dst_of hd) hv) Q hQ
 exact ⟨St',hs,x,.inl (YieldsS.grow hs (.inl ⟨hw St a w hr,fun W hW=>hx W hW⟩)),h2⟩
theorem z_rdO {t:OrdO} {v:CV} (hw:Wanted G ops o s true) (hd:dstOk G o=true) (hb:ownB ops o=true) (h:ARdO P G o s v) (hk:AZ P G ops t (s.put o.dst v) K):AZ P G ops (.rd o t) s K:=fun St a w hr Q hQ=>by
 obtain ⟨x,hx,hv⟩:=h St a w hr
 obtain ⟨St',hs,h2⟩:=hk _ _ _ (hr.put (dst_of hd) hv) Q hQ
 exact ⟨St',hs,x,.inr ⟨hb,.inl ⟨hw St a w hr,fun W hW=>hx W hW⟩⟩,h2⟩
theorem z_skip {t:OrdO} (hw:Wanted G ops o s false) (hd:dstOk G o=true) (hk:AZ P G ops t (s.put o.dst (.c undef)) K):AZ P G ops (.rd o t) s K:=fun St a w hr Q hQ=>by
 obtain ⟨St',hs,h2⟩:=hk _ _ _ (hr.put (v:=.c undef) (dst_of hd) rfl) Q hQ
 exact ⟨St',hs,undef,.inl (.inr ⟨hw St a w hr,rfl⟩),h2⟩
theorem z_md {t:OrdO} (hw:Wanted G ops o s true) (hm:isMod o=true) (h:AMd P G o s (fun s'=>AZ P G ops t s' K)):AZ P G ops (.one o t) s K:=fun St a w hr Q hQ=>by
 refine ⟨St,fun _ h=>h,?_⟩
 unfold wpXS
 rw [if_pos (hw St a w hr)]
 refine Oper.wp_mono (fun a' w' ⟨hb,St',hs,s',h1,h2⟩=>?_) (h St a w hr Q)
 obtain ⟨St2,hs2,h3⟩:=h1 St' a' w' h2 Q hQ
 exact ⟨⟨hb,fun h=>by rw [Option.any_some,hm] at h;cases h⟩,St2,fun b hb=>hs2 b (hs b hb),h3⟩
theorem z_ex {t:OrdO} (hw:Wanted G ops o s true) (h:AEx P G o s (fun s'=>AZ P G ops t s' K)):AZ P G ops (.one o t) s K:=fun St a w hr Q hQ=>by
 refine ⟨St,fun _ h=>h,?_⟩
 unfold wpXS
 rw [if_pos (hw St a w hr)]
 refine Oper.wp_mono (fun a' w' ⟨hb,St',hs,s',h1,h2⟩=>?_) (h St a w hr Q)
 obtain ⟨St2,hs2,h3⟩:=h1 St' a' w' h2 Q hQ
 exact ⟨⟨keep_of_below hr hb,fun _=>hb⟩,St2,fun b hb=>hs2 b (hs b hb),h3⟩
theorem z_one1O {t:OrdO} {v:CV} (hw:Wanted G ops o s true) (hd:dstOk G o=true) (h:ARdO P G o s v) (hk:AZ P G ops t (s.put o.dst v) K):AZ P G ops (.one o t) s K :=
 z_ex hw fun St a w hr Q=>by
  obtain ⟨x,hx,hv⟩:=h St a w hr
  unfold Oper.wp
  rw [hx w (Below.refl _ _)]
  exact ⟨Below.refl _ _,St,fun _ h=>h,_,hk,hr.put (dst_of hd) hv⟩
theorem z_one1 {t:OrdO} {v:CV} (hw:Wanted G ops o s true) (hd:dstOk G o=true) (h:ARd P G o s v) (hk:AZ P G ops t (s.put o.dst v) K):AZ P G ops (.one o t) s K:=z_one1O hw hd h.own hk
theorem z_noone {t:OrdO} (hw:Wanted G ops o s false) (hd:dstOk G o=true) (hk:AZ P G ops t (s.put o.dst (.c undef)) K):AZ P G ops (.one o t) s K:=fun St a w hr Q hQ=>by
 refine ⟨St,fun _ h=>h,?_⟩
 unfold wpXS
 rw [if_neg (by rw [hw St a w hr];exact Bool.false_ne_true)]
 exact hk _ _ _ (hr.put (v:=.c undef) (dst_of hd) rfl) Q hQ
theorem z_two {p:Oper} {t u:OrdO} (h1:AZ P G ops (.one o t) s K) (h2:AZ P G ops (.one p u) s K):AZ P G ops (.two o t p u) s K:=fun St a w hr Q hQ=>by
 obtain ⟨S1,hs1,h3⟩:=h1 St a w hr Q hQ
 obtain ⟨S2,hs2,h4⟩:=h2 St a w hr Q hQ
 have h3:=wpXS_lower hs1 h3
 have h4:=wpXS_lower hs2 h4
 unfold wpXS at h3 h4
 exact ⟨St,fun _ h=>h,h3,h4⟩
def ACode (P:Program) (G:Gh) (c:Code) (s:AS) (R:Exit→AS→Prop):Prop :=
 ∀ a w,Rel G s a w→∀ Q:Exit→Act→World→Prop,(∀ e s' a' w',R e s'→Rel G s' a' w'→Q e a' w')→c.wpIn (frd G.rd) 0 P Q a w
def thenR (Y:AS→Prop) (R:Exit→AS→Prop):Exit→AS→Prop
 | .normal,s=>Y s
 | e,s=>R e s
def blockR (id:Nat) (R:Exit→AS→Prop):Exit→AS→Prop
 | .exit j,s=>match Nat.beq j id with|true=>R .normal s|false=>R (.exit j) s
 | e,s=>R e s
variable {R:Exit→AS→Prop} {x y c:Code}

theorem code_region {id:Nat} (h:ASeq P G ops ops.toList s (R .normal)) (hd:rdB G.rd ops=true:=by rfl):ACode P G (.region id ops false) s R:=fun a w hr Q hQ =>
 wpIn_region (wpOpsIn_of_seq hd _ a w (by rw [range_filterMap];exact h a w hr Q (hQ .normal)))
theorem code_draw {id:Nat} (t:Ord) (hm:P.follows .mixedOrders=true) (hs:Region.noSelect ops=true) (hl:t.len=ops.size) (hin:t.within ops.size=true)
  (hB:orderT .any ops t (Array.replicate ops.size false)=true) (h:AX P G ops (opsOfT ops t) s (R .normal)) (hd:rdB G.rd ops=true:=by rfl):ACode P G (.region id ops true) s R:=fun a w hr Q hQ =>
 wpIn_any hd hm (any_X t hs hl hin hB (wpX_of_XB _ _ _ (h a w hr _ _ (fun s' a' w' h1 h2=>NoPanic.normal (hQ .normal s' a' w' h1 h2)))))
theorem code_drawC {id:Nat} (m:Nat) (t u:Ord) (hmix:P.follows .mixedOrders=true) (hs:Region.noSelect ops=true) (hm:Nat.ble m ops.size=true) (hl:t.len=m) (hin:t.within ops.size=true) (hc:coverB .any ops m=true)
  (hB:orderB2 .any ops m t (Array.replicate ops.size false)=true) (hul:u.len=ops.size-m) (huin:u.within ops.size=true) (hu:orderT .any ops u (barL m ops.size)=true)
  (h:AX P G ops (opsOfT ops t) s (fun s'=>AZ P G ops (opsOfT ops u) s' (R .normal))) (hd:rdB G.rd ops=true:=by rfl):ACode P G (.region id ops true) s R:=fun a w hr Q hQ =>
 wpIn_any hd hmix (any_XS m t u hs hm hl hin hc hB hul huin hu (h a w hr _ _ (fun s' a' w' h1 ⟨St,h2⟩=>let ⟨St',_,h5⟩:=h1 St a' w' h2 (NoPanic (OnlyN Q)) (fun s'' a'' w'' h3 h4=>NoPanic.normal (hQ .normal s'' a'' w'' h3 h4));⟨St',h5⟩)))
theorem code_drawZ {id:Nat} (u:Ord) (hmix:P.follows .mixedOrders=true) (hs:Region.noSelect ops=true) (hul:u.len=ops.size) (huin:u.within ops.size=true) (hu:orderT .any ops u (Array.replicate ops.size false)=true)
  (h:AZ P G ops (opsOfT ops u) s (R .normal)) (hd:rdB G.rd ops=true:=by rfl):ACode P G (.region id ops true) s R:=fun a w ⟨St,hr⟩ Q hQ =>
 let ⟨St',_,h5⟩:=h St a w.drew (hr.ext (below_drew1 w)) (NoPanic (OnlyN Q)) (fun s'' a'' w'' h3 h4=>NoPanic.normal (hQ .normal s'' a'' w'' h3 h4))
 wpIn_any hd hmix (any_S (S:=St') u hs hul huin hu h5)
theorem code_seq (h:ACode P G x s (thenR (fun s'=>ACode P G y s' R) R)):ACode P G (.seq x y) s R:=fun a w hr Q hQ =>
 wpIn_seq (h a w hr _ (fun e s' a' w' h1 h2=>by
  cases e with
  | normal=>exact h1 a' w' h2 Q hQ
  | _=>exact hQ _ s' a' w' h1 h2))
theorem code_cond {d:Operand} {t:Bool} (hl:s.eval d=.c (.bool t)) (ht:t=true→ACode P G x s R) (hf:t=false→ACode P G y s R):ACode P G (.cond d x y) s R:=fun a w hr Q hQ=>by
 obtain ⟨St,hs⟩:=id hr
 have he:=hs.eval d
 rw [hl] at he
 have he:a.eval d=.bool t:=he
 exact wpIn_cond_split he (fun h=>ht h a w hr Q hQ) (fun h=>hf h a w hr Q hQ)
theorem jB {id:Nat} (h:ACode P G c s (blockR id R)):ACode P G (.block id c) s R:=fun a w hr Q hQ =>
 wpIn_block (h a w hr _ (fun e s' a' w' h1 h2=>by
  cases e with
  | exit j =>
   show if j=id then _ else _
   rcases beq_cases j id with ⟨hb,hj⟩|⟨hb,hj⟩
   ·rw [if_pos hj]
    simp only [blockR,hb] at h1
    exact hQ .normal s' a' w' h1 h2
   ·rw [if_neg hj]
    simp only [blockR,hb] at h1
    exact hQ _ s' a' w' h1 h2
  | _=>exact hQ _ s' a' w' h1 h2))
theorem jX {id:Nat} (h:R (.exit id) s):ACode P G (.exit id) s R:=fun a w hr _ hQ=>wpIn_exit (hQ _ s a w h hr)
theorem jR (h:R .ret s):ACode P G .ret s R:=fun a w hr _ hQ=>wpIn_ret (hQ _ s a w h hr)
theorem jS (h:R .normal s):ACode P G .skip s R:=fun a w hr _ hQ=>wpIn_skip (hQ _ s a w h hr)
def EntS (G:Gh) (s s':AS):Prop:=∀ St a w,RelSt G St s a w→∃ St',(∀ b,St b→St' b)∧RelSt G St' s' a w
theorem EntS.rel {s s':AS} (h:EntS G s s') {a:Act} {w:World} (hr:Rel G s a w):Rel G s' a w:=let ⟨St,hr⟩:=hr;let ⟨St',_,h2⟩:=h St a w hr;⟨St',h2⟩
theorem EntS.refl (s:AS):EntS G s s:=fun St _ _ h=>⟨St,fun _ h=>h,h⟩
theorem ents {env env':List (Nat×CV)} {b b':Nat→CV} {H H':List (Option Nat×Res)} (he:∀ d,CEnt (look env b d) (look env' b' d)) (l:List Nat) (hl:l.Nodup) (hH:pickL H l=H'):EntS G ⟨env,b,H⟩ ⟨env',b',H'⟩:=fun St _ _ h=>by
 have h1:=h.ent he
 exact ⟨St,fun _ h=>h,h1.df,h1.sz,h1.env,h1.un,h1.s1,h1.s2,h1.s3,h1.hp.pick l hl hH,h1.sn,h1.sg⟩
theorem EntS.trans {s s' s'':AS} (h:EntS G s s') (k:EntS G s' s''):EntS G s s'':=fun St a w hr=>let ⟨S1,h1,h2⟩:=h St a w hr;let ⟨S2,h3,h4⟩:=k S1 a w h2;⟨S2,fun b hb=>h3 b (h1 b hb),h4⟩
theorem ent_h {env:List (Nat×CV)} {b:Nat→CV} {H H':List (Option Nat×Res)} (h:HEnt H H'):EntS G ⟨env,b,H⟩ ⟨env,b,H'⟩:=fun St _ _ hr=>⟨St,fun _ h=>h,hr.df,hr.sz,hr.env,hr.un,hr.s1,hr.s2,hr.s3,hr.hp.hent h,hr.sn,hr.sg⟩
theorem jE {s':AS} (he:EntS G s s') (h:ACode P G c s' R):ACode P G c s R:=fun a w hr Q hQ=>h a w (he.rel hr) Q hQ
theorem code_mono {R':Exit→AS→Prop} (h:ACode P G c s R') (hR:∀ e s,R' e s→R e s):ACode P G c s R:=fun a w hr Q hQ=>h a w hr Q (fun e s' a' w' h1 h2=>hQ e s' a' w' (hR e s' h1) h2)

theorem code_loop {α:Type} (S:α→AS) (φ:α→Prop) (μ:α→Nat) (p0:α) (h0:φ p0) (he:EntS G s (S p0))
  (hr:∀ p,φ p→ACode P G c (S p) (thenR (fun s'=>∃ p',φ p'∧μ p'<μ p∧EntS G s' (S p')) R)):ACode P G (.loop c) s R:=by
 intro a w hrel Q hQ b k cs hro hb hroom
 have key:∀ n p a w,μ p=n→φ p→Rel G (S p) a w→∃ e a' w',Q e a' w'∧ArrivesIn (Machine.fenced P (frd G.rd)) P (lone (b.atR a (.code c::.inLoop c::k)) cs w) b k cs e a' w':=by
  intro n
  induction n using Nat.strongRecOn with
  | _ n ih =>
   intro p a w hn hp hrel
   have hwp:=hr p hp a w hrel (Exit.then (fun a' w'=>∃ p',φ p'∧μ p'<μ p∧Rel G (S p') a' w') Q) (fun e s' a' w' h1 h2=>by
    cases e with
    | normal =>
     obtain ⟨p',h3,h4,h5⟩:=h1
     exact ⟨p',h3,h4,h5.rel h2⟩
    | _=>exact hQ _ s' a' w' h1 h2)
   obtain ⟨e,a₁,w₁,hq,harr⟩:=hwp b (.inLoop c::k) cs hro hb hroom
   cases e with
   | normal =>
    obtain ⟨p',hp',hlt,hrel'⟩:=hq
    obtain ⟨e₂,a₂,w₂,hq₂,harr₂⟩:=ih (μ p') (hn ▸ hlt) p' a₁ w₁ rfl hp' hrel'
    exact ⟨e₂,a₂,w₂,hq₂,.of_steps (StepsIn.trans harr (.one (fenced_calm hb hroom rfl) stepR_inLoop)) harr₂⟩
   | exit id=>exact ⟨_,a₁,w₁,hq,.pass (x:=.inLoop c) rfl (fun _ _=>.inl (by simp)) harr⟩
   | goto l=>exact ⟨_,a₁,w₁,hq,.pass (x:=.inLoop c) rfl (fun _ _=>.inl (by simp)) harr⟩
   | ret=>exact ⟨_,a₁,w₁,hq,.pass (x:=.inLoop c) rfl (fun _ _=>.inl (by simp)) harr⟩
   | panic ch=>exact ⟨_,a₁,w₁,hq,.pass (x:=.inLoop c) rfl (fun _ _=>.inl (by simp)) harr⟩
   | outgrown=>exact ⟨_,a₁,w₁,hq,.pass (x:=.inLoop c) rfl (fun _ _=>.inl (by simp)) harr⟩
 obtain ⟨e,a',w',hq,harr⟩:=key _ p0 a w rfl h0 (he.rel hrel)
 exact ⟨e,a',w',hq,.of_steps (.one (fenced_calm hb hroom rfl) stepR_loop) harr⟩

def lay (D:List Nat) (env:List (Nat×CV)) (b:Nat→CV) (d:Nat):CV:=match D.any (Nat.beq d) with|true=>.top|false=>look env b d
theorem range_nodup (n:Nat):(List.range n).Nodup:=List.nodup_range
theorem pickL_range (H:List (Option Nat×Res)) (n:Nat) (hn:n≤H.length):pickL H (List.range n)=H.take n:=by
 apply List.ext_getElem?
 intro i
 simp only [pickL,List.getElem?_map]
 by_cases hi:i<n
 ·rw [List.getElem?_range hi]
  have:i<H.length:=by omega
  simp [List.getElem?_take,hi,this]
 ·rw [List.getElem?_eq_none (by simp;omega)]
  simp [List.getElem?_take,hi]

inductive BLe (D:List Nat) (b0:Nat→CV):(Nat→CV)→Prop
 | refl:BLe D b0 b0
 | nest {D2:List Nat} {env2:List (Nat×CV)} {b2:Nat→CV}:BLe D b0 b2→(D2.all fun d=>D.any (Nat.beq d))=true→(env2.all fun x=>D.any (Nat.beq x.1))=true→BLe D b0 (lay D2 env2 b2)
theorem look_keys {D:List Nat}:∀ {l:List (Nat×CV)} (b:Nat→CV) (d:Nat),(l.all fun x=>D.any (Nat.beq x.1))=true→D.any (Nat.beq d)=false→look l b d=b d
 | [],_,_,_,_=>rfl
 |(e,v)::r,b,d,h,hd=>by
  simp only [List.all_cons,Bool.and_eq_true] at h
  have hne:e≠d:=fun x=>by rw [x,hd] at h;exact absurd h.1 Bool.noConfusion
  rw [look_other _ _ _ hne]
  exact look_keys b d h.2 hd
theorem BLe.ent {D:List Nat} {b0 b':Nat→CV} (h:BLe D b0 b') (ht:∀ d,D.any (Nat.beq d)=true→b0 d=.top):∀ d,CEnt (b' d) (b0 d):=by
 induction h with
 | refl=>exact fun d=>cZ
 | @nest D2 env2 b2 h1 h2 h3 ih =>
  intro d
  cases hd:D.any (Nat.beq d) with
  | true=>rw [ht d hd];exact CEnt.top _
  | false =>
   have hD:D2.any (Nat.beq d)=false:=by
    cases h4:D2.any (Nat.beq d) with
    | false=>rfl
    | true =>
     obtain ⟨e,he,hb⟩:=List.any_eq_true.1 h4
     have h5:=List.all_eq_true.1 h2 e he
     rw [← Nat.eq_of_beq_eq_true hb,hd] at h5
     exact absurd h5 Bool.noConfusion
   have e:lay D2 env2 b2 d=b2 d:=by
    simp only [lay]
    rw [hD]
    exact look_keys b2 d h3 hd
   rw [e]
   exact ih d
theorem code_loopD {α:Type} (D:List Nat) (M:α→List (Nat×CV)) (Hp:α→List (Option Nat×Res)) (φ:α→Prop) (μ:α→Nat) (p0:α) (h0:φ p0) (hM:∀ p,((M p).all fun x=>D.any (Nat.beq x.1))=true) (he:EntE s.env s.b (M p0)) (hH:HEnt s.H (Hp p0))
  (hr:∀ p,φ p→ACode P G c ⟨M p,lay D s.env s.b,Hp p⟩ (thenR (fun s'=>∃ p',φ p'∧μ p'<μ p∧BLe D (lay D s.env s.b) s'.b∧(s'.env.all fun x=>D.any (Nat.beq x.1))=true∧EntE s'.env s'.b (M p')∧(Hp p').length≤s'.H.length∧HEnt (s'.H.take (Hp p').length) (Hp p')) R)):ACode P G (.loop c) s R:=by
 have top0:∀ d,D.any (Nat.beq d)=true→lay D s.env s.b d=.top:=fun d hd=>by simp only [lay];rw [hd]
 have top:∀ (l:List (Nat×CV)),(l.all fun x=>D.any (Nat.beq x.1))=true→∀ d v,(d,v) ∈ l→lay D s.env s.b d=.top:=fun l hl d v hv=>by
  have:=List.all_eq_true.1 hl _ hv
  simp only [lay]
  simp only at this
  rw [this]
 refine code_loop (fun p=>⟨M p,lay D s.env s.b,Hp p⟩) φ μ p0 h0 ?_ (fun p hp=>code_mono (hr p hp) (fun e s' h=>?_))
 ·have he':∀ d,CEnt (look s.env s.b d) (look (M p0) (lay D s.env s.b) d):=EntE.look he fun d _=>by
   simp only [lay]
   split
   ·exact CEnt.top _
   ·exact cZ
  have h1:=ents (G:=G) (H:=s.H) (H':=s.H) he' (List.range s.H.length) (range_nodup _) (by rw [pickL_range _ _ (Nat.le_refl _),List.take_length])
  exact h1.trans (ent_h hH)
 ·cases e with
  | normal =>
   obtain ⟨p',h1,h2,h3,h4,h5,h6,h7⟩:=h
   refine ⟨p',h1,h2,?_⟩
   have he':∀ d,CEnt (look s'.env s'.b d) (look (M p') (lay D s.env s.b) d):=EntE.look h5 fun d hd=>by
    have key:∀ l:List (Nat×CV),(l.all fun x=>D.any (Nat.beq x.1))=true→CEnt (look l s'.b d) (lay D s.env s.b d):=by
     intro l hl
     induction l with
     | nil=>exact h3.ent top0 d
     | cons x r ih =>
      obtain ⟨q,v⟩:=x
      by_cases hq:q=d
      ·rw [top _ hl d v (by rw [hq];exact List.mem_cons_self ..)];exact CEnt.top _
      ·rw [look_other _ _ _ hq]
       exact ih (by simp only [List.all_cons,Bool.and_eq_true] at hl;exact hl.2)
    exact key _ h4
   have h8:=ents (G:=G) (H:=s'.H) (H':=s'.H.take (Hp p').length) he' (List.range (Hp p').length) (range_nodup _) (by rw [pickL_range _ _ h6])
   exact h8.trans (ent_h h7)
  | _=>exact h

theorem BLe.out {D:List Nat} {b0 b':Nat→CV} (h:BLe D b0 b'):∀ d,D.any (Nat.beq d)=false→b' d=b0 d:=by
 induction h with
 | refl=>exact fun d _=>rfl
 | @nest D2 env2 b2 h1 h2 h3 ih =>
  intro d hd
  have hD:D2.any (Nat.beq d)=false:=by
   cases h4:D2.any (Nat.beq d) with
   | false=>rfl
   | true =>
    obtain ⟨e,he,hb⟩:=List.any_eq_true.1 h4
    have h5:=List.all_eq_true.1 h2 e he
    rw [← Nat.eq_of_beq_eq_true hb,hd] at h5
    exact absurd h5 Bool.noConfusion
  have e:lay D2 env2 b2 d=b2 d:=by
   simp only [lay]
   rw [hD]
   exact look_keys b2 d h3 hd
  rw [e]
  exact ih d hd
theorem code_join {α:Type} {d:Code} (D:List Nat) (M:α→List (Nat×CV)) (Hp:α→List (Option Nat×Res)) (φ:α→Prop) (hM:∀ p,((M p).all fun x=>D.any (Nat.beq x.1))=true)
  (h1:ACode P G c ⟨[],look s.env s.b,s.H⟩ (thenR (fun s'=>∃ p,φ p∧BLe D (look s.env s.b) s'.b∧(s'.env.all fun x=>D.any (Nat.beq x.1))=true∧EntE s'.env s'.b (M p)∧(Hp p).length≤s'.H.length∧HEnt (s'.H.take (Hp p).length) (Hp p)) R))
  (h2:∀ p,φ p→ACode P G d ⟨M p,lay D s.env s.b,Hp p⟩ R):ACode P G (.seq c d) s R:=by
 have h0:EntS G s ⟨[],look s.env s.b,s.H⟩:=by
  have:=ents (G:=G) (env:=s.env) (b:=s.b) (env':=[]) (b':=look s.env s.b) (H:=s.H) (H':=s.H) (fun d=>cZ) (List.range s.H.length) (range_nodup _) (by rw [pickL_range _ _ (Nat.le_refl _),List.take_length])
  exact this
 refine jE h0 (code_seq (code_mono h1 fun e s' h=>?_))
 cases e with
 | normal =>
  obtain ⟨p,h3,h4,h5,h6,h7,h8⟩:=h
  refine jE ?_ (h2 p h3)
  have he':∀ d,CEnt (look s'.env s'.b d) (look (M p) (lay D s.env s.b) d):=EntE.look h6 fun d hd=>by
   cases hD:D.any (Nat.beq d) with
   | true=>simp only [lay];rw [hD];exact CEnt.top _
   | false =>
    have e1:look s'.env s'.b d=s'.b d:=look_keys s'.b d h5 hD
    have e2:lay D s.env s.b d=look s.env s.b d:=by simp only [lay];rw [hD]
    rw [e1,e2,h4.out d hD]
    exact cZ
  have h9:=ents (G:=G) (H:=s'.H) (H':=s'.H.take (Hp p).length) he' (List.range (Hp p).length) (range_nodup _) (by rw [pickL_range _ _ h7])
  exact h9.trans (ent_h h8)
 | _=>exact h

structure Entry (gs:List Nat) (al:List Addr) (St F0:Nat→Prop) (H:List (Option Nat×Res)) (w:World):Prop where
 s3:∀ b,St b→b<w.heap.size
 sn:SentL w gs al
 sg:(∀ g ∈ lst gs,St g)∧∀ a ∈ al,St a.block
 hp:∃ fp,HFoot al St w w.heap.size F0 H fp
 f0:∀ b,F0 b→¬ St b

def AC (gs:List Nat) (P:Program) (f:FuncId) (H:List (Option Nat×Res)) (args:List CV) (Q:CV→List (Option Nat×Res)→Prop):Prop :=
 ∀ al w St F0 (vals:Array Value),Entry gs al St F0 H w→vals.size=args.length→(∀ i,RepC al St w (fl args i) (vals.getD i undef)) →
  Calls P f vals w fun e w'=>∃ v r H' St',e=.returned v∧Q r H'∧RepC al St' w' r v∧Under F0 w w'∧(∀ b,St b→St' b)∧(∀ b,St' b→St b∨w.heap.size≤b∨F0 b)∧(∀ b,St' b→b<w'.heap.size)∧HRel al St' w' w.heap.size F0 H'

theorem AC.mono {gs:List Nat} {f:FuncId} {H:List (Option Nat×Res)} {args:List CV} {Q Q':CV→List (Option Nat×Res)→Prop} (h:AC gs P f H args Q) (hQ:∀ r H',Q r H'→Q' r H'):AC gs P f H args Q' :=
 fun al w St F0 vals he hs hv=>(h al w St F0 vals he hs hv).mono fun _ _ ⟨v,r,H',St',h1,h2,h3⟩=>⟨v,r,H',St',h1,hQ _ _ h2,h3⟩

def ARes (P:Program) (G:Gh) (fn:Func) (s:AS) (r:CV):Prop:=∀ St a w,RelSt G St s a w→∃ v,(results fn a.tmps).run P w=.ok v w∧RepC G.al St w r v

def bodyR (P:Program) (G:Gh) (fn:Func) (Q:CV→List (Option Nat×Res)→Prop):Exit→AS→Prop
 | .normal,s|.ret,s=>∃ r H',ARes P G fn s r∧Q r H'∧∀ St a w,RelSt G St s a w→HRel G.al St w G.w0.heap.size G.F0 H'
 | _,_=>False

def env0:Nat→List CV→List (Nat×CV)
 | _,[]=>[]
 | i,x::r=>(i,x)::env0 (i+1) r
theorem look_env0 (b:Nat→CV) (hb:∀ d,b d=.top) (l:List CV):∀ (i d:Nat),look (env0 i l) b d=if d<i then .top else fl l (d-i):=by
 induction l with
 | nil=>intro i d;simp [env0,look,fl,hb]
 | cons x r ih =>
  intro i d
  by_cases h:i=d
  ·subst h;rw [env0,look_same];simp [fl]
  ·rw [env0,look_other _ _ _ h,ih]
   by_cases h2:d<i
   ·rw [if_pos (by omega),if_pos h2]
   ·rw [if_neg (by omega),if_neg h2]
    obtain ⟨m,hm⟩:∃ m,d-i=m+1:=⟨d-i-1,by omega⟩
    rw [hm,show d-(i+1)=m by omega,fl]

theorem fl_none:∀ (l:List CV) (i:Nat),l.length≤i→fl l i=.top
 | [],_,_=>by simp [fl]
 | _::r,0,h=>by simp at h
 | _::r,i+1,h=>by rw [fl];exact fl_none r i (by simpa using h)

theorem leaves_of {fn:Func} {R:Ending→World→Prop}:∀ (Ds:List Nat) (tmps:Array Value) (w:World) (St:Nat→Prop),RelSt G St s { tmps:=tmps,defers:=Ds.map markD } w →
  (∀ w',RelSt G St s { tmps:=tmps,defers:=[] } w'→∃ v,(results fn tmps).run P w'=.ok v w'∧R (.returned v) w')→LeavesInM Fence.wide 0 P fn tmps R (Ds.map markD) .returning w
 | [],tmps,w,St,hr,h=>h w hr
 | D::Ds,tmps,w,St,hr,h=>by
  obtain ⟨h1,h2⟩:=RelSt.take hr
  exact ⟨fun e=>(by cases e),.inl ⟨D,_,rfl,run_takeDeferred h1,leaves_of Ds tmps _ St h2 h⟩⟩
theorem ac_ofY {gs:List Nat} {f:FuncId} {fn:Func} {H:List (Option Nat×Res)} {args:List CV} {Q:CV→List (Option Nat×Res)→Prop} (yl:Bool) (n:Nat) (hf:P.funcs[f]?=some fn) (hb:fn.body=some c) (hn:fn.ntmps=n) (hle:Nat.ble args.length n=true)
  (h:∀ (al:List Addr) (w0:World) (F0 St0:Nat→Prop),ACode P ⟨gs,al,w0,F0,St0,n,none,yl⟩ c ⟨env0 0 args,fun _=>.top,H⟩ (bodyR P ⟨gs,al,w0,F0,St0,n,none,yl⟩ fn Q)):AC gs P f H args Q:=by
 intro al w St F0 vals he hs hv
 have hle:args.length≤n:=Nat.le_of_ble_eq_true hle
 refine callsIn_wide.1 (callsIn_of_wp_marks (F:=Fence.wide) (n:=0) hf hb trivial (h al w F0 St { tmps:=vals++Array.replicate (fn.ntmps-vals.size) undef,defers:=[] } w ⟨St,DefOk.none _ _ _,?_,?_,Under.refl _ _,fun _ h=>h,fun _ h=>.inl h,he.s3,he.hp,he.sn,he.sg⟩ _ ?_))
 ·simp [hn,hs];omega
 ·intro d
  show RepC al St w (look (env0 0 args) (fun _=>.top) d) _
  rw [look_env0 _ (fun _=>rfl),if_neg (by omega),Nat.sub_zero]
  have:=hv d
  by_cases hd:d<args.length
  ·have e:(vals++Array.replicate (fn.ntmps-vals.size) undef).getD d undef=vals.getD d undef:=by
    simp [hs,hd,Array.getElem?_append_left]
   rw [e]
   exact this
  ·rw [fl_none args d (by omega)]
   trivial
 ·intro e s' a' w' h1 h2
  obtain ⟨St',hr⟩:=h2
  have key:∀ {r H'},ARes P ⟨gs,al,w,F0,St,n,none,yl⟩ fn s' r→Q r H'→(∀ Sx a w',RelSt ⟨gs,al,w,F0,St,n,none,yl⟩ Sx s' a w'→HRel al Sx w' w.heap.size F0 H')→LeavesInM Fence.wide 0 P fn a'.tmps (fun e w'=>∃ v_1 r H' St',e=Ending.returned v_1∧Q r H'∧RepC al St' w' r v_1∧Under F0 w w'∧(∀ b,St b→St' b)∧(∀ b,St' b→St b∨w.heap.size≤b∨F0 b)∧(∀ b,St' b→b<w'.heap.size)∧HRel al St' w' w.heap.size F0 H') a'.defers .returning w':=by
   intro r H' hres hq hh
   obtain ⟨Ds,hD,_⟩:=hr.df
   obtain ⟨tmps,ds⟩:=a'
   simp only at hD
   subst hD
   refine leaves_of Ds tmps w' St' hr fun w'' hr'=>?_
   obtain ⟨v,hv,hrep⟩:=hres St' _ w'' hr'
   exact ⟨v,hv,v,r,H',St',rfl,hq,hrep,hr'.un,hr'.s1,hr'.s2,hr'.s3,hh St' _ w'' hr'⟩
  cases e with
  | normal=>obtain ⟨r,H',hres,hq,hh⟩:=h1;exact key hres hq hh
  | ret=>obtain ⟨r,H',hres,hq,hh⟩:=h1;exact key hres hq hh
  | _=>exact h1.elim
theorem ac_of {gs:List Nat} {f:FuncId} {fn:Func} {H:List (Option Nat×Res)} {args:List CV} {Q:CV→List (Option Nat×Res)→Prop} (n:Nat) (hf:P.funcs[f]?=some fn) (hb:fn.body=some c) (hn:fn.ntmps=n) (hle:Nat.ble args.length n=true)
  (h:∀ (al:List Addr) (w0:World) (F0 St0:Nat→Prop),ACode P ⟨gs,al,w0,F0,St0,n,none,false⟩ c ⟨env0 0 args,fun _=>.top,H⟩ (bodyR P ⟨gs,al,w0,F0,St0,n,none,false⟩ fn Q)):AC gs P f H args Q:=ac_ofY false n hf hb hn hle h

theorem ac_oF {gs:List Nat} {f:FuncId} {fn:Func} {H:List (Option Nat×Res)} {args:List CV} {Q:CV→List (Option Nat×Res)→Prop} (n:Nat) (hf:P.funcs[f]?=some fn)
  (h:∀ (al:List Addr) (w0:World) (F0 St0:Nat→Prop),ACode P ⟨gs,al,w0,F0,St0,n,none,false⟩ c ⟨env0 0 args,fun _=>.top,H⟩ (bodyR P ⟨gs,al,w0,F0,St0,n,none,false⟩ fn Q)) (hb:fn.body=some c:=by exact rfl) (hn:fn.ntmps=n:=by exact rfl) (hle:Nat.ble args.length n=true:=by exact rfl):AC gs P f H args Q:=ac_of n hf hb hn hle h

theorem end_pure {fn:Func} {Q:CV→List (Option Nat×Res)→Prop} {e:Exit} (he:e=.ret∨e=.normal) (v:CV) (hres:ARes P G fn s v) (hq:Q v []):bodyR P G fn Q e s:=by
 have h:∃ r H',ARes P G fn s r∧Q r H'∧∀ St a w,RelSt G St s a w→HRel G.al St w G.w0.heap.size G.F0 H':=⟨v,[],hres,hq,fun _ _ _ _=>HRel.none _ _ _ _ _⟩
 rcases he with rfl|rfl <;> exact h
theorem end_own {fn:Func} {Q:CV→List (Option Nat×Res)→Prop} {e:Exit} (he:e=.ret∨e=.normal) (v:CV) (H':List (Option Nat×Res)) (l:List Nat) (hl:l.Nodup) (hH:pickL s.H l=H') (hres:ARes P G fn s v) (hq:Q v H'):bodyR P G fn Q e s:=by
 have h:∃ r H',ARes P G fn s r∧Q r H'∧∀ St a w,RelSt G St s a w→HRel G.al St w G.w0.heap.size G.F0 H':=⟨v,H',hres,hq,fun _ _ _ hr=>hr.hp.pick l hl hH⟩
 rcases he with rfl|rfl <;> exact h

theorem ARes.ent {fn:Func} {v v':CV} (h:ARes P G fn s v) (hv:CEnt v v'):ARes P G fn s v':=fun St a w hr=>by
 obtain ⟨x,h1,h2⟩:=h St a w hr
 exact ⟨x,h1,hv _ _ _ _ h2⟩
end
end
section
section
variable {P:Program} {G:Gh} {ops:Array Oper} {o:Oper} {s:AS}

theorem evC {St:Nat→Prop} {a:Act} {w:World} (h:RelSt G St s a w) {x:Operand} {v:Value} (hx:s.eval x=.c v):a.eval x=v:=by
 have:=h.eval x
 rw [hx] at this
 exact this
theorem evR {St:Nat→Prop} {a:Act} {w:World} (h:RelSt G St s a w) {x:Operand} {c:CV} (hx:s.eval x=c):RepC G.al St w c (a.eval x):=hx ▸ h.eval x
theorem vOk {x:Sem Value} {v:Value} {W W':World} (h:x.run P W=.ok v W'):(do pure (Next.value (← x)):Sem Next).run P W=.ok (.value v) W':=by
 simp [h]

theorem rd_move {x:Operand} {v:CV} (ho:o.op=.move x) (hv:s.eval x=v):ARd P G o s v:=fun _ a _ h=>⟨a.eval x,fun W _=>BigFrame.run_move x ho W,evR h hv⟩
theorem rd_assign {x:Operand} {v:CV} (ho:o.op=.assign x) (hv:s.eval x=v):ARd P G o s v:=fun _ a _ h=>⟨a.eval x,fun W _=>BigFrame.run_assign x ho W,evR h hv⟩

def binS (op:BinOp) (t:TypeId) (x y:Operand) (p q:Value):Sem Value:=do eqGuard op t x y p q;binOp op t p q
theorem rd_bin {op:BinOp} {t u:TypeId} {x y:Operand} {p q v:Value} (ho:o.op=.binOp op t x y u) (hx:s.eval x=.c p) (hy:s.eval y=.c q)
  (hr:∀ W,(binS op t x y p q).run P W=.ok v W):ARd P G o s (.c v):=fun _ a _ h =>
 ⟨v,fun W _=>by simp only [execOp,ho,evC h hx,evC h hy];exact vOk (hr W),rfl⟩

variable {t u:TypeId} {x y:Operand} {k:IntKind} {a b:Int}
theorem rd_add (ho:o.op=.binOp .add t x y u) (hx:s.eval x=.c (.int k a)) (hy:s.eval y=.c (.int k b)) (hr:k.wrap (a+b)=a+b):ARd P G o s (.c (.int k (a+b))) :=
 rd_bin ho hx hy fun W=>by simp [binS,eqGuard,binOp,Op.intArith,hr]
theorem rd_sub (ho:o.op=.binOp .sub t x y u) (hx:s.eval x=.c (.int k a)) (hy:s.eval y=.c (.int k b)) (hr:k.wrap (a-b)=a-b):ARd P G o s (.c (.int k (a-b))) :=
 rd_bin ho hx hy fun W=>by simp [binS,eqGuard,binOp,Op.intArith,hr]
theorem rd_mul (ho:o.op=.binOp .mul t x y u) (hx:s.eval x=.c (.int k a)) (hy:s.eval y=.c (.int k b)) (hr:k.wrap (a * b)=a * b):ARd P G o s (.c (.int k (a * b))) :=
 rd_bin ho hx hy fun W=>by simp [binS,eqGuard,binOp,Op.intArith,hr]
theorem beqD {α:Type} [BEq α] [LawfulBEq α] [DecidableEq α] (a b:α):(a == b)=decide (a=b):=by
 by_cases h:a=b
 ·subst h;simp
 ·simp [h]
theorem eqG_int (op:BinOp) (t:TypeId) (x y:Operand) (k k':IntKind) (a b:Int) (W:World):(eqGuard op t x y (.int k a) (.int k' b)).run P W=.ok () W:=by
 unfold eqGuard
 split <;> simp
theorem rd_eqI (ho:o.op=.binOp .eql t x y u) (hx:s.eval x=.c (.int k a)) (hy:s.eval y=.c (.int k b)):ARd P G o s (.c (.bool (decide (a=b)))) :=
 rd_bin ho hx hy fun W=>by simp [binS,eqG_int,binOp,Op.intCmp];exact beqD ..
theorem rd_neI (ho:o.op=.binOp .neq t x y u) (hx:s.eval x=.c (.int k a)) (hy:s.eval y=.c (.int k b)):ARd P G o s (.c (.bool (decide (a≠b)))) :=
 rd_bin ho hx hy fun W=>by simp [binS,eqG_int,binOp,Op.intCmp,bne,beqD]
theorem rd_lt (ho:o.op=.binOp .lss t x y u) (hx:s.eval x=.c (.int k a)) (hy:s.eval y=.c (.int k b)):ARd P G o s (.c (.bool (decide (a<b)))) :=
 rd_bin ho hx hy fun W=>by simp [binS,eqG_int,binOp,Op.intCmp]
theorem rd_le (ho:o.op=.binOp .leq t x y u) (hx:s.eval x=.c (.int k a)) (hy:s.eval y=.c (.int k b)):ARd P G o s (.c (.bool (decide (a≤b)))) :=
 rd_bin ho hx hy fun W=>by simp [binS,eqG_int,binOp,Op.intCmp]
theorem rd_gt (ho:o.op=.binOp .gtr t x y u) (hx:s.eval x=.c (.int k a)) (hy:s.eval y=.c (.int k b)):ARd P G o s (.c (.bool (decide (b<a)))) :=
 rd_bin ho hx hy fun W=>by simp [binS,eqG_int,binOp,Op.intCmp]
theorem rd_ge (ho:o.op=.binOp .geq t x y u) (hx:s.eval x=.c (.int k a)) (hy:s.eval y=.c (.int k b)):ARd P G o s (.c (.bool (decide (b≤a)))) :=
 rd_bin ho hx hy fun W=>by simp [binS,eqG_int,binOp,Op.intCmp]
theorem ARd.int {z z':Int} (h:ARd P G o s (.c (.int k z))) (e:z=z'):ARd P G o s (.c (.int k z')):=e ▸ h
theorem ARd.bool {z z':Bool} (h:ARd P G o s (.c (.bool z))) (e:z=z'):ARd P G o s (.c (.bool z')):=e ▸ h
theorem ARd.ent {v v':CV} (h:ARd P G o s v) (e:CEnt v v'):ARd P G o s v':=fun St a w hr=>by
 obtain ⟨x,h1,h2⟩:=h St a w hr
 exact ⟨x,h1,e _ _ _ _ h2⟩

theorem eqG_bool (op:BinOp) (t:TypeId) (x y:Operand) (a b:Bool) (W:World):(eqGuard op t x y (.bool a) (.bool b)).run P W=.ok () W:=by
 unfold eqGuard
 split <;> simp
theorem rd_eqB {a b:Bool} (ho:o.op=.binOp .eql t x y u) (hx:s.eval x=.c (.bool a)) (hy:s.eval y=.c (.bool b)) (ht:P.underlying t=some .bool):ARd P G o s (.c (.bool (a == b))) :=
 rd_bin ho hx hy fun W=>by unfold binS;simp only [Sem.run_bind,eqG_bool,Result.andThen_ok];first|exact run_eql_bool W t a b ht|exact run_neq_bool W t a b ht
theorem rd_neB {a b:Bool} (ho:o.op=.binOp .neq t x y u) (hx:s.eval x=.c (.bool a)) (hy:s.eval y=.c (.bool b)) (ht:P.underlying t=some .bool):ARd P G o s (.c (.bool (!(a == b)))) :=
 rd_bin ho hx hy fun W=>by unfold binS;simp only [Sem.run_bind,eqG_bool,Result.andThen_ok];first|exact run_eql_bool W t a b ht|exact run_neq_bool W t a b ht

theorem eqG_str (op:BinOp) (t:TypeId) (x y:Operand) (a b:ByteArray) (W:World):(eqGuard op t x y (.string a) (.string b)).run P W=.ok () W:=by
 unfold eqGuard
 split <;> simp
theorem toList_inj {a b:ByteArray}:(a.toList=b.toList)↔a=b:=by
 constructor
 ·intro h
  rw [Go.ByteArray.toList_eq,Go.ByteArray.toList_eq] at h
  cases a;cases b
  simp at h
  rw [h]
 ·rintro rfl;rfl
theorem rd_eqS {a b:ByteArray} (ho:o.op=.binOp .eql t x y u) (hx:s.eval x=.c (.string a)) (hy:s.eval y=.c (.string b)):ARd P G o s (.c (.bool (decide (a=b)))) :=
 rd_bin ho hx hy fun W=>by simp [binS,eqG_str,binOp,Op.stringOp,beqD,toList_inj]
theorem rd_neS {a b:ByteArray} (ho:o.op=.binOp .neq t x y u) (hx:s.eval x=.c (.string a)) (hy:s.eval y=.c (.string b)):ARd P G o s (.c (.bool (decide (a≠b)))) :=
 rd_bin ho hx hy fun W=>by simp [binS,eqG_str,binOp,Op.stringOp,beqD,toList_inj]
theorem rd_ltS {a b:ByteArray} (ho:o.op=.binOp .lss t x y u) (hx:s.eval x=.c (.string a)) (hy:s.eval y=.c (.string b)):ARd P G o s (.c (.bool (Op.bytesLess a.toList b.toList))) :=
 rd_bin ho hx hy fun W=>by simp [binS,eqG_str,binOp,Op.stringOp]
theorem rd_gtS {a b:ByteArray} (ho:o.op=.binOp .gtr t x y u) (hx:s.eval x=.c (.string a)) (hy:s.eval y=.c (.string b)):ARd P G o s (.c (.bool (!(Op.bytesLess a.toList b.toList || a.toList == b.toList)))) :=
 rd_bin ho hx hy fun W=>by simp [binS,eqG_str,binOp,Op.stringOp]
theorem rd_eqE {n:Nat} (ho:o.op=.binOp .eql 27 x (.const .nilIface) u) (hx:s.eval x=.err n):ARd Tryd.prog G o s (.c (.bool (decide (n=0)))):=fun St a w h =>
 ⟨_,fun W _=>by
  have e:a.eval x=ev G.al n:=evR h hx
  simp only [execOp,ho,e]
  refine vOk ?_
  show (do eqGuard .eql _ _ _ (ev G.al n) .nilIface;binOp .eql _ (ev G.al n) .nilIface:Sem Value).run _ W=_
  rw [eqGuard_ev_nil]
  exact run_eql_ev_nil G.al n W,rfl⟩
theorem rd_neE {n:Nat} (ho:o.op=.binOp .neq 27 x (.const .nilIface) u) (hx:s.eval x=.err n):ARd Tryd.prog G o s (.c (.bool (decide (n≠0)))):=fun St a w h =>
 ⟨_,fun W _=>by
  have e:a.eval x=ev G.al n:=evR h hx
  simp only [execOp,ho,e]
  refine vOk ?_
  show (do eqGuard .neq _ _ _ (ev G.al n) .nilIface;binOp .neq _ (ev G.al n) .nilIface:Sem Value).run _ W=_
  rw [eqGuard_ev_nil]
  have:=run_neq_ev_nil G.al n W
  rw [← decide_not] at this
  exact this,rfl⟩


theorem rd_not {p:Bool} (ho:o.op=.unOp .not t x) (hx:s.eval x=.c (.bool p)):ARd P G o s (.c (.bool (!p))):=fun _ _ _ h =>
 ⟨_,fun W _=>by simp only [execOp,ho,evC h hx];exact vOk (by simp [Op.unary]),rfl⟩
def byF (l:List UInt8) (i:Nat):CV:=.c (.int .u8 ((l.getD i 0).toNat:Nat))
def bsC (l:List UInt8):CV:=.rs 1 l.length fun i _=>byF l i

theorem rd_extract {n i:Nat} {f:Nat→CV} {v:CV} (ho:o.op=.extract x i) (hx:s.eval x=.tup n f) (hi:Nat.blt i n=true) (hv:f i=v):ARd P G o s v:=fun St a w h=>by
 obtain ⟨cs,e,hn,hf⟩:=evR h hx
 have hlt:i<n:=Nat.le_of_ble_eq_true hi
 refine ⟨cs.getD i undef,fun W _=>?_,hv ▸ hf i hlt⟩
 simp only [execOp,ho,e]
 refine vOk ?_
 have:i<cs.size:=by omega
 simp [Instr.extract,this]

def aggB (P:Program) (t:TypeId):Bool:=match P.underlying t with|some (.struct _)|some (.array _ _)=>true|_=>false
theorem run_isAgg {d:TypeDesc} (h:P.underlying t=some d) (W:World):(isAgg t).run P W=.ok (aggB P t) W:=by
 unfold isAgg aggB
 simp only [Sem.run_bind,underlying,run_program,Result.andThen_ok,h]
 cases d <;> simp

theorem run_fieldPlace {fd:Field} {info:TypeInfo} {b q:Nat} (h5:P.info? fd.type=some info) (h6:info.size≠0) (W:World):(fieldPlace ⟨b,q,none⟩ fd).run P W=.ok ⟨b,q+fd.offset,none⟩ W:=by
 simp [fieldPlace,sizeOf,typeInfo,h5,h6,Addr.add_lit]
theorem rd_faddrR {fs:Array Field} {fd:Field} {n i m:Nat} {f:Nat→CV} (ho:o.op=.fieldAddr t x i) (hx:s.eval x=.rp n f) (h1:P.underlying t=some (.struct fs)) (h2:fs[i]?=some fd)
  (h5:(P.info? fd.type).map (·.size)=some m) (h6:Nat.blt 0 m=true):ARd P G o s (.rp (n-fd.offset) fun j=>f (fd.offset+j)):=fun St a w h=>by
 obtain ⟨info,h5i,h7⟩:=Option.map_eq_some_iff.1 h5
 subst h7
 clear h5
 obtain ⟨b,q,e,hb,hf⟩:=evR h hx
 refine ⟨.pointer (some ⟨b,q+fd.offset,none⟩),fun W _=>?_,b,q+fd.offset,rfl,hb,fun j hj=>?_⟩
 ·simp only [execOp,ho,e]
  refine vOk ?_
  simp [Instr.fieldAt,underlying,h1,h2,Instr.sureAddr,run_fieldPlace h5i (show info.size≠0 by have:=Nat.le_of_ble_eq_true h6;omega)]
 ·rw [Nat.add_assoc];exact hf _ (by omega)
theorem rd_faddrO {fs:Array Field} {fd:Field} {i j off m:Nat} {g:Option Nat} (ho:o.op=.fieldAddr t x i) (hx:s.eval x=.op j g off) (h1:P.underlying t=some (.struct fs)) (h2:fs[i]?=some fd)
  (h5:(P.info? fd.type).map (·.size)=some m) (h6:Nat.blt 0 m=true):ARd P G o s (.op j g (off+fd.offset)):=fun St a w h=>by
 obtain ⟨info,h5i,h7⟩:=Option.map_eq_some_iff.1 h5
 subst h7
 clear h5
 obtain ⟨b,rfl,e⟩:=evR h hx
 refine ⟨.pointer (some ⟨b,off+fd.offset,none⟩),fun W _=>?_,b,rfl,rfl⟩
 simp only [execOp,ho,e]
 refine vOk ?_
 simp [Instr.fieldAt,underlying,h1,h2,Instr.sureAddr,run_fieldPlace h5i (show info.size≠0 by have:=Nat.le_of_ble_eq_true h6;omega)]

theorem addr_add (b q m:Nat):Addr.add ⟨b,q,none⟩ m=⟨b,q+m,none⟩:=Addr.add_lit b q m
theorem rd_iaddrR {e:TypeId} {n m i:Nat} {f:Nat→Nat→CV} {z:Int} (ho:o.op=.indexAddr t x y) (hx:s.eval x=.rs m n f) (hy:s.eval y=.c (.int k z)) (h1:P.underlying t=some (.slice e))
  (h5:(P.info? e).map (·.size)=some m) (hz:z=(i:Int)) (hi:i<n) (hm:0<m):ARd P G o s (.rp m (f i)):=fun St a w h=>by
 obtain ⟨info,h5i,h6⟩:=Option.map_eq_some_iff.1 h5
 obtain ⟨ao,cap,e0,h2,h3,h4,h7⟩:=evR h hx
 have ey:a.eval y=.int k z:=evC h hy
 cases ao with
 | none=>have:=h4 rfl;omega
 | some ad =>
  obtain ⟨b,q,sp⟩:=ad
  obtain ⟨h8,h9,h10⟩:=h7 _ rfl (by omega)
  simp only at h8 h9
  subst h8
  refine ⟨.pointer (some ⟨b,q+i * m,none⟩),fun W _=>?_,b,q+i * m,rfl,h9,fun j hj=>?_⟩
  ·simp only [execOp,ho,e0,ey]
   refine vOk ?_
   subst hz
   simp [Instr.indexAt,asIntOf,underlying,h1,sizeOf,typeInfo,h5i,h6,hi,addr_add]
  ·obtain ⟨v,hv,hr⟩:=h10 i j hi hj
   exact ⟨v,by rw [Nat.add_assoc];exact hv,hr⟩
theorem rd_iaddrO {e:TypeId} {j off n m i:Nat} {g:Option Nat} {z:Int} (ho:o.op=.indexAddr t x y) (hx:s.eval x=.os j g off n m) (hy:s.eval y=.c (.int k z)) (h1:P.underlying t=some (.slice e))
  (h5:(P.info? e).map (·.size)=some m) (hz:z=(i:Int)) (hi:i<n):ARd P G o s (.op j g (off+i * m)):=fun St a w h=>by
 obtain ⟨info,h5i,h6⟩:=Option.map_eq_some_iff.1 h5
 obtain ⟨b,rfl,cap,e0⟩:∃ b,g=some b∧∃ cap,a.eval x=.slice (some ⟨b,off,none⟩) n cap:=by
  have he:=evR h hx
  cases g with
  | none=>have:=he.1;omega
  | some b=>obtain ⟨cap,e0,_⟩:=he;exact ⟨b,rfl,cap,e0⟩
 have ey:a.eval y=.int k z:=evC h hy
 refine ⟨.pointer (some ⟨b,off+i * m,none⟩),fun W _=>?_,b,rfl,rfl⟩
 simp only [execOp,ho,e0,ey]
 refine vOk ?_
 subst hz
 simp [Instr.indexAt,asIntOf,underlying,h1,sizeOf,typeInfo,h5i,h6,hi,addr_add]
theorem run_loadVar1 {d:TypeDesc} (h:P.underlying t=some d) (ha:aggB P t=false) {w:World} {p:Addr} {v:Value} (hc:w.cell? p=some v):(loadVar t p).run P w=.ok v w:=by
 simp [loadVar,run_isAgg h,ha,hc]
theorem run_loadVarA {d:TypeDesc} {info:TypeInfo} (h:P.underlying t=some d) (ha:aggB P t=true) (h5:P.info? t=some info) {w:World} {b q:Nat} {g:Nat→Value} (hc:∀ j,j<info.size→w.cell? ⟨b,q+j,none⟩=some (g j)) :
  (loadVar t ⟨b,q,none⟩).run P w=.ok (.agg ((List.range info.size).map g).toArray) w:=by
 have:=run_loadCells (P:=P) (w:=w) ⟨b,q,none⟩ info.size g (fun j hj=>by rw [addr_add];exact hc j hj)
 simp [loadVar,run_isAgg h,ha,sizeOf,typeInfo,h5,this]

theorem exec_load (ho:o.op=.load t x) {a:Act} {W:World} {p:Addr} {v:Value} (hp:a.eval x=.pointer (some p)) (hl:(loadVar t p).run P W=.ok v W):(execOp a.eval o).run P W=.ok (.value v) W:=by
 simp only [execOp,ho,hp]
 exact vOk (by simp [Instr.loadAt,Instr.sureAddr,hl])

theorem rd_loadR {d:TypeDesc} {n:Nat} {f:Nat→CV} {v:CV} (ho:o.op=.load t x) (hx:s.eval x=.rp n f) (h1:P.underlying t=some d) (ha:aggB P t=false) (hn:0<n) (hv:f 0=v):ARd P G o s v:=fun St a w h=>by
 obtain ⟨b,q,e,hb,hf⟩:=evR h hx
 obtain ⟨u,hu,hr⟩:=hf 0 hn
 refine ⟨u,fun W hW=>exec_load ho e (run_loadVar1 h1 ha ?_),hv ▸ hr⟩
 exact (cell_of_block (hW b hb) q).trans hu
theorem choose_cells {p:Nat→Value→Prop} {n:Nat} (h:∀ j,j<n→∃ v,p j v):∃ g:Nat→Value,∀ j,j<n→p j (g j):=by
 classical
 exact ⟨fun j=>if hj:j<n then (h j hj).choose else undef,fun j hj=>by simp only [dif_pos hj];exact (h j hj).choose_spec⟩
theorem rd_loadRA {d:TypeDesc} {n m:Nat} {f:Nat→CV} (ho:o.op=.load t x) (hx:s.eval x=.rp n f) (h1:P.underlying t=some d) (ha:aggB P t=true) (h5:(P.info? t).map (·.size)=some m) (hn:m≤n):ARd P G o s (.agg m f):=fun St a w h=>by
 obtain ⟨info,h5i,h6⟩:=Option.map_eq_some_iff.1 h5
 obtain ⟨b,q,e,hb,hf⟩:=evR h hx
 obtain ⟨g,hg⟩:=choose_cells (fun j (hj:j<n)=>hf j hj)
 subst h6
 refine ⟨_,fun W hW=>exec_load ho e (run_loadVarA h1 ha h5i (g:=g) fun j hj=>?_),_,rfl,by simp,fun i hi=>?_⟩
 ·exact (cell_of_block (hW b hb) _).trans (hg j (by omega)).1
 ·simp [hi];exact (hg i (by omega)).2

theorem blkCells {St:Nat→Prop} {a:Act} {w:World} (h:RelSt G St s a w) {i g n:Nat} {f:Nat→CV} (hH:s.H[i]?=some (some g,.blk n f)) :
  g<w.heap.size∧∃ cur t z,w.heap[g]?=some (.cells cur t z)∧n≤cur.size∧∀ j,j<n→RepC G.al St w (f j) (cur.getD j undef):=by
 obtain ⟨fp,hp⟩:=h.hp
 obtain ⟨h0,cur,t,h1,h2,h4⟩:=hp.rep i (some g) _ hH
 exact ⟨(hp.own i g ((h0 g).2 rfl)).1,cur,t,_,h1,h2,h4⟩
theorem frzCells {St:Nat→Prop} {a:Act} {w:World} (h:RelSt G St s a w) {i g n:Nat} {f:Nat→CV} (hH:s.H[i]?=some (some g,.frz n f)) :
  g<w.heap.size∧∃ cur t z,w.heap[g]?=some (.cells cur t z)∧n≤cur.size∧∀ j,j<n→RepC G.al St w (f j) (cur.getD j undef):=by
 obtain ⟨fp,hp⟩:=h.hp
 obtain ⟨h0,hg,h1⟩:=hp.rep i (some g) _ hH
 exact ⟨h.s3 g hg,h1⟩
def Holds (s:AS) (i:Nat) (g:Option Nat) (n:Nat) (f:Nat→CV):Prop:=s.H[i]?=some (g,.blk n f)∨s.H[i]?=some (g,.frz n f)
theorem holdCells {St:Nat→Prop} {a:Act} {w:World} (h:RelSt G St s a w) {i g n:Nat} {f:Nat→CV} (hH:Holds s i (some g) n f) :
  g<w.heap.size∧∃ cur t z,w.heap[g]?=some (.cells cur t z)∧n≤cur.size∧∀ j,j<n→RepC G.al St w (f j) (cur.getD j undef):=by
 rcases hH with hH|hH
 ·exact blkCells h hH
 ·exact frzCells h hH
theorem rd_loadO {d:TypeDesc} {i off n:Nat} {g:Option Nat} {f:Nat→CV} {v:CV} (ho:o.op=.load t x) (hx:s.eval x=.op i g off) (hH:Holds s i g n f) (h1:P.underlying t=some d) (ha:aggB P t=false) (hn:off<n) (hv:f off=v):ARdO P G o s v:=fun St a w h=>by
 obtain ⟨b,rfl,e⟩:=evR h hx
 obtain ⟨hg,cur,ty,z,hh,hle,hc⟩:=holdCells h hH
 have hlt:off<cur.size:=by omega
 have hcell:w.cell? ⟨b,off,none⟩=some (cur.getD off undef):=by
  rw [cell_of_row w b off cur ty z hh];simp [hlt]
 refine ⟨_,fun W hW=>exec_load ho e (run_loadVar1 h1 ha ?_),hv ▸ hc off hn⟩
 exact (cell_of_block (hW.block b hg) off).trans hcell
theorem rd_loadOA {d:TypeDesc} {i off n m:Nat} {g:Option Nat} {f:Nat→CV} (ho:o.op=.load t x) (hx:s.eval x=.op i g off) (hH:Holds s i g n f) (h1:P.underlying t=some d) (ha:aggB P t=true) (h5:(P.info? t).map (·.size)=some m) (hn:off+m≤n):ARdO P G o s (.agg m fun j=>f (off+j)):=fun St a w h=>by
 obtain ⟨info,h5i,h6⟩:=Option.map_eq_some_iff.1 h5
 obtain ⟨b,rfl,e⟩:=evR h hx
 obtain ⟨hg,cur,ty,z,hh,hle,hc⟩:=holdCells h hH
 subst h6
 refine ⟨_,fun W hW=>exec_load ho e (run_loadVarA h1 ha h5i (g:=fun j=>cur.getD (off+j) undef) fun j hj=>?_),_,rfl,by simp,fun j hj=>?_⟩
 ·have hlt:off+j<cur.size:=by omega
  have hcell:w.cell? ⟨b,off+j,none⟩=some (cur.getD (off+j) undef):=by
   rw [cell_of_row w b (off+j) cur ty z hh];simp [hlt]
  exact (cell_of_block (hW.block b hg) _).trans hcell
 ·have:=hc (off+j) (by omega)
  simp [hj] at this ⊢
  exact this
theorem rd_loadE (i:Nat) [h0:HasE G.gs i] {d:TypeDesc} {g:Nat} (ho:o.op=.load t (.global g)) (hg:gs[i]?=some g) (h1:P.underlying t=some d) (ha:aggB P t=false):ARd P G o s (.err (i+1)):=fun St a w h=>by
 have hl:=h0.lt g hg
 have hg:(errG G.gs)[i]?=some g:=by rw [h0.eq];exact hg
 have hc:=h.sn.var i g hg hl
 refine ⟨_,fun W hW=>exec_load ho (p:=⟨g,0,none⟩) rfl (run_loadVar1 h1 ha ?_),rfl⟩
 exact (cell_of_block (hW g (h.sg.1 g hl)) 0).trans hc

theorem rd_nilO {i off:Nat} {g:Option Nat} (ho:o.op=.nilCheck x) (hx:s.eval x=.op i g off):ARd P G o s (.op i g off):=fun St a w h=>by
 obtain ⟨b,rfl,e⟩:=evR h hx
 exact ⟨_,fun W _=>by simp only [execOp,ho,e];rfl,b,rfl,rfl⟩
theorem rd_nilR {n:Nat} {f:Nat→CV} (ho:o.op=.nilCheck x) (hx:s.eval x=.rp n f):ARd P G o s (.rp n f):=fun St a w h=>by
 obtain ⟨b,q,e,hb,hf⟩:=evR h hx
 exact ⟨_,fun W _=>by simp only [execOp,ho,e];rfl,b,q,rfl,hb,hf⟩
theorem rd_nilF {n:Nat} {g:FuncId} {f:Nat→CV} (ho:o.op=.nilCheck x) (hx:s.eval x=.fn g n f):ARd P G o s (.fn g n f):=fun St a w h=>by
 obtain ⟨cs,e,hn,hf⟩:=evR h hx
 exact ⟨_,fun W _=>by simp only [execOp,ho,e];rfl,cs,rfl,hn,hf⟩

theorem rd_pickT {z x' y':Operand} {v:CV} (ho:o.op=.pick z x' y') (hz:s.eval z=.c (.bool true)) (hx:s.eval x'=v):ARd P G o s v:=fun St a w h =>
 ⟨a.eval x',fun W _=>by simp only [execOp,ho,evC h hz];simp [asBool],evR h hx⟩
theorem rd_pickF {z x' y':Operand} {v:CV} (ho:o.op=.pick z x' y') (hz:s.eval z=.c (.bool false)) (hy:s.eval y'=v):ARd P G o s v:=fun St a w h =>
 ⟨a.eval y',fun W _=>by simp only [execOp,ho,evC h hz];simp [asBool],evR h hy⟩
end
end
section
section
variable {P:Program} {G:Gh} {ops:Array Oper} {o:Oper} {s:AS} {K:AS→Prop} {t u:TypeId} {x y:Operand} {k:IntKind}

def AS.with (s:AS) (dst:Option Tmp) (v:CV) (H:List (Option Nat×Res)):AS:=⟨(s.put dst v).env,s.b,H⟩

theorem HFoot.len {al:List Addr} {St:Nat→Prop} {w:World} {base:Nat} {F0:Nat→Prop} {H:List (Option Nat×Res)} {fp:Nat→Nat→Prop} (h:HFoot al St w base F0 H fp) {i b:Nat} (hb:fp i b):i<H.length:=by
 rcases Nat.lt_or_ge i H.length with h1|h1
 ·exact h1
 ·exact absurd hb (h.out i h1 b)

theorem RelSt.fresh {St:Nat→Prop} {a:Act} {w w':World} (h:RelSt G St s a w) (hb:Below w.heap.size w w') {g:Nat} (hg:w.heap.size≤g) {cs:Array Value} {ty:TypeId} (hc:w'.heap[g]?=some (.cells cs ty (0,0)))
  {n:Nat} {f:Nat→CV} (hn:n≤cs.size) (hf:∀ j,j<n→RepC G.al St w' (f j) (cs.getD j undef)):RelSt G St ⟨s.env,s.b,s.H++[(some g,.blk n f)]⟩ a w':=by
 have h1:=h.ext hb
 have hlt:g<w'.heap.size:=(Array.getElem?_eq_some_iff.1 hc).1
 refine ⟨h1.df,h1.sz,h1.env,h1.un,h1.s1,h1.s2,h1.s3,?_,h1.sn,h1.sg⟩
 obtain ⟨fp,hp⟩:=h.hp
 obtain ⟨fp1,hp1⟩:=h1.hp
 have he:Evo St w w':=Evo.of_below hb h.s3
 have hnew:∀ i,¬ fp i g:=fun i hi=>by have:=(hp.own i g hi).1;omega
 refine ⟨fun i b=>if i=s.H.length then b=g else fp i b,fun i q r hi=>?_,fun i j b h2 h3=>?_,fun i b h2=>?_,fun i hi b h2=>?_⟩
 ·by_cases e:i=s.H.length
  ·subst e
   simp at hi
   obtain ⟨rfl,rfl⟩:=hi
   exact ⟨fun b=>by simp,cs,ty,hc,hn,hf⟩
  ·have hi':s.H[i]?=some (q,r):=by
    rcases Nat.lt_or_ge i s.H.length with h4|h4
    ·rwa [List.getElem?_append_left h4] at hi
    ·rw [List.getElem?_eq_none (by simp;omega)] at hi;cases hi
   have e2:(fun b=>if i=s.H.length then b=g else fp i b)=fp i:=funext fun b=>by simp [e]
   show r.rep G.al St w' (fun b=>if i=s.H.length then b=g else fp i b) q
   rw [e2]
   exact Res.rep_evo he (fun _ x=>x) (fun b hF=>hb.block b (hp.own i b hF).1) (hp.rep i q r hi')
 ·by_cases e1:i=s.H.length <;> by_cases e2:j=s.H.length
  ·omega
  ·simp only [e1,e2,if_true,if_false] at h2 h3;subst h2;exact absurd h3 (hnew j)
  ·simp only [e1,e2,if_true,if_false] at h2 h3;subst h3;exact absurd h2 (hnew i)
  ·simp only [e1,e2,if_false] at h2 h3;exact hp.dis i j b h2 h3
 ·by_cases e:i=s.H.length
  ·simp only [e,if_true] at h2
   subst h2
   exact ⟨hlt,fun hs=>by have:=h.s3 _ hs;omega,.inl (Nat.le_trans h.un.size hg)⟩
  ·simp only [e,if_false] at h2
   obtain ⟨h3,h4,h5⟩:=hp.own i b h2
   exact ⟨Nat.lt_of_lt_of_le h3 hb.size,h4,h5⟩
 ·have e:i≠s.H.length:=by simp at hi;omega
  simp only [e,if_false] at h2
  exact hp.out i (by simp at hi;omega) b h2

theorem below_alloc (w:World) (x:Obj):Below w.heap.size w (w.alloc x):=(Below.refl _ _).alloc (Nat.le_refl _) _

theorem AEx.new {n:Nat} {f:Nat→CV} (hd:dstOk G o=true) (v:Option Nat→CV)
  (h:∀ St a w,RelSt G St s a w→∃ w' g cs ty x,(execOp a.eval o).run P w=.ok (.value x) w'∧Below w.heap.size w w'∧w.heap.size≤g∧w'.heap[g]?=some (.cells cs ty (0,0))∧n≤cs.size∧(∀ j,j<n→RepC G.al St w' (f j) (cs.getD j undef))∧RepC G.al St w' (v (some g)) x)
  (hK:∀ g,K (s.with o.dst (v g) (s.H++[(g,.blk n f)]))):AEx P G o s K:=fun St a w hr Q=>by
 obtain ⟨w',g,cs,ty,x,h1,h2,h3,h4,h5,h6,h7⟩:=h St a w hr
 unfold Oper.wp
 rw [h1]
 refine ⟨h2,St,fun _ h=>h,_,hK (some g),?_⟩
 have:=(hr.fresh h2 h3 h4 h5 h6).put (dst:=o.dst) (v:=v (some g)) (x:=x) (dst_of hd) h7
 cases ho:o.dst with
 | none=>rw [ho] at this;exact this
 | some d=>rw [ho] at this;exact this

theorem ex_alloc {z:Value} {n:Nat} (ho:o.op=.alloc t) (hz:(P.info? t).map (·.zero)=some (some z)) (hn:z.cells.size=n) (hd:dstOk G o=true)
  (hK:∀ g,K (s.with o.dst (.op s.H.length g 0) (s.H++[(g,.blk n fun j=>.c (z.cells.getD j undef))]))):AEx P G o s K :=
 AEx.new hd (fun g=>.op s.H.length g 0) (fun St a w hr=>by
  obtain ⟨info,hi,hz⟩:=Option.map_eq_some_iff.1 hz
  refine ⟨w.alloc (.cells z.cells t),w.heap.size,z.cells,t,.pointer (some ⟨w.heap.size,0,none⟩),?_,below_alloc w _,Nat.le_refl _,heap_alloc_new w _,by omega,fun j _=>rfl,_,rfl,rfl⟩
  simp only [execOp,ho]
  refine vOk ?_
  simp [Instr.alloc,zeroValue,typeInfo,hi,hz,newVar,newRow]) hK

def cellsC:CV→Option (List CV)
 | .agg n f=>some ((List.range n).map f)
 | .c (.tuple _)=>none
 | .c v=>some (v.cells.toList.map .c)
 | .top=>none
 | .tup _ _=>none
 | x=>some [x]
def RepL (al:List Addr) (St:Nat→Prop) (w:World) (l:List CV) (cs:Array Value):Prop:=cs.size=l.length∧∀ i,i<l.length→RepC al St w (fl l i) (cs.getD i undef)

theorem fl_get:∀ (l:List CV) (i:Nat),fl l i=l.getD i .top
 | [],i=>by simp [fl]
 | x::r,0=>rfl
 | x::r,i+1=>by rw [fl,fl_get r i];simp
theorem repL_one {al:List Addr} {St:Nat→Prop} {w:World} {c:CV} {v:Value} (h:RepC al St w c v):RepL al St w [c] #[v] :=
 ⟨rfl,fun i hi=>by
  have:i=0:=by simp at hi;omega
  subst this
  exact h⟩
theorem cells_rep {al:List Addr} {St:Nat→Prop} {w:World}:∀ {c:CV} {v:Value} {l:List CV},RepC al St w c v→cellsC c=some l→RepL al St w l v.cells
 | .agg n f,v,l,⟨cs,h1,h2,h3⟩,hc=>by
  simp only [cellsC,Option.some.injEq] at hc
  subst hc h1
  refine ⟨by simp [Value.cells,h2],fun i hi=>?_⟩
  have hi:i<n:=by simpa using hi
  rw [fl_get]
  have:=h3 i hi
  simpa [Value.cells,hi,List.getD] using this
 | .c u,v,l,h,hc=>by
  have h:v=u:=h
  subst h
  have key:∀ l',cellsC (.c v)=some l'→l'=v.cells.toList.map .c:=by
   intro l' h'
   cases v <;> simp [cellsC] at h' <;> exact h'.symm
  rw [key l hc]
  refine ⟨by simp,fun i hi=>?_⟩
  have hi:i<v.cells.size:=by simpa using hi
  rw [fl_get]
  simp [List.getD,hi]
  rfl
 | .err n,v,l,h,hc=>by
  simp only [cellsC,Option.some.injEq] at hc
  subst hc
  have h':v=ev al n:=h
  have e:v.cells=#[v]:=by subst h';unfold ev;split <;> rfl
  rw [e]
  exact repL_one (c:=.err n) h
 | .rs k n f,v,l,h,hc=>by
  simp only [cellsC,Option.some.injEq] at hc
  subst hc
  have e:v.cells=#[v]:=by obtain ⟨ao,cap,h1,_⟩:=h;subst h1;rfl
  rw [e]
  exact repL_one (c:=.rs k n f) h
 | .rp n f,v,l,h,hc=>by
  simp only [cellsC,Option.some.injEq] at hc
  subst hc
  have e:v.cells=#[v]:=by obtain ⟨b,q,h1,_⟩:=h;subst h1;rfl
  rw [e]
  exact repL_one (c:=.rp n f) h
 | .os i none off n k,v,l,h,hc=>by
  simp only [cellsC,Option.some.injEq] at hc
  subst hc
  have e:v.cells=#[v]:=by rw [h.2];rfl
  rw [e]
  exact repL_one (c:=.os i none off n k) h
 | .os i (some g) off n k,v,l,h,hc=>by
  simp only [cellsC,Option.some.injEq] at hc
  subst hc
  have e:v.cells=#[v]:=by obtain ⟨cap,h1,_⟩:=h;rw [h1];rfl
  rw [e]
  exact repL_one (c:=.os i (some g) off n k) h
 | .op i g off,v,l,h,hc=>by
  simp only [cellsC,Option.some.injEq] at hc
  subst hc
  have e:v.cells=#[v]:=by obtain ⟨b,_,h1⟩:=h;rw [h1];rfl
  rw [e]
  exact repL_one (c:=.op i g off) h
 | .pv p,v,l,h,hc=>by
  simp only [cellsC,Option.some.injEq] at hc
  subst hc
  rw [(p.one h).1]
  exact repL_one (c:=.pv p) h
 | .fn g n f,v,l,h,hc=>by
  simp only [cellsC,Option.some.injEq] at hc
  subst hc
  have e:v.cells=#[v]:=by obtain ⟨cs,h1,_⟩:=h;rw [h1];rfl
  rw [e]
  exact repL_one (c:=.fn g n f) h

theorem ex_box {n:Nat} {c:CV} {l:List CV} (ho:o.op=.box t x) (hx:s.eval x=c) (hl:cellsC c=some l) (hn:l.length=n) (hd:dstOk G o=true)
  (hK:∀ g,K (s.with o.dst (.op s.H.length g 0) (s.H++[(g,.blk n (fl l))]))):AEx P G o s K :=
 AEx.new hd (fun g=>.op s.H.length g 0) (fun St a w hr=>by
  have hr':=cells_rep (evR hr hx) hl
  refine ⟨w.alloc (.cells (a.eval x).cells t),w.heap.size,(a.eval x).cells,t,.pointer (some ⟨w.heap.size,0,none⟩),?_,below_alloc w _,Nat.le_refl _,heap_alloc_new w _,by rw [hr'.1];omega,fun j hj=>?_,_,rfl,rfl⟩
  ·simp only [execOp,ho]
   refine vOk ?_
   simp [Instr.box,newVar,newRow]
  ·exact RepC.evo (Evo.of_below (below_alloc w _) hr.s3) (fun _ h=>h) _ _ (hr'.2 j (by omega))) hK

def setAt:List CV→Nat→List CV→List CV
 | cs,_,[]=>cs
 | cs,i,x::r=>setAt (cs.set i x) (i+1) r
def fillC (place:Nat→Option (Nat×Nat)):List CV→List (Nat×CV)→Option (List CV)
 | cs,[]=>some cs
 | cs,(i,v)::r =>
  match place i,cellsC v with
  | some (off,size),some l=>if l.length≠size || off+l.length>cs.length then none else fillC place (setAt cs off l) r
  | _,_=>none

theorem repL_set {al:List Addr} {St:Nat→Prop} {w:World} {l:List CV} {cs:Array Value} {c:CV} {v:Value} (h:RepL al St w l cs) (i:Nat) (hv:RepC al St w c v):RepL al St w (l.set i c) (cs.setIfInBounds i v):=by
 refine ⟨by simp [h.1],fun j hj=>?_⟩
 have hj:j<l.length:=by simpa using hj
 rw [fl_get]
 have hjc:j<cs.size:=by rw [h.1];exact hj
 by_cases e:i=j
 ·subst e
  simp [List.getD,hj,hjc]
  exact hv
 ·have:=h.2 j hj
  rw [fl_get] at this
  simp [List.getD,e,Array.getElem?_setIfInBounds_ne] at this ⊢
  exact this
theorem repL_setAt {al:List Addr} {St:Nat→Prop} {w:World}:∀ (vs:List Value) (ls:List CV) (l:List CV) (cs:Array Value) (off j:Nat),RepL al St w l cs→vs.length=ls.length→(∀ i,i<ls.length→RepC al St w (fl ls i) (vs.getD i undef)) →
  RepL al St w (setAt l (off+j) ls) ((vs.zipIdx j).foldl (fun cs (c,j)=>cs.setIfInBounds (off+j) c) cs)
 | [],[],_,_,_,_,h,_,_=>h
 | [],_::_,_,_,_,_,_,hl,_=>by simp at hl
 | _::_,[],_,_,_,_,_,hl,_=>by simp at hl
 | v::vs,c::ls,l,cs,off,j,h,hl,hv=>by
  simp only [setAt,List.zipIdx_cons,List.foldl_cons]
  have h0:=hv 0 (by simp)
  have:=repL_setAt vs ls (l.set (off+j) c) (cs.setIfInBounds (off+j) v) off (j+1) (repL_set h _ h0) (by simpa using hl) (fun i hi=>by
   have:=hv (i+1) (by simp;omega)
   simpa [fl] using this)
  rw [← Nat.add_assoc] at this
  exact this
theorem fill_rep {al:List Addr} {St:Nat→Prop} {w:World} {place:Nat→Option (Nat×Nat)}:∀ (ps:List (Nat×Value)) (qs:List (Nat×CV)) (l:List CV) (cs:Array Value) (l':List CV),RepL al St w l cs→ps.length=qs.length →
  (∀ i,i<qs.length→(ps.getD i (0,undef)).1=(qs.getD i (0,.top)).1∧RepC al St w (qs.getD i (0,.top)).2 (ps.getD i (0,undef)).2)→fillC place l qs=some l'→∃ cs',Instr.fill place cs ps=some cs'∧RepL al St w l' cs'
 | [],[],l,cs,l',h,_,_,hf=>by
  simp only [fillC,Option.some.injEq] at hf
  subst hf
  exact ⟨cs,rfl,h⟩
 | [],_::_,_,_,_,_,hl,_,_=>by simp at hl
 | _::_,[],_,_,_,_,hl,_,_=>by simp at hl
 |(i,v)::ps,(j,c)::qs,l,cs,l',h,hl,hv,hf=>by
  obtain ⟨h1,h2⟩:=hv 0 (by simp)
  simp at h1 h2
  subst h1
  rw [fillC] at hf
  split at hf
  ·rename_i off size ls hp hc
   split at hf
   ·cases hf
   ·rename_i hcond
    simp at hcond
    have hr:=cells_rep h2 hc
    obtain ⟨cs',h3,h4⟩:=fill_rep (place:=place) ps qs (setAt l off ls) (v.cells.zipIdx.foldl (fun cs (c,j)=>cs.setIfInBounds (off+j) c) cs) l' (by
     have:=repL_setAt (al:=al) (St:=St) (w:=w) v.cells.toList ls l cs off 0 h (by simpa using hr.1) (fun i hi=>by
      have:=hr.2 i hi
      simpa [List.getD] using this)
     rw [Nat.add_zero] at this
     rw [← Array.foldl_toList,Array.toList_zipIdx]
     exact this) (by simpa using hl) (fun i hi=>by
      have:=hv (i+1) (by simp;omega)
      simpa using this) hf
    refine ⟨cs',?_,h4⟩
    rw [Instr.fill]
    simp only [hp]
    rw [if_neg (by simp [hr.1,h.1];omega)]
    exact h3
  ·cases hf

def plOf (P:Program) (t:TypeId):Option (List (Nat×Nat)):=match P.underlying t with
 | some (.struct fs)=>fs.toList.mapM fun f=>(P.info? f.type).map fun i=>(f.offset,i.size)
 | _=>none
theorem run_places:∀ (fs:List Field) (pl:List (Nat×Nat)) (W:World),(fs.mapM fun f=>(P.info? f.type).map fun i=>(f.offset,i.size))=some pl→(fs.mapM fun f=>do pure (f.offset,← sizeOf f.type):Sem (List (Nat×Nat))).run P W=.ok pl W
 | [],pl,W,h=>by simp at h;subst h;rfl
 | f::fs,pl,W,h=>by
  simp only [List.mapM_cons,Option.bind_eq_bind,Option.bind_eq_some_iff] at h
  obtain ⟨a,ha,pl',h2,h3⟩:=h
  obtain ⟨info,hi,rfl⟩:=Option.map_eq_some_iff.1 ha
  have ih:=run_places fs pl' W h2
  simp at h3
  subst h3
  simp [List.mapM_cons,sizeOf,typeInfo,hi] at ih ⊢
  rw [ih]
  rfl

theorem rd_build {z:Value} {pl:List (Nat×Nat)} {parts:Array (Nat×Operand)} {l:List CV} {n:Nat} (ho:o.op=.build t parts) (hz:(P.info? t).map (·.zero)=some (some z)) (hp:plOf P t=some pl)
  (hf:fillC (pl[·]?) (z.cells.toList.map .c) (parts.toList.map fun p=>(p.1,s.eval p.2))=some l) (hn:l.length=n):ARd P G o s (.agg n (fl l)):=fun St a w h=>by
 obtain ⟨info,hi,hz⟩:=Option.map_eq_some_iff.1 hz
 unfold plOf at hp
 split at hp
 ·rename_i fs hu
  obtain ⟨cs',h1,h2⟩:=fill_rep (al:=G.al) (St:=St) (w:=w) (parts.toList.map fun p=>(p.1,a.eval p.2)) _ (z.cells.toList.map .c) z.cells l ⟨by simp,fun i hi=>by
    have hi:i<z.cells.size:=by simpa using hi
    rw [fl_get];simp [List.getD,hi];rfl⟩ (by simp) (fun i hi=>by
    have hi:i<parts.size:=by simpa using hi
    simp [List.getD,hi]
    exact h.eval _) hf
  refine ⟨.agg cs',fun W _=>?_,cs',rfl,by rw [h2.1,hn],fun i hi=>h2.2 i (by omega)⟩
  simp only [execOp,ho]
  refine vOk ?_
  have hr:=run_places (P:=P) fs.toList pl W hp
  have e:(fs.mapM fun f=>do pure (f.offset,← sizeOf f.type):Sem (Array (Nat×Nat))).run P W=.ok pl.toArray W:=by
   rw [Array.mapM_eq_mapM_toList]
   simp only [Sem.run_map,hr,Result.andThen_ok]
  simp only [Instr.build,zeroValue,typeInfo,Sem.run_bind,run_program,Result.andThen_ok,hi,Sem.run_pure,hz,underlying,hu,e]
  have h1':Instr.fill (fun x=>pl.toArray[x]?) z.cells (parts.map fun p=>(p.1,a.eval p.2)).toList=some cs':=by simpa using h1
  simp only [h1',Sem.run_pure]
 ·cases hp

theorem ex_buildSlice {e:TypeId} {z:Value} {len m:Nat} {parts:Array (Nat×Operand)} {l:List CV} {n:Nat} (ho:o.op=.buildSlice t len parts) (h1:P.underlying t=some (.slice e)) (h5:(P.info? e).map (·.size)=some m) (hz:(P.info? e).map (·.zero)=some (some z))
  (hm:Nat.ble (len * m) 16777216=true) (hlen:Nat.ble len 16777216=true) (hf:fillC (fun i=>some (i * m,m)) ((List.range (len * m)).map fun i=>.c (z.cells[i % z.cells.size]!)) (parts.toList.map fun p=>(p.1,s.eval p.2))=some l) (hn:l.length=n) (hle:n=len * m) (hd:dstOk G o=true)
  (hK:∀ g,K (s.with o.dst (.os s.H.length g 0 len m) (s.H++[(g,.blk n (fl l))]))):AEx P G o s K :=
 AEx.new hd (fun g=>.os s.H.length g 0 len m) (fun St a w hr=>by
  obtain ⟨info,hi,h6⟩:=Option.map_eq_some_iff.1 h5
  obtain ⟨info',hi',hz⟩:=Option.map_eq_some_iff.1 hz
  obtain rfl:=Option.some.inj (hi.symm.trans hi')
  have hm':len * m≤16777216:=Nat.le_of_ble_eq_true hm
  let zs:Array Value:=if len * m=0 then #[] else z.cells
  obtain ⟨cs',h2,h3⟩:=fill_rep (al:=G.al) (St:=St) (w:=w) (parts.toList.map fun p=>(p.1,a.eval p.2)) _ _ ((Array.range (len * m)).map (z.cells[· % z.cells.size]!)) l ⟨by simp,fun i hi=>by
    have hi:i<len * m:=by simpa using hi
    rw [fl_get];simp [List.getD,hi];rfl⟩ (by simp) (fun i hi=>by
    have hi:i<parts.size:=by simpa using hi
    simp [List.getD,hi]
    exact hr.eval _) hf
  refine ⟨w.alloc (.cells cs' e),w.heap.size,cs',e,.slice (some ⟨w.heap.size,0,none⟩) len len,?_,below_alloc w _,Nat.le_refl _,heap_alloc_new w _,by rw [h3.1];omega,fun j hj=>?_,len,rfl,Nat.le_refl _,?_,cs',e,(0,0),heap_alloc_new w _,?_⟩
  ·simp only [execOp,ho]
   refine vOk ?_
   have e0:(Array.range (len * m)).map (zs[· % zs.size]!)=(Array.range (len * m)).map (z.cells[· % z.cells.size]!):=by
    by_cases h0:len * m=0
    ·simp [h0]
    ·simp only [zs,h0,if_false]
   have h2':Instr.fill (fun i=>some (i * m,m)) ((Array.range (len * m)).map (zs[· % zs.size]!)) (parts.map fun p=>(p.1,a.eval p.2)).toList=some cs':=by rw [e0];simpa using h2
   simp only [Instr.buildSlice,underlying,Sem.run_bind,run_program,Result.andThen_ok,h1,Sem.run_pure,sizeOf,typeInfo,hi,h6]
   rw [if_neg (show ¬ len * m>2 ^ 24 by omega)]
   by_cases h0:len * m=0
   ·simp only [h0,if_true,Sem.run_pure,Result.andThen_ok] at h2' ⊢
    simp only [zs,h0,if_true] at h2'
    simp only [Sem.run_bind,Sem.run_pure,Result.andThen_ok,h2',newRow,run_newObj,World.alloc_eq]
   ·simp only [if_neg h0,Sem.run_bind,zeroValue,typeInfo,run_program,Result.andThen_ok,hi,hz,Sem.run_pure]
    simp only [zs,if_neg h0] at h2'
    simp only [h2',Sem.run_bind,newRow,run_newObj,Sem.run_pure,Result.andThen_ok,World.alloc_eq]
  ·exact RepC.evo (Evo.of_below (below_alloc w _) hr.s3) (fun _ h=>h) _ _ (h3.2 j (by omega))
  ·have:=Nat.le_of_ble_eq_true hlen;omega
  ·rw [h3.1];omega) hK
end
end
section
section
variable {P:Program} {G:Gh} {ops:Array Oper} {o:Oper} {s:AS} {K:AS→Prop} {t u:TypeId} {x y:Operand} {k:IntKind}

def calleeB (P : Program) (f : FuncId) : Bool := match P.funcs[f]? with | some fn => fn.body.isSome && !(fn.name == "runtime.NumGoroutine") | none => false
theorem run_enter {f:FuncId} (hc:calleeB P f=true) (args:Array Value) (W:World):(callFunc f args).run P W=.ok (.enter f args) W:=by
 unfold calleeB at hc
 split at hc
 ·rename_i fn hf
  simp only [Bool.and_eq_true,Bool.not_eq_true'] at hc
  obtain ⟨h1,h2⟩:=hc
  have h3:fn.body.isNone=false:=by cases hb:fn.body <;> simp_all
  have h4 : ¬ fn.name = "runtime.NumGoroutine" := by simpa using h2
  have h5:¬ fn.body=none:=fun h=>by rw [h] at h1;cases h1
  simp [callFunc,hf,h4,h5]
 ·cases hc

theorem exec_call {f:FuncId} {xs:Array Operand} {ats:Array TypeId} (ho:o.op=.call ⟨.value (.func f),xs,ats⟩) (hc:calleeB P f=true) (a:Act) (W:World) :
  (execOp a.eval o).run P W=.ok (.enter f (xs.map a.eval)) W:=by
 have e:a.eval (.func f)=.func (.func f) #[] #[]:=rfl
 simp [execOp,ho,resolve,e,Deferred.ofValue,invoke,run_enter hc]
theorem exec_callv {f:FuncId} {v:Operand} {cs:Array Value} {xs:Array Operand} {ats:Array TypeId} (ho:o.op=.call ⟨.value v,xs,ats⟩) (hc:calleeB P f=true) (a:Act) (hv:a.eval v=.func (.func f) #[] cs) (W:World) :
  (execOp a.eval o).run P W=.ok (.enter f (xs.map a.eval++cs)) W:=by
 simp [execOp,ho,resolve,hv,Deferred.ofValue,invoke,run_enter hc]

theorem entL_len {l m:List CV} (h:EntL l m):l.length=m.length:=by
 induction h with
 | nil=>rfl
 | cons _ _ ih=>simp [ih]
theorem entL_get {l m:List CV} (h:EntL l m):∀ i,CEnt (fl l i) (fl m i):=by
 induction h with
 | nil=>exact fun i=>cZ
 | cons h1 _ ih =>
  intro i
  cases i with
  | zero=>exact h1
  | succ i=>exact ih i
theorem fl_append (l m:List CV) (i:Nat):fl (l++m) i=if i<l.length then fl l i else fl m (i-l.length):=by
 rw [fl_get,fl_get,fl_get]
 split
 ·rename_i h;simp [List.getD,List.getElem?_append_left h]
 ·rename_i h;simp [List.getD,List.getElem?_append_right (Nat.le_of_not_lt h)]

theorem RelSt.after {St St':Nat→Prop} {a:Act} {w w':World} (h:RelSt G St s a w) {H':List (Option Nat×Res)} (hu:Under (fun _=>False) w w') (h1:∀ b,St b→St' b) (h2:∀ b,St' b→St b∨w.heap.size≤b∨False) (h3:∀ b,St' b→b<w'.heap.size) (hp':HRel G.al St' w' w.heap.size (fun _=>False) H') :
  RelSt G St' ⟨s.env,s.b,s.H++H'⟩ a w':=by
 have hb:=hu.below
 have he:Evo St w w':=Evo.of_below hb h.s3
 obtain ⟨fp,hp⟩:=h.hp
 obtain ⟨fp',hp'⟩:=hp'
 refine ⟨h.df.keep h1 (fun b hb'=>hb.block b (h.s3 b hb')),h.sz,fun d=>RepC.evo he h1 _ _ (h.env d),h.un.then hb,fun b hs=>h1 b (h.s1 b hs),fun b hs=>?_,h3,?_,?_,fun g hg=>h1 g (h.sg.1 g hg),fun x hx=>h1 _ (h.sg.2 x hx)⟩
 ·rcases h2 b hs with hs|hs|hs
  ·exact h.s2 b hs
  ·exact .inr (.inl (Nat.le_trans h.un.size hs))
  ·exact hs.elim
 ·refine ⟨fun i b=>(i<s.H.length∧fp i b)∨(s.H.length≤i∧fp' (i-s.H.length) b),fun i q r hi=>?_,fun i j b hi hj=>?_,fun i b hi=>?_,fun i hi b hb'=>?_⟩
  ·by_cases hl:i<s.H.length
   ·rw [List.getElem?_append_left hl] at hi
    have e:(fun b=>(i<s.H.length∧fp i b)∨(s.H.length≤i∧fp' (i-s.H.length) b))=fp i:=funext fun b=>propext ⟨fun h=>h.elim (fun h=>h.2) (fun h=>by omega),fun h=>.inl ⟨hl,h⟩⟩
    show r.rep G.al St' w' (fun b=>(i<s.H.length∧fp i b)∨(s.H.length≤i∧fp' (i-s.H.length) b)) q
    rw [e]
    exact Res.rep_evo he h1 (fun b hF=>hb.block b (hp.own i b hF).1) (hp.rep i q r hi)
   ·rw [List.getElem?_append_right (by omega)] at hi
    have e:(fun b=>(i<s.H.length∧fp i b)∨(s.H.length≤i∧fp' (i-s.H.length) b))=fp' (i-s.H.length):=funext fun b=>propext ⟨fun h=>h.elim (fun h=>by omega) (fun h=>h.2),fun h=>.inr ⟨by omega,h⟩⟩
    show r.rep G.al St' w' (fun b=>(i<s.H.length∧fp i b)∨(s.H.length≤i∧fp' (i-s.H.length) b)) q
    rw [e]
    exact hp'.rep _ q r hi
  ·rcases hi with ⟨a1,a2⟩|⟨a1,a2⟩ <;> rcases hj with ⟨b1,b2⟩|⟨b1,b2⟩
   ·exact hp.dis i j b a2 b2
   ·have c1:=(hp.own i b a2).1
    rcases (hp'.own _ b b2).2.2 with c2|c2
    ·omega
    ·exact c2.elim
   ·have c1:=(hp.own j b b2).1
    rcases (hp'.own _ b a2).2.2 with c2|c2
    ·omega
    ·exact c2.elim
   ·have:=hp'.dis _ _ b a2 b2
    omega
  ·rcases hi with ⟨a1,a2⟩|⟨a1,a2⟩
   ·obtain ⟨c1,c2,c3⟩:=hp.own i b a2
    refine ⟨Nat.lt_of_lt_of_le c1 hb.size,fun hs=>?_,c3⟩
    rcases h2 b hs with hs|hs|hs
    ·exact c2 hs
    ·omega
    ·exact hs
   ·obtain ⟨c1,c2,c3⟩:=hp'.own _ b a2
    refine ⟨c1,c2,.inl ?_⟩
    rcases c3 with c3|c3
    ·exact Nat.le_trans h.un.size c3
    ·exact c3.elim
  ·rcases hb' with ⟨a1,_⟩|⟨a1,a2⟩
   ·simp at hi;omega
   ·exact hp'.out _ (by simp at hi;omega) b a2
 ·exact SentL.keep h.sn (fun g hg=>hb.block g (h.s3 _ (h.sg.1 g hg))) (fun x hx=>hb.block _ (h.s3 _ (h.sg.2 x hx)))

theorem entry0 {St:Nat→Prop} {a:Act} {w:World} (h:RelSt G St s a w):Entry G.gs G.al St (fun _=>False) [] w :=
 ⟨h.s3,h.sn,h.sg,⟨fun _ _=>False,fun i g r hi=>by simp at hi,fun _ _ _ h=>h.elim,fun _ _ h=>h.elim,fun _ _ _ h=>h⟩,fun _ h=>h.elim⟩

theorem seq_ent {r:List Oper} {s':AS} (he:EntS G s s') (h:ASeq P G ops r s' K):ASeq P G ops r s K:=fun a w hr Q hQ=>h a w (he.rel hr) Q hQ
theorem x_ent {tr:OrdO} {s':AS} (he:EntS G s s') (h:AX P G ops tr s' K):AX P G ops tr s K:=fun a w hr Q R hQ=>h a w (he.rel hr) Q R hQ
theorem z_ent {tr:OrdO} {s':AS} (he:EntS G s s') (h:AZ P G ops tr s' K):AZ P G ops tr s K:=fun St a w hr Q hQ=>by
 obtain ⟨S1,h1,h2⟩:=he St a w hr
 obtain ⟨S2,h3,h4⟩:=h S1 a w h2 Q hQ
 exact ⟨S2,fun b hb=>h3 b (h1 b hb),h4⟩

theorem freeze (i:Nat) {g:Option Nat} {n:Nat} {f:Nat→CV} (hH:s.H[i]?=some (g,.blk n f)):EntS G s ⟨s.env,s.b,s.H.set i (g,.frz n f)⟩:=fun St a w h=>by
 obtain ⟨fp,hp⟩:=h.hp
 have hlt:i<s.H.length:=(List.getElem?_eq_some_iff.1 hH).1
 have hrep:=hp.rep i g _ hH
 refine ⟨fun b=>St b∨fp i b,fun _ h=>.inl h,?_⟩
 have he:Evo St w w:=⟨fun _ _ _ _ _ h=>h,fun b cur t z h=>⟨cur,z,h,rfl⟩⟩
 have hs:∀ b,St b→St b∨fp i b:=fun _ h=>.inl h
 refine ⟨h.df.grow hs,h.sz,fun d=>RepC.evo he hs _ _ (h.env d),h.un,fun b hb=>.inl (h.s1 b hb),fun b hb=>?_,fun b hb=>?_,?_,h.sn,fun g hg=>.inl (h.sg.1 g hg),fun x hx=>.inl (h.sg.2 x hx)⟩
 ·rcases hb with hb|hb
  ·exact h.s2 b hb
  ·exact .inr (hp.own i b hb).2.2
 ·rcases hb with hb|hb
  ·exact h.s3 b hb
  ·exact (hp.own i b hb).1
 ·refine ⟨fun j b=>j≠i∧fp j b,fun j q r hj=>?_,fun j l b h1 h2=>hp.dis j l b h1.2 h2.2,fun j b h1=>?_,fun j hj b h1=>hp.out j (by simpa using hj) b h1.2⟩
  ·by_cases e:j=i
   ·subst e
    simp [hlt] at hj
    obtain ⟨rfl,rfl⟩:=hj
    cases g with
    | none=>exact ⟨hrep.1,fun b hb=>absurd rfl hb.1⟩
    | some g =>
     obtain ⟨h0,cur,t,h1,h2,h3⟩:=hrep
     exact ⟨fun b hb=>absurd rfl hb.1,.inr ((h0 g).2 rfl),cur,t,_,h1,h2,fun m hm=>RepC.evo he hs _ _ (h3 m hm)⟩
   ·rw [List.getElem?_set_ne (Ne.symm e)] at hj
    have e2:(fun b=>j≠i∧fp j b)=fp j:=funext fun b=>propext ⟨fun h=>h.2,fun h=>⟨e,h⟩⟩
    show r.rep G.al _ w (fun b=>j≠i∧fp j b) q
    rw [e2]
    exact Res.rep_evo he hs (fun _ _=>rfl) (hp.rep j q r hj)
  ·obtain ⟨h2,h3,h4⟩:=hp.own j b h1.2
   exact ⟨h2,fun hb=>hb.elim h3 fun hb=>h1.1 (hp.dis j i b h1.2 hb),h4⟩

theorem EntS.put {d:Nat} {v:CV} (hd:Nat.blt d G.N=true) (h:∀ St a w,RelSt G St s a w→RepC G.al St w v (a.tmps.getD d undef)):EntS G s ⟨(d,v)::s.env,s.b,s.H⟩:=fun St a w hr=>by
 refine ⟨St,fun _ h=>h,hr.df,hr.sz,fun e=>?_,hr.un,hr.s1,hr.s2,hr.s3,hr.hp,hr.sn,hr.sg⟩
 by_cases hde:d=e
 ·subst hde;rw [look_same];exact h St a w hr
 ·rw [look_other _ _ _ hde];exact hr.env e
theorem weaken (d:Nat) (v:CV) (h:CEnt (look s.env s.b d) v):EntS G s ⟨(d,v)::s.env,s.b,s.H⟩:=fun St a w hr=>by
 refine ⟨St,fun _ h=>h,hr.df,hr.sz,fun e=>?_,hr.un,hr.s1,hr.s2,hr.s3,hr.hp,hr.sn,hr.sg⟩
 by_cases hde:d=e
 ·subst hde;rw [look_same];exact h _ _ _ _ (hr.env d)
 ·rw [look_other _ _ _ hde];exact hr.env e

theorem thaw (d:Nat) {i off n m N:Nat} {g:Option Nat} {F:Nat→CV} (f:Nat→Nat→CV) (hl:look s.env s.b d=.os i g off n m) (hH:s.H[i]?=some (g,.frz N F)) (hN:off+n * m≤N) (hf:∀ a b,a<n→b<m→CEnt (F (off+(a * m+b))) (f a b)) :
  EntS G s ⟨(d,.rs m n f)::s.env,s.b,s.H⟩:=fun St a w hr=>by
 refine ⟨St,fun _ h=>h,hr.df,hr.sz,fun e=>?_,hr.un,hr.s1,hr.s2,hr.s3,hr.hp,hr.sn,hr.sg⟩
 by_cases hde:d=e
 ·subst hde
  rw [look_same]
  have he:=hr.env d
  rw [hl] at he
  cases g with
  | none =>
   obtain ⟨h1,h2⟩:=he
   subst h1
   exact ⟨none,0,h2,Nat.le_refl _,by decide,fun _=>rfl,fun _ h=>by cases h⟩
  | some g =>
   obtain ⟨cap,h1,h2,h3,_⟩:=he
   obtain ⟨fp,hp⟩:=hr.hp
   obtain ⟨_,hg,cur,t,z,hh,hle,hc⟩:=hp.rep i (some g) _ hH
   refine ⟨_,cap,h1,h2,h3,(fun h=>by cases h),fun ad ha _=>?_⟩
   cases ha
   refine ⟨rfl,hg,fun p q hp' hq=>?_⟩
   have hb:p * m+q<n * m:=by
    have:p * m+m≤n * m:=by rw [← Nat.succ_mul];exact Nat.mul_le_mul_right _ hp'
    omega
   have hlt:off+(p * m+q)<cur.size:=by omega
   refine ⟨cur.getD (off+(p * m+q)) undef,?_,hf p q hp' hq _ _ _ _ (hc _ (by omega))⟩
   show w.cell? ⟨g,off+(p * m+q),none⟩=_
   rw [cell_of_row w g _ cur t z hh];simp [hlt]
 ·rw [look_other _ _ _ hde];exact hr.env e
theorem thawP (d:Nat) {i off m N:Nat} {g:Option Nat} {F:Nat→CV} (hl:look s.env s.b d=.op i g off) (hH:s.H[i]?=some (g,.frz N F)) (hN:off+m≤N) :
  EntS G s ⟨(d,.rp m fun j=>F (off+j))::s.env,s.b,s.H⟩:=fun St a w hr=>by
 refine ⟨St,fun _ h=>h,hr.df,hr.sz,fun e=>?_,hr.un,hr.s1,hr.s2,hr.s3,hr.hp,hr.sn,hr.sg⟩
 by_cases hde:d=e
 ·subst hde
  rw [look_same]
  have he:=hr.env d
  rw [hl] at he
  obtain ⟨b,rfl,he⟩:=he
  obtain ⟨fp,hp⟩:=hr.hp
  obtain ⟨_,hg,cur,t,z,hh,hle,hc⟩:=hp.rep i (some b) _ hH
  refine ⟨b,off,he,hg,fun j hj=>?_⟩
  have hlt:off+j<cur.size:=by omega
  refine ⟨cur.getD (off+j) undef,?_,hc _ (by omega)⟩
  rw [cell_of_row w b _ cur t z hh];simp [hlt]
 ·rw [look_other _ _ _ hde];exact hr.env e
end
end
end Am
end Go.Proofs.YtcjmppgkojogdaaDoor
