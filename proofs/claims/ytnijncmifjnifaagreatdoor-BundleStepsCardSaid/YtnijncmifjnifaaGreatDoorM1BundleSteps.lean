/- What the law leans on, part 1 -/
import Derived.Test.YtnijncmifjnifaaGreatDoorChecked
import Derived.WalkKit
import Derived.WalkLawsBesides
import Derived.WalkSpells
import Derived.Outline
import Derived.Handy
import Derived.Deep.QuietTactic
import Derived.Deep.Draws
import Derived.BigQuiet
import Derived.Lib.Hide
import Derived.LaidEql
import Derived.Laws.IdiomStrings
import Derived.WideLaws
import Derived.Shelf.Unicode.DecodeSlow
import Derived.OrdersHeld
import Derived.Deep.RegionHeld3
import Derived.RangeFuncNested
import Derived.OrdersIn
import Derived.RangeFuncCalls
import Derived.RangeFuncLeaves
import Derived.RangeFuncRecord
set_option maxRecDepth 100000
namespace Go.Proofs
abbrev V:=List UInt8
abbrev FI:=List V
abbrev FJ:=@List.getD_eq_getElem?_getD
abbrev FK:=@Bool.and_eq_true
abbrev FL:=@List.getElem?_eq_some_iff
abbrev FM:=@Option.map_eq_some_iff
abbrev FN:=@if_neg
abbrev FO:=@if_pos
abbrev FP:=@Array.getElem?_eq_getElem
abbrev FQ:=@Nat.le_refl
abbrev FR:=@List.getElem?_append_left
abbrev FS:=@Nat.le_of_ble_eq_true
abbrev FT:=@decide_eq_true_eq
abbrev FU:=@List.getElem?_set_ne
abbrev FV:=@List.take_succ_eq_append_getElem
abbrev FW:=@List.getElem?_eq_getElem
abbrev FX:=@List.length_append
abbrev FY:=@Array.getElem?_eq_some_iff
abbrev FZ:=@List.getElem?_append_right
abbrev F2:=@List.mem_cons_self
abbrev F3:=@Nat.not_lt_zero
abbrev F4:=@Nat.zero_le
abbrev F5:=@List.all_eq_true
abbrev F6:=@List.length_take
abbrev F7:=@congrArg
abbrev F8:=@Option.some.injEq
abbrev F9:=@List.mem_cons_of_mem
abbrev Ga:=@Option.some.inj
abbrev Gb:=@List.mem_cons
abbrev Gc:=@Nat.eq_of_beq_eq_true
abbrev Gd:=@Array.getElem?_setIfInBounds_ne
abbrev Ge:=@Nat.lt_of_lt_of_le
abbrev Gf:=@List.map_cons
abbrev Gg:=@List.length_set
abbrev Gi:=@List.drop_eq_getElem_cons
abbrev Gj:=@Bool.and_false
abbrev Gk:=@List.length_drop
abbrev Gl:=@List.take_of_length_le
abbrev Gm:=@Nat.le_trans
abbrev Gn:=@decide_eq_false
abbrev Gp:=@Array.getElem?_append_left
abbrev Gq:=@List.eq_nil_of_length_eq_zero
abbrev Gr:=@Nat.mul_le_mul_right
abbrev Gs:=@Nat.lt_or_ge
abbrev Gt:=@Array.getElem?_eq_none
abbrev Gu:=@Nat.mod_lt
abbrev Gv:=@List.getElem_mem
abbrev Gw:=@List.getElem_of_mem
abbrev Gx:=@List.getElem?_cons_zero
abbrev Gy:=@List.mem_of_getElem?
abbrev Gz:=@List.mem_singleton
abbrev GA:=@List.not_mem_nil
abbrev GB:=@List.length_pos_iff
abbrev GC:=@List.append_assoc
abbrev GD:=@List.mem_range
abbrev GE:=@Bool.or_eq_true
abbrev GF:=@beq_iff_eq
abbrev GG:=@UInt8.toNat_ofNat'
abbrev GH:=@List.take_length
abbrev GI:=@Array.getD_eq_getD_getElem?
abbrev GJ:=@Bool.true_and
abbrev GK:=@Option.map_some
abbrev GL:=@List.getElem?_eq_none
abbrev GM:=@Array.getElem?_modify
abbrev GN:=@List.any_eq_true
abbrev GO:=@Nat.zero_mul
abbrev GP:=@Nat.le_of_eq
abbrev GQ:=@List.getElem?_map
abbrev GR:=@List.getElem?_cons_succ
abbrev GS:=@List.reverse_cons
abbrev GT:=@Bool.eq_iff_iff
abbrev GU:=@List.filterMap_cons
abbrev GV:=@Nat.add_zero
abbrev GW:=@Bool.false_eq_true
abbrev GX:=@decide_eq_true
abbrev GY:=@Nat.add_sub_cancel
abbrev GZ:=@List.getElem?_toArray
abbrev G0:=@List.contains_iff_mem
abbrev G1:=@List.mem_append_right
abbrev G2:=@List.length_singleton
abbrev G3:=@List.append_nil
abbrev G4:=@Array.setIfInBounds_comm
abbrev G5:=@Option.getD_some
abbrev G6:=@List.length_eq_zero_iff
abbrev G7:=@List.getElem?_replicate
abbrev G8:=@Nat.add_mul
abbrev G9:=@List.getElem?_drop
abbrev Ha:=@List.all_cons
abbrev Hb:=@List.mem_iff_getElem?
abbrev Hc:=@Array.getElem?_append_right
abbrev Hd:=@List.flatten_cons
abbrev He:=@Int.fdiv_eq_ediv_of_nonneg
abbrev Hf:=@List.ext_getElem
abbrev Hg:=@List.pairwise_iff_getElem
abbrev Hh:=@Bool.or_eq_true_iff
abbrev Hi:=@List.nodup_cons
abbrev Hj:=@List.getElem?_take
abbrev Hk:=@Nat.add_sub_cancel_left
abbrev Hl:=@decide_eq_false_iff_not
abbrev Hm:=@Bool.not_eq_true'
abbrev Hn:=@Nat.mul_comm
abbrev Ho:=@List.map_nil
abbrev Hq:=@Bool.eq_false_iff
abbrev Hr:=@Array.getElem?_toList
abbrev Hs:=@List.take_append_drop
abbrev Ht:=@List.drop_length
abbrev Hu:=@List.getElem?_append
abbrev Hv:=@Nat.mul_one
abbrev Hw:=@List.mem_iff_getElem
abbrev Hy:=@Nat.div_lt_of_lt_mul
abbrev Hz:=@Array.getElem_toList
abbrev HA:=@List.mem_filter
abbrev HD:=@List.map_append
abbrev HE:=@List.mem_append
abbrev HG:=@List.range_succ
abbrev HH:=@Nat.sub_self
abbrev HI:=@Array.any_eq_true'
abbrev HJ:=@Int.not_lt
abbrev HL:=@List.pairwise_cons
abbrev HM:=@List.mem_or_eq_of_mem_set
abbrev HN:=@List.getElem?_inj
abbrev HO:=@not_false_eq_true
abbrev HP:=@List.any_eq_false
abbrev HQ:=@of_decide_eq_true
abbrev HR:=@Nat.lt_trichotomy
abbrev HT:=@List.foldl_append
abbrev HU:=@Nat.add_assoc
abbrev HV:=@List.getElem?_take_of_lt
abbrev HX:=@Option.bind_eq_some_iff
abbrev HY:=@List.pairwise_mergeSort
abbrev H0:=@List.flatten_nil
abbrev H3:=@Nat.succ_mul
abbrev H4:=@List.drop_eq_nil_of_le
abbrev H5:=@List.set_set
abbrev H6:=@Option.any_some
abbrev H7:=@List.length_map
abbrev H8:=@Option.map_none
abbrev H9:=@List.getElem?_reverse
abbrev Ia:=@List.set_append_right
abbrev Ib:=@List.nodup_nil
abbrev Ic:=@Bool.not_false
abbrev Ie:=@Nat.div_one
abbrev If:=@List.getElem_reverse
abbrev Ig:=@List.take_zero
abbrev Ih:=@List.flatten_append
abbrev Ii:=@List.length_reverse
abbrev Ij:=@List.mergeSort_perm
abbrev Ik:=@Array.length_toList
abbrev Il:=@List.set_comm
abbrev Im:=@decide_false
end Go.Proofs
set_option linter.unusedVariables false
open Go.Proofs.Tryz
namespace Go.Proofs.YtnijncmifjnifaaGreatDoor
theorem O {p:Prop} (h:p:=by omega):p:=h
theorem T {p:Prop} (h:p:=by decide):p:=h
theorem jK {c:Prop} {i:Decidable c} {α:Sort _} {a b:α} (h:¬c:=by omega):@ite α c i a b=b:=FN h
theorem jP {c:Prop} {i:Decidable c} {α:Sort _} {a b:α} (h:c:=by omega):@ite α c i a b=a:=FO h
open Go.RowKit
theorem f2 {a b c:World} (h:Below a.heap.size a b) (k:Below b.heap.size b c):Below a.heap.size a c:=h.trans (k.mono h.size)
theorem eB {a b:World} (h:Below a.heap.size a b) {p:Addr} {v:Value} (hc:a.cell? p=some v):b.cell? p=some v :=
 (h.cell (World.block_lt_of_cell? a p hc)).trans hc
theorem oc {P:Program} {ops:Array Oper} {Q:Exit→Act→World→Prop} {rest:List Oper} {o:Oper} {a:Act} {w:World} (v:Value) (w':World)
  (hg:o.guard=none) (hr:(execOp a.eval o).run P w=.ok (.value v) w') (hK:wpList P ops Q rest (a.put o.dst v) w'):wpList P ops Q (o::rest) a w :=
 wpList_plain hg fun K hk=>by
  unfold Oper.wp
  rw [hr]
  exact hk _ _ hK
def Bs (w:World) (v:Value) (l:V):Prop :=
 ∃ ao cap,v=.slice ao l.length cap∧l.length≤cap∧cap≤9223372036854775807∧(ao=none→cap=0) ∧
  ∀ x,ao=some x→(0<l.length→x.spot=none)∧∀ i,i<l.length→w.cell? ⟨x.block,x.off+i,none⟩=some (.int .u8 (l.getD i 0).toNat)
theorem Bs.below {a b:World} {v:Value} {l:V} (h:Bs a v l) (k:Below a.heap.size a b):Bs b v l:=by
 obtain ⟨ao,cap,rfl,h1,h2,h3,h4⟩:=h
 exact ⟨ao,cap,rfl,h1,h2,h3,fun x I=>⟨(h4 x I).1,fun i hi=>eB k ((h4 x I).2 i hi)⟩⟩
theorem Bs.cons {w:World} {v:Value} {l:V} (h:Bs w v l) (hl:0<l.length) :
  ∃ b o cap,v=.slice (some ⟨b,o,none⟩) l.length cap∧l.length≤cap∧cap≤9223372036854775807∧∀ i,i<l.length→w.cell? ⟨b,o+i,none⟩=some (.int .u8 (l.getD i 0).toNat):=by
 obtain ⟨ao,cap,rfl,h1,h2,h3,h4⟩:=h
 cases ao with
 | none=>have:=h3 rfl;omega
 | some x =>
  have ⟨b,o,sp⟩:=x
  obtain ⟨hs,hc⟩:=h4 _ rfl
  have hs:=hs hl
  simp only at hs
  subst hs
  exact ⟨b,o,cap,rfl,h1,by omega,hc⟩
theorem Bs.len {w:World} {ao:Option Addr} {n cap:Nat} {l:V} (h:Bs w (.slice ao n cap) l):n=l.length:=by
 have ⟨_,_,e,_⟩:=h
 injection e
theorem Bs.nil (w:World):Bs w (.slice none 0 0) []:=⟨none,0,rfl,by simp,by simp,fun _=>rfl,fun x h=>by cases h⟩
theorem Bs.of_cells {w:World} {b o cap:Nat} {l:V} (h1:l.length≤cap) (h2:cap≤9223372036854775807)
  (h:∀ i,i<l.length→w.cell? ⟨b,o+i,none⟩=some (.int .u8 (l.getD i 0).toNat)):Bs w (.slice (some ⟨b,o,none⟩) l.length cap) l :=
 ⟨_,cap,rfl,h1,h2,by simp,fun x I=>by cases I;exact ⟨fun _=>rfl,h⟩⟩
theorem Bs.piece {w:World} {ao:Option Addr} {n cap:Nat} {l:V} (h:Bs w (.slice ao n cap) l) (lo hi:Nat) (h1:lo≤hi) (h2:hi≤n) :
  Bs w (.slice (if cap=lo then ao else ao.map (·.add lo)) (hi-lo) (cap-lo)) ((l.take hi).drop lo):=by
 have ⟨ao',cap',e,h3,h4,h5,h6⟩:=h
 injection e with e1 e2 e3
 subst e1 e2 e3
 have hlen:((l.take hi).drop lo).length=hi-lo:=by simp;omega
 refine ⟨_,_,by rw [hlen],by rw [hlen];omega,by omega,?_,?_⟩
 ·intro hn
  split at hn
  omega
  ·have:ao=none:=by simpa using hn
   have:=h5 this
   omega
 ·intro x I
  split at I
  ·have hz:hi-lo=0:=by omega
   exact ⟨fun h=>by rw [hlen] at h;omega,fun i hi'=>by rw [hlen] at hi';omega⟩
  ·obtain ⟨y,rfl,rfl⟩:=FM.1 I
   have ⟨hs,hc⟩:=h6 y rfl
   have ⟨b,o,sp⟩:=y
   by_cases hz:hi-lo=0
   exact ⟨fun h=>by rw [hlen] at h;omega,fun i hi'=>by rw [hlen] at hi';omega⟩
   have hs:=hs O
   simp only at hs
   subst hs
   rw [Addr.add_lit]
   refine ⟨fun _=>rfl,fun i hi'=>?_⟩
   rw [hlen] at hi'
   show w.cell? ⟨b,o+lo+i,none⟩=_
   rw [HU,hc (lo+i) O]
   simp [List.getD,show lo+i<hi by omega]
theorem Bs.from {w:World} {ao:Option Addr} {n cap:Nat} {l:V} (h:Bs w (.slice ao n cap) l) (lo:Nat) (h2:lo≤n) :
  Bs w (.slice (if cap=lo then ao else ao.map (·.add lo)) (n-lo) (cap-lo)) (l.drop lo):=by
 have:=h.piece lo n h2 (FQ _)
 have e:l.take n=l:=by rw [h.len,GH]
 rwa [e] at this
theorem mE {P:Program} {w:World} {ao:Option Addr} {n cap:Nat} {l:V} (h:Bs w (.slice ao n cap) l) (src dst e:TypeId)
  (hs:P.underlying src=some (.slice e)) (he:P.underlying e=some (.int .u8)) (hd:P.underlying dst=some .string) :
  (convert src dst (.slice ao n cap)).run P w=.ok (.string ⟨l.toArray⟩) w:=by
 have ⟨ao',cap',e0,h3,h4,h5,h6⟩:=h
 injection e0 with e1 e2 e3
 subst e1 e2 e3
 cases ao with
 | none =>
  have:=h5 rfl
  have hl:l=[]:=Gq O
  subst hl
  rw [run_convert_bytes_string w src dst e none _ cap hs he hd]
  rfl
 | some x =>
  have ⟨b,o,sp⟩:=x
  obtain ⟨hsp,hc⟩:=h6 _ rfl
  exact run_convert_bytes_back w src dst e ⟨b,o,sp⟩ cap l hs he hd fun j hj=>by
   have hsp:=hsp O
   simp only at hsp
   subst hsp
   rw [Addr.add_lit,hc j hj]
   simp [List.getD,hj]
def ev (al:List Addr) (k:Nat):Value:=if k=0 then .nilIface else .iface 252 (.pointer al[k-1]?)
def kX:Nat:=29
def kW:Nat:=30
def Am.kL:List Nat:=[0x428a2f98,0x71374491,0xb5c0fbcf,0xe9b5dba5,0x3956c25b,0x59f111f1,0x923f82a4,0xab1c5ed5,
 0xd807aa98,0x12835b01,0x243185be,0x550c7dc3,0x72be5d74,0x80deb1fe,0x9bdc06a7,0xc19bf174,
 0xe49b69c1,0xefbe4786,0x0fc19dc6,0x240ca1cc,0x2de92c6f,0x4a7484aa,0x5cb0a9dc,0x76f988da,
 0x983e5152,0xa831c66d,0xb00327c8,0xbf597fc7,0xc6e00bf3,0xd5a79147,0x06ca6351,0x14292967,
 0x27b70a85,0x2e1b2138,0x4d2c6dfc,0x53380d13,0x650a7354,0x766a0abb,0x81c2c92e,0x92722c85,
 0xa2bfe8a1,0xa81a664b,0xc24b8b70,0xc76c51a3,0xd192e819,0xd6990624,0xf40e3585,0x106aa070,
 0x19a4c116,0x1e376c08,0x2748774c,0x34b0bcb5,0x391c0cb3,0x4ed8aa4a,0x5b9cca4f,0x682e6ff3,
 0x748f82ee,0x78a5636f,0x84c87814,0x8cc70208,0x90befffa,0xa4506ceb,0xbef9a3f7,0xc67178f2]
def Am.firstL:List Nat:=[0x6a09e667,0xbb67ae85,0x3c6ef372,0xa54ff53a,0x510e527f,0x9b05688c,0x1f83d9ab,0x5be0cd19]
def oh:List (Nat×List Value):=[(1000000031,Am.firstL.map fun (n:Nat)=>.int .u32 n),(1000000032,Am.kL.map fun (n:Nat)=>.int .u32 n)]
def wT (g:Nat):Bool:=Nat.beq g kX || Nat.beq g kW || oh.any fun t=>Nat.beq g t.1
def fz (gs:List Nat):List Nat:=gs.filter fun g=>!wT g
def iB (gs:List Nat):List Nat:=gs.filter fun g=>Nat.blt g 1000000000
theorem jf {gs:List Nat} {g:Nat}:g ∈ iB gs↔g ∈ gs∧g<1000000000:=by simp [iB]
structure cd (w:World) (gs:List Nat) (al:List Addr):Prop where
 len:al.length=(fz gs).length
 nd:∀ (i j g g':Nat),(fz gs)[i]?=some g→g ∈ iB gs→(fz gs)[j]?=some g'→g' ∈ iB gs→al[i]?=al[j]?→i=j
 var:∀ i g,(fz gs)[i]?=some g→g ∈ iB gs→w.cell? ⟨g,0,none⟩=some (ev al (i+1))
 row:∀ a ∈ al,∃ c t,w.heap[a.block]?=some (.cells c t (0,0))
 tab:kX ∈ iB gs→kW ∈ iB gs→Lib.Utf8Tabs kX kW w
 tbl:∀ t ∈ oh,t.1 ∈ iB gs→∀ (i:Nat) (v:Value),t.2[i]?=some v→w.cell? ⟨t.1,i,none⟩=some v
 lt:∀ g ∈ iB gs,g<w.heap.size
theorem tD {w w':World} {g3 g4:Nat} (h:Lib.Utf8Tabs g3 g4 w) (h1:∀ o,w'.cell? ⟨g3,o,none⟩=w.cell? ⟨g3,o,none⟩) (h2:∀ o,w'.cell? ⟨g4,o,none⟩=w.cell? ⟨g4,o,none⟩):Lib.Utf8Tabs g3 g4 w' :=
 ⟨fun c hc=>(h1 c).trans (h.1 c hc),fun i hi=>⟨(h2 _).trans (h.2 i hi).1,(h2 _).trans (h.2 i hi).2⟩⟩
theorem cd.below {a b:World} {gs:List Nat} {al:List Addr} (h:cd a gs al) (k:Below a.heap.size a b):cd b gs al :=
 ⟨h.len,h.nd,fun i g hi hl=>eB k (h.var i g hi hl),fun x I=>by
  have ⟨c,t,hc⟩:=h.row x I
  exact ⟨c,t,by rw [k.block x.block (FY.1 hc).1];exact hc⟩,fun h1 h2=>Utf8Tabs_below (h.tab h1 h2) k,fun t ht hl i v hv=>eB k (h.tbl t ht hl i v hv),fun g hg=>Ge (h.lt g hg) k.size⟩
def gs:List Nat:=[2,3,4,5,6,7,8,9,10,11,12,13,14,15,16,17,18,1,0,19,20,21,22,23,24,25,26,27]
def Eg:List Nat:=gs++[kX,kW]
class cw (l:List Nat):Prop where
 eq:fz l=gs
instance okG:cw gs:=⟨by decide⟩
instance okT:cw Eg:=⟨by decide⟩
def Fx:List Nat:=Eg++oh.map (·.1)
instance okS:cw Fx:=⟨by decide⟩
class FF (l:List Nat):Prop where
 a:∀ t ∈ oh,t.1 ∈ iB l
abbrev At (w:World) (al:List Addr):Prop:=cd w gs al
class a7 (l:List Nat) (k:Nat):Prop where
 eq:(fz l)[k]?=gs[k]?
 lt:∀ g,gs[k]?=some g→g ∈ iB l
theorem aF {l:List Nat} [h:cw l] (k:Nat) (hk:(gs[k]?).any (fun g=>Nat.blt g 1000000000)=true):a7 l k:=⟨by rw [cw.eq],fun g hg=>by
 rw [hg] at hk
 refine jf.2 ⟨?_,FS hk⟩
 have h1:g ∈ fz l:=by rw [cw.eq];exact Gy hg
 exact (HA.1 h1).1⟩
instance hasE0 {l:List Nat} [cw l]:a7 l 0:=aF 0 T
instance hasE1 {l:List Nat} [cw l]:a7 l 1:=aF 1 T
instance hasE2 {l:List Nat} [cw l]:a7 l 2:=aF 2 T
instance hasE3 {l:List Nat} [cw l]:a7 l 3:=aF 3 T
instance hasE4 {l:List Nat} [cw l]:a7 l 4:=aF 4 T
instance hasE5 {l:List Nat} [cw l]:a7 l 5:=aF 5 T
instance hasE6 {l:List Nat} [cw l]:a7 l 6:=aF 6 T
instance hasE7 {l:List Nat} [cw l]:a7 l 7:=aF 7 T
instance hasE8 {l:List Nat} [cw l]:a7 l 8:=aF 8 T
instance hasE9 {l:List Nat} [cw l]:a7 l 9:=aF 9 T
instance hasE10 {l:List Nat} [cw l]:a7 l 10:=aF 10 T
instance hasE11 {l:List Nat} [cw l]:a7 l 11:=aF 11 T
instance hasE12 {l:List Nat} [cw l]:a7 l 12:=aF 12 T
instance hasE13 {l:List Nat} [cw l]:a7 l 13:=aF 13 T
instance hasE14 {l:List Nat} [cw l]:a7 l 14:=aF 14 T
instance hasE15 {l:List Nat} [cw l]:a7 l 15:=aF 15 T
instance hasE16 {l:List Nat} [cw l]:a7 l 16:=aF 16 T
instance hasE17 {l:List Nat} [cw l]:a7 l 17:=aF 17 T
instance hasE18 {l:List Nat} [cw l]:a7 l 18:=aF 18 T
instance hasE19 {l:List Nat} [cw l]:a7 l 19:=aF 19 T
instance hasE20 {l:List Nat} [cw l]:a7 l 20:=aF 20 T
instance hasE21 {l:List Nat} [cw l]:a7 l 21:=aF 21 T
instance hasE22 {l:List Nat} [cw l]:a7 l 22:=aF 22 T
instance hasE23 {l:List Nat} [cw l]:a7 l 23:=aF 23 T
instance hasE24 {l:List Nat} [cw l]:a7 l 24:=aF 24 T
instance hasE25 {l:List Nat} [cw l]:a7 l 25:=aF 25 T
instance hasE26 {l:List Nat} [cw l]:a7 l 26:=aF 26 T
instance hasE27 {l:List Nat} [cw l]:a7 l 27:=aF 27 T
class x7 (l:List Nat):Prop where
 h0:a7 l 0
 h3:a7 l 3
instance ok2_0 {l:List Nat} [h:x7 l]:a7 l 0:=h.h0
instance ok2_3 {l:List Nat} [h:x7 l]:a7 l 3:=h.h3
instance ok2_all {l:List Nat} [cw l]:x7 l:=⟨inferInstance,inferInstance⟩
class du (l:List Nat):Prop where
 h0:a7 l 0
 h1:a7 l 1
 h2:a7 l 2
 h3:a7 l 3
 h4:a7 l 4
 h5:a7 l 5
 h6:a7 l 6
 h7:a7 l 7
 h23:a7 l 23
instance ok9_0 {l:List Nat} [h:du l]:a7 l 0:=h.h0
instance ok9_1 {l:List Nat} [h:du l]:a7 l 1:=h.h1
instance ok9_2 {l:List Nat} [h:du l]:a7 l 2:=h.h2
instance ok9_3 {l:List Nat} [h:du l]:a7 l 3:=h.h3
instance ok9_4 {l:List Nat} [h:du l]:a7 l 4:=h.h4
instance ok9_5 {l:List Nat} [h:du l]:a7 l 5:=h.h5
instance ok9_6 {l:List Nat} [h:du l]:a7 l 6:=h.h6
instance ok9_7 {l:List Nat} [h:du l]:a7 l 7:=h.h7
instance ok9_23 {l:List Nat} [h:du l]:a7 l 23:=h.h23
instance ok9_all {l:List Nat} [cw l]:du l:=⟨inferInstance,inferInstance,inferInstance,inferInstance,inferInstance,inferInstance,inferInstance,inferInstance,inferInstance⟩
instance ok9_two {l:List Nat} [du l]:x7 l:=⟨inferInstance,inferInstance⟩
theorem Cp {l:List Nat} [cw l]:∀ g ∈ gs,g ∈ l:=fun g hg=>by
 rw [← cw.eq (l:=l)] at hg
 exact (HA.1 hg).1
theorem fR {l:List Nat} [cw l] {g:Nat} (h:g ∈ iB gs):g ∈ iB l:=jf.2 ⟨Cp g (jf.1 h).1,(jf.1 h).2⟩
theorem cd.std {w:World} {l:List Nat} {al:List Addr} [cw l] (h:cd w l al):At w al where
 len:=h.len.trans (by rw [cw.eq,cw.eq])
 nd:=fun i j g g' hi hl hj hl' e=>h.nd i j g g' (by rw [cw.eq] at hi ⊢;exact hi) (fR hl) (by rw [cw.eq] at hj ⊢;exact hj) (fR hl') e
 var:=fun i g hi hl=>h.var i g (by rw [cw.eq] at hi ⊢;exact hi) (fR hl)
 row:=h.row
 tab:=fun h1 h2=>h.tab (fR h1) (fR h2)
 tbl:=fun t ht hl=>h.tbl t ht (fR hl)
 lt:=fun g hg=>h.lt g (fR hg)
theorem sQ (al:List Addr):ev al 0=.nilIface:=rfl
@[go_sem] theorem di (op:BinOp) (t:TypeId) (x:Operand) (c:Value) (al:List Addr) (k:Nat):eqGuard op t x (.const c) (ev al k) .nilIface=pure ():=by
 unfold ev
 split
 exact eqGuard_nil_constR op t x c
 exact eqGuard_at_iface op t x _ _ _ _
theorem fW:prog.underlying 37=some (.interface (prog.methodsAt 37)):=by kernel_rfl
@[go_sem] theorem gx (al:List Addr) (k:Nat) (w:World):(binOp .eql 37 (ev al k) .nilIface).run prog w=.ok (.bool (decide (k=0))) w:=by
 unfold ev
 split
 ·subst k
  exact run_eql_nil_nil w _ fW
 ·rename_i hk
  simp only [hk,Im]
  exact run_eql_held_nil w _ _ _ fW
@[go_sem] theorem gv (al:List Addr) (k:Nat) (w:World):(binOp .neq 37 (ev al k) .nilIface).run prog w=.ok (.bool (!decide (k=0))) w:=by
 unfold ev
 split
 ·subst k
  exact run_neq_nil_nil w _ fW
 ·rename_i hk
  simp only [hk,Im]
  exact run_neq_held_nil w _ _ _ fW
end Go.Proofs.YtnijncmifjnifaaGreatDoor
namespace Go.Proofs.YtnijncmifjnifaaGreatDoor
open Go.RowKit
def el (w:World):Type:={ W:World // Below w.heap.size w W }
def el.w {w:World} (n:el w):World:=n.1
theorem el.below {w:World} (n:el w):Below w.heap.size w n.w:=n.2
instance (w:World):Nonempty (el w):=⟨⟨w,Below.refl _ _⟩⟩
theorem el.cell {w:World} {p:Addr} {v:Value} (h:w.cell? p=some v) (n:el w):n.w.cell? p=some v:=eB n.below h
def el.up {w W:World} (h:Below w.heap.size w W) (n:el W):el w:=⟨n.w,f2 h n.below⟩
section
variable {P:Program} {ops:Array Oper} {Q:Exit→Act→World→Prop} {md:Region.Mode}
def eS (P:Program) (md:Region.Mode) (ops:Array Oper) (Q:Exit→Act→World→Prop):Nat→Array Bool→Act→World→Prop
 | 0,listed,a,w=>Region.ready md ops listed=[]∧∀ n:el w,Q .normal a n.w
 | fuel+1,listed,a,w =>
  (Region.ready md ops listed=[]→∀ n:el w,Q .normal a n.w) ∧
  ∀ i ∈ Region.ready md ops listed,∀ n:el w,wpOp P ops Q i (fun a' w'=>Below n.w.heap.size n.w w'∧eS P md ops Q fuel (listed.setIfInBounds i true) a' w') a n.w
theorem gp:∀ (fuel:Nat) (listed:Array Bool) (a:Act) (w W:World),Below w.heap.size w W→eS P md ops Q fuel listed a w→eS P md ops Q fuel listed a W
 | 0,_,_,_,_,hb,h=>⟨h.1,fun n=>h.2 (n.up hb)⟩
 | _+1,_,_,_,_,hb,h=>⟨fun h0 n=>h.1 h0 (n.up hb),fun i hi n=>h.2 i hi (n.up hb)⟩
theorem lB:∀ (fuel:Nat) (listed:Array Bool) (a:Act) (w:World),eS P md ops Q fuel listed a w→wpAny P md ops Q fuel listed a w
 | 0,_,_,w,h=>⟨h.1,h.2 ⟨w,Below.refl _ _⟩⟩
 | fuel+1,_,_,w,h=>⟨fun h0=>h.1 h0 ⟨w,Below.refl _ _⟩,fun i hi=>wpOp_mono (fun a' w' h'=>lB fuel _ a' w' h'.2) (h.2 i hi ⟨w,Below.refl _ _⟩)⟩
def bP (P:Program) (ops:Array Oper) (w:World) (o:Oper) (v:Value) (a:Act):Prop:=YieldsIf P ops (fun W=>Below w.heap.size w W) o v a
theorem bP.mono {w W:World} {o:Oper} {v:Value} {a:Act} (hb:Below w.heap.size w W) (h:bP P ops w o v a):bP P ops W o v a :=
 h.imp (fun ⟨h1,h2⟩=>⟨h1,fun X hX=>h2 X (f2 hb hX)⟩) id
theorem oe {i:Nat} {oi:Oper} {v:Value} (hi:ops[i]?=some oi) (hsel:∀ (j:Nat) (o:Oper) cs b,ops[j]?=some o→o.op≠.select cs b)
  (hQ:∀ c a w,Q (.panic c) (a.put oi.dst v) w→Q (.panic c) a w) :
  ∀ (fuel:Nat) (listed:Array Bool) (a:Act) (w:World),
   (∀ j oj,ops[j]?=some oj→j≠i→listed.getD j true=false→(∀ e ∈ oj.after,Region.binds md e=true→e.on≠i)→oi.apart ops oj=true) →
   i ∈ Region.ready md ops listed→bP P ops w oi v a →
   eS P md ops Q fuel (listed.setIfInBounds i true) (a.put oi.dst v) w→eS P md ops Q (fuel+1) listed a w:=by
 intro fuel
 induction fuel with
 | zero =>
  intro listed a w _ hr hy H
  refine ⟨fun h=>(by rw [h] at hr;cases hr),fun j hj n=>?_⟩
  by_cases hji:j=i
  ·subst hji
   exact YieldsIf.wpOp hi hy n.below ⟨Below.refl _ _,gp 0 _ _ _ _ n.below H⟩
  ·have:=ready_mono hj hji
   rw [H.1] at this
   cases this
 | succ fuel ih =>
  intro listed a w hfree hr hy H
  refine ⟨fun h=>(by rw [h] at hr;cases hr),fun j hj n=>?_⟩
  by_cases hji:j=i
  ·subst hji
   exact YieldsIf.wpOp hi hy n.below ⟨Below.refl _ _,gp (fuel+1) _ _ _ _ n.below H⟩
  ·have h1:=H.2 j (ready_mono hj hji) n
   have ⟨hjun,oj,hoj,hall⟩:=mem_ready.1 hj
   have hnot:∀ e ∈ oj.after,Region.binds md e=true→e.on≠i:=fun e he hb heq=>by
    have h1:=hall e he hb
    have h0:=(mem_ready.1 hr).1
    rw [heq] at h1
    rcases Gs i listed.size with h'|h'
    ·simp [h'] at h0 h1;rw [h0] at h1;cases h1
    ·simp [Gt h'] at h1
   have h2:=wpOp_putIf hoj (hfree j oj hoj hji hjun hnot) (fun cs b=>hsel i oi cs b hi) (fun cs b=>hsel j oj cs b hoj) hQ (bP.mono n.below hy) h1
   have hfree':∀ k ok,ops[k]?=some ok→k≠i→(listed.setIfInBounds j true).getD k true=false →
     (∀ e ∈ ok.after,Region.binds md e=true→e.on≠i)→oi.apart ops ok=true:=fun k ok hk hki hun hno=>by
    refine hfree k ok hk hki ?_ hno
    by_cases hjk:j=k
    ·subst hjk;exact hjun
    ·rw [getD_set_ne true hjk] at hun;exact hun
   refine wpOp_mono (fun a' w' h3=>⟨h3.2.1,ih (listed.setIfInBounds j true) a' w' hfree' (ready_mono hr (Ne.symm hji)) (bP.mono h3.2.1 h3.1) ?_⟩) h2
   rw [G4 _ _ hji]
   exact h3.2.2
theorem eN (w:World):Below w.heap.size w w.drew:=⟨rfl,rfl,rfl,FQ _,fun _ _=>rfl⟩
end
end Go.Proofs.YtnijncmifjnifaaGreatDoor
namespace Go.Proofs.YtnijncmifjnifaaGreatDoor
open Go.RowKit
inductive d7 where
 | done
 | rd (i:Nat) (k:d7)
 | one (i:Nat) (k:d7)
 | two (i:Nat) (k:d7) (j:Nat) (m:d7)
 | three (i:Nat) (k:d7) (j:Nat) (m:d7) (q:Nat) (l:d7)
def d7.len:d7→Nat
 | .done=>0
 | .rd _ k=>k.len+1
 | .one _ k=>k.len+1
 | .two _ k _ _=>k.len+1
 | .three _ k _ _ _ _=>k.len+1
def d7.within (n:Nat):d7→Bool
 | .done=>true
 | .rd i k=>decide (i<n) && k.within n
 | .one i k=>decide (i<n) && k.within n
 | .two i k j m=>decide (i<n) && k.within n && decide (j<n) && m.within n
 | .three i k j m q l=>decide (i<n) && k.within n && decide (j<n) && m.within n && decide (q<n) && l.within n
section
variable {P:Program} {ops:Array Oper} {Q:Exit→Act→World→Prop} {md:Region.Mode}
def tn (P:Program) (ops:Array Oper) (Q:Exit→Act→World→Prop):d7→Act→World→Prop
 | .done,a,w=>∀ n:el w,Q .normal a n.w
 | .rd i k,a,w=>∃ v o,ops[i]?=some o∧bP P ops w o v a∧tn P ops Q k (a.put o.dst v) w
 | .one i k,a,w=>∀ n:el w,wpOp P ops Q i (fun a' w'=>Below n.w.heap.size n.w w'∧tn P ops Q k a' w') a n.w
 | .two i k j m,a,w =>
  (∀ n:el w,wpOp P ops Q i (fun a' w'=>Below n.w.heap.size n.w w'∧tn P ops Q k a' w') a n.w) ∧
  (∀ n:el w,wpOp P ops Q j (fun a' w'=>Below n.w.heap.size n.w w'∧tn P ops Q m a' w') a n.w)
 | .three i k j m q l,a,w =>
  (∀ n:el w,wpOp P ops Q i (fun a' w'=>Below n.w.heap.size n.w w'∧tn P ops Q k a' w') a n.w) ∧
  (∀ n:el w,wpOp P ops Q j (fun a' w'=>Below n.w.heap.size n.w w'∧tn P ops Q m a' w') a n.w) ∧
  (∀ n:el w,wpOp P ops Q q (fun a' w'=>Below n.w.heap.size n.w w'∧tn P ops Q l a' w') a n.w)
theorem ph:∀ (r:d7) (a:Act) (w W:World),Below w.heap.size w W→tn P ops Q r a w→tn P ops Q r a W
 | .done,_,_,_,hb,h=>fun n=>h (n.up hb)
 | .rd _ k,_,_,_,hb,⟨v,o,ho,hy,h⟩=>⟨v,o,ho,bP.mono hb hy,ph k _ _ _ hb h⟩
 | .one _ _,_,_,_,hb,h=>fun n=>h (n.up hb)
 | .two _ _ _ _,_,_,_,hb,h=>⟨fun n=>h.1 (n.up hb),fun n=>h.2 (n.up hb)⟩
 | .three _ _ _ _ _ _,_,_,_,hb,h=>⟨fun n=>h.1 (n.up hb),fun n=>h.2.1 (n.up hb),fun n=>h.2.2 (n.up hb)⟩
def bc (md:Region.Mode) (ops:Array Oper):d7→Array Bool→Bool
 | .done,listed=>Region.ready md ops listed == []
 | .rd i k,listed=>(Region.ready md ops listed).contains i && Region.free md ops listed i && bc md ops k (listed.setIfInBounds i true)
 | .one i k,listed=>Region.ready md ops listed == [i] && bc md ops k (listed.setIfInBounds i true)
 | .two i k j m,listed=>Region.ready md ops listed == [i,j] && (k.len == m.len) && bc md ops k (listed.setIfInBounds i true) && bc md ops m (listed.setIfInBounds j true)
 | .three i k j m q l,listed=>Region.ready md ops listed == [i,j,q] && (k.len == m.len) && (k.len == l.len) && bc md ops k (listed.setIfInBounds i true) && bc md ops m (listed.setIfInBounds j true) && bc md ops l (listed.setIfInBounds q true)
theorem cj (hs:Region.noSelect ops=true) (hQ:∀ c a w,¬ Q (.panic c) a w):∀ (l:d7) (listed:Array Bool) (a:Act) (w:World),bc md ops l listed=true→tn P ops Q l a w→eS P md ops Q l.len listed a w
 | .done,listed,a,w,hB,h=>⟨by simpa [bc] using hB,h⟩
 | .rd i r,listed,a,w,hB,h=>by
  simp only [bc,FK] at hB
  have ⟨⟨hr,hf⟩,hB'⟩:=hB
  have ⟨v,o,ho,hy,hK⟩:=h
  exact oe ho (Region.noSelect_spec hs) (fun c a w h=>absurd h (hQ c _ w)) r.len listed a w (Region.free_spec ho hf) (by simpa using hr) hy (cj hs hQ r _ _ _ hB' hK)
 | .one i r,listed,a,w,hB,h=>by
  simp only [bc,FK,GF] at hB
  refine ⟨fun h0=>(by rw [hB.1] at h0;cases h0),fun j hj n=>?_⟩
  rw [hB.1] at hj
  obtain rfl:=Gz.1 hj
  exact wpOp_mono (fun a' w' h'=>⟨h'.1,cj hs hQ r _ _ _ hB.2 h'.2⟩) (h n)
 | .two i r j m,listed,a,w,hB,h=>by
  simp only [bc,FK,GF] at hB
  have ⟨⟨⟨h1,h2⟩,h3⟩,h4⟩:=hB
  refine ⟨fun h0=>(by rw [h1] at h0;cases h0),fun q hq n=>?_⟩
  rw [h1] at hq
  simp only [Gb,GA,or_false] at hq
  rcases hq with rfl|rfl
  exact wpOp_mono (fun a' w' h'=>⟨h'.1,cj hs hQ r _ _ _ h3 h'.2⟩) (h.1 n)
  ·refine wpOp_mono (fun a' w' h'=>⟨h'.1,?_⟩) (h.2 n)
   show eS P md ops Q r.len _ _ _
   rw [h2]
   exact cj hs hQ m _ _ _ h4 h'.2
 | .three i r j m q0 l,listed,a,w,hB,h=>by
  simp only [bc,FK,GF] at hB
  have ⟨⟨⟨⟨⟨h1,h2⟩,h2'⟩,h3⟩,h4⟩,h5⟩:=hB
  refine ⟨fun h0=>(by rw [h1] at h0;cases h0),fun q hq n=>?_⟩
  rw [h1] at hq
  simp only [Gb,GA,or_false] at hq
  rcases hq with rfl|rfl|rfl
  exact wpOp_mono (fun a' w' h'=>⟨h'.1,cj hs hQ r _ _ _ h3 h'.2⟩) (h.1 n)
  ·refine wpOp_mono (fun a' w' h'=>⟨h'.1,?_⟩) (h.2.1 n)
   show eS P md ops Q r.len _ _ _
   rw [h2]
   exact cj hs hQ m _ _ _ h4 h'.2
  ·refine wpOp_mono (fun a' w' h'=>⟨h'.1,?_⟩) (h.2.2 n)
   show eS P md ops Q r.len _ _ _
   rw [h2']
   exact cj hs hQ l _ _ _ h5 h'.2
inductive bu where
 | done
 | rd (o:Oper) (k:bu)
 | one (o:Oper) (k:bu)
 | two (o:Oper) (k:bu) (p:Oper) (m:bu)
 | three (o:Oper) (k:bu) (p:Oper) (m:bu) (q:Oper) (l:bu)
def ac (ops:Array Oper):d7→bu
 | .done=>.done
 | .rd i k=>match ops[i]? with|some o=>.rd o (ac ops k)|none=>.done
 | .one i k=>match ops[i]? with|some o=>.one o (ac ops k)|none=>.done
 | .two i k j m=>match ops[i]?,ops[j]? with|some o,some p=>.two o (ac ops k) p (ac ops m)|_,_=>.done
 | .three i k j m q l=>match ops[i]?,ops[j]?,ops[q]? with|some o,some p,some r=>.three o (ac ops k) p (ac ops m) r (ac ops l)|_,_,_=>.done
def ob (P:Program) (ops:Array Oper) (Q:Exit→Act→World→Prop):bu→Act→World→Prop
 | .done,a,w=>∀ n:el w,Q .normal a n.w
 | .rd o r,a,w=>∃ v,bP P ops w o v a∧ob P ops Q r (a.put o.dst v) w
 | .one o r,a,w=>∀ n:el w,if Region.wanted o (yielded ops a.tmps) then o.wp P a n.w (fun a' w'=>Below n.w.heap.size n.w w'∧ob P ops Q r a' w') Q else ob P ops Q r (a.put o.dst undef) w
 | .two o r p m,a,w =>
  (∀ n:el w,if Region.wanted o (yielded ops a.tmps) then o.wp P a n.w (fun a' w'=>Below n.w.heap.size n.w w'∧ob P ops Q r a' w') Q else ob P ops Q r (a.put o.dst undef) w) ∧
  (∀ n:el w,if Region.wanted p (yielded ops a.tmps) then p.wp P a n.w (fun a' w'=>Below n.w.heap.size n.w w'∧ob P ops Q m a' w') Q else ob P ops Q m (a.put p.dst undef) w)
 | .three o r p m q l,a,w =>
  (∀ n:el w,if Region.wanted o (yielded ops a.tmps) then o.wp P a n.w (fun a' w'=>Below n.w.heap.size n.w w'∧ob P ops Q r a' w') Q else ob P ops Q r (a.put o.dst undef) w) ∧
  (∀ n:el w,if Region.wanted p (yielded ops a.tmps) then p.wp P a n.w (fun a' w'=>Below n.w.heap.size n.w w'∧ob P ops Q m a' w') Q else ob P ops Q m (a.put p.dst undef) w) ∧
  (∀ n:el w,if Region.wanted q (yielded ops a.tmps) then q.wp P a n.w (fun a' w'=>Below n.w.heap.size n.w w'∧ob P ops Q l a' w') Q else ob P ops Q l (a.put q.dst undef) w)
theorem ed {i:Nat} {o:Oper} {a:Act} {w:World} {k:d7} {r:bu} (ho:ops[i]?=some o) (hk:∀ a' w',ob P ops Q r a' w'→tn P ops Q k a' w')
  (h:∀ n:el w,if Region.wanted o (yielded ops a.tmps) then o.wp P a n.w (fun a' w'=>Below n.w.heap.size n.w w'∧ob P ops Q r a' w') Q else ob P ops Q r (a.put o.dst undef) w) :
  ∀ n:el w,wpOp P ops Q i (fun a' w'=>Below n.w.heap.size n.w w'∧tn P ops Q k a' w') a n.w:=by
 intro n
 have h:=h n
 unfold wpOp
 simp only [ho]
 split
 ·rename_i hw
  rw [FO hw] at h
  exact .inl (Oper.wp_mono (fun a' w' h'=>⟨h'.1,hk _ _ h'.2⟩) h)
 ·rename_i hw
  rw [FN hw] at h
  exact ⟨Below.refl _ _,ph k _ _ _ n.below (hk _ _ h)⟩
theorem dM:∀ (l:d7) (a:Act) (w:World),l.within ops.size=true→ob P ops Q (ac ops l) a w→tn P ops Q l a w
 | .done,_,_,_,h=>h
 | .rd i k,a,w,hl,h=>by
  simp only [d7.within,FK,FT] at hl
  have ho:ops[i]?=some ops[i]:=FP hl.1
  simp only [ac,ho] at h
  have ⟨v,hy,hk⟩:=h
  exact ⟨v,ops[i],ho,hy,dM k _ _ hl.2 hk⟩
 | .one i k,a,w,hl,h=>by
  simp only [d7.within,FK,FT] at hl
  have ho:ops[i]?=some ops[i]:=FP hl.1
  simp only [ac,ho] at h
  exact ed ho (fun a' w'=>dM k a' w' hl.2) h
 | .two i k j m,a,w,hl,h=>by
  simp only [d7.within,FK,FT] at hl
  have ho:ops[i]?=some ops[i]:=FP hl.1.1.1
  have hp:ops[j]?=some ops[j]:=FP hl.1.2
  simp only [ac,ho,hp] at h
  exact ⟨ed ho (fun a' w'=>dM k a' w' hl.1.1.2) h.1,ed hp (fun a' w'=>dM m a' w' hl.2) h.2⟩
 | .three i k j m q l,a,w,hl,h=>by
  simp only [d7.within,FK,FT] at hl
  have ho:ops[i]?=some ops[i]:=FP hl.1.1.1.1.1
  have hp:ops[j]?=some ops[j]:=FP hl.1.1.1.2
  have hq:ops[q]?=some ops[q]:=FP hl.1.2
  simp only [ac,ho,hp,hq] at h
  exact ⟨ed ho (fun a' w'=>dM k a' w' hl.1.1.1.1.2) h.1,ed hp (fun a' w'=>dM m a' w' hl.1.1.2) h.2.1,ed hq (fun a' w'=>dM l a' w' hl.2) h.2.2⟩
theorem D7 {a:Act} {w:World} (l:d7) (hs:Region.noSelect ops=true) (hl:l.len=ops.size)
  (hin:l.within ops.size=true)
  (hB:bc .any ops l (Array.replicate ops.size false)=true) (h:ob P ops (NoPanic Q) (ac ops l) a w):wpAny P .any ops (NoPanic Q) ops.size (Array.replicate ops.size false) a w.drew:=by
 refine lB _ _ _ _ (gp _ _ _ _ _ (eN w) ?_)
 have:=cj hs (fun c a w h=>h) l _ a w hB (dM l a w hin h)
 rwa [hl] at this
end
end Go.Proofs.YtnijncmifjnifaaGreatDoor
namespace Go.Proofs.YtnijncmifjnifaaGreatDoor
open Go.RowKit
section
variable {P:Program} {ops:Array Oper} {Q:Exit→Act→World→Prop} {md:Region.Mode} {m:Nat} {R:Act→World→Prop}
def dR (m:Nat) (listed:Array Bool):Bool:=(List.range m).all fun i=>listed.getD i false
theorem eu {listed:Array Bool}:dR m listed=true↔∀ i,i<m→listed.getD i false=true:=by
 simp [dR,F5]
def dt (md:Region.Mode) (ops:Array Oper) (listed:Array Bool):Prop:=∀ (i:Nat) o,ops[i]?=some o→listed.getD i false=true→∀ e ∈ o.after,Region.binds md e=true→listed.getD e.on false=true
def fX (md:Region.Mode) (ops:Array Oper) (m:Nat):Bool :=
 ((List.range m).all fun i=>(List.range (m+1)).any fun k=>Nat.blt i k && (ops[k]?).any fun o=>o.after.any fun e=>Region.binds md e && e.on == i) &&
 ((List.range ops.size).all fun j=>Nat.ble j m || (List.range j).any fun k=>Nat.ble m k && (ops[j]?).any fun o=>o.after.any fun e=>Region.binds md e && e.on == k)
theorem any_some {α:Type} {p:α→Bool} {x:Option α} (h:x.any p=true):∃ o,x=some o∧p o=true:=by
 cases x with
 | none=>cases h
 | some o=>exact ⟨o,rfl,h⟩
theorem pQ {listed:Array Bool} {i j:Nat} (hji:j≠i) (h0:listed.getD j true=false) (h1:(listed.setIfInBounds i true).getD j false=true):False:=by
 have e:(listed.setIfInBounds i true)[j]?=listed[j]?:=Gd (Ne.symm hji)
 simp only [GI] at h0 h1
 rw [e] at h1
 cases h:listed[j]? with
 | none=>rw [h] at h0;cases h0
 | some b=>rw [h] at h0 h1;simp at h0 h1;rw [h0] at h1;cases h1
theorem qz (hc:fX md ops m=true) {listed:Array Bool} (hcl:dt md ops listed):∀ (n j:Nat),j=m+n→(∀ o,ops[j]?=some o→∀ e ∈ o.after,Region.binds md e=true→listed.getD e.on false=true)→j<ops.size→dR m listed=true:=by
 simp only [fX,FK,F5,GN,GD,GE] at hc
 have ⟨h1,h2⟩:=hc
 intro n
 induction n using Nat.strongRecOn with
 | _ n ih =>
  intro j hj hr hlt
  by_cases hn:n=0
  ·subst hn
   have hj:j=m:=by omega
   subst hj
   rw [eu]
   have key:∀ d i,i+d=j→d≠0→listed.getD i false=true:=by
    intro d
    induction d using Nat.strongRecOn with
    | _ d ihd =>
     intro i hid hd
     have ⟨k,hk,hk2⟩:=h1 i O
     have ⟨hik,hk3⟩:=hk2
     have hik:i<k:=FS hik
     have ⟨o,ho,ha⟩:=any_some hk3
     have ⟨e,he,hbe⟩:=HI.1 ha
     simp only [FK,GF] at hbe
     by_cases hkj:k=j
     ·subst hkj
      have:=hr o ho e he hbe.1
      rwa [hbe.2] at this
     ·have:=hcl k o ho (ihd (j-k) O k O O) e he hbe.1
      rwa [hbe.2] at this
   intro i hi
   exact key (j-i) i O O
  ·have h3:=h2 j hlt
   rcases h3 with h3|⟨k,hk,hk2,hk3⟩
   ·have:=FS h3;omega
   ·have hk2:m≤k:=FS hk2
    have ⟨o,ho,ha⟩:=any_some hk3
    have ⟨e,he,hbe⟩:=HI.1 ha
    simp only [FK,GF] at hbe
    have hl:=hr o ho e he hbe.1
    rw [hbe.2] at hl
    refine ih (k-m) O k O (fun o' ho' e' he' hb'=>hcl k o' ho' hl e' he' hb') ?_
    omega
theorem lO (hc:fX md ops m=true) {listed:Array Bool} (hcl:dt md ops listed) (hf:dR m listed=false) {j:Nat} (hj:j ∈ Region.ready md ops listed):j<m:=by
 rcases Gs j m with h|h
 exact h
 ·have ⟨hun,o,ho,hall⟩:=mem_ready.1 hj
  have:=qz hc hcl (j-m) j O (fun o' ho' e he hb=>by
   rw [ho] at ho';cases ho'
   exact hall e he hb) (FY.1 ho).1
  rw [this] at hf;cases hf
def tu (P:Program) (md:Region.Mode) (ops:Array Oper) (Q:Exit→Act→World→Prop) (m:Nat) (R:Act→World→Prop):Nat→Array Bool→Act→World→Prop
 | 0,listed,a,w=>dR m listed=true∧∀ n:el w,R a n.w
 | f+1,listed,a,w=>(dR m listed=true→∀ n:el w,R a n.w) ∧
  (dR m listed=false→Region.ready md ops listed≠[]∧∀ i ∈ Region.ready md ops listed,∀ n:el w,wpOp P ops Q i (fun a' w'=>Below n.w.heap.size n.w w'∧tu P md ops Q m R f (listed.setIfInBounds i true) a' w') a n.w)
theorem lz:∀ (f:Nat) (listed:Array Bool) (a:Act) (w W:World),Below w.heap.size w W→tu P md ops Q m R f listed a w→tu P md ops Q m R f listed a W
 | 0,_,_,_,_,hb,h=>⟨h.1,fun n=>h.2 (n.up hb)⟩
 | _+1,_,_,_,_,hb,h=>⟨fun h0 n=>h.1 h0 (n.up hb),fun h0=>⟨(h.2 h0).1,fun i hi n=>(h.2 h0).2 i hi (n.up hb)⟩⟩
theorem iC {listed:Array Bool} {i j:Nat} (h:listed.getD j false=true):(listed.setIfInBounds i true).getD j false=true:=by
 by_cases hij:i=j
 ·subst hij
  have:i<listed.size:=by
   rcases Gs i listed.size with h'|h'
   exact h'
   ·simp [Gt h'] at h
  simp [this]
 ·simpa [Gd hij] using h
theorem aB {listed:Array Bool} (hcl:dt md ops listed) {i:Nat} (hi:i ∈ Region.ready md ops listed):dt md ops (listed.setIfInBounds i true):=by
 have ⟨hun,oi,hoi,hall⟩:=mem_ready.1 hi
 intro k o ho hk e he hb
 by_cases hik:k=i
 ·subst hik
  rw [hoi] at ho;cases ho
  exact iC (hall e he hb)
 ·have hk':listed.getD k false=true:=by simpa [Gd (Ne.symm hik)] using hk
  exact iC (hcl k o ho hk' e he hb)
theorem tq {i:Nat} {oi:Oper} {v:Value} (hc:fX md ops m=true) (hi:ops[i]?=some oi) (him:i<m) (hsel:∀ (j:Nat) (o:Oper) cs b,ops[j]?=some o→o.op≠.select cs b)
  (hQ:∀ c a w,Q (.panic c) (a.put oi.dst v) w→Q (.panic c) a w) :
  ∀ (fuel:Nat) (listed:Array Bool) (a:Act) (w:World),dt md ops listed →
   (∀ j oj,ops[j]?=some oj→j<m→j≠i→listed.getD j true=false→(∀ e ∈ oj.after,Region.binds md e=true→e.on≠i)→oi.apart ops oj=true) →
   i ∈ Region.ready md ops listed→bP P ops w oi v a →
   tu P md ops Q m R fuel (listed.setIfInBounds i true) (a.put oi.dst v) w→tu P md ops Q m R (fuel+1) listed a w:=by
 have nf:∀ {listed:Array Bool},i ∈ Region.ready md ops listed→dR m listed=false:=fun {listed} hr=>by
  cases h:dR m listed with
  | false=>rfl
  | true =>
   have:=eu.1 h i him
   have h0:=(mem_ready.1 hr).1
   rcases Gs i listed.size with h'|h'
   ·simp [h'] at h0 this;rw [h0] at this;cases this
   ·simp [Gt h'] at this
 intro fuel
 induction fuel with
 | zero =>
  intro listed a w hcl _ hr hy H
  have hnf:=nf hr
  refine ⟨fun h=>(by rw [hnf] at h;cases h),fun _=>⟨(by intro h;rw [h] at hr;cases hr),fun j hj n=>?_⟩⟩
  by_cases hji:j=i
  ·subst hji
   exact YieldsIf.wpOp hi hy n.below ⟨Below.refl _ _,lz 0 _ _ _ _ n.below H⟩
  ·have hjm:=lO hc hcl hnf hj
   have h1:=eu.1 H.1 j hjm
   exact (pQ hji (mem_ready.1 hj).1 h1).elim
 | succ fuel ih =>
  intro listed a w hcl hfree hr hy H
  have hnf:=nf hr
  refine ⟨fun h=>(by rw [hnf] at h;cases h),fun _=>⟨(by intro h;rw [h] at hr;cases hr),fun j hj n=>?_⟩⟩
  by_cases hji:j=i
  ·subst hji
   exact YieldsIf.wpOp hi hy n.below ⟨Below.refl _ _,lz (fuel+1) _ _ _ _ n.below H⟩
  ·have hjm:=lO hc hcl hnf hj
   have ⟨hjun,oj,hoj,hall⟩:=mem_ready.1 hj
   have hnf2:dR m (listed.setIfInBounds i true)=false:=by
    cases h:dR m (listed.setIfInBounds i true) with
    | false=>rfl
    | true =>
     have h1:=eu.1 h j hjm
     exact (pQ hji hjun h1).elim
   have h1:=(H.2 hnf2).2 j (ready_mono hj hji) n
   have hnot:∀ e ∈ oj.after,Region.binds md e=true→e.on≠i:=fun e he hb heq=>by
    have h1:=hall e he hb
    have h0:=(mem_ready.1 hr).1
    rw [heq] at h1
    rcases Gs i listed.size with h'|h'
    ·simp [h'] at h0 h1;rw [h0] at h1;cases h1
    ·simp [Gt h'] at h1
   have h2:=wpOp_putIf hoj (hfree j oj hoj hjm hji hjun hnot) (fun cs b=>hsel i oi cs b hi) (fun cs b=>hsel j oj cs b hoj) hQ (bP.mono n.below hy) h1
   have hfree':∀ k ok,ops[k]?=some ok→k<m→k≠i→(listed.setIfInBounds j true).getD k true=false →
     (∀ e ∈ ok.after,Region.binds md e=true→e.on≠i)→oi.apart ops ok=true:=fun k ok hk hkm hki hun hno=>by
    refine hfree k ok hk hkm hki ?_ hno
    by_cases hjk:j=k
    ·subst hjk;exact hjun
    ·rw [getD_set_ne true hjk] at hun;exact hun
   refine wpOp_mono (fun a' w' h3=>⟨h3.2.1,ih (listed.setIfInBounds j true) a' w' (aB hcl hj) hfree' (ready_mono hr (Ne.symm hji)) (bP.mono h3.2.1 h3.1) ?_⟩) h2
   rw [G4 _ _ hji]
   exact h3.2.2
def jF (P:Program) (ops:Array Oper) (Q:Exit→Act→World→Prop) (R:Act→World→Prop):d7→Act→World→Prop
 | .done,a,w=>∀ n:el w,R a n.w
 | .rd i k,a,w=>∃ v o,ops[i]?=some o∧bP P ops w o v a∧jF P ops Q R k (a.put o.dst v) w
 | .one i k,a,w=>∀ n:el w,wpOp P ops Q i (fun a' w'=>Below n.w.heap.size n.w w'∧jF P ops Q R k a' w') a n.w
 | .two i k j l,a,w =>
  (∀ n:el w,wpOp P ops Q i (fun a' w'=>Below n.w.heap.size n.w w'∧jF P ops Q R k a' w') a n.w) ∧
  (∀ n:el w,wpOp P ops Q j (fun a' w'=>Below n.w.heap.size n.w w'∧jF P ops Q R l a' w') a n.w)
 | .three i k j l q u,a,w =>
  (∀ n:el w,wpOp P ops Q i (fun a' w'=>Below n.w.heap.size n.w w'∧jF P ops Q R k a' w') a n.w) ∧
  (∀ n:el w,wpOp P ops Q j (fun a' w'=>Below n.w.heap.size n.w w'∧jF P ops Q R l a' w') a n.w) ∧
  (∀ n:el w,wpOp P ops Q q (fun a' w'=>Below n.w.heap.size n.w w'∧jF P ops Q R u a' w') a n.w)
def xe (md:Region.Mode) (ops:Array Oper) (m:Nat) (listed:Array Bool) (i:Nat):Bool:=match ops[i]? with
 | none=>false
 | some oi=>(List.range m).all fun j=>Nat.beq j i || listed.getD j true || match ops[j]? with|none=>true|some oj=>(oj.after.any fun e=>Region.binds md e && e.on == i) || oi.apart ops oj
theorem rD {listed:Array Bool} {i:Nat} {oi:Oper} (hi:ops[i]?=some oi) (h:xe md ops m listed i=true) :
  ∀ j oj,ops[j]?=some oj→j<m→j≠i→listed.getD j true=false→(∀ e ∈ oj.after,Region.binds md e=true→e.on≠i)→oi.apart ops oj=true:=by
 intro j oj hj hjm hji hun hno
 simp only [xe,hi,F5,GD] at h
 have:=h j hjm
 simp only [hun,hj,Bool.or_false,GE] at this
 rcases this with h1|h1|h1
 exact absurd (Gc h1) hji
 ·have ⟨e,he,hb⟩:=HI.1 h1
  simp only [FK,GF] at hb
  exact absurd hb.2 (hno e he hb.1)
 exact h1
def bJ (md:Region.Mode) (ops:Array Oper) (m:Nat):d7→Array Bool→Bool
 | .done,listed=>dR m listed
 | .rd i k,listed=>(Region.ready md ops listed).contains i && Nat.blt i m && xe md ops m listed i && bJ md ops m k (listed.setIfInBounds i true)
 | .one i k,listed=>!dR m listed && Region.ready md ops listed == [i] && bJ md ops m k (listed.setIfInBounds i true)
 | .two i k j l,listed=>!dR m listed && Region.ready md ops listed == [i,j] && (k.len == l.len) && bJ md ops m k (listed.setIfInBounds i true) && bJ md ops m l (listed.setIfInBounds j true)
 | .three i k j l q u,listed=>!dR m listed && Region.ready md ops listed == [i,j,q] && (k.len == l.len) && (k.len == u.len) && bJ md ops m k (listed.setIfInBounds i true) && bJ md ops m l (listed.setIfInBounds j true) && bJ md ops m u (listed.setIfInBounds q true)
theorem gl (hc:fX md ops m=true) (hs:Region.noSelect ops=true) (hQ:∀ c a w,¬ Q (.panic c) a w):∀ (l:d7) (listed:Array Bool) (a:Act) (w:World),dt md ops listed→bJ md ops m l listed=true→jF P ops Q R l a w→tu P md ops Q m R l.len listed a w
 | .done,listed,a,w,_,hB,h=>⟨hB,h⟩
 | .rd i r,listed,a,w,hcl,hB,h=>by
  simp only [bJ,FK] at hB
  have ⟨⟨⟨hr,him⟩,hf⟩,hB'⟩:=hB
  have ⟨v,o,ho,hy,hK⟩:=h
  have hr':i ∈ Region.ready md ops listed:=by simpa using hr
  exact tq hc ho (FS him) (Region.noSelect_spec hs) (fun c a w h=>absurd h (hQ c _ w)) r.len listed a w hcl (rD ho hf) hr' hy (gl hc hs hQ r _ _ _ (aB hcl hr') hB' hK)
 | .one i r,listed,a,w,hcl,hB,h=>by
  simp only [bJ,FK,GF,Hm] at hB
  have ⟨⟨hnf,hr⟩,hB'⟩:=hB
  have hi:i ∈ Region.ready md ops listed:=by rw [hr];exact Gz.2 rfl
  refine ⟨fun h0=>(by rw [hnf] at h0;cases h0),fun _=>⟨(by rw [hr];simp),fun j hj n=>?_⟩⟩
  rw [hr] at hj
  obtain rfl:=Gz.1 hj
  exact wpOp_mono (fun a' w' h'=>⟨h'.1,gl hc hs hQ r _ _ _ (aB hcl hi) hB' h'.2⟩) (h n)
 | .two i r j l,listed,a,w,hcl,hB,h=>by
  simp only [bJ,FK,GF,Hm] at hB
  have ⟨⟨⟨⟨hnf,h1⟩,h2⟩,h3⟩,h4⟩:=hB
  have hi:i ∈ Region.ready md ops listed:=by rw [h1];simp
  have hj:j ∈ Region.ready md ops listed:=by rw [h1];simp
  refine ⟨fun h0=>(by rw [hnf] at h0;cases h0),fun _=>⟨(by rw [h1];simp),fun q hq n=>?_⟩⟩
  rw [h1] at hq
  simp only [Gb,GA,or_false] at hq
  rcases hq with rfl|rfl
  exact wpOp_mono (fun a' w' h'=>⟨h'.1,gl hc hs hQ r _ _ _ (aB hcl hi) h3 h'.2⟩) (h.1 n)
  ·refine wpOp_mono (fun a' w' h'=>⟨h'.1,?_⟩) (h.2 n)
   show tu P md ops Q m R r.len _ _ _
   rw [h2]
   exact gl hc hs hQ l _ _ _ (aB hcl hj) h4 h'.2
 | .three i r j l q0 u,listed,a,w,hcl,hB,h=>by
  simp only [bJ,FK,GF,Hm] at hB
  have ⟨⟨⟨⟨⟨⟨hnf,h1⟩,h2⟩,h2'⟩,h3⟩,h4⟩,h5⟩:=hB
  have hi:i ∈ Region.ready md ops listed:=by rw [h1];simp
  have hj:j ∈ Region.ready md ops listed:=by rw [h1];simp
  have hq0:q0 ∈ Region.ready md ops listed:=by rw [h1];simp
  refine ⟨fun h0=>(by rw [hnf] at h0;cases h0),fun _=>⟨(by rw [h1];simp),fun q hq n=>?_⟩⟩
  rw [h1] at hq
  simp only [Gb,GA,or_false] at hq
  rcases hq with rfl|rfl|rfl
  exact wpOp_mono (fun a' w' h'=>⟨h'.1,gl hc hs hQ r _ _ _ (aB hcl hi) h3 h'.2⟩) (h.1 n)
  ·refine wpOp_mono (fun a' w' h'=>⟨h'.1,?_⟩) (h.2.1 n)
   show tu P md ops Q m R r.len _ _ _
   rw [h2]
   exact gl hc hs hQ l _ _ _ (aB hcl hj) h4 h'.2
  ·refine wpOp_mono (fun a' w' h'=>⟨h'.1,?_⟩) (h.2.2 n)
   show tu P md ops Q m R r.len _ _ _
   rw [h2']
   exact gl hc hs hQ u _ _ _ (aB hcl hq0) h5 h'.2
theorem lD:∀ (f k:Nat) (listed:Array Bool) (a:Act) (w:World),wpAny P md ops Q f listed a w→wpAny P md ops Q (f+k) listed a w
 | 0,0,_,_,_,h=>h
 | 0,k+1,listed,a,w,h=>by
  rw [Nat.zero_add]
  exact ⟨fun _=>h.2,fun i hi=>(by rw [h.1] at hi;cases hi)⟩
 | f+1,k,listed,a,w,h=>by
  rw [Nat.add_right_comm]
  exact ⟨h.1,fun i hi=>wpOp_mono (fun a' w' h'=>lD f k _ a' w' h') (h.2 i hi)⟩
def mT (m n:Nat):Array Bool:=(List.replicate m true++List.replicate (n-m) false).toArray
theorem lU {listed:Array Bool} (hm:m≤ops.size) (hsz:listed.size=ops.size) (hf:dR m listed=true) (ht:∀ j,m≤j→listed.getD j false=false):listed=mT m ops.size:=by
 apply Array.ext_getElem?
 intro j
 rcases Gs j listed.size with h|h
 ·have e:listed[j]?=some (listed.getD j false):=by simp [h]
  rw [e]
  rcases Gs j m with h1|h1
  ·rw [eu.1 hf j h1]
   simp [mT,Hu,h1]
  ·rw [ht j h1]
   simp [mT,Hu,show ¬ j<m by omega,show j-m<ops.size-m by omega]
 ·rw [Gt h]
  simp [mT]
  omega
theorem lC (hc:fX md ops m=true) (hm:m≤ops.size) (g:Nat):∀ (f:Nat) (listed:Array Bool) (a:Act) (w:World),listed.size=ops.size→dt md ops listed→(∀ j,m≤j→listed.getD j false=false) →
  tu P md ops Q m (fun a w=>wpAny P md ops Q g (mT m ops.size) a w) f listed a w→wpAny P md ops Q (f+g) listed a w
 | 0,listed,a,w,hsz,_,ht,h=>by
  rw [Nat.zero_add,lU hm hsz h.1 ht]
  exact h.2 ⟨w,Below.refl _ _⟩
 | f+1,listed,a,w,hsz,hcl,ht,h=>by
  cases hf:dR m listed with
  | true =>
   rw [lU hm hsz hf ht,Nat.add_comm]
   exact lD g (f+1) _ a w (h.1 hf ⟨w,Below.refl _ _⟩)
  | false =>
   have ⟨hne,h2⟩:=h.2 hf
   rw [Nat.add_right_comm]
   refine ⟨fun h0=>absurd h0 hne,fun i hi=>wpOp_mono (fun a' w' h'=>lC hc hm g f _ a' w' (by simp [hsz]) (aB hcl hi) (fun j hj=>?_) h'.2) (h2 i hi ⟨w,Below.refl _ _⟩)⟩
   have him:=lO hc hcl hf hi
   have:=ht j hj
   simpa [Gd (show i≠j by omega)] using this
def lG (md:Region.Mode) (ops:Array Oper):Nat→Nat→Array Bool→Bool
 | 0,_,listed=>Region.ready md ops listed == []
 | f+1,i,listed=>Region.ready md ops listed == [i] && lG md ops f (i+1) (listed.setIfInBounds i true)
theorem iE:∀ (f i:Nat) (listed:Array Bool) (a:Act) (w:World),lG md ops f i listed=true→wpOps P ops Q ((List.range f).map (i+·)) a w→wpAny P md ops Q f listed a w
 | 0,i,listed,a,w,hB,h=>⟨by simpa [lG] using hB,by simpa [wpOps] using h⟩
 | f+1,i,listed,a,w,hB,h=>by
  simp only [lG,FK,GF] at hB
  refine ⟨fun h0=>(by rw [hB.1] at h0;cases h0),fun j hj=>?_⟩
  rw [hB.1] at hj
  obtain rfl:=Gz.1 hj
  rw [List.range_succ_eq_map,Gf,wpOps_cons,GV,List.map_map] at h
  have e:((fun x=>j+x) ∘ Nat.succ)=(fun x=>j+1+x):=funext fun x=>by simp;omega
  rw [e] at h
  exact wpOp_mono (fun a' w' h'=>iE f (j+1) _ a' w' hB.2 h') h
def ff (P:Program) (ops:Array Oper) (Q:Exit→Act→World→Prop) (R:Act→World→Prop):bu→Act→World→Prop
 | .done,a,w=>∀ n:el w,R a n.w
 | .rd o r,a,w=>∃ v,bP P ops w o v a∧ff P ops Q R r (a.put o.dst v) w
 | .one o r,a,w=>∀ n:el w,if Region.wanted o (yielded ops a.tmps) then o.wp P a n.w (fun a' w'=>Below n.w.heap.size n.w w'∧ff P ops Q R r a' w') Q else ff P ops Q R r (a.put o.dst undef) w
 | .two o r p l,a,w =>
  (∀ n:el w,if Region.wanted o (yielded ops a.tmps) then o.wp P a n.w (fun a' w'=>Below n.w.heap.size n.w w'∧ff P ops Q R r a' w') Q else ff P ops Q R r (a.put o.dst undef) w) ∧
  (∀ n:el w,if Region.wanted p (yielded ops a.tmps) then p.wp P a n.w (fun a' w'=>Below n.w.heap.size n.w w'∧ff P ops Q R l a' w') Q else ff P ops Q R l (a.put p.dst undef) w)
 | .three o r p l q u,a,w =>
  (∀ n:el w,if Region.wanted o (yielded ops a.tmps) then o.wp P a n.w (fun a' w'=>Below n.w.heap.size n.w w'∧ff P ops Q R r a' w') Q else ff P ops Q R r (a.put o.dst undef) w) ∧
  (∀ n:el w,if Region.wanted p (yielded ops a.tmps) then p.wp P a n.w (fun a' w'=>Below n.w.heap.size n.w w'∧ff P ops Q R l a' w') Q else ff P ops Q R l (a.put p.dst undef) w) ∧
  (∀ n:el w,if Region.wanted q (yielded ops a.tmps) then q.wp P a n.w (fun a' w'=>Below n.w.heap.size n.w w'∧ff P ops Q R u a' w') Q else ff P ops Q R u (a.put q.dst undef) w)
theorem mY:∀ (r:d7) (a:Act) (w W:World),Below w.heap.size w W→jF P ops Q R r a w→jF P ops Q R r a W
 | .done,_,_,_,hb,h=>fun n=>h (n.up hb)
 | .rd _ k,_,_,_,hb,⟨v,o,ho,hy,h⟩=>⟨v,o,ho,bP.mono hb hy,mY k _ _ _ hb h⟩
 | .one _ _,_,_,_,hb,h=>fun n=>h (n.up hb)
 | .two _ _ _ _,_,_,_,hb,h=>⟨fun n=>h.1 (n.up hb),fun n=>h.2 (n.up hb)⟩
 | .three _ _ _ _ _ _,_,_,_,hb,h=>⟨fun n=>h.1 (n.up hb),fun n=>h.2.1 (n.up hb),fun n=>h.2.2 (n.up hb)⟩
theorem dz {i:Nat} {o:Oper} {a:Act} {w:World} {k:d7} {r:bu} (ho:ops[i]?=some o) (hk:∀ a' w',ff P ops Q R r a' w'→jF P ops Q R k a' w')
  (h:∀ n:el w,if Region.wanted o (yielded ops a.tmps) then o.wp P a n.w (fun a' w'=>Below n.w.heap.size n.w w'∧ff P ops Q R r a' w') Q else ff P ops Q R r (a.put o.dst undef) w) :
  ∀ n:el w,wpOp P ops Q i (fun a' w'=>Below n.w.heap.size n.w w'∧jF P ops Q R k a' w') a n.w:=by
 intro n
 have h:=h n
 unfold wpOp
 simp only [ho]
 split
 ·rename_i hw
  rw [FO hw] at h
  exact .inl (Oper.wp_mono (fun a' w' h'=>⟨h'.1,hk _ _ h'.2⟩) h)
 ·rename_i hw
  rw [FN hw] at h
  exact ⟨Below.refl _ _,mY k _ _ _ n.below (hk _ _ h)⟩
theorem cY:∀ (l:d7) (a:Act) (w:World),l.within ops.size=true→ff P ops Q R (ac ops l) a w→jF P ops Q R l a w
 | .done,_,_,_,h=>h
 | .rd i k,a,w,hl,h=>by
  simp only [d7.within,FK,FT] at hl
  have ho:ops[i]?=some ops[i]:=FP hl.1
  simp only [ac,ho] at h
  have ⟨v,hy,hk⟩:=h
  exact ⟨v,ops[i],ho,hy,cY k _ _ hl.2 hk⟩
 | .one i k,a,w,hl,h=>by
  simp only [d7.within,FK,FT] at hl
  have ho:ops[i]?=some ops[i]:=FP hl.1
  simp only [ac,ho] at h
  exact dz ho (fun a' w'=>cY k a' w' hl.2) h
 | .two i k j l,a,w,hl,h=>by
  simp only [d7.within,FK,FT] at hl
  have ho:ops[i]?=some ops[i]:=FP hl.1.1.1
  have hp:ops[j]?=some ops[j]:=FP hl.1.2
  simp only [ac,ho,hp] at h
  exact ⟨dz ho (fun a' w'=>cY k a' w' hl.1.1.2) h.1,dz hp (fun a' w'=>cY l a' w' hl.2) h.2⟩
 | .three i k j l q u,a,w,hl,h=>by
  simp only [d7.within,FK,FT] at hl
  have ho:ops[i]?=some ops[i]:=FP hl.1.1.1.1.1
  have hp:ops[j]?=some ops[j]:=FP hl.1.1.1.2
  have hq:ops[q]?=some ops[q]:=FP hl.1.2
  simp only [ac,ho,hp,hq] at h
  exact ⟨dz ho (fun a' w'=>cY k a' w' hl.1.1.1.1.2) h.1,dz hp (fun a' w'=>cY l a' w' hl.1.1.2) h.2.1,dz hq (fun a' w'=>cY u a' w' hl.2) h.2.2⟩
theorem ng (n i:Nat):(Array.replicate n false).getD i false=false:=by
 rcases Gs i n with h|h
 ·simp [h]
 ·simp [Nat.not_lt.2 h]
theorem gT (n:Nat):dt md ops (Array.replicate n false):=fun i o _ hi=>by rw [ng] at hi;cases hi
theorem a8:∀ (t:bu) (a:Act) (w:World),ff P ops Q (Q .normal) t a w→ob P ops Q t a w
 | .done,_,_,h=>h
 | .rd _ r,_,_,⟨v,hy,h⟩=>⟨v,hy,a8 r _ _ h⟩
 | .one o r,a,w,h=>fun n=>by
  have h:=h n
  split
  ·rename_i hw;rw [FO hw] at h;exact Oper.wp_mono (fun a' w' h'=>⟨h'.1,a8 r _ _ h'.2⟩) h
  ·rename_i hw;rw [FN hw] at h;exact a8 r _ _ h
 | .two o r p l,a,w,h=>⟨fun n=>by
  have h:=h.1 n
  split
  ·rename_i hw;rw [FO hw] at h;exact Oper.wp_mono (fun a' w' h'=>⟨h'.1,a8 r _ _ h'.2⟩) h
  ·rename_i hw;rw [FN hw] at h;exact a8 r _ _ h,fun n=>by
  have h:=h.2 n
  split
  ·rename_i hw;rw [FO hw] at h;exact Oper.wp_mono (fun a' w' h'=>⟨h'.1,a8 l _ _ h'.2⟩) h
  ·rename_i hw;rw [FN hw] at h;exact a8 l _ _ h⟩
 | .three o r p l q u,a,w,h=>⟨fun n=>by
  have h:=h.1 n
  split
  ·rename_i hw;rw [FO hw] at h;exact Oper.wp_mono (fun a' w' h'=>⟨h'.1,a8 r _ _ h'.2⟩) h
  ·rename_i hw;rw [FN hw] at h;exact a8 r _ _ h,fun n=>by
  have h:=h.2.1 n
  split
  ·rename_i hw;rw [FO hw] at h;exact Oper.wp_mono (fun a' w' h'=>⟨h'.1,a8 l _ _ h'.2⟩) h
  ·rename_i hw;rw [FN hw] at h;exact a8 l _ _ h,fun n=>by
  have h:=h.2.2 n
  split
  ·rename_i hw;rw [FO hw] at h;exact Oper.wp_mono (fun a' w' h'=>⟨h'.1,a8 u _ _ h'.2⟩) h
  ·rename_i hw;rw [FN hw] at h;exact a8 u _ _ h⟩
theorem CJ {a:Act} {w:World} (m:Nat) (l:d7) (hs:Region.noSelect ops=true) (hm:Nat.ble m ops.size=true) (hl:l.len=m) (hin:l.within ops.size=true) (hc:fX .any ops m=true)
  (hB:bJ .any ops m l (Array.replicate ops.size false)=true) (ht:lG .any ops (ops.size-m) m (mT m ops.size)=true)
  (h:ff P ops (NoPanic Q) (fun a w=>wpOps P ops (NoPanic Q) ((List.range (ops.size-m)).map (m+·)) a w) (ac ops l) a w):wpAny P .any ops (NoPanic Q) ops.size (Array.replicate ops.size false) a w.drew:=by
 have hm:=FS hm
 have h1:=gl (md:=.any) hc hs (fun c a w h=>h) l _ a w (gT _) hB (cY l a w hin h)
 have h2:=lz _ _ _ _ _ (eN w) h1
 have h3:tu P .any ops (NoPanic Q) m (fun a w=>wpAny P .any ops (NoPanic Q) (ops.size-m) (mT m ops.size) a w) l.len (Array.replicate ops.size false) a w.drew:=by
  have mono:∀ (f:Nat) (listed:Array Bool) (a:Act) (w:World),tu P .any ops (NoPanic Q) m (fun a w=>wpOps P ops (NoPanic Q) ((List.range (ops.size-m)).map (m+·)) a w) f listed a w→tu P .any ops (NoPanic Q) m (fun a w=>wpAny P .any ops (NoPanic Q) (ops.size-m) (mT m ops.size) a w) f listed a w:=by
   intro f
   induction f with
   | zero=>exact fun listed a w h=>⟨h.1,fun n=>iE _ _ _ _ _ ht (h.2 n)⟩
   | succ f ih=>exact fun listed a w h=>⟨fun h0 n=>iE _ _ _ _ _ ht (h.1 h0 n),fun h0=>⟨(h.2 h0).1,fun i hi n=>wpOp_mono (fun a' w' h'=>⟨h'.1,ih _ a' w' h'.2⟩) ((h.2 h0).2 i hi n)⟩⟩
  exact mono _ _ _ _ h2
 have h4:=lC hc hm (ops.size-m) _ _ _ _ (by simp) (gT _) (fun j _=>ng _ _) h3
 rw [hl,show m+(ops.size-m)=ops.size by omega] at h4
 exact h4
end
end Go.Proofs.YtnijncmifjnifaaGreatDoor
namespace Go.Proofs.YtnijncmifjnifaaGreatDoor
open Go.RowKit
def cE (S:Nat→Prop) (w W:World):Prop:=∀ b,S b→W.heap[b]?=w.heap[b]?
theorem cE.refl (S:Nat→Prop) (w:World):cE S w w:=fun _ _=>rfl
theorem cE.trans {S:Nat→Prop} {a b c:World} (h:cE S a b) (k:cE S b c):cE S a c:=fun x I=>(k x I).trans (h x I)
section
variable {P:Program} {ops:Array Oper} {Q:Exit→Act→World→Prop} {md:Region.Mode} {S:Nat→Prop}
def dq (P:Program) (ops:Array Oper) (S:Nat→Prop) (w:World) (o:Oper) (v:Value) (a:Act):Prop:=YieldsIf P ops (fun W=>cE S w W) o v a
theorem dq.mono {w W:World} {o:Oper} {v:Value} {a:Act} (hb:cE S w W) (h:dq P ops S w o v a):dq P ops S W o v a :=
 h.imp (fun ⟨h1,h2⟩=>⟨h1,fun X hX=>h2 X (hb.trans hX)⟩) id
theorem dq.grow {S':Nat→Prop} {w:World} {o:Oper} {v:Value} {a:Act} (hs:∀ b,S b→S' b) (h:dq P ops S w o v a):dq P ops S' w o v a :=
 h.imp (fun ⟨h1,h2⟩=>⟨h1,fun X hX=>h2 X fun b hb=>hX b (hs b hb)⟩) id
def BS:List Nat:=[75,137,141]
def nz (o:Oper):Bool:=match o.op with
 | .move _|.assign _|.pick ..|.load ..|.binOp ..|.unOp ..|.convert ..|.slice ..|.fieldAddr ..|.field ..|.indexAddr ..|.index ..|.extract ..|.nilCheck ..|.alloc ..|.box ..|.buildSlice ..|.call ⟨.builtin .len,_,_⟩|.call ⟨.builtin .cap,_,_⟩=>false
 | .call ⟨.value (.func f),_,_⟩=>!BS.any (Nat.beq f)
 | _=>true
def zZ (ops:Array Oper) (i:Nat):Nat→Nat→Bool
 | 0,_=>false
 | n+1,j=>(ops[j]?).any fun p=>(p.after.any fun e=>Region.binds .any e && Nat.beq e.on i) || p.after.any fun e=>Region.binds .any e && zZ ops i n e.on
theorem mg {ops:Array Oper} {listed:Array Bool} (hcl:dt .any ops listed) {i:Nat}:∀ (n j:Nat),zZ ops i n j=true→(∀ o,ops[j]?=some o→∀ e ∈ o.after,Region.binds .any e=true→listed.getD e.on false=true)→listed.getD i false=true
 | 0,_,h,_=>by cases h
 | n+1,j,h,hj=>by
  unfold zZ at h
  obtain ⟨p,hp⟩:∃ p,ops[j]?=some p:=by
   cases hp:ops[j]? with
   | none=>rw [hp] at h;cases h
   | some p=>exact ⟨p,rfl⟩
  rw [hp,H6] at h
  rcases Hh.1 h with h|h
  ·have ⟨q,hq,h5⟩:=Array.any_eq_true.1 h
   simp only [FK] at h5
   have:=hj p hp _ (Array.getElem_mem hq) h5.1
   rwa [Gc h5.2] at this
  ·have ⟨q,hq,h5⟩:=Array.any_eq_true.1 h
   simp only [FK] at h5
   have hl:=hj p hp _ (Array.getElem_mem hq) h5.1
   exact mg hcl n _ h5.2 fun o ho e he hb=>hcl _ o ho hl e he hb
def o7 (ops:Array Oper) (i:Nat):Bool:=(List.range ops.size).all fun j=>!((ops[j]?).any nz) || zZ ops i 8 j
def y6 (ops:Array Oper) (o:Oper):Bool:=(List.range ops.size).all fun i=>!((ops[i]?).any fun q=>q.dst == o.dst) || o7 ops i
def ip (P:Program) (ops:Array Oper) (w:World) (o:Oper) (v:Value) (a:Act):Prop:=YieldsIf P ops (fun W=>Below w.heap.size w W) o v a
theorem ip.mono {w W:World} {o:Oper} {v:Value} {a:Act} (hb:Below w.heap.size w W) (h:ip P ops w o v a):ip P ops W o v a :=
 h.imp (fun ⟨h1,h2⟩=>⟨h1,fun X hX=>h2 X (f2 hb hX)⟩) id
def f5 (S:Nat→Prop) (o:Option Oper) (w W:World):Prop:=cE S w W∧(o.any nz=false→Below w.heap.size w W)
theorem f5.refl (S:Nat→Prop) (o:Option Oper) (w:World):f5 S o w w:=⟨cE.refl S w,fun _=>Below.refl _ _⟩
def eR (P:Program) (md:Region.Mode) (ops:Array Oper) (Q:Exit→Act→World→Prop):(Nat→Prop)→Nat→Array Bool→Act→World→Prop
 | _,0,listed,a,w=>Region.ready md ops listed=[]∧Q .normal a w
 | S,fuel+1,listed,a,w =>
  (Region.ready md ops listed=[]→Q .normal a w) ∧
  ∀ i ∈ Region.ready md ops listed,wpOp P ops Q i (fun a' w'=>f5 S ops[i]? w w'∧∃ S',(∀ b,S b→S' b)∧eR P md ops Q S' fuel (listed.setIfInBounds i true) a' w') a w
theorem lA:∀ (fuel:Nat) (S:Nat→Prop) (listed:Array Bool) (a:Act) (w:World),eR P md ops Q S fuel listed a w→wpAny P md ops Q fuel listed a w
 | 0,_,_,_,_,h=>h
 | fuel+1,_,_,_,_,h=>⟨h.1,fun i hi=>wpOp_mono (fun a' w' ⟨_,_,_,h'⟩=>lA fuel _ _ a' w' h') (h.2 i hi)⟩
theorem od {i:Nat} {oi:Oper} {v:Value} (hi:ops[i]?=some oi) (hsel:∀ (j:Nat) (o:Oper) cs b,ops[j]?=some o→o.op≠.select cs b)
  (hQ:∀ c a w,Q (.panic c) (a.put oi.dst v) w→Q (.panic c) a w) :
  ∀ (fuel:Nat) (S:Nat→Prop) (listed:Array Bool) (a:Act) (w:World),
   (∀ j oj,ops[j]?=some oj→j≠i→listed.getD j true=false→(∀ e ∈ oj.after,Region.binds md e=true→e.on≠i)→oi.apart ops oj=true) →
   i ∈ Region.ready md ops listed→dq P ops S w oi v a →
   eR P md ops Q S fuel (listed.setIfInBounds i true) (a.put oi.dst v) w→eR P md ops Q S (fuel+1) listed a w:=by
 intro fuel
 induction fuel with
 | zero =>
  intro S listed a w _ hr hy H
  refine ⟨fun h=>(by rw [h] at hr;cases hr),fun j hj=>?_⟩
  by_cases hji:j=i
  ·subst hji
   exact YieldsIf.wpOp hi hy (cE.refl S w) ⟨f5.refl S _ w,S,fun _ h=>h,H⟩
  ·have:=ready_mono hj hji
   rw [H.1] at this
   cases this
 | succ fuel ih =>
  intro S listed a w hfree hr hy H
  refine ⟨fun h=>(by rw [h] at hr;cases hr),fun j hj=>?_⟩
  by_cases hji:j=i
  ·subst hji
   exact YieldsIf.wpOp hi hy (cE.refl S w) ⟨f5.refl S _ w,S,fun _ h=>h,H⟩
  ·have h1:=H.2 j (ready_mono hj hji)
   have ⟨hjun,oj,hoj,hall⟩:=mem_ready.1 hj
   have hnot:∀ e ∈ oj.after,Region.binds md e=true→e.on≠i:=fun e he hb heq=>by
    have h1:=hall e he hb
    have h0:=(mem_ready.1 hr).1
    rw [heq] at h1
    rcases Gs i listed.size with h'|h'
    ·simp [h'] at h0 h1;rw [h0] at h1;cases h1
    ·simp [Gt h'] at h1
   have h2:=wpOp_putIf hoj (hfree j oj hoj hji hjun hnot) (fun cs b=>hsel i oi cs b hi) (fun cs b=>hsel j oj cs b hoj) hQ hy h1
   have hfree':∀ k ok,ops[k]?=some ok→k≠i→(listed.setIfInBounds j true).getD k true=false →
     (∀ e ∈ ok.after,Region.binds md e=true→e.on≠i)→oi.apart ops ok=true:=fun k ok hk hki hun hno=>by
    refine hfree k ok hk hki ?_ hno
    by_cases hjk:j=k
    ·subst hjk;exact hjun
    ·rw [getD_set_ne true hjk] at hun;exact hun
   refine wpOp_mono (fun a' w' ⟨h3,h4,S',hSS,h5⟩=>⟨h4,S',hSS,ih S' (listed.setIfInBounds j true) a' w' hfree' (ready_mono hr (Ne.symm hji)) (dq.grow hSS (dq.mono h4.1 h3)) ?_⟩) h2
   rw [G4 _ _ hji]
   exact h5
theorem mD {i:Nat} {oi:Oper} {v:Value} (hi:ops[i]?=some oi) (hbe:o7 ops i=true) (hsel:∀ (j:Nat) (o:Oper) cs b,ops[j]?=some o→o.op≠.select cs b)
  (hQ:∀ c a w,Q (.panic c) (a.put oi.dst v) w→Q (.panic c) a w) :
  ∀ (fuel:Nat) (S:Nat→Prop) (listed:Array Bool) (a:Act) (w:World),dt .any ops listed →
   (∀ j oj,ops[j]?=some oj→j≠i→listed.getD j true=false→(∀ e ∈ oj.after,Region.binds .any e=true→e.on≠i)→oi.apart ops oj=true) →
   i ∈ Region.ready .any ops listed→ip P ops w oi v a →
   eR P .any ops Q S fuel (listed.setIfInBounds i true) (a.put oi.dst v) w→eR P .any ops Q S (fuel+1) listed a w:=by
 intro fuel
 induction fuel with
 | zero =>
  intro S listed a w _ _ hr hy H
  refine ⟨fun h=>(by rw [h] at hr;cases hr),fun j hj=>?_⟩
  by_cases hji:j=i
  ·subst hji
   exact YieldsIf.wpOp hi hy (Below.refl _ _) ⟨f5.refl S _ w,S,fun _ h=>h,H⟩
  ·have:=ready_mono hj hji
   rw [H.1] at this
   cases this
 | succ fuel ih =>
  intro S listed a w hcl hfree hr hy H
  refine ⟨fun h=>(by rw [h] at hr;cases hr),fun j hj=>?_⟩
  by_cases hji:j=i
  ·subst hji
   exact YieldsIf.wpOp hi hy (Below.refl _ _) ⟨f5.refl S _ w,S,fun _ h=>h,H⟩
  ·have h1:=H.2 j (ready_mono hj hji)
   have ⟨hjun,oj,hoj,hall⟩:=mem_ready.1 hj
   have hnot:∀ e ∈ oj.after,Region.binds .any e=true→e.on≠i:=fun e he hb heq=>by
    have h1:=hall e he hb
    have h0:=(mem_ready.1 hr).1
    rw [heq] at h1
    rcases Gs i listed.size with h'|h'
    ·simp [h'] at h0 h1;rw [h0] at h1;cases h1
    ·simp [Gt h'] at h1
   have hmod:nz oj=false:=by
    cases hm:nz oj with
    | false=>rfl
    | true =>
     have h3:=F5.1 hbe j (GD.2 (FY.1 hoj).1)
     rw [hoj,H6,hm] at h3
     simp only [Bool.not_true,Bool.false_or] at h3
     have h4:=mg hcl 8 j h3 fun o ho e he hb=>by
      rw [hoj] at ho;cases ho
      exact hall e he hb
     have h5:=(mem_ready.1 hr).1
     rcases Gs i listed.size with h'|h'
     ·simp [h'] at h4 h5;rw [h4] at h5;cases h5
     ·simp [Gt h'] at h4
   have h2:=wpOp_putIf hoj (hfree j oj hoj hji hjun hnot) (fun cs b=>hsel i oi cs b hi) (fun cs b=>hsel j oj cs b hoj) hQ hy h1
   have hfree':∀ k ok,ops[k]?=some ok→k≠i→(listed.setIfInBounds j true).getD k true=false →
     (∀ e ∈ ok.after,Region.binds .any e=true→e.on≠i)→oi.apart ops ok=true:=fun k ok hk hki hun hno=>by
    refine hfree k ok hk hki ?_ hno
    by_cases hjk:j=k
    ·subst hjk;exact hjun
    ·rw [getD_set_ne true hjk] at hun;exact hun
   refine wpOp_mono (fun a' w' ⟨h3,h4,S',hSS,h5⟩=>⟨h4,S',hSS,ih S' (listed.setIfInBounds j true) a' w' (aB hcl hj) hfree' (ready_mono hr (Ne.symm hji)) (ip.mono (h4.2 (by rw [hoj];exact hmod)) h3) ?_⟩) h2
   rw [G4 _ _ hji]
   exact h5
def eH (P:Program) (ops:Array Oper) (Q:Exit→Act→World→Prop):(Nat→Prop)→bu→Act→World→Prop
 | _,.done,a,w=>Q .normal a w
 | S,.rd o r,a,w=>∃ v,(dq P ops S w o v a∨(y6 ops o=true∧ip P ops w o v a))∧eH P ops Q S r (a.put o.dst v) w
 | S,.one o r,a,w=>if Region.wanted o (yielded ops a.tmps) then o.wp P a w (fun a' w'=>f5 S (some o) w w'∧∃ S',(∀ b,S b→S' b)∧eH P ops Q S' r a' w') Q else ∃ S',(∀ b,S b→S' b)∧eH P ops Q S' r (a.put o.dst undef) w
 | S,.two o r p l,a,w =>
  (if Region.wanted o (yielded ops a.tmps) then o.wp P a w (fun a' w'=>f5 S (some o) w w'∧∃ S',(∀ b,S b→S' b)∧eH P ops Q S' r a' w') Q else ∃ S',(∀ b,S b→S' b)∧eH P ops Q S' r (a.put o.dst undef) w) ∧
  (if Region.wanted p (yielded ops a.tmps) then p.wp P a w (fun a' w'=>f5 S (some p) w w'∧∃ S',(∀ b,S b→S' b)∧eH P ops Q S' l a' w') Q else ∃ S',(∀ b,S b→S' b)∧eH P ops Q S' l (a.put p.dst undef) w)
 | S,.three o r p l q u,a,w =>
  (if Region.wanted o (yielded ops a.tmps) then o.wp P a w (fun a' w'=>f5 S (some o) w w'∧∃ S',(∀ b,S b→S' b)∧eH P ops Q S' r a' w') Q else ∃ S',(∀ b,S b→S' b)∧eH P ops Q S' r (a.put o.dst undef) w) ∧
  (if Region.wanted p (yielded ops a.tmps) then p.wp P a w (fun a' w'=>f5 S (some p) w w'∧∃ S',(∀ b,S b→S' b)∧eH P ops Q S' l a' w') Q else ∃ S',(∀ b,S b→S' b)∧eH P ops Q S' l (a.put p.dst undef) w) ∧
  (if Region.wanted q (yielded ops a.tmps) then q.wp P a w (fun a' w'=>f5 S (some q) w w'∧∃ S',(∀ b,S b→S' b)∧eH P ops Q S' u a' w') Q else ∃ S',(∀ b,S b→S' b)∧eH P ops Q S' u (a.put q.dst undef) w)
theorem f5.lower {S S1:Nat→Prop} {o:Option Oper} {w W:World} (hs:∀ b,S b→S1 b) (h:f5 S1 o w W):f5 S o w W:=⟨fun b hb=>h.1 b (hs b hb),h.2⟩
theorem lx {S S1:Nat→Prop} {o:Oper} {r:bu} {a:Act} {w:World} (hs:∀ b,S b→S1 b) (h:eH P ops Q S1 (.one o r) a w):eH P ops Q S (.one o r) a w:=by
 unfold eH at h ⊢
 split
 ·rename_i hw
  rw [FO hw] at h
  exact Oper.wp_mono (fun a' w' ⟨h1,S',h2,h3⟩=>⟨h1.lower hs,S',fun b hb=>h2 b (hs b hb),h3⟩) h
 ·rename_i hw
  rw [FN hw] at h
  have ⟨S',h2,h3⟩:=h
  exact ⟨S',fun b hb=>h2 b (hs b hb),h3⟩
theorem dy {i:Nat} {o:Oper} {a:Act} {w:World} {K K':(Nat→Prop)→Act→World→Prop} (ho:ops[i]?=some o) (hk:∀ S a' w',K S a' w'→K' S a' w')
  (h:if Region.wanted o (yielded ops a.tmps) then o.wp P a w (fun a' w'=>f5 S (some o) w w'∧∃ S',(∀ b,S b→S' b)∧K S' a' w') Q else ∃ S',(∀ b,S b→S' b)∧K S' (a.put o.dst undef) w):wpOp P ops Q i (fun a' w'=>f5 S ops[i]? w w'∧∃ S',(∀ b,S b→S' b)∧K' S' a' w') a w:=by
 unfold wpOp
 simp only [ho]
 split
 ·rename_i hw
  rw [FO hw] at h
  exact .inl (Oper.wp_mono (fun a' w' h'=>⟨h'.1,let ⟨S',h1,h2⟩:=h'.2;⟨S',h1,hk _ _ _ h2⟩⟩) h)
 ·rename_i hw
  rw [FN hw] at h
  exact ⟨f5.refl S _ w,let ⟨S',h1,h2⟩:=h;⟨S',h1,hk _ _ _ h2⟩⟩
theorem bH (hs:Region.noSelect ops=true) (hQ:∀ c a w,¬ Q (.panic c) a w):∀ (l:d7) (S:Nat→Prop) (listed:Array Bool) (a:Act) (w:World),dt .any ops listed→l.within ops.size=true→bc .any ops l listed=true→eH P ops Q S (ac ops l) a w→eR P .any ops Q S l.len listed a w
 | .done,S,listed,a,w,_,_,hB,h=>⟨by simpa [bc] using hB,h⟩
 | .rd i r,S,listed,a,w,hcl,hl,hB,h=>by
  simp only [d7.within,FK,FT] at hl
  have ho:ops[i]?=some ops[i]:=FP hl.1
  simp only [ac,ho] at h
  simp only [bc,FK] at hB
  have ⟨⟨hr,hf⟩,hB'⟩:=hB
  have ⟨v,hy,hK⟩:=h
  rcases hy with hy|⟨hown,hy⟩
  exact od ho (Region.noSelect_spec hs) (fun c a w h=>absurd h (hQ c _ w)) r.len S listed a w (Region.free_spec ho hf) (by simpa using hr) hy (bH hs hQ r _ _ _ _ (aB hcl (by simpa using hr)) hl.2 hB' hK)
  ·have hbe:o7 ops i=true:=by
    have:=F5.1 hown i (GD.2 hl.1)
    simpa [ho] using this
   exact mD ho hbe (Region.noSelect_spec hs) (fun c a w h=>absurd h (hQ c _ w)) r.len S listed a w hcl (Region.free_spec ho hf) (by simpa using hr) hy (bH hs hQ r _ _ _ _ (aB hcl (by simpa using hr)) hl.2 hB' hK)
 | .one i r,S,listed,a,w,hcl,hl,hB,h=>by
  simp only [d7.within,FK,FT] at hl
  have ho:ops[i]?=some ops[i]:=FP hl.1
  simp only [ac,ho] at h
  simp only [bc,FK,GF] at hB
  refine ⟨fun h0=>(by rw [hB.1] at h0;cases h0),fun j hj=>?_⟩
  rw [hB.1] at hj
  obtain rfl:=Gz.1 hj
  exact dy ho (fun S' a' w'=>bH hs hQ r S' _ a' w' (aB hcl (by rw [hB.1];simp)) hl.2 hB.2) h
 | .two i r j l,S,listed,a,w,hcl,hl,hB,h=>by
  simp only [d7.within,FK,FT] at hl
  have ho:ops[i]?=some ops[i]:=FP hl.1.1.1
  have hp:ops[j]?=some ops[j]:=FP hl.1.2
  simp only [ac,ho,hp] at h
  simp only [bc,FK,GF] at hB
  have ⟨⟨⟨h1,h2⟩,h3⟩,h4⟩:=hB
  refine ⟨fun h0=>(by rw [h1] at h0;cases h0),fun q hq=>?_⟩
  rw [h1] at hq
  simp only [Gb,GA,or_false] at hq
  rcases hq with rfl|rfl
  exact dy ho (fun S' a' w'=>bH hs hQ r S' _ a' w' (aB hcl (by rw [h1];simp)) hl.1.1.2 h3) h.1
  ·refine dy hp (fun S' a' w' h'=>?_) h.2
   show eR P .any ops Q S' r.len _ _ _
   rw [h2]
   exact bH hs hQ l S' _ a' w' (aB hcl (by rw [h1];simp)) hl.2 h4 h'
 | .three i r j l q0 u,S,listed,a,w,hcl,hl,hB,h=>by
  simp only [d7.within,FK,FT] at hl
  have ho:ops[i]?=some ops[i]:=FP hl.1.1.1.1.1
  have hp:ops[j]?=some ops[j]:=FP hl.1.1.1.2
  have hq0:ops[q0]?=some ops[q0]:=FP hl.1.2
  simp only [ac,ho,hp,hq0] at h
  simp only [bc,FK,GF] at hB
  have ⟨⟨⟨⟨⟨h1,h2⟩,h2'⟩,h3⟩,h4⟩,h5⟩:=hB
  refine ⟨fun h0=>(by rw [h1] at h0;cases h0),fun q hq=>?_⟩
  rw [h1] at hq
  simp only [Gb,GA,or_false] at hq
  rcases hq with rfl|rfl|rfl
  exact dy ho (fun S' a' w'=>bH hs hQ r S' _ a' w' (aB hcl (by rw [h1];simp)) hl.1.1.1.1.2 h3) h.1
  ·refine dy hp (fun S' a' w' h'=>?_) h.2.1
   show eR P .any ops Q S' r.len _ _ _
   rw [h2]
   exact bH hs hQ l S' _ a' w' (aB hcl (by rw [h1];simp)) hl.1.1.2 h4 h'
  ·refine dy hq0 (fun S' a' w' h'=>?_) h.2.2
   show eR P .any ops Q S' r.len _ _ _
   rw [h2']
   exact bH hs hQ u S' _ a' w' (aB hcl (by rw [h1];simp)) hl.2 h5 h'
theorem D8 {a:Act} {w:World} (u:d7) (hs:Region.noSelect ops=true) (hul:u.len=ops.size) (huin:u.within ops.size=true) (hu:bc .any ops u (Array.replicate ops.size false)=true)
  (h:eH P ops (NoPanic Q) S (ac ops u) a w.drew):wpAny P .any ops (NoPanic Q) ops.size (Array.replicate ops.size false) a w.drew:=by
 have:=lA _ _ _ _ _ (bH hs (fun c a w h=>h) u S _ a w.drew (gT _) huin hu h)
 rwa [hul] at this
end
end Go.Proofs.YtnijncmifjnifaaGreatDoor
namespace Go.Proofs.YtnijncmifjnifaaGreatDoor
open Go.RowKit
def xf (rd:Option Nat):Fence:={ Fence.wide with round:=rd }
def ji (o:Oper):Bool:=match o.op with|.defer _=>true|_=>false
theorem uo {o:Oper} (h:ji o=false):∀ c,o.op≠.defer c:=fun c e=>by simp [ji,e] at h
def sl (rd:Option Nat) (ops:Array Oper):Bool:=match rd with|none=>true|some _=>ops.toList.all fun o=>!ji o
section
variable {P:Program} {rd:Option Nat} {n:Nat} {ops:Array Oper} {Q:Exit→Act→World→Prop} {md:Region.Mode}
theorem qC {f:FuncId} {args:Array Value} {w:World} {R:Ending→World→Prop}:CallsIn (xf rd) n P f args w R↔Calls P f args w R:=callsIn_wide
theorem yw {o:Oper} {a:Act} {K:Act→World→Prop}:∀ {r:Result Next},o.upon P a K Q r→o.uponIn (xf rd) n P a K Q r
 | .ok x w',h=>by
  cases x with
  | enter f args=>exact ⟨fun h=>(by cases h),qC.2 h⟩
  | row row args=>exact ⟨fun h=>(by cases h),fun c cs _=>let ⟨v,w',h1,h2⟩:=h c cs;⟨v,w',h1,stepsIn_wide.2 h2⟩⟩
  | _=>first|exact h|exact (h:False).elim
 | .halt x w',h=>by cases x<;>exact h
theorem Oper.wp_in {o:Oper} {a:Act} {w:World} {K:Act→World→Prop} (hd:rd=none∨ji o=false) (h:o.wp P a w K Q):o.wpIn (xf rd) n P a w K Q:=by
 refine ⟨fun f _=>trivial,?_⟩
 have e:o.semAt (xf rd).round a.eval=execOp a.eval o:=by
  rcases hd with rfl|hd
  rfl
  exact Oper.semAt_eq _ _ _ (uo hd)
 rw [e]
 exact yw h
theorem vV (h:sl rd ops=true) {i:Nat} {o:Oper} (ho:ops[i]?=some o):rd=none∨ji o=false:=by
 cases rd with
 | none=>exact .inl rfl
 | some l =>
  have:=F5.1 h o (Array.mem_toList_iff.2 (Array.mem_of_getElem? ho))
  simpa using this
theorem yq (hd:sl rd ops=true) (hlo:¬ LetsOut Q) {i:Nat} {a:Act} {w:World} {K K':Act→World→Prop} (hK:∀ a w,K a w→K' a w) (h:wpOp P ops Q i K a w):wpOpIn (xf rd) n P ops Q i K' a w:=by
 unfold wpOp at h
 unfold wpOpIn
 cases ho:ops[i]? with
 | none=>simp only [ho] at h;exact hK _ _ h
 | some o =>
  simp only [ho] at h ⊢
  split
  ·rename_i hw
   rw [FO hw] at h
   rcases h with h|h
   exact Oper.wp_in (vV hd ho) (Oper.wp_mono hK h)
   exact absurd h.2 hlo
  ·rename_i hw
   rw [FN hw] at h
   exact ⟨fun f _=>trivial,hK _ _ h⟩
theorem pi (hd:sl rd ops=true) (hlo:¬ LetsOut Q):∀ (f:Nat) (listed:Array Bool) (a:Act) (w:World),wpAny P md ops Q f listed a w→wpAnyIn (xf rd) n P md ops Q f listed a w
 | 0,_,_,_,h=>h
 | f+1,_,_,_,h=>⟨h.1,fun i hi=>yq hd hlo (fun a' w' h'=>pi hd hlo f _ a' w' h') (h.2 i hi)⟩
def nY (Q:Exit→Act→World→Prop):Exit→Act→World→Prop
 | .normal,a,w=>Q .normal a w
 | _,_,_=>False
theorem nY.imp:∀ (e:Exit) (a:Act) (w:World),NoPanic (nY Q) e a w→Q e a w:=fun e a w h=>by
 cases e<;>first|exact h|exact (h:False).elim
theorem uk:¬ LetsOut (NoPanic (nY Q)):=fun ⟨_,_,h⟩=>h
theorem ly {id:Nat} {a:Act} {w:World} (hd:sl rd ops=true) (hm:P.follows .mixedOrders=true) (h:wpAny P .any ops (NoPanic (nY Q)) ops.size (Array.replicate ops.size false) a w.drew):(Code.region id ops true).wpIn (xf rd) n P Q a w :=
 wpIn_mono (wpIn_region_any hm (pi hd uk _ _ _ _ h)) nY.imp
end
end Go.Proofs.YtnijncmifjnifaaGreatDoor
namespace Go.Proofs.YtnijncmifjnifaaGreatDoor
namespace Am
open Go.RowKit
structure SV where
 p:(Nat→Prop)→World→Value→Prop
 st:∀ {St St':Nat→Prop} {w w':World} {v:Value},(∀ b,St b→St' b)→(∀ b cur t z,St b→w.heap[b]?=some (.cells cur t z)→w'.heap[b]?=some (.cells cur t z))→p St w v→p St' w' v
 one:∀ {St:Nat→Prop} {w:World} {v:Value},p St w v→v.cells=#[v]∧v.oneCell'=true
inductive CV where
 | top
 | c (v:Value)
 | err (k:Nat)
 | agg (n:Nat) (f:Nat→CV)
 | tup (n:Nat) (f:Nat→CV)
 | rs (k n:Nat) (f:Nat→Nat→CV)
 | rp (n:Nat) (f:Nat→CV)
 | os (i:Nat) (g:Option Nat) (off n k:Nat)
 | op (i:Nat) (g:Option Nat) (off:Nat)
 | fn (g:FuncId) (n:Nat) (f:Nat→CV)
 | pv (p:SV)
def ai (al:List Addr) (St:Nat→Prop) (w:World):CV→Value→Prop
 | .top,_=>True
 | .c v,x=>x=v
 | .err k,x=>x=ev al k
 | .agg n f,x=>∃ cs:Array Value,x=.agg cs∧cs.size=n∧∀ i,i<n→ai al St w (f i) (cs.getD i undef)
 | .tup n f,x=>∃ cs:Array Value,x=.tuple cs∧cs.size=n∧∀ i,i<n→ai al St w (f i) (cs.getD i undef)
 | .rs k n f,x=>∃ ao cap,x=.slice ao n cap∧n≤cap∧cap≤9223372036854775807∧(ao=none→cap=0)∧∀ a,ao=some a→0<n →
   a.spot=none∧St a.block∧∀ i j,i<n→j<k→∃ v,w.cell? ⟨a.block,a.off+(i * k+j),none⟩=some v∧ai al St w (f i j) v
 | .rp n f,x=>∃ b o,x=.pointer (some ⟨b,o,none⟩)∧St b∧∀ j,j<n→∃ v,w.cell? ⟨b,o+j,none⟩=some v∧ai al St w (f j) v
 | .os _ none _ n _,x=>n=0∧x=.slice none 0 0
 | .os _ (some g) off n k,x=>∃ cap,x=.slice (some ⟨g,off,none⟩) n cap∧n≤cap∧cap≤9223372036854775807∧∃ cur t z,w.heap[g]?=some (.cells cur t z)∧off+cap * k≤cur.size
 | .op _ g off,x=>∃ b,g=some b∧x=.pointer (some ⟨b,off,none⟩)
 | .fn g n f,x=>∃ cs:Array Value,x=.func (.func g) #[] cs∧cs.size=n∧∀ i,i<n→ai al St w (f i) (cs.getD i undef)
 | .pv p,x=>p.p St w x
structure k9 (St:Nat→Prop) (w w':World):Prop where
 st:∀ b cur t z,St b→w.heap[b]?=some (.cells cur t z)→w'.heap[b]?=some (.cells cur t z)
 sh:∀ (b:Nat) cur t z,w.heap[b]?=some (.cells cur t z)→∃ cur' z',w'.heap[b]?=some (.cells cur' t z')∧cur'.size=cur.size
theorem k9.of_below {St:Nat→Prop} {w w':World} (h:Below w.heap.size w w') (hs:∀ b,St b→b<w.heap.size):k9 St w w' where
 st:=fun b cur t z hb hc=>(h.block b (hs b hb)).trans hc
 sh:=fun b cur t z hb=>⟨cur,z,(h.block b (FY.1 hb).1).trans hb,rfl⟩
theorem aO {w w':World} {b:Nat} (h:w'.heap[b]?=w.heap[b]?) (o:Nat):w'.cell? ⟨b,o,none⟩=w.cell? ⟨b,o,none⟩:=World.cell?_of_block (w:=w) (a:=⟨b,o,none⟩) h
theorem kB {w w':World} {b o:Nat} {v:Value} (h:∀ cur t z,w.heap[b]?=some (.cells cur t z)→w'.heap[b]?=some (.cells cur t z)) (hv:w.cell? ⟨b,o,none⟩=some v):w'.cell? ⟨b,o,none⟩=some v:=by
 unfold World.cell? at hv ⊢
 split at hv
 ·rename_i cur t z hc
  rw [h _ _ _ hc]
  exact hv
 ·cases hv
theorem ai.evo {al:List Addr} {St St':Nat→Prop} {w w':World} (he:k9 St w w') (hs:∀ b,St b→St' b):∀ (c:CV) (v:Value),ai al St w c v→ai al St' w' c v
 | .top,_,_=>trivial
 | .c _,_,h=>h
 | .err _,_,h=>h
 | .agg n f,_,⟨cs,h1,h2,h3⟩=>⟨cs,h1,h2,fun i hi=>ai.evo he hs (f i) _ (h3 i hi)⟩
 | .tup n f,_,⟨cs,h1,h2,h3⟩=>⟨cs,h1,h2,fun i hi=>ai.evo he hs (f i) _ (h3 i hi)⟩
 | .rs k n f,_,⟨ao,cap,h1,h2,h3,h4,h5⟩=>⟨ao,cap,h1,h2,h3,h4,fun a ha hn=>by
   have ⟨h6,h7,h8⟩:=h5 a ha hn
   refine ⟨h6,hs _ h7,fun i j hi hj=>?_⟩
   have ⟨v,hv,hr⟩:=h8 i j hi hj
   exact ⟨v,kB (fun cur t z hc=>he.st _ cur t z h7 hc) hv,ai.evo he hs (f i j) v hr⟩⟩
 | .rp n f,_,⟨b,o,h1,h2,h3⟩=>⟨b,o,h1,hs _ h2,fun j hj=>by
   have ⟨v,hv,hr⟩:=h3 j hj
   exact ⟨v,kB (fun cur t z hc=>he.st _ cur t z h2 hc) hv,ai.evo he hs (f j) v hr⟩⟩
 | .os _ none _ _ _,_,h=>h
 | .os _ (some g) off n k,_,⟨cap,h1,h2,h3,cur,t,z,h4,h5⟩=>by
   have ⟨cur',z',h6,h7⟩:=he.sh g cur t z h4
   exact ⟨cap,h1,h2,h3,cur',t,z',h6,by omega⟩
 | .op _ _ _,_,h=>h
 | .fn g n f,_,⟨cs,h1,h2,h3⟩=>⟨cs,h1,h2,fun i hi=>ai.evo he hs (f i) _ (h3 i hi)⟩
 | .pv p,_,h=>p.st hs he.st h
structure OP where
 p:List Addr→(Nat→Prop)→World→Nat→(Nat→Prop)→Prop
 st:∀ {al:List Addr} {St St':Nat→Prop} {w w':World} {g:Nat} {F:Nat→Prop},k9 St w w'→(∀ b,St b→St' b)→(∀ b,F b→w'.heap[b]?=w.heap[b]?)→p al St w g F→p al St' w' g F
inductive av where
 | dead
 | blk (n:Nat) (f:Nat→CV)
 | frz (n:Nat) (f:Nat→CV)
 | obj (p:OP)
def av.rep (al:List Addr) (St:Nat→Prop) (w:World) (F:Nat→Prop):Option Nat→av→Prop
 | _,.dead=>∀ b,¬ F b
 | none,.blk n _=>n=0∧∀ b,¬ F b
 | some g,.blk n f=>(∀ b,F b↔b=g)∧∃ cur t,w.heap[g]?=some (.cells cur t (0,0))∧n≤cur.size∧∀ i,i<n→ai al St w (f i) (cur.getD i undef)
 | none,.frz n _=>n=0∧∀ b,¬ F b
 | some g,.frz n f=>(∀ b,¬ F b)∧St g∧∃ cur t z,w.heap[g]?=some (.cells cur t z)∧n≤cur.size∧∀ i,i<n→ai al St w (f i) (cur.getD i undef)
 | none,.obj _=>∀ b,¬ F b
 | some g,.obj p=>p.p al St w g F
theorem av.rep_evo {al:List Addr} {St St':Nat→Prop} {w w':World} (he:k9 St w w') (hs:∀ b,St b→St' b) {F:Nat→Prop} (hF:∀ b,F b→w'.heap[b]?=w.heap[b]?):∀ {g:Option Nat} {r:av},r.rep al St w F g→r.rep al St' w' F g
 | none,.dead,h=>h
 | some _,.dead,h=>h
 | none,.blk _ _,h=>h
 | some g,.blk n f,⟨h0,cur,t,h1,h2,h4⟩=>⟨h0,cur,t,(hF g ((h0 g).2 rfl)).trans h1,h2,fun i hi=>ai.evo he hs _ _ (h4 i hi)⟩
 | none,.frz _ _,h=>h
 | some g,.frz n f,⟨h0,hg,cur,t,z,h1,h2,h4⟩=>⟨h0,hs _ hg,cur,t,z,he.st g cur t z hg h1,h2,fun i hi=>ai.evo he hs _ _ (h4 i hi)⟩
 | none,.obj _,h=>h
 | some _,.obj p,h=>p.st he hs hF h
structure AS where
 env:List (Nat×CV)
 b:Nat→CV
 H:List (Option Nat×av)
def look:List (Nat×CV)→(Nat→CV)→Nat→CV
 | [],b,d=>b d
 |(e,v)::r,b,d=>match Nat.beq e d with|true=>v|false=>look r b d
theorem ik (e d:Nat):(Nat.beq e d=true∧e=d)∨(Nat.beq e d=false∧e≠d):=by
 by_cases h:e=d
 exact .inl ⟨by subst h;exact Nat.beq_refl e,h⟩
 ·exact .inr ⟨by cases hb:Nat.beq e d with|true=>exact absurd (Gc hb) h|false=>rfl,h⟩
theorem bw (r:List (Nat×CV)) (b:Nat→CV) (d:Nat) (v:CV):look ((d,v)::r) b d=v:=by
 rcases ik d d with ⟨h,_⟩|⟨_,h⟩
 ·simp [look]
 exact absurd rfl h
theorem aQ (r:List (Nat×CV)) (b:Nat→CV) {e d:Nat} (v:CV) (hn:e≠d):look ((e,v)::r) b d=look r b d:=by
 rcases ik e d with ⟨_,h⟩|⟨h,_⟩
 exact absurd h hn
 ·simp [look,h]
def AS.eval (s:AS):Operand→CV
 | .tmp t=>look s.env s.b t
 | .const v=>.c v
 | .global g=>.c (.pointer (some ⟨g,0,none⟩))
 | .func f=>.c (.func (.func f) #[] #[])
def AS.put (s:AS) (dst:Option Tmp) (v:CV):AS:=match dst with|some d=>⟨(d,v)::s.env,s.b,s.H⟩|none=>s
structure Gh where
 gs:List Nat
 al:List Addr
 w0:World
 F0:Nat→Prop
 St0:Nat→Prop
 N:Nat
 rd:Option Nat
 yl:Bool
structure d6 (F0:Nat→Prop) (w0 w:World):Prop where
 os:w.os=w0.os
 tape:w.tape=w0.tape
 output:w.output=w0.output
 size:w0.heap.size≤w.heap.size
 block:∀ k,k<w0.heap.size→¬ F0 k→w.heap[k]?=w0.heap[k]?
 sh:∀ (b:Nat) cur t z,w0.heap[b]?=some (.cells cur t z)→∃ cur' z',w.heap[b]?=some (.cells cur' t z')∧cur'.size=cur.size
theorem d6.refl (F0:Nat→Prop) (w:World):d6 F0 w w:=⟨rfl,rfl,rfl,FQ _,fun _ _ _=>rfl,fun _ cur _ z h=>⟨cur,z,h,rfl⟩⟩
theorem d6.then {F0:Nat→Prop} {a b c:World} (h:d6 F0 a b) (k:Below b.heap.size b c):d6 F0 a c :=
 ⟨k.os.trans h.os,k.tape.trans h.tape,k.output.trans h.output,Gm h.size k.size,fun i hi hn=>(k.block i (Ge hi h.size)).trans (h.block i hi hn),fun i cur t z hb=>by
  have ⟨cur',z',h1,h2⟩:=h.sh i cur t z hb
  exact ⟨cur',z',(k.block i (FY.1 h1).1).trans h1,h2⟩⟩
theorem d6.below {w w':World} (h:d6 (fun _=>False) w w'):Below w.heap.size w w':=⟨h.os,h.tape,h.output,h.size,fun k hk=>h.block k hk (fun h=>h)⟩
structure qK (al:List Addr) (St:Nat→Prop) (w:World) (base:Nat) (F0:Nat→Prop) (H:List (Option Nat×av)) (fp:Nat→Nat→Prop):Prop where
 rep:∀ (i:Nat) (g:Option Nat) (r:av),H[i]?=some (g,r)→r.rep al St w (fp i) g
 dis:∀ i j b,fp i b→fp j b→i=j
 own:∀ i b,fp i b→b<w.heap.size∧¬ St b∧(base≤b∨F0 b)
 out:∀ i,H.length≤i→∀ b,¬ fp i b
def a6 (al:List Addr) (St:Nat→Prop) (w:World) (base:Nat) (F0:Nat→Prop) (H:List (Option Nat×av)):Prop:=∃ fp,qK al St w base F0 H fp
def gD (D:Nat):Deferred:={ target:=.collected D,args:=#[] }
def iD (G:Gh) (St:Nat→Prop) (w:World) (ds:List Deferred):Prop:=∃ Ds:List Nat,ds=Ds.map gD∧Ds.Nodup∧∀ D ∈ Ds,(St D∧w.heap[D]?=some (.deferred (some [])))∧G.w0.heap.size≤D∧D ∉ iB G.gs∧∀ a ∈ G.al,a.block≠D
theorem iD.none (G:Gh) (St:Nat→Prop) (w:World):iD G St w []:=⟨[],rfl,Ib,fun _ h=>by cases h⟩
theorem iD.keep {G:Gh} {St St':Nat→Prop} {w w':World} {ds:List Deferred} (h:iD G St w ds) (hs:∀ b,St b→St' b) (hw:∀ b,St b→w'.heap[b]?=w.heap[b]?):iD G St' w' ds:=by
 have ⟨Ds,h1,h2,h3⟩:=h
 exact ⟨Ds,h1,h2,fun D hD=>⟨⟨hs D (h3 D hD).1.1,(hw D (h3 D hD).1.1).trans (h3 D hD).1.2⟩,(h3 D hD).2⟩⟩
theorem iD.grow {G:Gh} {St St':Nat→Prop} {w:World} {ds:List Deferred} (h:iD G St w ds) (hs:∀ b,St b→St' b):iD G St' w ds:=h.keep hs fun _ _=>rfl
structure ab (G:Gh) (St:Nat→Prop) (s:AS) (a:Act) (w:World):Prop where
 df:iD G St w a.defers
 sz:a.tmps.size=G.N
 env:∀ d,ai G.al St w (look s.env s.b d) (a.tmps.getD d undef)
 un:d6 G.F0 G.w0 w
 s1:∀ b,G.St0 b→St b
 s2:∀ b,St b→G.St0 b∨G.w0.heap.size≤b∨G.F0 b
 s3:∀ b,St b→b<w.heap.size
 hp:a6 G.al St w G.w0.heap.size G.F0 s.H
 sn:cd w G.gs G.al
 sg:(∀ g ∈ iB G.gs,St g)∧∀ a ∈ G.al,St a.block
def nX (G:Gh) (s:AS) (a:Act) (w:World):Prop:=∃ St,ab G St s a w
theorem ab.eval {G:Gh} {St:Nat→Prop} {s:AS} {a:Act} {w:World} (h:ab G St s a w):∀ x:Operand,ai G.al St w (s.eval x) (a.eval x)
 | .tmp t=>h.env t
 | .const _=>rfl
 | .global _=>rfl
 | .func _=>rfl
theorem ab.put {G:Gh} {St:Nat→Prop} {s:AS} {a:Act} {w:World} (h:ab G St s a w) {dst:Option Tmp} {v:CV} {x:Value} (hd:∀ d,dst=some d→d<G.N) (hv:ai G.al St w v x) :
  ab G St (s.put dst v) (a.put dst x) w:=by
 cases dst with
 | none=>exact h
 | some d =>
  have hlt:=hd d rfl
  refine ⟨h.df,by simp [Act.put,h.sz],fun e=>?_,h.un,h.s1,h.s2,h.s3,h.hp,h.sn,h.sg⟩
  by_cases hde:d=e
  ·subst hde
   show ai _ _ _ (look ((d,v)::s.env) s.b d) _
   rw [bw]
   simpa [Act.put,h.sz,hlt] using hv
  ·show ai _ _ _ (look ((d,v)::s.env) s.b e) _
   rw [aQ _ _ _ hde]
   have:=h.env e
   simpa [Act.put,Gd hde] using this
theorem cd.keep {w w':World} {gs:List Nat} {al:List Addr} (h:cd w gs al) (h1:∀ g ∈ iB gs,w'.heap[g]?=w.heap[g]?) (h2:∀ a ∈ al,w'.heap[a.block]?=w.heap[a.block]?):cd w' gs al :=
 ⟨h.len,h.nd,fun i g hi hl=>(aO (h1 g hl) 0).trans (h.var i g hi hl),fun x I=>by
  have ⟨c,t,hc⟩:=h.row x I
  exact ⟨c,t,(h2 x I).trans hc⟩,fun h3 h4=>tD (h.tab h3 h4) (fun o=>aO (h1 _ h3) o) (fun o=>aO (h1 _ h4) o),fun t ht hl i v hv=>(aO (h1 _ hl) i).trans (h.tbl t ht hl i v hv),fun g hg=>by
   have h3:=h.lt g hg
   have h4:=h1 g hg
   rw [FP h3] at h4
   exact (FY.1 h4).1⟩
theorem ab.ext {G:Gh} {St:Nat→Prop} {s:AS} {a:Act} {w w':World} (h:ab G St s a w) (hb:Below w.heap.size w w'):ab G St s a w':=by
 have he:k9 St w w':=k9.of_below hb h.s3
 refine ⟨h.df.keep (fun _ h=>h) (fun b hb'=>hb.block b (h.s3 b hb')),h.sz,fun d=>ai.evo he (fun _ x=>x) _ _ (h.env d),h.un.then hb,h.s1,h.s2,fun b hs=>Ge (h.s3 b hs) hb.size,?_,?_,h.sg⟩
 ·have ⟨fp,hp⟩:=h.hp
  exact ⟨fp,fun i g r hi=>av.rep_evo he (fun _ x=>x) (fun b hF=>hb.block b (hp.own i b hF).1) (hp.rep i g r hi),hp.dis,fun i b hF=>⟨Ge (hp.own i b hF).1 hb.size,(hp.own i b hF).2⟩,hp.out⟩
 exact cd.keep h.sn (fun g hg=>hb.block g (h.s3 _ (h.sg.1 g hg))) (fun x I=>hb.block _ (h.s3 _ (h.sg.2 x I)))
theorem ab.take {G:Gh} {St:Nat→Prop} {s:AS} {tmps:Array Value} {D:Nat} {Ds:List Nat} {w:World} (h:ab G St s { tmps:=tmps,defers:=gD D::Ds.map gD } w) :
  w.heap[D]?=some (.deferred (some []))∧ab G St s { tmps:=tmps,defers:=Ds.map gD } (w.putObj D (.deferred none)):=by
 have ⟨Ds',h1,h2,h3⟩:=h.df
 have h1:(D::Ds).map gD=Ds'.map gD:=h1
 have inj:∀ (l m:List Nat),l.map gD=m.map gD→l=m:=fun l=>by
  induction l with
  | nil=>intro m hm;cases m with|nil=>rfl|cons=>simp at hm
  | cons x l ih =>
   intro m hm
   cases m with
   | nil=>simp at hm
   | cons y m =>
    simp only [Gf,List.cons.injEq] at hm
    have e:x=y:=by
     have:=F7 Deferred.target hm.1
     simp only [gD,Target.collected.injEq] at this
     exact this
    rw [e,ih m hm.2]
 have e:=inj _ _ h1
 subst e
 obtain ⟨⟨hS,hD⟩,hb,hg,ha⟩:=h3 D (F2 ..)
 have hold:∀ b,b≠D→(w.putObj D (.deferred none)).heap[b]?=w.heap[b]?:=fun b hb=>World.putObj_heap_other hb
 have hrow:∀ (b:Nat) cur t z,w.heap[b]?=some (.cells cur t z)→b≠D:=fun b cur t z hc e=>by rw [e,hD] at hc;cases hc
 have he:k9 St w (w.putObj D (.deferred none)):=⟨fun b cur t z _ hc=>(hold b (hrow b cur t z hc)).trans hc,fun b cur t z hc=>⟨cur,z,(hold b (hrow b cur t z hc)).trans hc,rfl⟩⟩
 refine ⟨hD,⟨Ds,rfl,(Hi.1 h2).2,fun E hE=>?_⟩,h.sz,fun d=>ai.evo he (fun _ x=>x) _ _ (h.env d),⟨h.un.os,h.un.tape,h.un.output,by simp [h.un.size],fun k hk hF=>(hold k O).trans (h.un.block k hk hF),fun b cur t z hc=>?_⟩,h.s1,h.s2,fun b hb=>by simpa using h.s3 b hb,?_,?_,h.sg⟩
 ·obtain ⟨⟨k1,k2⟩,k3⟩:=h3 E (F9 _ hE)
  exact ⟨⟨k1,(hold E (fun e=>(Hi.1 h2).1 (e ▸ hE))).trans k2⟩,k3⟩
 ·have ⟨cur',z',k1,k2⟩:=h.un.sh b cur t z hc
  exact ⟨cur',z',(hold b (hrow b _ _ _ k1)).trans k1,k2⟩
 ·have ⟨fp,hp⟩:=h.hp
  have hne:∀ i b,fp i b→b≠D:=fun i b hF e=>(hp.own i b hF).2.1 (e ▸ hS)
  exact ⟨fp,fun i g r hi=>av.rep_evo he (fun _ x=>x) (fun b hF=>hold b (hne i b hF)) (hp.rep i g r hi),hp.dis,fun i b hF=>by simpa using hp.own i b hF,hp.out⟩
 exact cd.keep h.sn (fun g hg'=>hold g (fun e=>hg (e ▸ hg'))) (fun x I=>hold _ (ha x I))
theorem nX.ext {G:Gh} {s:AS} {a:Act} {w w':World} (h:nX G s a w) (hb:Below w.heap.size w w'):nX G s a w':=h.imp fun _ h=>h.ext hb
def J (x y:CV):Prop:=∀ al St w v,ai al St w x v→ai al St w y v
theorem J.refl (x:CV):J x x:=fun _ _ _ _ h=>h
theorem cZ {v:CV}:J v v:=J.refl v
theorem J.top (x:CV):J x .top:=fun _ _ _ _ _=>trivial
theorem J.of_eq {x y:CV} (h:x=y):J x y:=h ▸ J.refl x
theorem J.trans {x y z:CV} (h:J x y) (k:J y z):J x z:=fun al St w v hr=>k al St w v (h al St w v hr)
theorem J.nil:J (.c .nilIface) (.err 0):=fun _ _ _ _ h=>h
theorem J.nilS (k:Nat) (f:Nat→Nat→CV):J (.c (.slice none 0 0)) (.rs k 0 f):=fun _ _ _ _ h=>⟨none,0,h,FQ _,by decide,fun _=>rfl,fun _ ha=>by cases ha⟩
theorem J.rs {k n m:Nat} {f g:Nat→Nat→CV} (hn:n=m) (h:∀ i j,i<n→j<k→J (f i j) (g i j)):J (.rs k n f) (.rs k m g):=by
 subst hn
 rintro al St w v ⟨ao,cap,h1,h2,h3,h4,h5⟩
 refine ⟨ao,cap,h1,h2,h3,h4,fun a ha hn=>?_⟩
 have ⟨h6,h7,h8⟩:=h5 a ha hn
 refine ⟨h6,h7,fun i j hi hj=>?_⟩
 have ⟨v,hv,hr⟩:=h8 i j hi hj
 exact ⟨v,hv,h i j hi hj _ _ _ _ hr⟩
theorem J.agg {n m:Nat} {f g:Nat→CV} (hn:n=m) (h:∀ i,i<n→J (f i) (g i)):J (.agg n f) (.agg m g):=by
 subst hn
 rintro al St w v ⟨cs,h1,h2,h3⟩
 exact ⟨cs,h1,h2,fun i hi=>h i hi _ _ _ _ (h3 i hi)⟩
theorem J.tup {n m:Nat} {f g:Nat→CV} (hn:n=m) (h:∀ i,i<n→J (f i) (g i)):J (.tup n f) (.tup m g):=by
 subst hn
 rintro al St w v ⟨cs,h1,h2,h3⟩
 exact ⟨cs,h1,h2,fun i hi=>h i hi _ _ _ _ (h3 i hi)⟩
def fl (l:List CV) (i:Nat):CV:=match l,i with|[],_=>.top|x::_,0=>x|_::r,i+1=>fl r i
inductive iX:List CV→List CV→Prop where
 | nil:iX [] []
 | cons {x y:CV} {l m:List CV} (h:J x y) (t:iX l m):iX (x::l) (y::m)
inductive cA (env:List (Nat×CV)) (b:Nat→CV):List (Nat×CV)→Prop where
 | nil:cA env b []
 | cons {d:Nat} {v:CV} {r:List (Nat×CV)} (h:J (look env b d) v) (t:cA env b r):cA env b ((d,v)::r)
theorem cA.look {env:List (Nat×CV)} {b b':Nat→CV} {env':List (Nat×CV)} (h:cA env b env') (hb:∀ d,(∀ v,(d,v) ∉ env')→J (look env b d) (b' d)):∀ d,J (look env b d) (look env' b' d):=by
 have key:∀ l,cA env b l→∀ d,(∃ v,(d,v) ∈ l)→J (Am.look env b d) (Am.look l b' d):=by
  intro l hl
  induction hl with
  | nil=>intro d ⟨v,hv⟩;cases hv
  | @cons e v r h1 _ ih =>
   intro d ⟨u,hu⟩
   by_cases hed:e=d
   ·subst hed;rw [bw];exact h1
   ·rw [aQ _ _ _ hed]
    refine ih d ⟨u,?_⟩
    rcases Gb.1 hu with h2|h2
    ·cases h2;exact absurd rfl hed
    exact h2
 have key2:∀ l:List (Nat×CV),∀ d,(∀ v,(d,v) ∉ l)→Am.look l b' d=b' d:=by
  intro l
  induction l with
  | nil=>intro d _;rfl
  | cons x r ih =>
   intro d hd
   have ⟨e,v⟩:=x
   have hed:e≠d:=fun h=>hd v (by rw [h];exact F2 ..)
   rw [aQ _ _ _ hed]
   exact ih d fun u hu=>hd u (F9 _ hu)
 intro d
 by_cases hd:∃ v,(d,v) ∈ env'
 exact key env' h d hd
 ·have hd':∀ v,(d,v) ∉ env':=fun v hv=>hd ⟨v,hv⟩
  rw [key2 env' d hd']
  exact hb d hd'
theorem ab.ent {G:Gh} {St:Nat→Prop} {env env':List (Nat×CV)} {b b':Nat→CV} {H:List (Option Nat×av)} {a:Act} {w:World} (h:ab G St ⟨env,b,H⟩ a w) (he:∀ d,J (look env b d) (look env' b' d)):ab G St ⟨env',b',H⟩ a w :=
 ⟨h.df,h.sz,fun d=>he d _ _ _ _ (h.env d),h.un,h.s1,h.s2,h.s3,h.hp,h.sn,h.sg⟩
def d3 (H:List (Option Nat×av)) (l:List Nat):List (Option Nat×av):=l.map fun j=>H.getD j (none,.dead)
theorem a6.pick {al:List Addr} {St:Nat→Prop} {w:World} {base:Nat} {F0:Nat→Prop} {H H':List (Option Nat×av)} (h:a6 al St w base F0 H) (l:List Nat) (hl:l.Nodup) (hH:d3 H l=H'):a6 al St w base F0 H':=by
 have ⟨fp,hp⟩:=h
 subst hH
 refine ⟨fun i b=>∃ j,l[i]?=some j∧fp j b,fun i g r hi=>?_,fun i j b ⟨p,hp1,hp2⟩ ⟨q,hq1,hq2⟩=>?_,fun i b ⟨p,_,hp2⟩=>hp.own p b hp2,fun i hi b ⟨p,hp1,_⟩=>?_⟩
 ·simp only [d3,GQ,FM] at hi
  have ⟨j,hj,he⟩:=hi
  have e:(fun b=>∃ q,l[i]?=some q∧fp q b)=fp j:=funext fun b=>propext ⟨fun ⟨q,h1,h2⟩=>by rw [hj] at h1;cases h1;exact h2,fun h=>⟨j,hj,h⟩⟩
  show r.rep al St w (fun b=>∃ q,l[i]?=some q∧fp q b) g
  rw [e]
  by_cases hlt:j<H.length
  ·refine hp.rep j g r ?_
   rw [FW hlt,← he]
   simp [hlt]
  ·rw [FJ,GL O] at he
   cases he
   exact fun b hb=>hp.out j O b hb
 ·have:=hp.dis p q b hp2 hq2
  subst this
  have hi:=(FL.1 hp1).1
  exact (HN hi hl).1 (hp1.trans hq1.symm)
 ·simp only [d3,H7] at hi
  rw [GL hi] at hp1
  cases hp1
inductive ar:List (Option Nat×av)→List (Option Nat×av)→Prop where
 | nil:ar [] []
 | same {x:Option Nat×av} {l m:List (Option Nat×av)} (t:ar l m):ar (x::l) (x::m)
 | blk {g:Option Nat} {n N:Nat} {f F:Nat→CV} {l m:List (Option Nat×av)} (hn:n=N) (hF:∀ j,j<N→J (f j) (F j)) (t:ar l m):ar ((g,.blk n f)::l) ((g,.blk N F)::m)
 | dead {g:Option Nat} {r:av} {l m:List (Option Nat×av)} (hr:∀ al St w F,av.rep al St w F g r→∀ b,¬ F b) (t:ar l m):ar ((g,r)::l) ((g,.dead)::m)
theorem ar.refl:∀ l:List (Option Nat×av),ar l l
 | []=>.nil
 | _::r=>.same (ar.refl r)
theorem ar.at {l m:List (Option Nat×av)} (h:ar l m):l.length=m.length∧∀ (i:Nat) (g:Option Nat) (r':av),m[i]?=some (g,r')→∃ r,l[i]?=some (g,r)∧∀ al St w F,av.rep al St w F g r→av.rep al St w F g r':=by
 induction h with
 | nil=>exact ⟨rfl,fun i g r h=>by simp at h⟩
 | same _ ih =>
  refine ⟨by simp [ih.1],fun i g r h=>?_⟩
  match i,h with
  | 0,h=>exact ⟨r,h,fun _ _ _ _ h=>h⟩
  | i+1,h=>exact ih.2 i g r h
 | @blk g0 n N f F l m hn hF _ ih =>
  subst hn
  refine ⟨by simp [ih.1],fun i g r h=>?_⟩
  match i,h with
  | 0,h =>
   simp at h
   obtain ⟨rfl,rfl⟩:=h
   refine ⟨.blk n f,rfl,fun al St w F1 h=>?_⟩
   cases g0 with
   | none=>exact h
   | some g =>
    have ⟨h1,cur,t,h2,h3,h4⟩:=h
    exact ⟨h1,cur,t,h2,h3,fun j hj=>hF j hj _ _ _ _ (h4 j hj)⟩
  | i+1,h=>exact ih.2 i g r h
 | @dead g0 r0 l m hr _ ih =>
  refine ⟨by simp [ih.1],fun i g r h=>?_⟩
  match i,h with
  | 0,h =>
   simp at h
   obtain ⟨rfl,rfl⟩:=h
   refine ⟨r0,rfl,fun al St w F1 h=>?_⟩
   have:=hr al St w F1 h
   cases g0<;>exact this
  | i+1,h=>exact ih.2 i g r h
theorem a6.hent {al:List Addr} {St:Nat→Prop} {w:World} {base:Nat} {F0:Nat→Prop} {H H':List (Option Nat×av)} (h:a6 al St w base F0 H) (he:ar H H'):a6 al St w base F0 H':=by
 have ⟨fp,hp⟩:=h
 have ⟨h1,h2⟩:=he.at
 exact ⟨fp,fun i g r hi=>by
  have ⟨r0,h3,h4⟩:=h2 i g r hi
  exact h4 _ _ _ _ (hp.rep i g r0 h3),hp.dis,hp.own,fun i hi=>hp.out i O⟩
theorem a6.none (al:List Addr) (St:Nat→Prop) (w:World) (base:Nat) (F0:Nat→Prop):a6 al St w base F0 [] :=
 ⟨fun _ _=>False,fun i g r hi=>by simp at hi,fun _ _ _ h=>h.elim,fun _ _ h=>h.elim,fun _ _ _ h=>h⟩
end Am
end Go.Proofs.YtnijncmifjnifaaGreatDoor
