/- What the law leans on, part 1 -/
import Derived.Test.YtghminnpfnkbjaaGreatDoorChecked
import Derived.WalkKit
import Derived.WalkLawsBesides
import Derived.WalkSpells
import Derived.Outline
import Derived.Handy
import Derived.Deep.QuietTactic
import Derived.Deep.Draws
import Derived.BigQuiet
import Derived.Lib.Hide
import Derived.LaidEql
import Derived.Laws.IdiomStrings
import Derived.WideLaws
import Derived.Shelf.Unicode.DecodeSlow
import Derived.OrdersHeld
import Derived.Deep.RegionHeld3
import Derived.RangeFuncNested
import Derived.OrdersIn
import Derived.RangeFuncCalls
import Derived.RangeFuncLeaves
import Derived.RangeFuncRecord
set_option maxRecDepth 100000
namespace Go.Proofs
abbrev I:=List UInt8
abbrev Zx:=List I
abbrev Zy:=@if_neg
abbrev Zz:=@if_pos
abbrev ZA:=@Nat.le_refl
abbrev ZB:=@List.getD_eq_getElem?_getD
abbrev ZC:=@List.getElem?_eq_some_iff
abbrev ZD:=@List.length_append
abbrev ZE:=@Bool.and_eq_true
abbrev ZF:=@List.getElem?_append_left
abbrev ZG:=@Option.map_eq_some_iff
abbrev ZH:=@List.take_succ_eq_append_getElem
abbrev ZI:=@List.length_drop
abbrev ZJ:=@decide_eq_true_eq
abbrev ZK:=@List.length_take
abbrev ZL:=@Nat.zero_le
abbrev ZM:=@List.getElem?_eq_getElem
abbrev ZN:=@Nat.le_of_ble_eq_true
abbrev ZO:=@Nat.not_lt_zero
abbrev ZP:=@Array.getElem?_eq_getElem
abbrev ZQ:=@List.getElem?_set_ne
abbrev ZR:=@List.getElem?_append_right
abbrev ZS:=@Nat.mul_one
abbrev ZT:=@UInt8.toNat_ofNat'
abbrev ZU:=@List.mem_cons_self
abbrev ZV:=@congrArg
abbrev ZW:=@List.take_length
abbrev ZX:=@Array.getElem?_eq_some_iff
abbrev ZY:=@List.take_of_length_le
abbrev ZZ:=@List.drop_eq_getElem_cons
abbrev Z0:=@List.getElem?_eq_none
abbrev Z1:=@List.all_eq_true
abbrev Z2:=@List.mem_cons_of_mem
abbrev Z3:=@Option.some.inj
abbrev Z4:=@Nat.lt_of_lt_of_le
abbrev Z5:=@List.eq_nil_of_length_eq_zero
abbrev Z6:=@List.map_cons
abbrev Z7:=@Nat.le_trans
abbrev Z8:=@List.append_assoc
abbrev Z9:=@List.mem_cons
abbrev aax:=@List.length_pos_iff
abbrev abx:=@decide_eq_true
abbrev acx:=@Nat.eq_of_beq_eq_true
abbrev adx:=@Option.some.injEq
abbrev aex:=@decide_eq_false
abbrev afx:=@Nat.add_zero
abbrev agx:=@List.mem_singleton
abbrev ahx:=@List.not_mem_nil
abbrev aix:=@Int.fdiv_eq_ediv_of_nonneg
abbrev ajx:=@Array.getElem?_setIfInBounds_ne
abbrev akx:=@UInt8.toNat_inj
abbrev alx:=@List.length_eq_zero_iff
abbrev amx:=@List.take_append_drop
abbrev anx:=@Nat.div_one
abbrev aox:=@Nat.mul_le_mul_right
abbrev apx:=@Nat.pow_le_pow_right
abbrev aqx:=@Nat.le_of_eq
abbrev arx:=@List.flatten_cons
abbrev asx:=@Option.getD_some
abbrev atx:=@Bool.or_eq_true
abbrev aux:=@List.drop_eq_nil_of_le
abbrev avx:=@UInt8.toNat_lt
abbrev awx:=@Bool.true_and
abbrev axx:=@List.length_map
abbrev ayx:=@Array.getD_eq_getD_getElem?
abbrev azx:=@List.mem_of_getElem?
abbrev aAx:=@List.getElem_mem
abbrev aBx:=@List.getElem?_map
abbrev aCx:=@Array.getElem?_append_left
abbrev aDx:=@Bool.and_false
abbrev aEx:=@List.length_singleton
abbrev aFx:=@List.getElem?_cons_zero
abbrev aGx:=@decide_eq_false_iff_not
abbrev aHx:=@List.getElem?_replicate
abbrev aIx:=@Nat.shiftRight_eq_div_pow
abbrev aJx:=@Nat.sub_zero
abbrev aKx:=@Nat.zero_mul
abbrev aLx:=@List.getD_cons_zero
abbrev aMx:=@List.append_nil
abbrev aNx:=@Nat.mod_lt
abbrev aOx:=@Array.getElem?_eq_none
abbrev aPx:=@List.length_set
abbrev aQx:=@Nat.mod_eq_of_lt
abbrev aRx:=@Nat.add_mul
abbrev aSx:=@List.flatten_append
abbrev aTx:=@List.getD_cons_succ
abbrev aUx:=@beq_iff_eq
abbrev aVx:=@Nat.lt_or_ge
abbrev aWx:=@Nat.add_sub_cancel_left
abbrev aXx:=@List.getElem?_take
abbrev aYx:=@Bool.false_eq_true
abbrev aZx:=@List.drop_drop
abbrev a0x:=@List.map_append
abbrev a1x:=@Classical.byContradiction
abbrev a2x:=@List.length_reverse
abbrev a3x:=@Classical.not_not
abbrev a4x:=@List.all_cons
abbrev a5x:=@List.dropLast_concat_getLast
abbrev a6x:=@List.mem_iff_getElem
abbrev a7x:=@List.mem_range
abbrev a8x:=@List.map_map
abbrev a9x:=@of_decide_eq_true
abbrev bax:=@List.reverse_cons
abbrev bbx:=@List.getElem_of_mem
abbrev bcx:=@List.mem_append
abbrev bdx:=@Nat.min_eq_left
abbrev bex:=@Array.getElem?_modify
abbrev bfx:=@Nat.ble_eq_true_of_le
abbrev bgx:=@List.ext_getElem
abbrev bhx:=@Nat.lt_of_lt_of_eq
abbrev bix:=@Nat.shiftLeft_eq
abbrev bjx:=@List.set_set
abbrev bkx:=@List.drop_append_of_le_length
abbrev blx:=@List.getElem?_cons_succ
abbrev bmx:=@Bool.eq_iff_iff
abbrev bnx:=@List.filterMap_cons
abbrev bpx:=@Array.getElem?_append_right
abbrev bqx:=@List.map_nil
abbrev brx:=@List.any_eq_true
abbrev bsx:=@List.getElem?_drop
abbrev btx:=@Nat.eq_zero_or_pos
abbrev bux:=@List.getElem?_toArray
abbrev bvx:=@List.contains_iff_mem
abbrev bwx:=@List.mem_append_right
abbrev bxx:=@List.length_replicate
abbrev byx:=@Decidable.byContradiction
abbrev bzx:=@Option.map_some
abbrev bAx:=@Nat.sub_self
abbrev bBx:=@List.mem_map
abbrev bCx:=@UInt8.ofNat_toNat
abbrev bDx:=@Array.setIfInBounds_comm
abbrev bEx:=@List.getElem?_range
abbrev bFx:=@List.map_congr_left
abbrev bGx:=@Int.toNat_of_nonneg
abbrev bHx:=@List.drop_length
abbrev bIx:=@Nat.and_two_pow_sub_one_eq_mod
abbrev bJx:=@List.flatten_nil
abbrev bKx:=@List.take_append_of_le_length
abbrev bLx:=@Nat.shiftLeft_add_eq_or_of_lt
abbrev bMx:=@Nat.ne_of_beq_eq_false
abbrev bNx:=@Nat.pow_succ
abbrev bOx:=@Nat.div_div_eq_div_mul
abbrev bPx:=@Nat.lt_of_le_of_lt
abbrev bQx:=@List.nodup_cons
abbrev bRx:=@List.foldl_cons
abbrev bSx:=@List.range_succ
abbrev bTx:=@List.all_append
abbrev bUx:=@Array.getElem?_toList
abbrev bVx:=@List.mem_iff_getElem?
abbrev bWx:=@Bool.not_eq_true'
abbrev bXx:=@Int.toNat_natCast
abbrev bYx:=@Nat.lt_trichotomy
abbrev bZx:=@List.getElem?_append
abbrev b0x:=@Nat.div_lt_of_lt_mul
abbrev b1x:=@List.foldl_nil
abbrev b2x:=@List.set_append_left
abbrev b3x:=@List.mem_of_mem_take
abbrev b4x:=@Nat.mul_comm
abbrev b5x:=@Nat.min_eq_right
abbrev b6x:=@Int.natCast_ediv
abbrev b7x:=@Bool.or_eq_true_iff
abbrev b8x:=@List.cons.injEq
abbrev b9x:=@UInt8.toNat_xor
abbrev cax:=@List.ext_getElem?
abbrev cbx:=@List.foldl_append
abbrev ccx:=@Bool.eq_false_iff
abbrev cdx:=@Nat.eq_zero_of_not_pos
abbrev cex:=@Bool.false_and
abbrev cfx:=@List.getElem?_reverse
abbrev cgx:=@List.singleton_append
abbrev chx:=@Nat.le_of_not_lt
abbrev cix:=@Nat.add_assoc
abbrev cjx:=@List.set_comm
abbrev ckx:=@Array.getElem_toList
abbrev clx:=@Nat.mod_one
abbrev cmx:=@List.mem_of_mem_drop
abbrev cnx:=@Nat.eq_of_testBit_eq
abbrev cox:=@List.mem_filter
abbrev cpx:=@Option.any_some
abbrev cqx:=@Nat.two_pow_pos
abbrev crx:=@Nat.div_le_self
abbrev csx:=@List.reverse_append
abbrev ctx:=@List.flatMap_append
abbrev cux:=@Bool.true_or
abbrev cvx:=@Array.any_eq_true'
abbrev cwx:=@Nat.pos_of_ne_zero
abbrev cxx:=@Bool.not_false
abbrev cyx:=@List.pairwise_cons
abbrev czx:=@Prod.ext
abbrev cAx:=@List.pairwise_iff_getElem
abbrev cBx:=@List.mem_or_eq_of_mem_set
abbrev cCx:=@List.getElem?_inj
abbrev cDx:=@not_false_eq_true
abbrev cEx:=@List.any_eq_false
abbrev cFx:=@Nat.pow_add
abbrev cGx:=@Int.lt_trichotomy
abbrev cHx:=@List.getElem?_set
abbrev cIx:=@List.sum_cons
abbrev cJx:=@Option.isSome_iff_exists
abbrev cKx:=@Option.bind_eq_some_iff
abbrev cLx:=@List.mem_flatMap
abbrev cMx:=@ByteArray.mk.inj
abbrev cNx:=@decide_false
abbrev cOx:=@Bool.not_not
abbrev cPx:=@Array.mk.inj
abbrev cQx:=@Nat.eq_zero_of_le_zero
abbrev cRx:=@Int.natCast_mul
abbrev cSx:=@Nat.testBit_xor
abbrev cTx:=@List.nodup_nil
abbrev cUx:=@List.drop_zero
abbrev cVx:=@List.idxOf_cons_self
abbrev cWx:=@List.getElem_reverse
abbrev cXx:=@List.take_zero
abbrev cYx:=@List.take_left
abbrev cZx:=@List.map_id
abbrev c0x:=@and_true
abbrev c1x:=@List.replicate_succ'
abbrev c2x:=@List.pairwise_append
abbrev c3x:=@Array.length_toList
abbrev c4x:=@List.drop_succ_cons
abbrev c5x:=@Bool.false_or
abbrev c6x:=@Prod.mk.injEq
abbrev c7x:=@List.take_set
abbrev c8x:=@Nat.succ_mul
abbrev c9x:=@Nat.mul_zero
abbrev dax:=@Int.le_of_lt
abbrev dbx:=@Nat.one_mul
abbrev dcx:=@dif_neg
end Go.Proofs
set_option linter.unusedVariables false
open Go.Proofs.Tryz
namespace Go.Proofs.YtghminnpfnkbjaaGreatDoor
theorem O {p:Prop} (h:p:=by omega):p:=h
theorem jD {p:Prop} (h:p:=by decide):p:=h
theorem jK {c:Prop} {i:Decidable c} {α:Sort _} {a b:α} (h:¬c:=by omega):@ite α c i a b=b:=Zy h
theorem jP {c:Prop} {i:Decidable c} {α:Sort _} {a b:α} (h:c:=by omega):@ite α c i a b=a:=Zz h
open Go.RowKit
theorem oI {a b c:World} (h:Below a.heap.size a b) (k:Below b.heap.size b c):Below a.heap.size a c:=h.trans (k.mono h.size)
theorem lY {a b:World} (h:Below a.heap.size a b) {p:Addr} {v:Value} (hc:a.cell? p=some v):b.cell? p=some v :=
 (h.cell (World.block_lt_of_cell? a p hc)).trans hc
theorem Bj {P:Program} {ops:Array Oper} {Q:Exit→Act→World→Prop} {rest:List Oper} {o:Oper} {a:Act} {w:World} (v:Value) (w':World)
  (hg:o.guard=none) (hr:(execOp a.eval o).run P w=.ok (.value v) w') (hK:wpList P ops Q rest (a.put o.dst v) w'):wpList P ops Q (o::rest) a w :=
 wpList_plain hg fun K hk=>by
  unfold Oper.wp
  rw [hr]
  exact hk _ _ hK
def Bs (w:World) (v:Value) (l:I):Prop :=
 ∃ ao cap,v=.slice ao l.length cap∧l.length≤cap∧cap≤9223372036854775807∧(ao=none→cap=0) ∧
  ∀ x,ao=some x→(0<l.length→x.spot=none)∧∀ i,i<l.length→w.cell? ⟨x.block,x.off+i,none⟩=some (.int .u8 (l.getD i 0).toNat)
theorem Bs.below {a b:World} {v:Value} {l:I} (h:Bs a v l) (k:Below a.heap.size a b):Bs b v l:=by
 obtain ⟨ao,cap,rfl,h1,h2,h3,h4⟩:=h
 exact ⟨ao,cap,rfl,h1,h2,h3,fun x hx=>⟨(h4 x hx).1,fun i hi=>lY k ((h4 x hx).2 i hi)⟩⟩
theorem Bs.cons {w:World} {v:Value} {l:I} (h:Bs w v l) (hl:0<l.length) :
  ∃ b o cap,v=.slice (some ⟨b,o,none⟩) l.length cap∧l.length≤cap∧cap≤9223372036854775807∧∀ i,i<l.length→w.cell? ⟨b,o+i,none⟩=some (.int .u8 (l.getD i 0).toNat):=by
 obtain ⟨ao,cap,rfl,h1,h2,h3,h4⟩:=h
 cases ao with
 | none=>have:=h3 rfl;omega
 | some x =>
  have ⟨b,o,sp⟩:=x
  obtain ⟨hs,hc⟩:=h4 _ rfl
  have hs:=hs hl
  simp only at hs
  subst hs
  exact ⟨b,o,cap,rfl,h1,by omega,hc⟩
theorem Bs.len {w:World} {ao:Option Addr} {n cap:Nat} {l:I} (h:Bs w (.slice ao n cap) l):n=l.length:=by
 have ⟨_,_,e,_⟩:=h
 injection e
theorem Bs.nil (w:World):Bs w (.slice none 0 0) []:=⟨none,0,rfl,by simp,by simp,fun _=>rfl,fun x h=>by cases h⟩
theorem Bs.of_cells {w:World} {b o cap:Nat} {l:I} (h1:l.length≤cap) (h2:cap≤9223372036854775807)
  (h:∀ i,i<l.length→w.cell? ⟨b,o+i,none⟩=some (.int .u8 (l.getD i 0).toNat)):Bs w (.slice (some ⟨b,o,none⟩) l.length cap) l :=
 ⟨_,cap,rfl,h1,h2,by simp,fun x hx=>by cases hx;exact ⟨fun _=>rfl,h⟩⟩
theorem Bs.piece {w:World} {ao:Option Addr} {n cap:Nat} {l:I} (h:Bs w (.slice ao n cap) l) (lo hi:Nat) (h1:lo≤hi) (h2:hi≤n) :
  Bs w (.slice (if cap=lo then ao else ao.map (·.add lo)) (hi-lo) (cap-lo)) ((l.take hi).drop lo):=by
 have ⟨ao',cap',e,h3,h4,h5,h6⟩:=h
 injection e with e1 e2 e3
 subst e1 e2 e3
 have hlen:((l.take hi).drop lo).length=hi-lo:=by simp;omega
 refine ⟨_,_,by rw [hlen],by rw [hlen];omega,by omega,?_,?_⟩
 ·intro hn
  split at hn
  omega
  ·have:ao=none:=by simpa using hn
   have:=h5 this
   omega
 ·intro x hx
  split at hx
  ·have hz:hi-lo=0:=by omega
   exact ⟨fun h=>by rw [hlen] at h;omega,fun i hi'=>by rw [hlen] at hi';omega⟩
  ·obtain ⟨y,rfl,rfl⟩:=ZG.1 hx
   have ⟨hs,hc⟩:=h6 y rfl
   have ⟨b,o,sp⟩:=y
   by_cases hz:hi-lo=0
   exact ⟨fun h=>by rw [hlen] at h;omega,fun i hi'=>by rw [hlen] at hi';omega⟩
   have hs:=hs O
   simp only at hs
   subst hs
   rw [Addr.add_lit]
   refine ⟨fun _=>rfl,fun i hi'=>?_⟩
   rw [hlen] at hi'
   show w.cell? ⟨b,o+lo+i,none⟩=_
   rw [cix,hc (lo+i) O]
   simp [List.getD,show lo+i<hi by omega]
theorem Bs.from {w:World} {ao:Option Addr} {n cap:Nat} {l:I} (h:Bs w (.slice ao n cap) l) (lo:Nat) (h2:lo≤n) :
  Bs w (.slice (if cap=lo then ao else ao.map (·.add lo)) (n-lo) (cap-lo)) (l.drop lo):=by
 have:=h.piece lo n h2 (ZA _)
 have e:l.take n=l:=by rw [h.len,ZW]
 rwa [e] at this
theorem mO {P:Program} {w:World} {ao:Option Addr} {n cap:Nat} {l:I} (h:Bs w (.slice ao n cap) l) (src dst e:TypeId)
  (hs:P.underlying src=some (.slice e)) (he:P.underlying e=some (.int .u8)) (hd:P.underlying dst=some .string) :
  (convert src dst (.slice ao n cap)).run P w=.ok (.string ⟨l.toArray⟩) w:=by
 have ⟨ao',cap',e0,h3,h4,h5,h6⟩:=h
 injection e0 with e1 e2 e3
 subst e1 e2 e3
 cases ao with
 | none =>
  have:=h5 rfl
  have hl:l=[]:=Z5 O
  subst hl
  rw [run_convert_bytes_string w src dst e none _ cap hs he hd]
  rfl
 | some x =>
  have ⟨b,o,sp⟩:=x
  obtain ⟨hsp,hc⟩:=h6 _ rfl
  exact run_convert_bytes_back w src dst e ⟨b,o,sp⟩ cap l hs he hd fun j hj=>by
   have hsp:=hsp O
   simp only at hsp
   subst hsp
   rw [Addr.add_lit,hc j hj]
   simp [List.getD,hj]
def ev (al:List Addr) (k:Nat):Value:=if k=0 then .nilIface else .iface 338 (.pointer al[k-1]?)
def wa:Nat:=30
def v6:Nat:=31
def Am.kL:List Nat:=[0x428a2f98,0x71374491,0xb5c0fbcf,0xe9b5dba5,0x3956c25b,0x59f111f1,0x923f82a4,0xab1c5ed5,
 0xd807aa98,0x12835b01,0x243185be,0x550c7dc3,0x72be5d74,0x80deb1fe,0x9bdc06a7,0xc19bf174,
 0xe49b69c1,0xefbe4786,0x0fc19dc6,0x240ca1cc,0x2de92c6f,0x4a7484aa,0x5cb0a9dc,0x76f988da,
 0x983e5152,0xa831c66d,0xb00327c8,0xbf597fc7,0xc6e00bf3,0xd5a79147,0x06ca6351,0x14292967,
 0x27b70a85,0x2e1b2138,0x4d2c6dfc,0x53380d13,0x650a7354,0x766a0abb,0x81c2c92e,0x92722c85,
 0xa2bfe8a1,0xa81a664b,0xc24b8b70,0xc76c51a3,0xd192e819,0xd6990624,0xf40e3585,0x106aa070,
 0x19a4c116,0x1e376c08,0x2748774c,0x34b0bcb5,0x391c0cb3,0x4ed8aa4a,0x5b9cca4f,0x682e6ff3,
 0x748f82ee,0x78a5636f,0x84c87814,0x8cc70208,0x90befffa,0xa4506ceb,0xbef9a3f7,0xc67178f2]
def Am.firstL:List Nat:=[0x6a09e667,0xbb67ae85,0x3c6ef372,0xa54ff53a,0x510e527f,0x9b05688c,0x1f83d9ab,0x5be0cd19]
def oV:List (Nat×List Value):=[(29,Am.firstL.map fun (n:Nat)=>.int .u32 n),(32,Am.kL.map fun (n:Nat)=>.int .u32 n)]
def Om (g:Nat):Bool:=Nat.beq g wa || Nat.beq g v6 || oV.any fun t=>Nat.beq g t.1
def nz (gs:List Nat):List Nat:=gs.filter fun g=>!Om g
def pF (gs:List Nat):List Nat:=gs.filter fun g=>Nat.blt g 1000000000
theorem td {gs:List Nat} {g:Nat}:g ∈ pF gs↔g ∈ gs∧g<1000000000:=by simp [pF]
structure gc (w:World) (gs:List Nat) (al:List Addr):Prop where
 len:al.length=(nz gs).length
 nd:∀ (i j g g':Nat),(nz gs)[i]?=some g→g ∈ pF gs→(nz gs)[j]?=some g'→g' ∈ pF gs→al[i]?=al[j]?→i=j
 var:∀ i g,(nz gs)[i]?=some g→g ∈ pF gs→w.cell? ⟨g,0,none⟩=some (ev al (i+1))
 row:∀ a ∈ al,∃ c t,w.heap[a.block]?=some (.cells c t (0,0))
 tab:wa ∈ pF gs→v6 ∈ pF gs→Lib.Utf8Tabs wa v6 w
 tbl:∀ t ∈ oV,t.1 ∈ pF gs→∀ (i:Nat) (v:Value),t.2[i]?=some v→w.cell? ⟨t.1,i,none⟩=some v
 lt:∀ g ∈ pF gs,g<w.heap.size
theorem IH {w w':World} {g3 g4:Nat} (h:Lib.Utf8Tabs g3 g4 w) (h1:∀ o,w'.cell? ⟨g3,o,none⟩=w.cell? ⟨g3,o,none⟩) (h2:∀ o,w'.cell? ⟨g4,o,none⟩=w.cell? ⟨g4,o,none⟩):Lib.Utf8Tabs g3 g4 w' :=
 ⟨fun c hc=>(h1 c).trans (h.1 c hc),fun i hi=>⟨(h2 _).trans (h.2 i hi).1,(h2 _).trans (h.2 i hi).2⟩⟩
theorem gc.below {a b:World} {gs:List Nat} {al:List Addr} (h:gc a gs al) (k:Below a.heap.size a b):gc b gs al :=
 ⟨h.len,h.nd,fun i g hi hl=>lY k (h.var i g hi hl),fun x hx=>by
  have ⟨c,t,hc⟩:=h.row x hx
  exact ⟨c,t,by rw [k.block x.block (ZX.1 hc).1];exact hc⟩,fun h1 h2=>Utf8Tabs_below (h.tab h1 h2) k,fun t ht hl i v hv=>lY k (h.tbl t ht hl i v hv),fun g hg=>Z4 (h.lt g hg) k.size⟩
def gs:List Nat:=[0,1,2,3,4,5,6,7,8,9,10,11,12,13,14,15,16,17,18,19,20,21,22,23,24,25,26,27]
def YL:List Nat:=gs++[wa,v6]
class dO (l:List Nat):Prop where
 eq:nz l=gs
instance okG:dO gs:=⟨by decide⟩
instance okT:dO YL:=⟨by decide⟩
def Xy:List Nat:=YL++oV.map (·.1)
instance okS:dO Xy:=⟨by decide⟩
class ud (l:List Nat):Prop where
 a:∀ t ∈ oV,t.1 ∈ pF l
abbrev Tk (w:World) (al:List Addr):Prop:=gc w gs al
class dU (l:List Nat) (k:Nat):Prop where
 eq:(nz l)[k]?=gs[k]?
 lt:∀ g,gs[k]?=some g→g ∈ pF l
theorem cA {l:List Nat} [h:dO l] (k:Nat) (hk:(gs[k]?).any (fun g=>Nat.blt g 1000000000)=true):dU l k:=⟨by rw [dO.eq],fun g hg=>by
 rw [hg] at hk
 refine td.2 ⟨?_,ZN hk⟩
 have h1:g ∈ nz l:=by rw [dO.eq];exact azx hg
 exact (cox.1 h1).1⟩
instance hasE0 {l:List Nat} [dO l]:dU l 0:=cA 0 jD
instance hasE1 {l:List Nat} [dO l]:dU l 1:=cA 1 jD
instance hasE2 {l:List Nat} [dO l]:dU l 2:=cA 2 jD
instance hasE3 {l:List Nat} [dO l]:dU l 3:=cA 3 jD
instance hasE4 {l:List Nat} [dO l]:dU l 4:=cA 4 jD
instance hasE5 {l:List Nat} [dO l]:dU l 5:=cA 5 jD
instance hasE6 {l:List Nat} [dO l]:dU l 6:=cA 6 jD
instance hasE7 {l:List Nat} [dO l]:dU l 7:=cA 7 jD
instance hasE8 {l:List Nat} [dO l]:dU l 8:=cA 8 jD
instance hasE9 {l:List Nat} [dO l]:dU l 9:=cA 9 jD
instance hasE10 {l:List Nat} [dO l]:dU l 10:=cA 10 jD
instance hasE11 {l:List Nat} [dO l]:dU l 11:=cA 11 jD
instance hasE12 {l:List Nat} [dO l]:dU l 12:=cA 12 jD
instance hasE13 {l:List Nat} [dO l]:dU l 13:=cA 13 jD
instance hasE14 {l:List Nat} [dO l]:dU l 14:=cA 14 jD
instance hasE15 {l:List Nat} [dO l]:dU l 15:=cA 15 jD
instance hasE16 {l:List Nat} [dO l]:dU l 16:=cA 16 jD
instance hasE17 {l:List Nat} [dO l]:dU l 17:=cA 17 jD
instance hasE18 {l:List Nat} [dO l]:dU l 18:=cA 18 jD
instance hasE19 {l:List Nat} [dO l]:dU l 19:=cA 19 jD
instance hasE20 {l:List Nat} [dO l]:dU l 20:=cA 20 jD
instance hasE21 {l:List Nat} [dO l]:dU l 21:=cA 21 jD
instance hasE22 {l:List Nat} [dO l]:dU l 22:=cA 22 jD
instance hasE23 {l:List Nat} [dO l]:dU l 23:=cA 23 jD
instance hasE24 {l:List Nat} [dO l]:dU l 24:=cA 24 jD
instance hasE25 {l:List Nat} [dO l]:dU l 25:=cA 25 jD
instance hasE26 {l:List Nat} [dO l]:dU l 26:=cA 26 jD
instance hasE27 {l:List Nat} [dO l]:dU l 27:=cA 27 jD
class PU (l:List Nat):Prop where
 h0:dU l 0
 h3:dU l 3
instance ok2_0 {l:List Nat} [h:PU l]:dU l 0:=h.h0
instance ok2_3 {l:List Nat} [h:PU l]:dU l 3:=h.h3
instance ok2_all {l:List Nat} [dO l]:PU l:=⟨inferInstance,inferInstance⟩
class ib (l:List Nat):Prop where
 h0:dU l 0
 h1:dU l 1
 h2:dU l 2
 h3:dU l 3
 h4:dU l 4
 h5:dU l 5
 h6:dU l 6
 h7:dU l 7
 h23:dU l 23
instance ok9_0 {l:List Nat} [h:ib l]:dU l 0:=h.h0
instance ok9_1 {l:List Nat} [h:ib l]:dU l 1:=h.h1
instance ok9_2 {l:List Nat} [h:ib l]:dU l 2:=h.h2
instance ok9_3 {l:List Nat} [h:ib l]:dU l 3:=h.h3
instance ok9_4 {l:List Nat} [h:ib l]:dU l 4:=h.h4
instance ok9_5 {l:List Nat} [h:ib l]:dU l 5:=h.h5
instance ok9_6 {l:List Nat} [h:ib l]:dU l 6:=h.h6
instance ok9_7 {l:List Nat} [h:ib l]:dU l 7:=h.h7
instance ok9_23 {l:List Nat} [h:ib l]:dU l 23:=h.h23
instance ok9_all {l:List Nat} [dO l]:ib l:=⟨inferInstance,inferInstance,inferInstance,inferInstance,inferInstance,inferInstance,inferInstance,inferInstance,inferInstance⟩
instance ok9_two {l:List Nat} [ib l]:PU l:=⟨inferInstance,inferInstance⟩
theorem VA {l:List Nat} [dO l]:∀ g ∈ gs,g ∈ l:=fun g hg=>by
 rw [← dO.eq (l:=l)] at hg
 exact (cox.1 hg).1
theorem oh {l:List Nat} [dO l] {g:Nat} (h:g ∈ pF gs):g ∈ pF l:=td.2 ⟨VA g (td.1 h).1,(td.1 h).2⟩
theorem gc.std {w:World} {l:List Nat} {al:List Addr} [dO l] (h:gc w l al):Tk w al where
 len:=h.len.trans (by rw [dO.eq,dO.eq])
 nd:=fun i j g g' hi hl hj hl' e=>h.nd i j g g' (by rw [dO.eq] at hi ⊢;exact hi) (oh hl) (by rw [dO.eq] at hj ⊢;exact hj) (oh hl') e
 var:=fun i g hi hl=>h.var i g (by rw [dO.eq] at hi ⊢;exact hi) (oh hl)
 row:=h.row
 tab:=fun h1 h2=>h.tab (oh h1) (oh h2)
 tbl:=fun t ht hl=>h.tbl t ht (oh hl)
 lt:=fun g hg=>h.lt g (oh hg)
theorem Ie (al:List Addr):ev al 0=.nilIface:=rfl
@[go_sem] theorem jn (op:BinOp) (t:TypeId) (x:Operand) (c:Value) (al:List Addr) (k:Nat):eqGuard op t x (.const c) (ev al k) .nilIface=pure ():=by
 unfold ev
 split
 exact eqGuard_nil_constR op t x c
 exact eqGuard_at_iface op t x _ _ _ _
theorem oy:prog.underlying 37=some (.interface (prog.methodsAt 37)):=by kernel_rfl
@[go_sem] theorem pk (al:List Addr) (k:Nat) (w:World):(binOp .eql 37 (ev al k) .nilIface).run prog w=.ok (.bool (decide (k=0))) w:=by
 unfold ev
 split
 ·subst k
  exact run_eql_nil_nil w _ oy
 ·rename_i hk
  simp only [hk,cNx]
  exact run_eql_held_nil w _ _ _ oy
@[go_sem] theorem pi (al:List Addr) (k:Nat) (w:World):(binOp .neq 37 (ev al k) .nilIface).run prog w=.ok (.bool (!decide (k=0))) w:=by
 unfold ev
 split
 ·subst k
  exact run_neq_nil_nil w _ oy
 ·rename_i hk
  simp only [hk,cNx]
  exact run_neq_held_nil w _ _ _ oy
end Go.Proofs.YtghminnpfnkbjaaGreatDoor
namespace Go.Proofs.YtghminnpfnkbjaaGreatDoor
open Go.RowKit
def lF (w:World):Type:={ W:World // Below w.heap.size w W }
def lF.w {w:World} (n:lF w):World:=n.1
theorem lF.below {w:World} (n:lF w):Below w.heap.size w n.w:=n.2
instance (w:World):Nonempty (lF w):=⟨⟨w,Below.refl _ _⟩⟩
theorem lF.cell {w:World} {p:Addr} {v:Value} (h:w.cell? p=some v) (n:lF w):n.w.cell? p=some v:=lY n.below h
def lF.up {w W:World} (h:Below w.heap.size w W) (n:lF W):lF w:=⟨n.w,oI h n.below⟩
section
variable {P:Program} {ops:Array Oper} {Q:Exit→Act→World→Prop} {md:Region.Mode}
def mL (P:Program) (md:Region.Mode) (ops:Array Oper) (Q:Exit→Act→World→Prop):Nat→Array Bool→Act→World→Prop
 | 0,listed,a,w=>Region.ready md ops listed=[]∧∀ n:lF w,Q .normal a n.w
 | fuel+1,listed,a,w =>
  (Region.ready md ops listed=[]→∀ n:lF w,Q .normal a n.w) ∧
  ∀ i ∈ Region.ready md ops listed,∀ n:lF w,wpOp P ops Q i (fun a' w'=>Below n.w.heap.size n.w w'∧mL P md ops Q fuel (listed.setIfInBounds i true) a' w') a n.w
theorem o8:∀ (fuel:Nat) (listed:Array Bool) (a:Act) (w W:World),Below w.heap.size w W→mL P md ops Q fuel listed a w→mL P md ops Q fuel listed a W
 | 0,_,_,_,_,hb,h=>⟨h.1,fun n=>h.2 (n.up hb)⟩
 | _+1,_,_,_,_,hb,h=>⟨fun h0 n=>h.1 h0 (n.up hb),fun i hi n=>h.2 i hi (n.up hb)⟩
theorem wS:∀ (fuel:Nat) (listed:Array Bool) (a:Act) (w:World),mL P md ops Q fuel listed a w→wpAny P md ops Q fuel listed a w
 | 0,_,_,w,h=>⟨h.1,h.2 ⟨w,Below.refl _ _⟩⟩
 | fuel+1,_,_,w,h=>⟨fun h0=>h.1 h0 ⟨w,Below.refl _ _⟩,fun i hi=>wpOp_mono (fun a' w' h'=>wS fuel _ a' w' h'.2) (h.2 i hi ⟨w,Below.refl _ _⟩)⟩
def fW (P:Program) (ops:Array Oper) (w:World) (o:Oper) (v:Value) (a:Act):Prop:=YieldsIf P ops (fun W=>Below w.heap.size w W) o v a
theorem fW.mono {w W:World} {o:Oper} {v:Value} {a:Act} (hb:Below w.heap.size w W) (h:fW P ops w o v a):fW P ops W o v a :=
 h.imp (fun ⟨h1,h2⟩=>⟨h1,fun X hX=>h2 X (oI hb hX)⟩) id
theorem Bl {i:Nat} {oi:Oper} {v:Value} (hi:ops[i]?=some oi) (hsel:∀ (j:Nat) (o:Oper) cs b,ops[j]?=some o→o.op≠.select cs b)
  (hQ:∀ c a w,Q (.panic c) (a.put oi.dst v) w→Q (.panic c) a w) :
  ∀ (fuel:Nat) (listed:Array Bool) (a:Act) (w:World),
   (∀ j oj,ops[j]?=some oj→j≠i→listed.getD j true=false→(∀ e ∈ oj.after,Region.binds md e=true→e.on≠i)→oi.apart ops oj=true) →
   i ∈ Region.ready md ops listed→fW P ops w oi v a →
   mL P md ops Q fuel (listed.setIfInBounds i true) (a.put oi.dst v) w→mL P md ops Q (fuel+1) listed a w:=by
 intro fuel
 induction fuel with
 | zero =>
  intro listed a w _ hr hy H
  refine ⟨fun h=>(by rw [h] at hr;cases hr),fun j hj n=>?_⟩
  by_cases hji:j=i
  ·subst hji
   exact YieldsIf.wpOp hi hy n.below ⟨Below.refl _ _,o8 0 _ _ _ _ n.below H⟩
  ·have:=ready_mono hj hji
   rw [H.1] at this
   cases this
 | succ fuel ih =>
  intro listed a w hfree hr hy H
  refine ⟨fun h=>(by rw [h] at hr;cases hr),fun j hj n=>?_⟩
  by_cases hji:j=i
  ·subst hji
   exact YieldsIf.wpOp hi hy n.below ⟨Below.refl _ _,o8 (fuel+1) _ _ _ _ n.below H⟩
  ·have h1:=H.2 j (ready_mono hj hji) n
   have ⟨hjun,oj,hoj,hall⟩:=mem_ready.1 hj
   have hnot:∀ e ∈ oj.after,Region.binds md e=true→e.on≠i:=fun e he hb heq=>by
    have h1:=hall e he hb
    have h0:=(mem_ready.1 hr).1
    rw [heq] at h1
    rcases aVx i listed.size with h'|h'
    ·simp [h'] at h0 h1;rw [h0] at h1;cases h1
    ·simp [aOx h'] at h1
   have h2:=wpOp_putIf hoj (hfree j oj hoj hji hjun hnot) (fun cs b=>hsel i oi cs b hi) (fun cs b=>hsel j oj cs b hoj) hQ (fW.mono n.below hy) h1
   have hfree':∀ k ok,ops[k]?=some ok→k≠i→(listed.setIfInBounds j true).getD k true=false →
     (∀ e ∈ ok.after,Region.binds md e=true→e.on≠i)→oi.apart ops ok=true:=fun k ok hk hki hun hno=>by
    refine hfree k ok hk hki ?_ hno
    by_cases hjk:j=k
    ·subst hjk;exact hjun
    ·rw [getD_set_ne true hjk] at hun;exact hun
   refine wpOp_mono (fun a' w' h3=>⟨h3.2.1,ih (listed.setIfInBounds j true) a' w' hfree' (ready_mono hr (Ne.symm hji)) (fW.mono h3.2.1 h3.1) ?_⟩) h2
   rw [bDx _ _ hji]
   exact h3.2.2
theorem kO (w:World):Below w.heap.size w w.drew:=⟨rfl,rfl,rfl,ZA _,fun _ _=>rfl⟩
end
end Go.Proofs.YtghminnpfnkbjaaGreatDoor
namespace Go.Proofs.YtghminnpfnkbjaaGreatDoor
open Go.RowKit
inductive kl where
 | done
 | rd (i:Nat) (k:kl)
 | one (i:Nat) (k:kl)
 | two (i:Nat) (k:kl) (j:Nat) (m:kl)
 | three (i:Nat) (k:kl) (j:Nat) (m:kl) (q:Nat) (l:kl)
def kl.len:kl→Nat
 | .done=>0
 | .rd _ k=>k.len+1
 | .one _ k=>k.len+1
 | .two _ k _ _=>k.len+1
 | .three _ k _ _ _ _=>k.len+1
def kl.within (n:Nat):kl→Bool
 | .done=>true
 | .rd i k=>decide (i<n) && k.within n
 | .one i k=>decide (i<n) && k.within n
 | .two i k j m=>decide (i<n) && k.within n && decide (j<n) && m.within n
 | .three i k j m q l=>decide (i<n) && k.within n && decide (j<n) && m.within n && decide (q<n) && l.within n
section
variable {P:Program} {ops:Array Oper} {Q:Exit→Act→World→Prop} {md:Region.Mode}
def Ix (P:Program) (ops:Array Oper) (Q:Exit→Act→World→Prop):kl→Act→World→Prop
 | .done,a,w=>∀ n:lF w,Q .normal a n.w
 | .rd i k,a,w=>∃ v o,ops[i]?=some o∧fW P ops w o v a∧Ix P ops Q k (a.put o.dst v) w
 | .one i k,a,w=>∀ n:lF w,wpOp P ops Q i (fun a' w'=>Below n.w.heap.size n.w w'∧Ix P ops Q k a' w') a n.w
 | .two i k j m,a,w =>
  (∀ n:lF w,wpOp P ops Q i (fun a' w'=>Below n.w.heap.size n.w w'∧Ix P ops Q k a' w') a n.w) ∧
  (∀ n:lF w,wpOp P ops Q j (fun a' w'=>Below n.w.heap.size n.w w'∧Ix P ops Q m a' w') a n.w)
 | .three i k j m q l,a,w =>
  (∀ n:lF w,wpOp P ops Q i (fun a' w'=>Below n.w.heap.size n.w w'∧Ix P ops Q k a' w') a n.w) ∧
  (∀ n:lF w,wpOp P ops Q j (fun a' w'=>Below n.w.heap.size n.w w'∧Ix P ops Q m a' w') a n.w) ∧
  (∀ n:lF w,wpOp P ops Q q (fun a' w'=>Below n.w.heap.size n.w w'∧Ix P ops Q l a' w') a n.w)
theorem CM:∀ (r:kl) (a:Act) (w W:World),Below w.heap.size w W→Ix P ops Q r a w→Ix P ops Q r a W
 | .done,_,_,_,hb,h=>fun n=>h (n.up hb)
 | .rd _ k,_,_,_,hb,⟨v,o,ho,hy,h⟩=>⟨v,o,ho,fW.mono hb hy,CM k _ _ _ hb h⟩
 | .one _ _,_,_,_,hb,h=>fun n=>h (n.up hb)
 | .two _ _ _ _,_,_,_,hb,h=>⟨fun n=>h.1 (n.up hb),fun n=>h.2 (n.up hb)⟩
 | .three _ _ _ _ _ _,_,_,_,hb,h=>⟨fun n=>h.1 (n.up hb),fun n=>h.2.1 (n.up hb),fun n=>h.2.2 (n.up hb)⟩
def dI (md:Region.Mode) (ops:Array Oper):kl→Array Bool→Bool
 | .done,listed=>Region.ready md ops listed == []
 | .rd i k,listed=>(Region.ready md ops listed).contains i && Region.free md ops listed i && dI md ops k (listed.setIfInBounds i true)
 | .one i k,listed=>Region.ready md ops listed == [i] && dI md ops k (listed.setIfInBounds i true)
 | .two i k j m,listed=>Region.ready md ops listed == [i,j] && (k.len == m.len) && dI md ops k (listed.setIfInBounds i true) && dI md ops m (listed.setIfInBounds j true)
 | .three i k j m q l,listed=>Region.ready md ops listed == [i,j,q] && (k.len == m.len) && (k.len == l.len) && dI md ops k (listed.setIfInBounds i true) && dI md ops m (listed.setIfInBounds j true) && dI md ops l (listed.setIfInBounds q true)
theorem gL (hs:Region.noSelect ops=true) (hQ:∀ c a w,¬ Q (.panic c) a w):∀ (l:kl) (listed:Array Bool) (a:Act) (w:World),dI md ops l listed=true→Ix P ops Q l a w→mL P md ops Q l.len listed a w
 | .done,listed,a,w,hB,h=>⟨by simpa [dI] using hB,h⟩
 | .rd i r,listed,a,w,hB,h=>by
  simp only [dI,ZE] at hB
  have ⟨⟨hr,hf⟩,hB'⟩:=hB
  have ⟨v,o,ho,hy,hK⟩:=h
  exact Bl ho (Region.noSelect_spec hs) (fun c a w h=>absurd h (hQ c _ w)) r.len listed a w (Region.free_spec ho hf) (by simpa using hr) hy (gL hs hQ r _ _ _ hB' hK)
 | .one i r,listed,a,w,hB,h=>by
  simp only [dI,ZE,aUx] at hB
  refine ⟨fun h0=>(by rw [hB.1] at h0;cases h0),fun j hj n=>?_⟩
  rw [hB.1] at hj
  obtain rfl:=agx.1 hj
  exact wpOp_mono (fun a' w' h'=>⟨h'.1,gL hs hQ r _ _ _ hB.2 h'.2⟩) (h n)
 | .two i r j m,listed,a,w,hB,h=>by
  simp only [dI,ZE,aUx] at hB
  have ⟨⟨⟨h1,h2⟩,h3⟩,h4⟩:=hB
  refine ⟨fun h0=>(by rw [h1] at h0;cases h0),fun q hq n=>?_⟩
  rw [h1] at hq
  simp only [Z9,ahx,or_false] at hq
  rcases hq with rfl|rfl
  exact wpOp_mono (fun a' w' h'=>⟨h'.1,gL hs hQ r _ _ _ h3 h'.2⟩) (h.1 n)
  ·refine wpOp_mono (fun a' w' h'=>⟨h'.1,?_⟩) (h.2 n)
   show mL P md ops Q r.len _ _ _
   rw [h2]
   exact gL hs hQ m _ _ _ h4 h'.2
 | .three i r j m q0 l,listed,a,w,hB,h=>by
  simp only [dI,ZE,aUx] at hB
  have ⟨⟨⟨⟨⟨h1,h2⟩,h2'⟩,h3⟩,h4⟩,h5⟩:=hB
  refine ⟨fun h0=>(by rw [h1] at h0;cases h0),fun q hq n=>?_⟩
  rw [h1] at hq
  simp only [Z9,ahx,or_false] at hq
  rcases hq with rfl|rfl|rfl
  exact wpOp_mono (fun a' w' h'=>⟨h'.1,gL hs hQ r _ _ _ h3 h'.2⟩) (h.1 n)
  ·refine wpOp_mono (fun a' w' h'=>⟨h'.1,?_⟩) (h.2.1 n)
   show mL P md ops Q r.len _ _ _
   rw [h2]
   exact gL hs hQ m _ _ _ h4 h'.2
  ·refine wpOp_mono (fun a' w' h'=>⟨h'.1,?_⟩) (h.2.2 n)
   show mL P md ops Q r.len _ _ _
   rw [h2']
   exact gL hs hQ l _ _ _ h5 h'.2
inductive dT where
 | done
 | rd (o:Oper) (k:dT)
 | one (o:Oper) (k:dT)
 | two (o:Oper) (k:dT) (p:Oper) (m:dT)
 | three (o:Oper) (k:dT) (p:Oper) (m:dT) (q:Oper) (l:dT)
def av (ops:Array Oper):kl→dT
 | .done=>.done
 | .rd i k=>match ops[i]? with|some o=>.rd o (av ops k)|none=>.done
 | .one i k=>match ops[i]? with|some o=>.one o (av ops k)|none=>.done
 | .two i k j m=>match ops[i]?,ops[j]? with|some o,some p=>.two o (av ops k) p (av ops m)|_,_=>.done
 | .three i k j m q l=>match ops[i]?,ops[j]?,ops[q]? with|some o,some p,some r=>.three o (av ops k) p (av ops m) r (av ops l)|_,_,_=>.done
def Bi (P:Program) (ops:Array Oper) (Q:Exit→Act→World→Prop):dT→Act→World→Prop
 | .done,a,w=>∀ n:lF w,Q .normal a n.w
 | .rd o r,a,w=>∃ v,fW P ops w o v a∧Bi P ops Q r (a.put o.dst v) w
 | .one o r,a,w=>∀ n:lF w,if Region.wanted o (yielded ops a.tmps) then o.wp P a n.w (fun a' w'=>Below n.w.heap.size n.w w'∧Bi P ops Q r a' w') Q else Bi P ops Q r (a.put o.dst undef) w
 | .two o r p m,a,w =>
  (∀ n:lF w,if Region.wanted o (yielded ops a.tmps) then o.wp P a n.w (fun a' w'=>Below n.w.heap.size n.w w'∧Bi P ops Q r a' w') Q else Bi P ops Q r (a.put o.dst undef) w) ∧
  (∀ n:lF w,if Region.wanted p (yielded ops a.tmps) then p.wp P a n.w (fun a' w'=>Below n.w.heap.size n.w w'∧Bi P ops Q m a' w') Q else Bi P ops Q m (a.put p.dst undef) w)
 | .three o r p m q l,a,w =>
  (∀ n:lF w,if Region.wanted o (yielded ops a.tmps) then o.wp P a n.w (fun a' w'=>Below n.w.heap.size n.w w'∧Bi P ops Q r a' w') Q else Bi P ops Q r (a.put o.dst undef) w) ∧
  (∀ n:lF w,if Region.wanted p (yielded ops a.tmps) then p.wp P a n.w (fun a' w'=>Below n.w.heap.size n.w w'∧Bi P ops Q m a' w') Q else Bi P ops Q m (a.put p.dst undef) w) ∧
  (∀ n:lF w,if Region.wanted q (yielded ops a.tmps) then q.wp P a n.w (fun a' w'=>Below n.w.heap.size n.w w'∧Bi P ops Q l a' w') Q else Bi P ops Q l (a.put q.dst undef) w)
theorem lq {i:Nat} {o:Oper} {a:Act} {w:World} {k:kl} {r:dT} (ho:ops[i]?=some o) (hk:∀ a' w',Bi P ops Q r a' w'→Ix P ops Q k a' w')
  (h:∀ n:lF w,if Region.wanted o (yielded ops a.tmps) then o.wp P a n.w (fun a' w'=>Below n.w.heap.size n.w w'∧Bi P ops Q r a' w') Q else Bi P ops Q r (a.put o.dst undef) w) :
  ∀ n:lF w,wpOp P ops Q i (fun a' w'=>Below n.w.heap.size n.w w'∧Ix P ops Q k a' w') a n.w:=by
 intro n
 have h:=h n
 unfold wpOp
 simp only [ho]
 split
 ·rename_i hw
  rw [Zz hw] at h
  exact .inl (Oper.wp_mono (fun a' w' h'=>⟨h'.1,hk _ _ h'.2⟩) h)
 ·rename_i hw
  rw [Zy hw] at h
  exact ⟨Below.refl _ _,CM k _ _ _ n.below (hk _ _ h)⟩
theorem ko:∀ (l:kl) (a:Act) (w:World),l.within ops.size=true→Bi P ops Q (av ops l) a w→Ix P ops Q l a w
 | .done,_,_,_,h=>h
 | .rd i k,a,w,hl,h=>by
  simp only [kl.within,ZE,ZJ] at hl
  have ho:ops[i]?=some ops[i]:=ZP hl.1
  simp only [av,ho] at h
  have ⟨v,hy,hk⟩:=h
  exact ⟨v,ops[i],ho,hy,ko k _ _ hl.2 hk⟩
 | .one i k,a,w,hl,h=>by
  simp only [kl.within,ZE,ZJ] at hl
  have ho:ops[i]?=some ops[i]:=ZP hl.1
  simp only [av,ho] at h
  exact lq ho (fun a' w'=>ko k a' w' hl.2) h
 | .two i k j m,a,w,hl,h=>by
  simp only [kl.within,ZE,ZJ] at hl
  have ho:ops[i]?=some ops[i]:=ZP hl.1.1.1
  have hp:ops[j]?=some ops[j]:=ZP hl.1.2
  simp only [av,ho,hp] at h
  exact ⟨lq ho (fun a' w'=>ko k a' w' hl.1.1.2) h.1,lq hp (fun a' w'=>ko m a' w' hl.2) h.2⟩
 | .three i k j m q l,a,w,hl,h=>by
  simp only [kl.within,ZE,ZJ] at hl
  have ho:ops[i]?=some ops[i]:=ZP hl.1.1.1.1.1
  have hp:ops[j]?=some ops[j]:=ZP hl.1.1.1.2
  have hq:ops[q]?=some ops[q]:=ZP hl.1.2
  simp only [av,ho,hp,hq] at h
  exact ⟨lq ho (fun a' w'=>ko k a' w' hl.1.1.1.1.2) h.1,lq hp (fun a' w'=>ko m a' w' hl.1.1.2) h.2.1,lq hq (fun a' w'=>ko l a' w' hl.2) h.2.2⟩
theorem XP {a:Act} {w:World} (l:kl) (hs:Region.noSelect ops=true) (hl:l.len=ops.size)
  (hin:l.within ops.size=true)
  (hB:dI .any ops l (Array.replicate ops.size false)=true) (h:Bi P ops (NoPanic Q) (av ops l) a w):wpAny P .any ops (NoPanic Q) ops.size (Array.replicate ops.size false) a w.drew:=by
 refine wS _ _ _ _ (o8 _ _ _ _ _ (kO w) ?_)
 have:=gL hs (fun c a w h=>h) l _ a w hB (ko l a w hin h)
 rwa [hl] at this
end
end Go.Proofs.YtghminnpfnkbjaaGreatDoor
namespace Go.Proofs.YtghminnpfnkbjaaGreatDoor
open Go.RowKit
section
variable {P:Program} {ops:Array Oper} {Q:Exit→Act→World→Prop} {md:Region.Mode} {m:Nat} {R:Act→World→Prop}
def kH (m:Nat) (listed:Array Bool):Bool:=(List.range m).all fun i=>listed.getD i false
theorem lS {listed:Array Bool}:kH m listed=true↔∀ i,i<m→listed.getD i false=true:=by
 simp [kH]
def jx (md:Region.Mode) (ops:Array Oper) (listed:Array Bool):Prop:=∀ (i:Nat) o,ops[i]?=some o→listed.getD i false=true→∀ e ∈ o.after,Region.binds md e=true→listed.getD e.on false=true
def oA (md:Region.Mode) (ops:Array Oper) (m:Nat):Bool :=
 ((List.range m).all fun i=>(List.range (m+1)).any fun k=>Nat.blt i k && (ops[k]?).any fun o=>o.after.any fun e=>Region.binds md e && e.on == i) &&
 ((List.range ops.size).all fun j=>Nat.ble j m || (List.range j).any fun k=>Nat.ble m k && (ops[j]?).any fun o=>o.after.any fun e=>Region.binds md e && e.on == k)
theorem any_some {α:Type} {p:α→Bool} {x:Option α} (h:x.any p=true):∃ o,x=some o∧p o=true:=by
 cases x with
 | none=>cases h
 | some o=>exact ⟨o,rfl,h⟩
theorem DK {listed:Array Bool} {i j:Nat} (hji:j≠i) (h0:listed.getD j true=false) (h1:(listed.setIfInBounds i true).getD j false=true):False:=by
 have e:(listed.setIfInBounds i true)[j]?=listed[j]?:=ajx (Ne.symm hji)
 simp only [ayx] at h0 h1
 rw [e] at h1
 cases h:listed[j]? with
 | none=>rw [h] at h0;cases h0
 | some b=>rw [h] at h0 h1;simp at h0 h1;rw [h0] at h1;cases h1
theorem ER (hc:oA md ops m=true) {listed:Array Bool} (hcl:jx md ops listed):∀ (n j:Nat),j=m+n→(∀ o,ops[j]?=some o→∀ e ∈ o.after,Region.binds md e=true→listed.getD e.on false=true)→j<ops.size→kH m listed=true:=by
 simp only [oA,ZE,Z1,brx,a7x,atx] at hc
 have ⟨h1,h2⟩:=hc
 intro n
 induction n using Nat.strongRecOn with
 | _ n ih =>
  intro j hj hr hlt
  by_cases hn:n=0
  ·subst hn
   have hj:j=m:=by omega
   subst hj
   rw [lS]
   have key:∀ d i,i+d=j→d≠0→listed.getD i false=true:=by
    intro d
    induction d using Nat.strongRecOn with
    | _ d ihd =>
     intro i hid hd
     have ⟨k,hk,hk2⟩:=h1 i O
     have ⟨hik,hk3⟩:=hk2
     have hik:i<k:=ZN hik
     have ⟨o,ho,ha⟩:=any_some hk3
     have ⟨e,he,hbe⟩:=cvx.1 ha
     simp only [ZE,aUx] at hbe
     by_cases hkj:k=j
     ·subst hkj
      have:=hr o ho e he hbe.1
      rwa [hbe.2] at this
     ·have:=hcl k o ho (ihd (j-k) O k O O) e he hbe.1
      rwa [hbe.2] at this
   intro i hi
   exact key (j-i) i O O
  ·have h3:=h2 j hlt
   rcases h3 with h3|⟨k,hk,hk2,hk3⟩
   ·have:=ZN h3;omega
   ·have hk2:m≤k:=ZN hk2
    have ⟨o,ho,ha⟩:=any_some hk3
    have ⟨e,he,hbe⟩:=cvx.1 ha
    simp only [ZE,aUx] at hbe
    have hl:=hr o ho e he hbe.1
    rw [hbe.2] at hl
    refine ih (k-m) O k O (fun o' ho' e' he' hb'=>hcl k o' ho' hl e' he' hb') ?_
    omega
theorem xu (hc:oA md ops m=true) {listed:Array Bool} (hcl:jx md ops listed) (hf:kH m listed=false) {j:Nat} (hj:j ∈ Region.ready md ops listed):j<m:=by
 rcases aVx j m with h|h
 exact h
 ·have ⟨hun,o,ho,hall⟩:=mem_ready.1 hj
  have:=ER hc hcl (j-m) j O (fun o' ho' e he hb=>by
   rw [ho] at ho';cases ho'
   exact hall e he hb) (ZX.1 ho).1
  rw [this] at hf;cases hf
def Iz (P:Program) (md:Region.Mode) (ops:Array Oper) (Q:Exit→Act→World→Prop) (m:Nat) (R:Act→World→Prop):Nat→Array Bool→Act→World→Prop
 | 0,listed,a,w=>kH m listed=true∧∀ n:lF w,R a n.w
 | f+1,listed,a,w=>(kH m listed=true→∀ n:lF w,R a n.w) ∧
  (kH m listed=false→Region.ready md ops listed≠[]∧∀ i ∈ Region.ready md ops listed,∀ n:lF w,wpOp P ops Q i (fun a' w'=>Below n.w.heap.size n.w w'∧Iz P md ops Q m R f (listed.setIfInBounds i true) a' w') a n.w)
theorem wQ:∀ (f:Nat) (listed:Array Bool) (a:Act) (w W:World),Below w.heap.size w W→Iz P md ops Q m R f listed a w→Iz P md ops Q m R f listed a W
 | 0,_,_,_,_,hb,h=>⟨h.1,fun n=>h.2 (n.up hb)⟩
 | _+1,_,_,_,_,hb,h=>⟨fun h0 n=>h.1 h0 (n.up hb),fun h0=>⟨(h.2 h0).1,fun i hi n=>(h.2 h0).2 i hi (n.up hb)⟩⟩
theorem ru {listed:Array Bool} {i j:Nat} (h:listed.getD j false=true):(listed.setIfInBounds i true).getD j false=true:=by
 by_cases hij:i=j
 ·subst hij
  have:i<listed.size:=by
   rcases aVx i listed.size with h'|h'
   exact h'
   ·simp [aOx h'] at h
  simp [this]
 ·simpa [ajx hij] using h
theorem cr {listed:Array Bool} (hcl:jx md ops listed) {i:Nat} (hi:i ∈ Region.ready md ops listed):jx md ops (listed.setIfInBounds i true):=by
 have ⟨hun,oi,hoi,hall⟩:=mem_ready.1 hi
 intro k o ho hk e he hb
 by_cases hik:k=i
 ·subst hik
  rw [hoi] at ho;cases ho
  exact ru (hall e he hb)
 ·have hk':listed.getD k false=true:=by simpa [ajx (Ne.symm hik)] using hk
  exact ru (hcl k o ho hk' e he hb)
theorem Iy {i:Nat} {oi:Oper} {v:Value} (hc:oA md ops m=true) (hi:ops[i]?=some oi) (him:i<m) (hsel:∀ (j:Nat) (o:Oper) cs b,ops[j]?=some o→o.op≠.select cs b)
  (hQ:∀ c a w,Q (.panic c) (a.put oi.dst v) w→Q (.panic c) a w) :
  ∀ (fuel:Nat) (listed:Array Bool) (a:Act) (w:World),jx md ops listed →
   (∀ j oj,ops[j]?=some oj→j<m→j≠i→listed.getD j true=false→(∀ e ∈ oj.after,Region.binds md e=true→e.on≠i)→oi.apart ops oj=true) →
   i ∈ Region.ready md ops listed→fW P ops w oi v a →
   Iz P md ops Q m R fuel (listed.setIfInBounds i true) (a.put oi.dst v) w→Iz P md ops Q m R (fuel+1) listed a w:=by
 have nf:∀ {listed:Array Bool},i ∈ Region.ready md ops listed→kH m listed=false:=fun {listed} hr=>by
  cases h:kH m listed with
  | false=>rfl
  | true =>
   have:=lS.1 h i him
   have h0:=(mem_ready.1 hr).1
   rcases aVx i listed.size with h'|h'
   ·simp [h'] at h0 this;rw [h0] at this;cases this
   ·simp [aOx h'] at this
 intro fuel
 induction fuel with
 | zero =>
  intro listed a w hcl _ hr hy H
  have hnf:=nf hr
  refine ⟨fun h=>(by rw [hnf] at h;cases h),fun _=>⟨(by intro h;rw [h] at hr;cases hr),fun j hj n=>?_⟩⟩
  by_cases hji:j=i
  ·subst hji
   exact YieldsIf.wpOp hi hy n.below ⟨Below.refl _ _,wQ 0 _ _ _ _ n.below H⟩
  ·have hjm:=xu hc hcl hnf hj
   have h1:=lS.1 H.1 j hjm
   exact (DK hji (mem_ready.1 hj).1 h1).elim
 | succ fuel ih =>
  intro listed a w hcl hfree hr hy H
  have hnf:=nf hr
  refine ⟨fun h=>(by rw [hnf] at h;cases h),fun _=>⟨(by intro h;rw [h] at hr;cases hr),fun j hj n=>?_⟩⟩
  by_cases hji:j=i
  ·subst hji
   exact YieldsIf.wpOp hi hy n.below ⟨Below.refl _ _,wQ (fuel+1) _ _ _ _ n.below H⟩
  ·have hjm:=xu hc hcl hnf hj
   have ⟨hjun,oj,hoj,hall⟩:=mem_ready.1 hj
   have hnf2:kH m (listed.setIfInBounds i true)=false:=by
    cases h:kH m (listed.setIfInBounds i true) with
    | false=>rfl
    | true =>
     have h1:=lS.1 h j hjm
     exact (DK hji hjun h1).elim
   have h1:=(H.2 hnf2).2 j (ready_mono hj hji) n
   have hnot:∀ e ∈ oj.after,Region.binds md e=true→e.on≠i:=fun e he hb heq=>by
    have h1:=hall e he hb
    have h0:=(mem_ready.1 hr).1
    rw [heq] at h1
    rcases aVx i listed.size with h'|h'
    ·simp [h'] at h0 h1;rw [h0] at h1;cases h1
    ·simp [aOx h'] at h1
   have h2:=wpOp_putIf hoj (hfree j oj hoj hjm hji hjun hnot) (fun cs b=>hsel i oi cs b hi) (fun cs b=>hsel j oj cs b hoj) hQ (fW.mono n.below hy) h1
   have hfree':∀ k ok,ops[k]?=some ok→k<m→k≠i→(listed.setIfInBounds j true).getD k true=false →
     (∀ e ∈ ok.after,Region.binds md e=true→e.on≠i)→oi.apart ops ok=true:=fun k ok hk hkm hki hun hno=>by
    refine hfree k ok hk hkm hki ?_ hno
    by_cases hjk:j=k
    ·subst hjk;exact hjun
    ·rw [getD_set_ne true hjk] at hun;exact hun
   refine wpOp_mono (fun a' w' h3=>⟨h3.2.1,ih (listed.setIfInBounds j true) a' w' (cr hcl hj) hfree' (ready_mono hr (Ne.symm hji)) (fW.mono h3.2.1 h3.1) ?_⟩) h2
   rw [bDx _ _ hji]
   exact h3.2.2
def uf (P:Program) (ops:Array Oper) (Q:Exit→Act→World→Prop) (R:Act→World→Prop):kl→Act→World→Prop
 | .done,a,w=>∀ n:lF w,R a n.w
 | .rd i k,a,w=>∃ v o,ops[i]?=some o∧fW P ops w o v a∧uf P ops Q R k (a.put o.dst v) w
 | .one i k,a,w=>∀ n:lF w,wpOp P ops Q i (fun a' w'=>Below n.w.heap.size n.w w'∧uf P ops Q R k a' w') a n.w
 | .two i k j l,a,w =>
  (∀ n:lF w,wpOp P ops Q i (fun a' w'=>Below n.w.heap.size n.w w'∧uf P ops Q R k a' w') a n.w) ∧
  (∀ n:lF w,wpOp P ops Q j (fun a' w'=>Below n.w.heap.size n.w w'∧uf P ops Q R l a' w') a n.w)
 | .three i k j l q u,a,w =>
  (∀ n:lF w,wpOp P ops Q i (fun a' w'=>Below n.w.heap.size n.w w'∧uf P ops Q R k a' w') a n.w) ∧
  (∀ n:lF w,wpOp P ops Q j (fun a' w'=>Below n.w.heap.size n.w w'∧uf P ops Q R l a' w') a n.w) ∧
  (∀ n:lF w,wpOp P ops Q q (fun a' w'=>Below n.w.heap.size n.w w'∧uf P ops Q R u a' w') a n.w)
def OU (md:Region.Mode) (ops:Array Oper) (m:Nat) (listed:Array Bool) (i:Nat):Bool:=match ops[i]? with
 | none=>false
 | some oi=>(List.range m).all fun j=>Nat.beq j i || listed.getD j true || match ops[j]? with|none=>true|some oj=>(oj.after.any fun e=>Region.binds md e && e.on == i) || oi.apart ops oj
theorem Gq {listed:Array Bool} {i:Nat} {oi:Oper} (hi:ops[i]?=some oi) (h:OU md ops m listed i=true) :
  ∀ j oj,ops[j]?=some oj→j<m→j≠i→listed.getD j true=false→(∀ e ∈ oj.after,Region.binds md e=true→e.on≠i)→oi.apart ops oj=true:=by
 intro j oj hj hjm hji hun hno
 simp only [OU,hi,Z1,a7x] at h
 have:=h j hjm
 simp only [hun,hj,Bool.or_false,atx] at this
 rcases this with h1|h1|h1
 exact absurd (acx h1) hji
 ·have ⟨e,he,hb⟩:=cvx.1 h1
  simp only [ZE,aUx] at hb
  exact absurd hb.2 (hno e he hb.1)
 exact h1
def fU (md:Region.Mode) (ops:Array Oper) (m:Nat):kl→Array Bool→Bool
 | .done,listed=>kH m listed
 | .rd i k,listed=>(Region.ready md ops listed).contains i && Nat.blt i m && OU md ops m listed i && fU md ops m k (listed.setIfInBounds i true)
 | .one i k,listed=>!kH m listed && Region.ready md ops listed == [i] && fU md ops m k (listed.setIfInBounds i true)
 | .two i k j l,listed=>!kH m listed && Region.ready md ops listed == [i,j] && (k.len == l.len) && fU md ops m k (listed.setIfInBounds i true) && fU md ops m l (listed.setIfInBounds j true)
 | .three i k j l q u,listed=>!kH m listed && Region.ready md ops listed == [i,j,q] && (k.len == l.len) && (k.len == u.len) && fU md ops m k (listed.setIfInBounds i true) && fU md ops m l (listed.setIfInBounds j true) && fU md ops m u (listed.setIfInBounds q true)
theorem o7 (hc:oA md ops m=true) (hs:Region.noSelect ops=true) (hQ:∀ c a w,¬ Q (.panic c) a w):∀ (l:kl) (listed:Array Bool) (a:Act) (w:World),jx md ops listed→fU md ops m l listed=true→uf P ops Q R l a w→Iz P md ops Q m R l.len listed a w
 | .done,listed,a,w,_,hB,h=>⟨hB,h⟩
 | .rd i r,listed,a,w,hcl,hB,h=>by
  simp only [fU,ZE] at hB
  have ⟨⟨⟨hr,him⟩,hf⟩,hB'⟩:=hB
  have ⟨v,o,ho,hy,hK⟩:=h
  have hr':i ∈ Region.ready md ops listed:=by simpa using hr
  exact Iy hc ho (ZN him) (Region.noSelect_spec hs) (fun c a w h=>absurd h (hQ c _ w)) r.len listed a w hcl (Gq ho hf) hr' hy (o7 hc hs hQ r _ _ _ (cr hcl hr') hB' hK)
 | .one i r,listed,a,w,hcl,hB,h=>by
  simp only [fU,ZE,aUx,bWx] at hB
  have ⟨⟨hnf,hr⟩,hB'⟩:=hB
  have hi:i ∈ Region.ready md ops listed:=by rw [hr];exact agx.2 rfl
  refine ⟨fun h0=>(by rw [hnf] at h0;cases h0),fun _=>⟨(by rw [hr];simp),fun j hj n=>?_⟩⟩
  rw [hr] at hj
  obtain rfl:=agx.1 hj
  exact wpOp_mono (fun a' w' h'=>⟨h'.1,o7 hc hs hQ r _ _ _ (cr hcl hi) hB' h'.2⟩) (h n)
 | .two i r j l,listed,a,w,hcl,hB,h=>by
  simp only [fU,ZE,aUx,bWx] at hB
  have ⟨⟨⟨⟨hnf,h1⟩,h2⟩,h3⟩,h4⟩:=hB
  have hi:i ∈ Region.ready md ops listed:=by rw [h1];simp
  have hj:j ∈ Region.ready md ops listed:=by rw [h1];simp
  refine ⟨fun h0=>(by rw [hnf] at h0;cases h0),fun _=>⟨(by rw [h1];simp),fun q hq n=>?_⟩⟩
  rw [h1] at hq
  simp only [Z9,ahx,or_false] at hq
  rcases hq with rfl|rfl
  exact wpOp_mono (fun a' w' h'=>⟨h'.1,o7 hc hs hQ r _ _ _ (cr hcl hi) h3 h'.2⟩) (h.1 n)
  ·refine wpOp_mono (fun a' w' h'=>⟨h'.1,?_⟩) (h.2 n)
   show Iz P md ops Q m R r.len _ _ _
   rw [h2]
   exact o7 hc hs hQ l _ _ _ (cr hcl hj) h4 h'.2
 | .three i r j l q0 u,listed,a,w,hcl,hB,h=>by
  simp only [fU,ZE,aUx,bWx] at hB
  have ⟨⟨⟨⟨⟨⟨hnf,h1⟩,h2⟩,h2'⟩,h3⟩,h4⟩,h5⟩:=hB
  have hi:i ∈ Region.ready md ops listed:=by rw [h1];simp
  have hj:j ∈ Region.ready md ops listed:=by rw [h1];simp
  have hq0:q0 ∈ Region.ready md ops listed:=by rw [h1];simp
  refine ⟨fun h0=>(by rw [hnf] at h0;cases h0),fun _=>⟨(by rw [h1];simp),fun q hq n=>?_⟩⟩
  rw [h1] at hq
  simp only [Z9,ahx,or_false] at hq
  rcases hq with rfl|rfl|rfl
  exact wpOp_mono (fun a' w' h'=>⟨h'.1,o7 hc hs hQ r _ _ _ (cr hcl hi) h3 h'.2⟩) (h.1 n)
  ·refine wpOp_mono (fun a' w' h'=>⟨h'.1,?_⟩) (h.2.1 n)
   show Iz P md ops Q m R r.len _ _ _
   rw [h2]
   exact o7 hc hs hQ l _ _ _ (cr hcl hj) h4 h'.2
  ·refine wpOp_mono (fun a' w' h'=>⟨h'.1,?_⟩) (h.2.2 n)
   show Iz P md ops Q m R r.len _ _ _
   rw [h2']
   exact o7 hc hs hQ u _ _ _ (cr hcl hq0) h5 h'.2
theorem wU:∀ (f k:Nat) (listed:Array Bool) (a:Act) (w:World),wpAny P md ops Q f listed a w→wpAny P md ops Q (f+k) listed a w
 | 0,0,_,_,_,h=>h
 | 0,k+1,listed,a,w,h=>by
  rw [Nat.zero_add]
  exact ⟨fun _=>h.2,fun i hi=>(by rw [h.1] at hi;cases hi)⟩
 | f+1,k,listed,a,w,h=>by
  rw [Nat.add_right_comm]
  exact ⟨h.1,fun i hi=>wpOp_mono (fun a' w' h'=>wU f k _ a' w' h') (h.2 i hi)⟩
def zp (m n:Nat):Array Bool:=(List.replicate m true++List.replicate (n-m) false).toArray
theorem xU {listed:Array Bool} (hm:m≤ops.size) (hsz:listed.size=ops.size) (hf:kH m listed=true) (ht:∀ j,m≤j→listed.getD j false=false):listed=zp m ops.size:=by
 apply Array.ext_getElem?
 intro j
 rcases aVx j listed.size with h|h
 ·have e:listed[j]?=some (listed.getD j false):=by simp [h]
  rw [e]
  rcases aVx j m with h1|h1
  ·rw [lS.1 hf j h1]
   simp [zp,bZx,h1]
  ·rw [ht j h1]
   simp [zp,bZx,show ¬ j<m by omega,show j-m<ops.size-m by omega]
 ·rw [aOx h]
  simp [zp]
  omega
theorem wT (hc:oA md ops m=true) (hm:m≤ops.size) (g:Nat):∀ (f:Nat) (listed:Array Bool) (a:Act) (w:World),listed.size=ops.size→jx md ops listed→(∀ j,m≤j→listed.getD j false=false) →
  Iz P md ops Q m (fun a w=>wpAny P md ops Q g (zp m ops.size) a w) f listed a w→wpAny P md ops Q (f+g) listed a w
 | 0,listed,a,w,hsz,_,ht,h=>by
  rw [Nat.zero_add,xU hm hsz h.1 ht]
  exact h.2 ⟨w,Below.refl _ _⟩
 | f+1,listed,a,w,hsz,hcl,ht,h=>by
  cases hf:kH m listed with
  | true =>
   rw [xU hm hsz hf ht,Nat.add_comm]
   exact wU g (f+1) _ a w (h.1 hf ⟨w,Below.refl _ _⟩)
  | false =>
   have ⟨hne,h2⟩:=h.2 hf
   rw [Nat.add_right_comm]
   refine ⟨fun h0=>absurd h0 hne,fun i hi=>wpOp_mono (fun a' w' h'=>wT hc hm g f _ a' w' (by simp [hsz]) (cr hcl hi) (fun j hj=>?_) h'.2) (h2 i hi ⟨w,Below.refl _ _⟩)⟩
   have him:=xu hc hcl hf hi
   have:=ht j hj
   simpa [ajx (show i≠j by omega)] using this
def w8 (md:Region.Mode) (ops:Array Oper):Nat→Nat→Array Bool→Bool
 | 0,_,listed=>Region.ready md ops listed == []
 | f+1,i,listed=>Region.ready md ops listed == [i] && w8 md ops f (i+1) (listed.setIfInBounds i true)
theorem rC:∀ (f i:Nat) (listed:Array Bool) (a:Act) (w:World),w8 md ops f i listed=true→wpOps P ops Q ((List.range f).map (i+·)) a w→wpAny P md ops Q f listed a w
 | 0,i,listed,a,w,hB,h=>⟨by simpa [w8] using hB,by simpa [wpOps] using h⟩
 | f+1,i,listed,a,w,hB,h=>by
  simp only [w8,ZE,aUx] at hB
  refine ⟨fun h0=>(by rw [hB.1] at h0;cases h0),fun j hj=>?_⟩
  rw [hB.1] at hj
  obtain rfl:=agx.1 hj
  rw [List.range_succ_eq_map,Z6,wpOps_cons,afx,a8x] at h
  have e:((fun x=>j+x) ∘ Nat.succ)=(fun x=>j+1+x):=funext fun x=>by simp;omega
  rw [e] at h
  exact wpOp_mono (fun a' w' h'=>rC f (j+1) _ a' w' hB.2 h') h
def mZ (P:Program) (ops:Array Oper) (Q:Exit→Act→World→Prop) (R:Act→World→Prop):dT→Act→World→Prop
 | .done,a,w=>∀ n:lF w,R a n.w
 | .rd o r,a,w=>∃ v,fW P ops w o v a∧mZ P ops Q R r (a.put o.dst v) w
 | .one o r,a,w=>∀ n:lF w,if Region.wanted o (yielded ops a.tmps) then o.wp P a n.w (fun a' w'=>Below n.w.heap.size n.w w'∧mZ P ops Q R r a' w') Q else mZ P ops Q R r (a.put o.dst undef) w
 | .two o r p l,a,w =>
  (∀ n:lF w,if Region.wanted o (yielded ops a.tmps) then o.wp P a n.w (fun a' w'=>Below n.w.heap.size n.w w'∧mZ P ops Q R r a' w') Q else mZ P ops Q R r (a.put o.dst undef) w) ∧
  (∀ n:lF w,if Region.wanted p (yielded ops a.tmps) then p.wp P a n.w (fun a' w'=>Below n.w.heap.size n.w w'∧mZ P ops Q R l a' w') Q else mZ P ops Q R l (a.put p.dst undef) w)
 | .three o r p l q u,a,w =>
  (∀ n:lF w,if Region.wanted o (yielded ops a.tmps) then o.wp P a n.w (fun a' w'=>Below n.w.heap.size n.w w'∧mZ P ops Q R r a' w') Q else mZ P ops Q R r (a.put o.dst undef) w) ∧
  (∀ n:lF w,if Region.wanted p (yielded ops a.tmps) then p.wp P a n.w (fun a' w'=>Below n.w.heap.size n.w w'∧mZ P ops Q R l a' w') Q else mZ P ops Q R l (a.put p.dst undef) w) ∧
  (∀ n:lF w,if Region.wanted q (yielded ops a.tmps) then q.wp P a n.w (fun a' w'=>Below n.w.heap.size n.w w'∧mZ P ops Q R u a' w') Q else mZ P ops Q R u (a.put q.dst undef) w)
theorem zD:∀ (r:kl) (a:Act) (w W:World),Below w.heap.size w W→uf P ops Q R r a w→uf P ops Q R r a W
 | .done,_,_,_,hb,h=>fun n=>h (n.up hb)
 | .rd _ k,_,_,_,hb,⟨v,o,ho,hy,h⟩=>⟨v,o,ho,fW.mono hb hy,zD k _ _ _ hb h⟩
 | .one _ _,_,_,_,hb,h=>fun n=>h (n.up hb)
 | .two _ _ _ _,_,_,_,hb,h=>⟨fun n=>h.1 (n.up hb),fun n=>h.2 (n.up hb)⟩
 | .three _ _ _ _ _ _,_,_,_,hb,h=>⟨fun n=>h.1 (n.up hb),fun n=>h.2.1 (n.up hb),fun n=>h.2.2 (n.up hb)⟩
theorem jH {i:Nat} {o:Oper} {a:Act} {w:World} {k:kl} {r:dT} (ho:ops[i]?=some o) (hk:∀ a' w',mZ P ops Q R r a' w'→uf P ops Q R k a' w')
  (h:∀ n:lF w,if Region.wanted o (yielded ops a.tmps) then o.wp P a n.w (fun a' w'=>Below n.w.heap.size n.w w'∧mZ P ops Q R r a' w') Q else mZ P ops Q R r (a.put o.dst undef) w) :
  ∀ n:lF w,wpOp P ops Q i (fun a' w'=>Below n.w.heap.size n.w w'∧uf P ops Q R k a' w') a n.w:=by
 intro n
 have h:=h n
 unfold wpOp
 simp only [ho]
 split
 ·rename_i hw
  rw [Zz hw] at h
  exact .inl (Oper.wp_mono (fun a' w' h'=>⟨h'.1,hk _ _ h'.2⟩) h)
 ·rename_i hw
  rw [Zy hw] at h
  exact ⟨Below.refl _ _,zD k _ _ _ n.below (hk _ _ h)⟩
theorem iR:∀ (l:kl) (a:Act) (w:World),l.within ops.size=true→mZ P ops Q R (av ops l) a w→uf P ops Q R l a w
 | .done,_,_,_,h=>h
 | .rd i k,a,w,hl,h=>by
  simp only [kl.within,ZE,ZJ] at hl
  have ho:ops[i]?=some ops[i]:=ZP hl.1
  simp only [av,ho] at h
  have ⟨v,hy,hk⟩:=h
  exact ⟨v,ops[i],ho,hy,iR k _ _ hl.2 hk⟩
 | .one i k,a,w,hl,h=>by
  simp only [kl.within,ZE,ZJ] at hl
  have ho:ops[i]?=some ops[i]:=ZP hl.1
  simp only [av,ho] at h
  exact jH ho (fun a' w'=>iR k a' w' hl.2) h
 | .two i k j l,a,w,hl,h=>by
  simp only [kl.within,ZE,ZJ] at hl
  have ho:ops[i]?=some ops[i]:=ZP hl.1.1.1
  have hp:ops[j]?=some ops[j]:=ZP hl.1.2
  simp only [av,ho,hp] at h
  exact ⟨jH ho (fun a' w'=>iR k a' w' hl.1.1.2) h.1,jH hp (fun a' w'=>iR l a' w' hl.2) h.2⟩
 | .three i k j l q u,a,w,hl,h=>by
  simp only [kl.within,ZE,ZJ] at hl
  have ho:ops[i]?=some ops[i]:=ZP hl.1.1.1.1.1
  have hp:ops[j]?=some ops[j]:=ZP hl.1.1.1.2
  have hq:ops[q]?=some ops[q]:=ZP hl.1.2
  simp only [av,ho,hp,hq] at h
  exact ⟨jH ho (fun a' w'=>iR k a' w' hl.1.1.1.1.2) h.1,jH hp (fun a' w'=>iR l a' w' hl.1.1.2) h.2.1,jH hq (fun a' w'=>iR u a' w' hl.2) h.2.2⟩
theorem zS (n i:Nat):(Array.replicate n false).getD i false=false:=by
 rcases aVx i n with h|h
 ·simp [h]
 ·simp [Nat.not_lt.2 h]
theorem pS (n:Nat):jx md ops (Array.replicate n false):=fun i o _ hi=>by rw [zS] at hi;cases hi
theorem dX:∀ (t:dT) (a:Act) (w:World),mZ P ops Q (Q .normal) t a w→Bi P ops Q t a w
 | .done,_,_,h=>h
 | .rd _ r,_,_,⟨v,hy,h⟩=>⟨v,hy,dX r _ _ h⟩
 | .one o r,a,w,h=>fun n=>by
  have h:=h n
  split
  ·rename_i hw;rw [Zz hw] at h;exact Oper.wp_mono (fun a' w' h'=>⟨h'.1,dX r _ _ h'.2⟩) h
  ·rename_i hw;rw [Zy hw] at h;exact dX r _ _ h
 | .two o r p l,a,w,h=>⟨fun n=>by
  have h:=h.1 n
  split
  ·rename_i hw;rw [Zz hw] at h;exact Oper.wp_mono (fun a' w' h'=>⟨h'.1,dX r _ _ h'.2⟩) h
  ·rename_i hw;rw [Zy hw] at h;exact dX r _ _ h,fun n=>by
  have h:=h.2 n
  split
  ·rename_i hw;rw [Zz hw] at h;exact Oper.wp_mono (fun a' w' h'=>⟨h'.1,dX l _ _ h'.2⟩) h
  ·rename_i hw;rw [Zy hw] at h;exact dX l _ _ h⟩
 | .three o r p l q u,a,w,h=>⟨fun n=>by
  have h:=h.1 n
  split
  ·rename_i hw;rw [Zz hw] at h;exact Oper.wp_mono (fun a' w' h'=>⟨h'.1,dX r _ _ h'.2⟩) h
  ·rename_i hw;rw [Zy hw] at h;exact dX r _ _ h,fun n=>by
  have h:=h.2.1 n
  split
  ·rename_i hw;rw [Zz hw] at h;exact Oper.wp_mono (fun a' w' h'=>⟨h'.1,dX l _ _ h'.2⟩) h
  ·rename_i hw;rw [Zy hw] at h;exact dX l _ _ h,fun n=>by
  have h:=h.2.2 n
  split
  ·rename_i hw;rw [Zz hw] at h;exact Oper.wp_mono (fun a' w' h'=>⟨h'.1,dX u _ _ h'.2⟩) h
  ·rename_i hw;rw [Zy hw] at h;exact dX u _ _ h⟩
theorem VZ {a:Act} {w:World} (m:Nat) (l:kl) (hs:Region.noSelect ops=true) (hm:Nat.ble m ops.size=true) (hl:l.len=m) (hin:l.within ops.size=true) (hc:oA .any ops m=true)
  (hB:fU .any ops m l (Array.replicate ops.size false)=true) (ht:w8 .any ops (ops.size-m) m (zp m ops.size)=true)
  (h:mZ P ops (NoPanic Q) (fun a w=>wpOps P ops (NoPanic Q) ((List.range (ops.size-m)).map (m+·)) a w) (av ops l) a w):wpAny P .any ops (NoPanic Q) ops.size (Array.replicate ops.size false) a w.drew:=by
 have hm:=ZN hm
 have h1:=o7 (md:=.any) hc hs (fun c a w h=>h) l _ a w (pS _) hB (iR l a w hin h)
 have h2:=wQ _ _ _ _ _ (kO w) h1
 have h3:Iz P .any ops (NoPanic Q) m (fun a w=>wpAny P .any ops (NoPanic Q) (ops.size-m) (zp m ops.size) a w) l.len (Array.replicate ops.size false) a w.drew:=by
  have mono:∀ (f:Nat) (listed:Array Bool) (a:Act) (w:World),Iz P .any ops (NoPanic Q) m (fun a w=>wpOps P ops (NoPanic Q) ((List.range (ops.size-m)).map (m+·)) a w) f listed a w→Iz P .any ops (NoPanic Q) m (fun a w=>wpAny P .any ops (NoPanic Q) (ops.size-m) (zp m ops.size) a w) f listed a w:=by
   intro f
   induction f with
   | zero=>exact fun listed a w h=>⟨h.1,fun n=>rC _ _ _ _ _ ht (h.2 n)⟩
   | succ f ih=>exact fun listed a w h=>⟨fun h0 n=>rC _ _ _ _ _ ht (h.1 h0 n),fun h0=>⟨(h.2 h0).1,fun i hi n=>wpOp_mono (fun a' w' h'=>⟨h'.1,ih _ a' w' h'.2⟩) ((h.2 h0).2 i hi n)⟩⟩
  exact mono _ _ _ _ h2
 have h4:=wT hc hm (ops.size-m) _ _ _ _ (by simp) (pS _) (fun j _=>zS _ _) h3
 rw [hl,show m+(ops.size-m)=ops.size by omega] at h4
 exact h4
end
end Go.Proofs.YtghminnpfnkbjaaGreatDoor
namespace Go.Proofs.YtghminnpfnkbjaaGreatDoor
open Go.RowKit
def ff (S:Nat→Prop) (w W:World):Prop:=∀ b,S b→W.heap[b]?=w.heap[b]?
theorem ff.refl (S:Nat→Prop) (w:World):ff S w w:=fun _ _=>rfl
theorem ff.trans {S:Nat→Prop} {a b c:World} (h:ff S a b) (k:ff S b c):ff S a c:=fun x hx=>(k x hx).trans (h x hx)
section
variable {P:Program} {ops:Array Oper} {Q:Exit→Act→World→Prop} {md:Region.Mode} {S:Nat→Prop}
def iD (P:Program) (ops:Array Oper) (S:Nat→Prop) (w:World) (o:Oper) (v:Value) (a:Act):Prop:=YieldsIf P ops (fun W=>ff S w W) o v a
theorem iD.mono {w W:World} {o:Oper} {v:Value} {a:Act} (hb:ff S w W) (h:iD P ops S w o v a):iD P ops S W o v a :=
 h.imp (fun ⟨h1,h2⟩=>⟨h1,fun X hX=>h2 X (hb.trans hX)⟩) id
theorem iD.grow {S':Nat→Prop} {w:World} {o:Oper} {v:Value} {a:Act} (hs:∀ b,S b→S' b) (h:iD P ops S w o v a):iD P ops S' w o v a :=
 h.imp (fun ⟨h1,h2⟩=>⟨h1,fun X hX=>h2 X fun b hb=>hX b (hs b hb)⟩) id
def UY:List Nat:=[105,164,88]
def vK (o:Oper):Bool:=match o.op with
 | .move _|.assign _|.pick ..|.load ..|.binOp ..|.unOp ..|.convert ..|.slice ..|.fieldAddr ..|.field ..|.indexAddr ..|.index ..|.extract ..|.nilCheck ..|.alloc ..|.box ..|.buildSlice ..|.call ⟨.builtin .len,_,_⟩|.call ⟨.builtin .cap,_,_⟩=>false
 | .call ⟨.value (.func f),_,_⟩=>!UY.any (Nat.beq f)
 | _=>true
def ST (ops:Array Oper) (i:Nat):Nat→Nat→Bool
 | 0,_=>false
 | n+1,j=>(ops[j]?).any fun p=>(p.after.any fun e=>Region.binds .any e && Nat.beq e.on i) || p.after.any fun e=>Region.binds .any e && ST ops i n e.on
theorem yy {ops:Array Oper} {listed:Array Bool} (hcl:jx .any ops listed) {i:Nat}:∀ (n j:Nat),ST ops i n j=true→(∀ o,ops[j]?=some o→∀ e ∈ o.after,Region.binds .any e=true→listed.getD e.on false=true)→listed.getD i false=true
 | 0,_,h,_=>by cases h
 | n+1,j,h,hj=>by
  unfold ST at h
  obtain ⟨p,hp⟩:∃ p,ops[j]?=some p:=by
   cases hp:ops[j]? with
   | none=>rw [hp] at h;cases h
   | some p=>exact ⟨p,rfl⟩
  rw [hp,cpx] at h
  rcases b7x.1 h with h|h
  ·have ⟨q,hq,h5⟩:=Array.any_eq_true.1 h
   simp only [ZE] at h5
   have:=hj p hp _ (Array.getElem_mem hq) h5.1
   rwa [acx h5.2] at this
  ·have ⟨q,hq,h5⟩:=Array.any_eq_true.1 h
   simp only [ZE] at h5
   have hl:=hj p hp _ (Array.getElem_mem hq) h5.1
   exact yy hcl n _ h5.2 fun o ho e he hb=>hcl _ o ho hl e he hb
def Cs (ops:Array Oper) (i:Nat):Bool:=(List.range ops.size).all fun j=>!((ops[j]?).any vK) || ST ops i 8 j
def ownB (ops:Array Oper) (o:Oper):Bool:=(List.range ops.size).all fun i=>!((ops[i]?).any fun q=>q.dst == o.dst) || Cs ops i
def rb (P:Program) (ops:Array Oper) (w:World) (o:Oper) (v:Value) (a:Act):Prop:=YieldsIf P ops (fun W=>Below w.heap.size w W) o v a
theorem rb.mono {w W:World} {o:Oper} {v:Value} {a:Act} (hb:Below w.heap.size w W) (h:rb P ops w o v a):rb P ops W o v a :=
 h.imp (fun ⟨h1,h2⟩=>⟨h1,fun X hX=>h2 X (oI hb hX)⟩) id
def oK (S:Nat→Prop) (o:Option Oper) (w W:World):Prop:=ff S w W∧(o.any vK=false→Below w.heap.size w W)
theorem oK.refl (S:Nat→Prop) (o:Option Oper) (w:World):oK S o w w:=⟨ff.refl S w,fun _=>Below.refl _ _⟩
def mK (P:Program) (md:Region.Mode) (ops:Array Oper) (Q:Exit→Act→World→Prop):(Nat→Prop)→Nat→Array Bool→Act→World→Prop
 | _,0,listed,a,w=>Region.ready md ops listed=[]∧Q .normal a w
 | S,fuel+1,listed,a,w =>
  (Region.ready md ops listed=[]→Q .normal a w) ∧
  ∀ i ∈ Region.ready md ops listed,wpOp P ops Q i (fun a' w'=>oK S ops[i]? w w'∧∃ S',(∀ b,S b→S' b)∧mK P md ops Q S' fuel (listed.setIfInBounds i true) a' w') a w
theorem wR:∀ (fuel:Nat) (S:Nat→Prop) (listed:Array Bool) (a:Act) (w:World),mK P md ops Q S fuel listed a w→wpAny P md ops Q fuel listed a w
 | 0,_,_,_,_,h=>h
 | fuel+1,_,_,_,_,h=>⟨h.1,fun i hi=>wpOp_mono (fun a' w' ⟨_,_,_,h'⟩=>wR fuel _ _ a' w' h') (h.2 i hi)⟩
theorem Bk {i:Nat} {oi:Oper} {v:Value} (hi:ops[i]?=some oi) (hsel:∀ (j:Nat) (o:Oper) cs b,ops[j]?=some o→o.op≠.select cs b)
  (hQ:∀ c a w,Q (.panic c) (a.put oi.dst v) w→Q (.panic c) a w) :
  ∀ (fuel:Nat) (S:Nat→Prop) (listed:Array Bool) (a:Act) (w:World),
   (∀ j oj,ops[j]?=some oj→j≠i→listed.getD j true=false→(∀ e ∈ oj.after,Region.binds md e=true→e.on≠i)→oi.apart ops oj=true) →
   i ∈ Region.ready md ops listed→iD P ops S w oi v a →
   mK P md ops Q S fuel (listed.setIfInBounds i true) (a.put oi.dst v) w→mK P md ops Q S (fuel+1) listed a w:=by
 intro fuel
 induction fuel with
 | zero =>
  intro S listed a w _ hr hy H
  refine ⟨fun h=>(by rw [h] at hr;cases hr),fun j hj=>?_⟩
  by_cases hji:j=i
  ·subst hji
   exact YieldsIf.wpOp hi hy (ff.refl S w) ⟨oK.refl S _ w,S,fun _ h=>h,H⟩
  ·have:=ready_mono hj hji
   rw [H.1] at this
   cases this
 | succ fuel ih =>
  intro S listed a w hfree hr hy H
  refine ⟨fun h=>(by rw [h] at hr;cases hr),fun j hj=>?_⟩
  by_cases hji:j=i
  ·subst hji
   exact YieldsIf.wpOp hi hy (ff.refl S w) ⟨oK.refl S _ w,S,fun _ h=>h,H⟩
  ·have h1:=H.2 j (ready_mono hj hji)
   have ⟨hjun,oj,hoj,hall⟩:=mem_ready.1 hj
   have hnot:∀ e ∈ oj.after,Region.binds md e=true→e.on≠i:=fun e he hb heq=>by
    have h1:=hall e he hb
    have h0:=(mem_ready.1 hr).1
    rw [heq] at h1
    rcases aVx i listed.size with h'|h'
    ·simp [h'] at h0 h1;rw [h0] at h1;cases h1
    ·simp [aOx h'] at h1
   have h2:=wpOp_putIf hoj (hfree j oj hoj hji hjun hnot) (fun cs b=>hsel i oi cs b hi) (fun cs b=>hsel j oj cs b hoj) hQ hy h1
   have hfree':∀ k ok,ops[k]?=some ok→k≠i→(listed.setIfInBounds j true).getD k true=false →
     (∀ e ∈ ok.after,Region.binds md e=true→e.on≠i)→oi.apart ops ok=true:=fun k ok hk hki hun hno=>by
    refine hfree k ok hk hki ?_ hno
    by_cases hjk:j=k
    ·subst hjk;exact hjun
    ·rw [getD_set_ne true hjk] at hun;exact hun
   refine wpOp_mono (fun a' w' ⟨h3,h4,S',hSS,h5⟩=>⟨h4,S',hSS,ih S' (listed.setIfInBounds j true) a' w' hfree' (ready_mono hr (Ne.symm hji)) (iD.grow hSS (iD.mono h4.1 h3)) ?_⟩) h2
   rw [bDx _ _ hji]
   exact h5
theorem yX {i:Nat} {oi:Oper} {v:Value} (hi:ops[i]?=some oi) (hbe:Cs ops i=true) (hsel:∀ (j:Nat) (o:Oper) cs b,ops[j]?=some o→o.op≠.select cs b)
  (hQ:∀ c a w,Q (.panic c) (a.put oi.dst v) w→Q (.panic c) a w) :
  ∀ (fuel:Nat) (S:Nat→Prop) (listed:Array Bool) (a:Act) (w:World),jx .any ops listed →
   (∀ j oj,ops[j]?=some oj→j≠i→listed.getD j true=false→(∀ e ∈ oj.after,Region.binds .any e=true→e.on≠i)→oi.apart ops oj=true) →
   i ∈ Region.ready .any ops listed→rb P ops w oi v a →
   mK P .any ops Q S fuel (listed.setIfInBounds i true) (a.put oi.dst v) w→mK P .any ops Q S (fuel+1) listed a w:=by
 intro fuel
 induction fuel with
 | zero =>
  intro S listed a w _ _ hr hy H
  refine ⟨fun h=>(by rw [h] at hr;cases hr),fun j hj=>?_⟩
  by_cases hji:j=i
  ·subst hji
   exact YieldsIf.wpOp hi hy (Below.refl _ _) ⟨oK.refl S _ w,S,fun _ h=>h,H⟩
  ·have:=ready_mono hj hji
   rw [H.1] at this
   cases this
 | succ fuel ih =>
  intro S listed a w hcl hfree hr hy H
  refine ⟨fun h=>(by rw [h] at hr;cases hr),fun j hj=>?_⟩
  by_cases hji:j=i
  ·subst hji
   exact YieldsIf.wpOp hi hy (Below.refl _ _) ⟨oK.refl S _ w,S,fun _ h=>h,H⟩
  ·have h1:=H.2 j (ready_mono hj hji)
   have ⟨hjun,oj,hoj,hall⟩:=mem_ready.1 hj
   have hnot:∀ e ∈ oj.after,Region.binds .any e=true→e.on≠i:=fun e he hb heq=>by
    have h1:=hall e he hb
    have h0:=(mem_ready.1 hr).1
    rw [heq] at h1
    rcases aVx i listed.size with h'|h'
    ·simp [h'] at h0 h1;rw [h0] at h1;cases h1
    ·simp [aOx h'] at h1
   have hmod:vK oj=false:=by
    cases hm:vK oj with
    | false=>rfl
    | true =>
     have h3:=Z1.1 hbe j (a7x.2 (ZX.1 hoj).1)
     rw [hoj,cpx,hm] at h3
     simp only [Bool.not_true,c5x] at h3
     have h4:=yy hcl 8 j h3 fun o ho e he hb=>by
      rw [hoj] at ho;cases ho
      exact hall e he hb
     have h5:=(mem_ready.1 hr).1
     rcases aVx i listed.size with h'|h'
     ·simp [h'] at h4 h5;rw [h4] at h5;cases h5
     ·simp [aOx h'] at h4
   have h2:=wpOp_putIf hoj (hfree j oj hoj hji hjun hnot) (fun cs b=>hsel i oi cs b hi) (fun cs b=>hsel j oj cs b hoj) hQ hy h1
   have hfree':∀ k ok,ops[k]?=some ok→k≠i→(listed.setIfInBounds j true).getD k true=false →
     (∀ e ∈ ok.after,Region.binds .any e=true→e.on≠i)→oi.apart ops ok=true:=fun k ok hk hki hun hno=>by
    refine hfree k ok hk hki ?_ hno
    by_cases hjk:j=k
    ·subst hjk;exact hjun
    ·rw [getD_set_ne true hjk] at hun;exact hun
   refine wpOp_mono (fun a' w' ⟨h3,h4,S',hSS,h5⟩=>⟨h4,S',hSS,ih S' (listed.setIfInBounds j true) a' w' (cr hcl hj) hfree' (ready_mono hr (Ne.symm hji)) (rb.mono (h4.2 (by rw [hoj];exact hmod)) h3) ?_⟩) h2
   rw [bDx _ _ hji]
   exact h5
def km (P:Program) (ops:Array Oper) (Q:Exit→Act→World→Prop):(Nat→Prop)→dT→Act→World→Prop
 | _,.done,a,w=>Q .normal a w
 | S,.rd o r,a,w=>∃ v,(iD P ops S w o v a∨(ownB ops o=true∧rb P ops w o v a))∧km P ops Q S r (a.put o.dst v) w
 | S,.one o r,a,w=>if Region.wanted o (yielded ops a.tmps) then o.wp P a w (fun a' w'=>oK S (some o) w w'∧∃ S',(∀ b,S b→S' b)∧km P ops Q S' r a' w') Q else ∃ S',(∀ b,S b→S' b)∧km P ops Q S' r (a.put o.dst undef) w
 | S,.two o r p l,a,w =>
  (if Region.wanted o (yielded ops a.tmps) then o.wp P a w (fun a' w'=>oK S (some o) w w'∧∃ S',(∀ b,S b→S' b)∧km P ops Q S' r a' w') Q else ∃ S',(∀ b,S b→S' b)∧km P ops Q S' r (a.put o.dst undef) w) ∧
  (if Region.wanted p (yielded ops a.tmps) then p.wp P a w (fun a' w'=>oK S (some p) w w'∧∃ S',(∀ b,S b→S' b)∧km P ops Q S' l a' w') Q else ∃ S',(∀ b,S b→S' b)∧km P ops Q S' l (a.put p.dst undef) w)
 | S,.three o r p l q u,a,w =>
  (if Region.wanted o (yielded ops a.tmps) then o.wp P a w (fun a' w'=>oK S (some o) w w'∧∃ S',(∀ b,S b→S' b)∧km P ops Q S' r a' w') Q else ∃ S',(∀ b,S b→S' b)∧km P ops Q S' r (a.put o.dst undef) w) ∧
  (if Region.wanted p (yielded ops a.tmps) then p.wp P a w (fun a' w'=>oK S (some p) w w'∧∃ S',(∀ b,S b→S' b)∧km P ops Q S' l a' w') Q else ∃ S',(∀ b,S b→S' b)∧km P ops Q S' l (a.put p.dst undef) w) ∧
  (if Region.wanted q (yielded ops a.tmps) then q.wp P a w (fun a' w'=>oK S (some q) w w'∧∃ S',(∀ b,S b→S' b)∧km P ops Q S' u a' w') Q else ∃ S',(∀ b,S b→S' b)∧km P ops Q S' u (a.put q.dst undef) w)
theorem oK.lower {S S1:Nat→Prop} {o:Option Oper} {w W:World} (hs:∀ b,S b→S1 b) (h:oK S1 o w W):oK S o w W:=⟨fun b hb=>h.1 b (hs b hb),h.2⟩
theorem nH {S S1:Nat→Prop} {o:Oper} {r:dT} {a:Act} {w:World} (hs:∀ b,S b→S1 b) (h:km P ops Q S1 (.one o r) a w):km P ops Q S (.one o r) a w:=by
 unfold km at h ⊢
 split
 ·rename_i hw
  rw [Zz hw] at h
  exact Oper.wp_mono (fun a' w' ⟨h1,S',h2,h3⟩=>⟨h1.lower hs,S',fun b hb=>h2 b (hs b hb),h3⟩) h
 ·rename_i hw
  rw [Zy hw] at h
  have ⟨S',h2,h3⟩:=h
  exact ⟨S',fun b hb=>h2 b (hs b hb),h3⟩
theorem jF {i:Nat} {o:Oper} {a:Act} {w:World} {K K':(Nat→Prop)→Act→World→Prop} (ho:ops[i]?=some o) (hk:∀ S a' w',K S a' w'→K' S a' w')
  (h:if Region.wanted o (yielded ops a.tmps) then o.wp P a w (fun a' w'=>oK S (some o) w w'∧∃ S',(∀ b,S b→S' b)∧K S' a' w') Q else ∃ S',(∀ b,S b→S' b)∧K S' (a.put o.dst undef) w):wpOp P ops Q i (fun a' w'=>oK S ops[i]? w w'∧∃ S',(∀ b,S b→S' b)∧K' S' a' w') a w:=by
 unfold wpOp
 simp only [ho]
 split
 ·rename_i hw
  rw [Zz hw] at h
  exact .inl (Oper.wp_mono (fun a' w' h'=>⟨h'.1,let ⟨S',h1,h2⟩:=h'.2;⟨S',h1,hk _ _ _ h2⟩⟩) h)
 ·rename_i hw
  rw [Zy hw] at h
  exact ⟨oK.refl S _ w,let ⟨S',h1,h2⟩:=h;⟨S',h1,hk _ _ _ h2⟩⟩
theorem fP (hs:Region.noSelect ops=true) (hQ:∀ c a w,¬ Q (.panic c) a w):∀ (l:kl) (S:Nat→Prop) (listed:Array Bool) (a:Act) (w:World),jx .any ops listed→l.within ops.size=true→dI .any ops l listed=true→km P ops Q S (av ops l) a w→mK P .any ops Q S l.len listed a w
 | .done,S,listed,a,w,_,_,hB,h=>⟨by simpa [dI] using hB,h⟩
 | .rd i r,S,listed,a,w,hcl,hl,hB,h=>by
  simp only [kl.within,ZE,ZJ] at hl
  have ho:ops[i]?=some ops[i]:=ZP hl.1
  simp only [av,ho] at h
  simp only [dI,ZE] at hB
  have ⟨⟨hr,hf⟩,hB'⟩:=hB
  have ⟨v,hy,hK⟩:=h
  rcases hy with hy|⟨hown,hy⟩
  exact Bk ho (Region.noSelect_spec hs) (fun c a w h=>absurd h (hQ c _ w)) r.len S listed a w (Region.free_spec ho hf) (by simpa using hr) hy (fP hs hQ r _ _ _ _ (cr hcl (by simpa using hr)) hl.2 hB' hK)
  ·have hbe:Cs ops i=true:=by
    have:=Z1.1 hown i (a7x.2 hl.1)
    simpa [ho] using this
   exact yX ho hbe (Region.noSelect_spec hs) (fun c a w h=>absurd h (hQ c _ w)) r.len S listed a w hcl (Region.free_spec ho hf) (by simpa using hr) hy (fP hs hQ r _ _ _ _ (cr hcl (by simpa using hr)) hl.2 hB' hK)
 | .one i r,S,listed,a,w,hcl,hl,hB,h=>by
  simp only [kl.within,ZE,ZJ] at hl
  have ho:ops[i]?=some ops[i]:=ZP hl.1
  simp only [av,ho] at h
  simp only [dI,ZE,aUx] at hB
  refine ⟨fun h0=>(by rw [hB.1] at h0;cases h0),fun j hj=>?_⟩
  rw [hB.1] at hj
  obtain rfl:=agx.1 hj
  exact jF ho (fun S' a' w'=>fP hs hQ r S' _ a' w' (cr hcl (by rw [hB.1];simp)) hl.2 hB.2) h
 | .two i r j l,S,listed,a,w,hcl,hl,hB,h=>by
  simp only [kl.within,ZE,ZJ] at hl
  have ho:ops[i]?=some ops[i]:=ZP hl.1.1.1
  have hp:ops[j]?=some ops[j]:=ZP hl.1.2
  simp only [av,ho,hp] at h
  simp only [dI,ZE,aUx] at hB
  have ⟨⟨⟨h1,h2⟩,h3⟩,h4⟩:=hB
  refine ⟨fun h0=>(by rw [h1] at h0;cases h0),fun q hq=>?_⟩
  rw [h1] at hq
  simp only [Z9,ahx,or_false] at hq
  rcases hq with rfl|rfl
  exact jF ho (fun S' a' w'=>fP hs hQ r S' _ a' w' (cr hcl (by rw [h1];simp)) hl.1.1.2 h3) h.1
  ·refine jF hp (fun S' a' w' h'=>?_) h.2
   show mK P .any ops Q S' r.len _ _ _
   rw [h2]
   exact fP hs hQ l S' _ a' w' (cr hcl (by rw [h1];simp)) hl.2 h4 h'
 | .three i r j l q0 u,S,listed,a,w,hcl,hl,hB,h=>by
  simp only [kl.within,ZE,ZJ] at hl
  have ho:ops[i]?=some ops[i]:=ZP hl.1.1.1.1.1
  have hp:ops[j]?=some ops[j]:=ZP hl.1.1.1.2
  have hq0:ops[q0]?=some ops[q0]:=ZP hl.1.2
  simp only [av,ho,hp,hq0] at h
  simp only [dI,ZE,aUx] at hB
  have ⟨⟨⟨⟨⟨h1,h2⟩,h2'⟩,h3⟩,h4⟩,h5⟩:=hB
  refine ⟨fun h0=>(by rw [h1] at h0;cases h0),fun q hq=>?_⟩
  rw [h1] at hq
  simp only [Z9,ahx,or_false] at hq
  rcases hq with rfl|rfl|rfl
  exact jF ho (fun S' a' w'=>fP hs hQ r S' _ a' w' (cr hcl (by rw [h1];simp)) hl.1.1.1.1.2 h3) h.1
  ·refine jF hp (fun S' a' w' h'=>?_) h.2.1
   show mK P .any ops Q S' r.len _ _ _
   rw [h2]
   exact fP hs hQ l S' _ a' w' (cr hcl (by rw [h1];simp)) hl.1.1.2 h4 h'
  ·refine jF hq0 (fun S' a' w' h'=>?_) h.2.2
   show mK P .any ops Q S' r.len _ _ _
   rw [h2']
   exact fP hs hQ u S' _ a' w' (cr hcl (by rw [h1];simp)) hl.2 h5 h'
theorem T5 {a:Act} {w:World} (u:kl) (hs:Region.noSelect ops=true) (hul:u.len=ops.size) (huin:u.within ops.size=true) (hu:dI .any ops u (Array.replicate ops.size false)=true)
  (h:km P ops (NoPanic Q) S (av ops u) a w.drew):wpAny P .any ops (NoPanic Q) ops.size (Array.replicate ops.size false) a w.drew:=by
 have:=wR _ _ _ _ _ (fP hs (fun c a w h=>h) u S _ a w.drew (pS _) huin hu h)
 rwa [hul] at this
end
end Go.Proofs.YtghminnpfnkbjaaGreatDoor
namespace Go.Proofs.YtghminnpfnkbjaaGreatDoor
open Go.RowKit
def H7 (rd:Option Nat):Fence:={ Fence.wide with round:=rd }
def tm (o:Oper):Bool:=match o.op with|.defer _=>true|_=>false
theorem JZ {o:Oper} (h:tm o=false):∀ c,o.op≠.defer c:=fun c e=>by simp [tm,e] at h
def Fc (rd:Option Nat) (ops:Array Oper):Bool:=match rd with|none=>true|some _=>ops.toList.all fun o=>!tm o
section
variable {P:Program} {rd:Option Nat} {n:Nat} {ops:Array Oper} {Q:Exit→Act→World→Prop} {md:Region.Mode}
theorem vP {f:FuncId} {args:Array Value} {w:World} {R:Ending→World→Prop}:CallsIn (H7 rd) n P f args w R↔Calls P f args w R:=callsIn_wide
theorem Qt {o:Oper} {a:Act} {K:Act→World→Prop}:∀ {r:Result Next},o.upon P a K Q r→o.uponIn (H7 rd) n P a K Q r
 | .ok x w',h=>by
  cases x with
  | enter f args=>exact ⟨fun h=>(by cases h),vP.2 h⟩
  | row row args=>exact ⟨fun h=>(by cases h),fun c cs _=>let ⟨v,w',h1,h2⟩:=h c cs;⟨v,w',h1,stepsIn_wide.2 h2⟩⟩
  | _=>first|exact h|exact (h:False).elim
 | .halt x w',h=>by cases x<;>exact h
theorem Oper.wp_in {o:Oper} {a:Act} {w:World} {K:Act→World→Prop} (hd:rd=none∨tm o=false) (h:o.wp P a w K Q):o.wpIn (H7 rd) n P a w K Q:=by
 refine ⟨fun f _=>trivial,?_⟩
 have e:o.semAt (H7 rd).round a.eval=execOp a.eval o:=by
  rcases hd with rfl|hd
  rfl
  exact Oper.semAt_eq _ _ _ (JZ hd)
 rw [e]
 exact Qt h
theorem M0 (h:Fc rd ops=true) {i:Nat} {o:Oper} (ho:ops[i]?=some o):rd=none∨tm o=false:=by
 cases rd with
 | none=>exact .inl rfl
 | some l =>
  have:=Z1.1 h o (Array.mem_toList_iff.2 (Array.mem_of_getElem? ho))
  simpa using this
theorem Qo (hd:Fc rd ops=true) (hlo:¬ LetsOut Q) {i:Nat} {a:Act} {w:World} {K K':Act→World→Prop} (hK:∀ a w,K a w→K' a w) (h:wpOp P ops Q i K a w):wpOpIn (H7 rd) n P ops Q i K' a w:=by
 unfold wpOp at h
 unfold wpOpIn
 cases ho:ops[i]? with
 | none=>simp only [ho] at h;exact hK _ _ h
 | some o =>
  simp only [ho] at h ⊢
  split
  ·rename_i hw
   rw [Zz hw] at h
   rcases h with h|h
   exact Oper.wp_in (M0 hd ho) (Oper.wp_mono hK h)
   exact absurd h.2 hlo
  ·rename_i hw
   rw [Zy hw] at h
   exact ⟨fun f _=>trivial,hK _ _ h⟩
theorem CN (hd:Fc rd ops=true) (hlo:¬ LetsOut Q):∀ (f:Nat) (listed:Array Bool) (a:Act) (w:World),wpAny P md ops Q f listed a w→wpAnyIn (H7 rd) n P md ops Q f listed a w
 | 0,_,_,_,h=>h
 | f+1,_,_,_,h=>⟨h.1,fun i hi=>Qo hd hlo (fun a' w' h'=>CN hd hlo f _ a' w' h') (h.2 i hi)⟩
def yR (Q:Exit→Act→World→Prop):Exit→Act→World→Prop
 | .normal,a,w=>Q .normal a w
 | _,_,_=>False
theorem yR.imp:∀ (e:Exit) (a:Act) (w:World),NoPanic (yR Q) e a w→Q e a w:=fun e a w h=>by
 cases e<;>first|exact h|exact (h:False).elim
theorem JT:¬ LetsOut (NoPanic (yR Q)):=fun ⟨_,_,h⟩=>h
theorem sx {id:Nat} {a:Act} {w:World} (hd:Fc rd ops=true) (hm:P.follows .mixedOrders=true) (h:wpAny P .any ops (NoPanic (yR Q)) ops.size (Array.replicate ops.size false) a w.drew):(Code.region id ops true).wpIn (H7 rd) n P Q a w :=
 wpIn_mono (wpIn_region_any hm (CN hd JT _ _ _ _ h)) yR.imp
end
end Go.Proofs.YtghminnpfnkbjaaGreatDoor
namespace Go.Proofs.YtghminnpfnkbjaaGreatDoor
namespace Am
open Go.RowKit
structure SV where
 p:(Nat→Prop)→World→Value→Prop
 st:∀ {St St':Nat→Prop} {w w':World} {v:Value},(∀ b,St b→St' b)→(∀ b cur t z,St b→w.heap[b]?=some (.cells cur t z)→w'.heap[b]?=some (.cells cur t z))→p St w v→p St' w' v
 one:∀ {St:Nat→Prop} {w:World} {v:Value},p St w v→v.cells=#[v]∧v.oneCell'=true
inductive CV where
 | top
 | c (v:Value)
 | err (k:Nat)
 | agg (n:Nat) (f:Nat→CV)
 | tup (n:Nat) (f:Nat→CV)
 | rs (k n:Nat) (f:Nat→Nat→CV)
 | rp (n:Nat) (f:Nat→CV)
 | os (i:Nat) (g:Option Nat) (off n k:Nat)
 | op (i:Nat) (g:Option Nat) (off:Nat)
 | fn (g:FuncId) (n:Nat) (f:Nat→CV)
 | pv (p:SV)
def aP (al:List Addr) (St:Nat→Prop) (w:World):CV→Value→Prop
 | .top,_=>True
 | .c v,x=>x=v
 | .err k,x=>x=ev al k
 | .agg n f,x=>∃ cs:Array Value,x=.agg cs∧cs.size=n∧∀ i,i<n→aP al St w (f i) (cs.getD i undef)
 | .tup n f,x=>∃ cs:Array Value,x=.tuple cs∧cs.size=n∧∀ i,i<n→aP al St w (f i) (cs.getD i undef)
 | .rs k n f,x=>∃ ao cap,x=.slice ao n cap∧n≤cap∧cap≤9223372036854775807∧(ao=none→cap=0)∧∀ a,ao=some a→0<n →
   a.spot=none∧St a.block∧∀ i j,i<n→j<k→∃ v,w.cell? ⟨a.block,a.off+(i * k+j),none⟩=some v∧aP al St w (f i j) v
 | .rp n f,x=>∃ b o,x=.pointer (some ⟨b,o,none⟩)∧St b∧∀ j,j<n→∃ v,w.cell? ⟨b,o+j,none⟩=some v∧aP al St w (f j) v
 | .os _ none _ n _,x=>n=0∧x=.slice none 0 0
 | .os _ (some g) off n k,x=>∃ cap,x=.slice (some ⟨g,off,none⟩) n cap∧n≤cap∧cap≤9223372036854775807∧∃ cur t z,w.heap[g]?=some (.cells cur t z)∧off+cap * k≤cur.size
 | .op _ g off,x=>∃ b,g=some b∧x=.pointer (some ⟨b,off,none⟩)
 | .fn g n f,x=>∃ cs:Array Value,x=.func (.func g) #[] cs∧cs.size=n∧∀ i,i<n→aP al St w (f i) (cs.getD i undef)
 | .pv p,x=>p.p St w x
structure rc (St:Nat→Prop) (w w':World):Prop where
 st:∀ b cur t z,St b→w.heap[b]?=some (.cells cur t z)→w'.heap[b]?=some (.cells cur t z)
 sh:∀ (b:Nat) cur t z,w.heap[b]?=some (.cells cur t z)→∃ cur' z',w'.heap[b]?=some (.cells cur' t z')∧cur'.size=cur.size
theorem rc.of_below {St:Nat→Prop} {w w':World} (h:Below w.heap.size w w') (hs:∀ b,St b→b<w.heap.size):rc St w w' where
 st:=fun b cur t z hb hc=>(h.block b (hs b hb)).trans hc
 sh:=fun b cur t z hb=>⟨cur,z,(h.block b (ZX.1 hb).1).trans hb,rfl⟩
theorem cD {w w':World} {b:Nat} (h:w'.heap[b]?=w.heap[b]?) (o:Nat):w'.cell? ⟨b,o,none⟩=w.cell? ⟨b,o,none⟩:=World.cell?_of_block (w:=w) (a:=⟨b,o,none⟩) h
theorem vk {w w':World} {b o:Nat} {v:Value} (h:∀ cur t z,w.heap[b]?=some (.cells cur t z)→w'.heap[b]?=some (.cells cur t z)) (hv:w.cell? ⟨b,o,none⟩=some v):w'.cell? ⟨b,o,none⟩=some v:=by
 unfold World.cell? at hv ⊢
 split at hv
 ·rename_i cur t z hc
  rw [h _ _ _ hc]
  exact hv
 ·cases hv
theorem aP.evo {al:List Addr} {St St':Nat→Prop} {w w':World} (he:rc St w w') (hs:∀ b,St b→St' b):∀ (c:CV) (v:Value),aP al St w c v→aP al St' w' c v
 | .top,_,_=>trivial
 | .c _,_,h=>h
 | .err _,_,h=>h
 | .agg n f,_,⟨cs,h1,h2,h3⟩=>⟨cs,h1,h2,fun i hi=>aP.evo he hs (f i) _ (h3 i hi)⟩
 | .tup n f,_,⟨cs,h1,h2,h3⟩=>⟨cs,h1,h2,fun i hi=>aP.evo he hs (f i) _ (h3 i hi)⟩
 | .rs k n f,_,⟨ao,cap,h1,h2,h3,h4,h5⟩=>⟨ao,cap,h1,h2,h3,h4,fun a ha hn=>by
   have ⟨h6,h7,h8⟩:=h5 a ha hn
   refine ⟨h6,hs _ h7,fun i j hi hj=>?_⟩
   have ⟨v,hv,hr⟩:=h8 i j hi hj
   exact ⟨v,vk (fun cur t z hc=>he.st _ cur t z h7 hc) hv,aP.evo he hs (f i j) v hr⟩⟩
 | .rp n f,_,⟨b,o,h1,h2,h3⟩=>⟨b,o,h1,hs _ h2,fun j hj=>by
   have ⟨v,hv,hr⟩:=h3 j hj
   exact ⟨v,vk (fun cur t z hc=>he.st _ cur t z h2 hc) hv,aP.evo he hs (f j) v hr⟩⟩
 | .os _ none _ _ _,_,h=>h
 | .os _ (some g) off n k,_,⟨cap,h1,h2,h3,cur,t,z,h4,h5⟩=>by
   have ⟨cur',z',h6,h7⟩:=he.sh g cur t z h4
   exact ⟨cap,h1,h2,h3,cur',t,z',h6,by omega⟩
 | .op _ _ _,_,h=>h
 | .fn g n f,_,⟨cs,h1,h2,h3⟩=>⟨cs,h1,h2,fun i hi=>aP.evo he hs (f i) _ (h3 i hi)⟩
 | .pv p,_,h=>p.st hs he.st h
structure OP where
 p:List Addr→(Nat→Prop)→World→Nat→(Nat→Prop)→Prop
 st:∀ {al:List Addr} {St St':Nat→Prop} {w w':World} {g:Nat} {F:Nat→Prop},rc St w w'→(∀ b,St b→St' b)→(∀ b,F b→w'.heap[b]?=w.heap[b]?)→p al St w g F→p al St' w' g F
inductive aW where
 | dead
 | blk (n:Nat) (f:Nat→CV)
 | frz (n:Nat) (f:Nat→CV)
 | obj (p:OP)
def aW.rep (al:List Addr) (St:Nat→Prop) (w:World) (F:Nat→Prop):Option Nat→aW→Prop
 | _,.dead=>∀ b,¬ F b
 | none,.blk n _=>n=0∧∀ b,¬ F b
 | some g,.blk n f=>(∀ b,F b↔b=g)∧∃ cur t,w.heap[g]?=some (.cells cur t (0,0))∧n≤cur.size∧∀ i,i<n→aP al St w (f i) (cur.getD i undef)
 | none,.frz n _=>n=0∧∀ b,¬ F b
 | some g,.frz n f=>(∀ b,¬ F b)∧St g∧∃ cur t z,w.heap[g]?=some (.cells cur t z)∧n≤cur.size∧∀ i,i<n→aP al St w (f i) (cur.getD i undef)
 | none,.obj _=>∀ b,¬ F b
 | some g,.obj p=>p.p al St w g F
theorem aW.rep_evo {al:List Addr} {St St':Nat→Prop} {w w':World} (he:rc St w w') (hs:∀ b,St b→St' b) {F:Nat→Prop} (hF:∀ b,F b→w'.heap[b]?=w.heap[b]?):∀ {g:Option Nat} {r:aW},r.rep al St w F g→r.rep al St' w' F g
 | none,.dead,h=>h
 | some _,.dead,h=>h
 | none,.blk _ _,h=>h
 | some g,.blk n f,⟨h0,cur,t,h1,h2,h4⟩=>⟨h0,cur,t,(hF g ((h0 g).2 rfl)).trans h1,h2,fun i hi=>aP.evo he hs _ _ (h4 i hi)⟩
 | none,.frz _ _,h=>h
 | some g,.frz n f,⟨h0,hg,cur,t,z,h1,h2,h4⟩=>⟨h0,hs _ hg,cur,t,z,he.st g cur t z hg h1,h2,fun i hi=>aP.evo he hs _ _ (h4 i hi)⟩
 | none,.obj _,h=>h
 | some _,.obj p,h=>p.st he hs hF h
structure AS where
 env:List (Nat×CV)
 b:Nat→CV
 H:List (Option Nat×aW)
def look:List (Nat×CV)→(Nat→CV)→Nat→CV
 | [],b,d=>b d
 |(e,v)::r,b,d=>match Nat.beq e d with|true=>v|false=>look r b d
theorem qZ (e d:Nat):(Nat.beq e d=true∧e=d)∨(Nat.beq e d=false∧e≠d):=by
 by_cases h:e=d
 exact .inl ⟨by subst h;exact Nat.beq_refl e,h⟩
 ·exact .inr ⟨by cases hb:Nat.beq e d with|true=>exact absurd (acx hb) h|false=>rfl,h⟩
theorem fx (r:List (Nat×CV)) (b:Nat→CV) (d:Nat) (v:CV):look ((d,v)::r) b d=v:=by
 rcases qZ d d with ⟨h,_⟩|⟨_,h⟩
 ·simp [look]
 exact absurd rfl h
theorem dr (r:List (Nat×CV)) (b:Nat→CV) {e d:Nat} (v:CV) (hn:e≠d):look ((e,v)::r) b d=look r b d:=by
 rcases qZ e d with ⟨_,h⟩|⟨h,_⟩
 exact absurd h hn
 ·simp [look,h]
def AS.eval (s:AS):Operand→CV
 | .tmp t=>look s.env s.b t
 | .const v=>.c v
 | .global g=>.c (.pointer (some ⟨g,0,none⟩))
 | .func f=>.c (.func (.func f) #[] #[])
def AS.put (s:AS) (dst:Option Tmp) (v:CV):AS:=match dst with|some d=>⟨(d,v)::s.env,s.b,s.H⟩|none=>s
structure Gh where
 gs:List Nat
 al:List Addr
 w0:World
 F0:Nat→Prop
 St0:Nat→Prop
 N:Nat
 rd:Option Nat
 yl:Bool
structure jw (F0:Nat→Prop) (w0 w:World):Prop where
 os:w.os=w0.os
 tape:w.tape=w0.tape
 output:w.output=w0.output
 size:w0.heap.size≤w.heap.size
 block:∀ k,k<w0.heap.size→¬ F0 k→w.heap[k]?=w0.heap[k]?
 sh:∀ (b:Nat) cur t z,w0.heap[b]?=some (.cells cur t z)→∃ cur' z',w.heap[b]?=some (.cells cur' t z')∧cur'.size=cur.size
theorem jw.refl (F0:Nat→Prop) (w:World):jw F0 w w:=⟨rfl,rfl,rfl,ZA _,fun _ _ _=>rfl,fun _ cur _ z h=>⟨cur,z,h,rfl⟩⟩
theorem jw.then {F0:Nat→Prop} {a b c:World} (h:jw F0 a b) (k:Below b.heap.size b c):jw F0 a c :=
 ⟨k.os.trans h.os,k.tape.trans h.tape,k.output.trans h.output,Z7 h.size k.size,fun i hi hn=>(k.block i (Z4 hi h.size)).trans (h.block i hi hn),fun i cur t z hb=>by
  have ⟨cur',z',h1,h2⟩:=h.sh i cur t z hb
  exact ⟨cur',z',(k.block i (ZX.1 h1).1).trans h1,h2⟩⟩
theorem jw.below {w w':World} (h:jw (fun _=>False) w w'):Below w.heap.size w w':=⟨h.os,h.tape,h.output,h.size,fun k hk=>h.block k hk (fun h=>h)⟩
structure Fb (al:List Addr) (St:Nat→Prop) (w:World) (base:Nat) (F0:Nat→Prop) (H:List (Option Nat×aW)) (fp:Nat→Nat→Prop):Prop where
 rep:∀ (i:Nat) (g:Option Nat) (r:aW),H[i]?=some (g,r)→r.rep al St w (fp i) g
 dis:∀ i j b,fp i b→fp j b→i=j
 own:∀ i b,fp i b→b<w.heap.size∧¬ St b∧(base≤b∨F0 b)
 out:∀ i,H.length≤i→∀ b,¬ fp i b
def cY (al:List Addr) (St:Nat→Prop) (w:World) (base:Nat) (F0:Nat→Prop) (H:List (Option Nat×aW)):Prop:=∃ fp,Fb al St w base F0 H fp
def oO (D:Nat):Deferred:={ target:=.collected D,args:=#[] }
def pZ (G:Gh) (St:Nat→Prop) (w:World) (ds:List Deferred):Prop:=∃ Ds:List Nat,ds=Ds.map oO∧Ds.Nodup∧∀ D ∈ Ds,(St D∧w.heap[D]?=some (.deferred (some [])))∧G.w0.heap.size≤D∧D ∉ pF G.gs∧∀ a ∈ G.al,a.block≠D
theorem pZ.none (G:Gh) (St:Nat→Prop) (w:World):pZ G St w []:=⟨[],rfl,cTx,fun _ h=>by cases h⟩
theorem pZ.keep {G:Gh} {St St':Nat→Prop} {w w':World} {ds:List Deferred} (h:pZ G St w ds) (hs:∀ b,St b→St' b) (hw:∀ b,St b→w'.heap[b]?=w.heap[b]?):pZ G St' w' ds:=by
 have ⟨Ds,h1,h2,h3⟩:=h
 exact ⟨Ds,h1,h2,fun D hD=>⟨⟨hs D (h3 D hD).1.1,(hw D (h3 D hD).1.1).trans (h3 D hD).1.2⟩,(h3 D hD).2⟩⟩
theorem pZ.grow {G:Gh} {St St':Nat→Prop} {w:World} {ds:List Deferred} (h:pZ G St w ds) (hs:∀ b,St b→St' b):pZ G St' w ds:=h.keep hs fun _ _=>rfl
structure ax (G:Gh) (St:Nat→Prop) (s:AS) (a:Act) (w:World):Prop where
 df:pZ G St w a.defers
 sz:a.tmps.size=G.N
 env:∀ d,aP G.al St w (look s.env s.b d) (a.tmps.getD d undef)
 un:jw G.F0 G.w0 w
 s1:∀ b,G.St0 b→St b
 s2:∀ b,St b→G.St0 b∨G.w0.heap.size≤b∨G.F0 b
 s3:∀ b,St b→b<w.heap.size
 hp:cY G.al St w G.w0.heap.size G.F0 s.H
 sn:gc w G.gs G.al
 sg:(∀ g ∈ pF G.gs,St g)∧∀ a ∈ G.al,St a.block
def wm (G:Gh) (s:AS) (a:Act) (w:World):Prop:=∃ St,ax G St s a w
theorem ax.eval {G:Gh} {St:Nat→Prop} {s:AS} {a:Act} {w:World} (h:ax G St s a w):∀ x:Operand,aP G.al St w (s.eval x) (a.eval x)
 | .tmp t=>h.env t
 | .const _=>rfl
 | .global _=>rfl
 | .func _=>rfl
theorem ax.put {G:Gh} {St:Nat→Prop} {s:AS} {a:Act} {w:World} (h:ax G St s a w) {dst:Option Tmp} {v:CV} {x:Value} (hd:∀ d,dst=some d→d<G.N) (hv:aP G.al St w v x) :
  ax G St (s.put dst v) (a.put dst x) w:=by
 cases dst with
 | none=>exact h
 | some d =>
  have hlt:=hd d rfl
  refine ⟨h.df,by simp [Act.put,h.sz],fun e=>?_,h.un,h.s1,h.s2,h.s3,h.hp,h.sn,h.sg⟩
  by_cases hde:d=e
  ·subst hde
   show aP _ _ _ (look ((d,v)::s.env) s.b d) _
   rw [fx]
   simpa [Act.put,h.sz,hlt] using hv
  ·show aP _ _ _ (look ((d,v)::s.env) s.b e) _
   rw [dr _ _ _ hde]
   have:=h.env e
   simpa [Act.put,ajx hde] using this
theorem gc.keep {w w':World} {gs:List Nat} {al:List Addr} (h:gc w gs al) (h1:∀ g ∈ pF gs,w'.heap[g]?=w.heap[g]?) (h2:∀ a ∈ al,w'.heap[a.block]?=w.heap[a.block]?):gc w' gs al :=
 ⟨h.len,h.nd,fun i g hi hl=>(cD (h1 g hl) 0).trans (h.var i g hi hl),fun x hx=>by
  have ⟨c,t,hc⟩:=h.row x hx
  exact ⟨c,t,(h2 x hx).trans hc⟩,fun h3 h4=>IH (h.tab h3 h4) (fun o=>cD (h1 _ h3) o) (fun o=>cD (h1 _ h4) o),fun t ht hl i v hv=>(cD (h1 _ hl) i).trans (h.tbl t ht hl i v hv),fun g hg=>by
   have h3:=h.lt g hg
   have h4:=h1 g hg
   rw [ZP h3] at h4
   exact (ZX.1 h4).1⟩
theorem ax.ext {G:Gh} {St:Nat→Prop} {s:AS} {a:Act} {w w':World} (h:ax G St s a w) (hb:Below w.heap.size w w'):ax G St s a w':=by
 have he:rc St w w':=rc.of_below hb h.s3
 refine ⟨h.df.keep (fun _ h=>h) (fun b hb'=>hb.block b (h.s3 b hb')),h.sz,fun d=>aP.evo he (fun _ x=>x) _ _ (h.env d),h.un.then hb,h.s1,h.s2,fun b hs=>Z4 (h.s3 b hs) hb.size,?_,?_,h.sg⟩
 ·have ⟨fp,hp⟩:=h.hp
  exact ⟨fp,fun i g r hi=>aW.rep_evo he (fun _ x=>x) (fun b hF=>hb.block b (hp.own i b hF).1) (hp.rep i g r hi),hp.dis,fun i b hF=>⟨Z4 (hp.own i b hF).1 hb.size,(hp.own i b hF).2⟩,hp.out⟩
 exact gc.keep h.sn (fun g hg=>hb.block g (h.s3 _ (h.sg.1 g hg))) (fun x hx=>hb.block _ (h.s3 _ (h.sg.2 x hx)))
theorem ax.take {G:Gh} {St:Nat→Prop} {s:AS} {tmps:Array Value} {D:Nat} {Ds:List Nat} {w:World} (h:ax G St s { tmps:=tmps,defers:=oO D::Ds.map oO } w) :
  w.heap[D]?=some (.deferred (some []))∧ax G St s { tmps:=tmps,defers:=Ds.map oO } (w.putObj D (.deferred none)):=by
 have ⟨Ds',h1,h2,h3⟩:=h.df
 have h1:(D::Ds).map oO=Ds'.map oO:=h1
 have inj:∀ (l m:List Nat),l.map oO=m.map oO→l=m:=fun l=>by
  induction l with
  | nil=>intro m hm;cases m with|nil=>rfl|cons=>simp at hm
  | cons x l ih =>
   intro m hm
   cases m with
   | nil=>simp at hm
   | cons y m =>
    simp only [Z6,b8x] at hm
    have e:x=y:=by
     have:=ZV Deferred.target hm.1
     simp only [oO,Target.collected.injEq] at this
     exact this
    rw [e,ih m hm.2]
 have e:=inj _ _ h1
 subst e
 obtain ⟨⟨hS,hD⟩,hb,hg,ha⟩:=h3 D (ZU ..)
 have hold:∀ b,b≠D→(w.putObj D (.deferred none)).heap[b]?=w.heap[b]?:=fun b hb=>World.putObj_heap_other hb
 have hrow:∀ (b:Nat) cur t z,w.heap[b]?=some (.cells cur t z)→b≠D:=fun b cur t z hc e=>by rw [e,hD] at hc;cases hc
 have he:rc St w (w.putObj D (.deferred none)):=⟨fun b cur t z _ hc=>(hold b (hrow b cur t z hc)).trans hc,fun b cur t z hc=>⟨cur,z,(hold b (hrow b cur t z hc)).trans hc,rfl⟩⟩
 refine ⟨hD,⟨Ds,rfl,(bQx.1 h2).2,fun E hE=>?_⟩,h.sz,fun d=>aP.evo he (fun _ x=>x) _ _ (h.env d),⟨h.un.os,h.un.tape,h.un.output,by simp [h.un.size],fun k hk hF=>(hold k O).trans (h.un.block k hk hF),fun b cur t z hc=>?_⟩,h.s1,h.s2,fun b hb=>by simpa using h.s3 b hb,?_,?_,h.sg⟩
 ·obtain ⟨⟨k1,k2⟩,k3⟩:=h3 E (Z2 _ hE)
  exact ⟨⟨k1,(hold E (fun e=>(bQx.1 h2).1 (e ▸ hE))).trans k2⟩,k3⟩
 ·have ⟨cur',z',k1,k2⟩:=h.un.sh b cur t z hc
  exact ⟨cur',z',(hold b (hrow b _ _ _ k1)).trans k1,k2⟩
 ·have ⟨fp,hp⟩:=h.hp
  have hne:∀ i b,fp i b→b≠D:=fun i b hF e=>(hp.own i b hF).2.1 (e ▸ hS)
  exact ⟨fp,fun i g r hi=>aW.rep_evo he (fun _ x=>x) (fun b hF=>hold b (hne i b hF)) (hp.rep i g r hi),hp.dis,fun i b hF=>by simpa using hp.own i b hF,hp.out⟩
 exact gc.keep h.sn (fun g hg'=>hold g (fun e=>hg (e ▸ hg'))) (fun x hx=>hold _ (ha x hx))
theorem wm.ext {G:Gh} {s:AS} {a:Act} {w w':World} (h:wm G s a w) (hb:Below w.heap.size w w'):wm G s a w':=h.imp fun _ h=>h.ext hb
def aa (x y:CV):Prop:=∀ al St w v,aP al St w x v→aP al St w y v
theorem aa.refl (x:CV):aa x x:=fun _ _ _ _ h=>h
theorem Z {v:CV}:aa v v:=aa.refl v
theorem aa.top (x:CV):aa x .top:=fun _ _ _ _ _=>trivial
theorem aa.of_eq {x y:CV} (h:x=y):aa x y:=h ▸ aa.refl x
theorem aa.trans {x y z:CV} (h:aa x y) (k:aa y z):aa x z:=fun al St w v hr=>k al St w v (h al St w v hr)
theorem aa.nil:aa (.c .nilIface) (.err 0):=fun _ _ _ _ h=>h
theorem aa.nilS (k:Nat) (f:Nat→Nat→CV):aa (.c (.slice none 0 0)) (.rs k 0 f):=fun _ _ _ _ h=>⟨none,0,h,ZA _,by decide,fun _=>rfl,fun _ ha=>by cases ha⟩
theorem aa.rs {k n m:Nat} {f g:Nat→Nat→CV} (hn:n=m) (h:∀ i j,i<n→j<k→aa (f i j) (g i j)):aa (.rs k n f) (.rs k m g):=by
 subst hn
 rintro al St w v ⟨ao,cap,h1,h2,h3,h4,h5⟩
 refine ⟨ao,cap,h1,h2,h3,h4,fun a ha hn=>?_⟩
 have ⟨h6,h7,h8⟩:=h5 a ha hn
 refine ⟨h6,h7,fun i j hi hj=>?_⟩
 have ⟨v,hv,hr⟩:=h8 i j hi hj
 exact ⟨v,hv,h i j hi hj _ _ _ _ hr⟩
theorem aa.agg {n m:Nat} {f g:Nat→CV} (hn:n=m) (h:∀ i,i<n→aa (f i) (g i)):aa (.agg n f) (.agg m g):=by
 subst hn
 rintro al St w v ⟨cs,h1,h2,h3⟩
 exact ⟨cs,h1,h2,fun i hi=>h i hi _ _ _ _ (h3 i hi)⟩
theorem aa.tup {n m:Nat} {f g:Nat→CV} (hn:n=m) (h:∀ i,i<n→aa (f i) (g i)):aa (.tup n f) (.tup m g):=by
 subst hn
 rintro al St w v ⟨cs,h1,h2,h3⟩
 exact ⟨cs,h1,h2,fun i hi=>h i hi _ _ _ _ (h3 i hi)⟩
def fl (l:List CV) (i:Nat):CV:=match l,i with|[],_=>.top|x::_,0=>x|_::r,i+1=>fl r i
inductive o6:List CV→List CV→Prop where
 | nil:o6 [] []
 | cons {x y:CV} {l m:List CV} (h:aa x y) (t:o6 l m):o6 (x::l) (y::m)
inductive bh (env:List (Nat×CV)) (b:Nat→CV):List (Nat×CV)→Prop where
 | nil:bh env b []
 | cons {d:Nat} {v:CV} {r:List (Nat×CV)} (h:aa (look env b d) v) (t:bh env b r):bh env b ((d,v)::r)
theorem bh.look {env:List (Nat×CV)} {b b':Nat→CV} {env':List (Nat×CV)} (h:bh env b env') (hb:∀ d,(∀ v,(d,v) ∉ env')→aa (look env b d) (b' d)):∀ d,aa (look env b d) (look env' b' d):=by
 have key:∀ l,bh env b l→∀ d,(∃ v,(d,v) ∈ l)→aa (Am.look env b d) (Am.look l b' d):=by
  intro l hl
  induction hl with
  | nil=>intro d ⟨v,hv⟩;cases hv
  | @cons e v r h1 _ ih =>
   intro d ⟨u,hu⟩
   by_cases hed:e=d
   ·subst hed;rw [fx];exact h1
   ·rw [dr _ _ _ hed]
    refine ih d ⟨u,?_⟩
    rcases Z9.1 hu with h2|h2
    ·cases h2;exact absurd rfl hed
    exact h2
 have key2:∀ l:List (Nat×CV),∀ d,(∀ v,(d,v) ∉ l)→Am.look l b' d=b' d:=by
  intro l
  induction l with
  | nil=>intro d _;rfl
  | cons x r ih =>
   intro d hd
   have ⟨e,v⟩:=x
   have hed:e≠d:=fun h=>hd v (by rw [h];exact ZU ..)
   rw [dr _ _ _ hed]
   exact ih d fun u hu=>hd u (Z2 _ hu)
 intro d
 by_cases hd:∃ v,(d,v) ∈ env'
 exact key env' h d hd
 ·have hd':∀ v,(d,v) ∉ env':=fun v hv=>hd ⟨v,hv⟩
  rw [key2 env' d hd']
  exact hb d hd'
theorem ax.ent {G:Gh} {St:Nat→Prop} {env env':List (Nat×CV)} {b b':Nat→CV} {H:List (Option Nat×aW)} {a:Act} {w:World} (h:ax G St ⟨env,b,H⟩ a w) (he:∀ d,aa (look env b d) (look env' b' d)):ax G St ⟨env',b',H⟩ a w :=
 ⟨h.df,h.sz,fun d=>he d _ _ _ _ (h.env d),h.un,h.s1,h.s2,h.s3,h.hp,h.sn,h.sg⟩
def il (H:List (Option Nat×aW)) (l:List Nat):List (Option Nat×aW):=l.map fun j=>H.getD j (none,.dead)
theorem cY.pick {al:List Addr} {St:Nat→Prop} {w:World} {base:Nat} {F0:Nat→Prop} {H H':List (Option Nat×aW)} (h:cY al St w base F0 H) (l:List Nat) (hl:l.Nodup) (hH:il H l=H'):cY al St w base F0 H':=by
 have ⟨fp,hp⟩:=h
 subst hH
 refine ⟨fun i b=>∃ j,l[i]?=some j∧fp j b,fun i g r hi=>?_,fun i j b ⟨p,hp1,hp2⟩ ⟨q,hq1,hq2⟩=>?_,fun i b ⟨p,_,hp2⟩=>hp.own p b hp2,fun i hi b ⟨p,hp1,_⟩=>?_⟩
 ·simp only [il,aBx,ZG] at hi
  have ⟨j,hj,he⟩:=hi
  have e:(fun b=>∃ q,l[i]?=some q∧fp q b)=fp j:=funext fun b=>propext ⟨fun ⟨q,h1,h2⟩=>by rw [hj] at h1;cases h1;exact h2,fun h=>⟨j,hj,h⟩⟩
  show r.rep al St w (fun b=>∃ q,l[i]?=some q∧fp q b) g
  rw [e]
  by_cases hlt:j<H.length
  ·refine hp.rep j g r ?_
   rw [ZM hlt,← he]
   simp [hlt]
  ·rw [ZB,Z0 O] at he
   cases he
   exact fun b hb=>hp.out j O b hb
 ·have:=hp.dis p q b hp2 hq2
  subst this
  have hi:=(ZC.1 hp1).1
  exact (cCx hi hl).1 (hp1.trans hq1.symm)
 ·simp only [il,axx] at hi
  rw [Z0 hi] at hp1
  cases hp1
inductive aD:List (Option Nat×aW)→List (Option Nat×aW)→Prop where
 | nil:aD [] []
 | same {x:Option Nat×aW} {l m:List (Option Nat×aW)} (t:aD l m):aD (x::l) (x::m)
 | blk {g:Option Nat} {n N:Nat} {f F:Nat→CV} {l m:List (Option Nat×aW)} (hn:n=N) (hF:∀ j,j<N→aa (f j) (F j)) (t:aD l m):aD ((g,.blk n f)::l) ((g,.blk N F)::m)
 | dead {g:Option Nat} {r:aW} {l m:List (Option Nat×aW)} (hr:∀ al St w F,aW.rep al St w F g r→∀ b,¬ F b) (t:aD l m):aD ((g,r)::l) ((g,.dead)::m)
theorem aD.refl:∀ l:List (Option Nat×aW),aD l l
 | []=>.nil
 | _::r=>.same (aD.refl r)
theorem aD.at {l m:List (Option Nat×aW)} (h:aD l m):l.length=m.length∧∀ (i:Nat) (g:Option Nat) (r':aW),m[i]?=some (g,r')→∃ r,l[i]?=some (g,r)∧∀ al St w F,aW.rep al St w F g r→aW.rep al St w F g r':=by
 induction h with
 | nil=>exact ⟨rfl,fun i g r h=>by simp at h⟩
 | same _ ih =>
  refine ⟨by simp [ih.1],fun i g r h=>?_⟩
  match i,h with
  | 0,h=>exact ⟨r,h,fun _ _ _ _ h=>h⟩
  | i+1,h=>exact ih.2 i g r h
 | @blk g0 n N f F l m hn hF _ ih =>
  subst hn
  refine ⟨by simp [ih.1],fun i g r h=>?_⟩
  match i,h with
  | 0,h =>
   simp at h
   obtain ⟨rfl,rfl⟩:=h
   refine ⟨.blk n f,rfl,fun al St w F1 h=>?_⟩
   cases g0 with
   | none=>exact h
   | some g =>
    have ⟨h1,cur,t,h2,h3,h4⟩:=h
    exact ⟨h1,cur,t,h2,h3,fun j hj=>hF j hj _ _ _ _ (h4 j hj)⟩
  | i+1,h=>exact ih.2 i g r h
 | @dead g0 r0 l m hr _ ih =>
  refine ⟨by simp [ih.1],fun i g r h=>?_⟩
  match i,h with
  | 0,h =>
   simp at h
   obtain ⟨rfl,rfl⟩:=h
   refine ⟨r0,rfl,fun al St w F1 h=>?_⟩
   have:=hr al St w F1 h
   cases g0<;>exact this
  | i+1,h=>exact ih.2 i g r h
theorem cY.hent {al:List Addr} {St:Nat→Prop} {w:World} {base:Nat} {F0:Nat→Prop} {H H':List (Option Nat×aW)} (h:cY al St w base F0 H) (he:aD H H'):cY al St w base F0 H':=by
 have ⟨fp,hp⟩:=h
 have ⟨h1,h2⟩:=he.at
 exact ⟨fp,fun i g r hi=>by
  have ⟨r0,h3,h4⟩:=h2 i g r hi
  exact h4 _ _ _ _ (hp.rep i g r0 h3),hp.dis,hp.own,fun i hi=>hp.out i O⟩
theorem cY.none (al:List Addr) (St:Nat→Prop) (w:World) (base:Nat) (F0:Nat→Prop):cY al St w base F0 [] :=
 ⟨fun _ _=>False,fun i g r hi=>by simp at hi,fun _ _ _ h=>h.elim,fun _ _ h=>h.elim,fun _ _ _ h=>h⟩
end Am
end Go.Proofs.YtghminnpfnkbjaaGreatDoor
