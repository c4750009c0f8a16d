/- What the law leans on, part 1: Base, Reg, Reg2, Reg3, Reg4, Reg5, Am1 -/
import Derived.Test.YtghminnpfnkbjaaGreatDoorChecked
import Derived.WalkKit
import Derived.WalkLawsBesides
import Derived.WalkSpells
import Derived.Outline
import Derived.Handy
import Derived.Deep.QuietTactic
import Derived.Deep.Draws
import Derived.BigQuiet
import Derived.Lib.Hide
import Derived.LaidEql
import Derived.Laws.IdiomStrings
import Derived.WideLaws
import Derived.Shelf.Unicode.DecodeSlow
import Derived.OrdersHeld
import Derived.Deep.RegionHeld3
import Derived.RangeFuncNested
import Derived.OrdersIn
import Derived.RangeFuncCalls
import Derived.RangeFuncLeaves
import Derived.RangeFuncRecord

set_option maxRecDepth 100000
namespace Go.Proofs
abbrev Z:=List UInt8
abbrev YD:=List Z
abbrev YE:=@if_neg
abbrev YF:=@if_pos
abbrev YG:=@Nat.le_refl
abbrev YH:=@List.getD_eq_getElem?_getD
abbrev YI:=@List.length_append
abbrev YJ:=@List.getElem?_eq_some_iff
abbrev YK:=@Bool.and_eq_true
abbrev YL:=@List.getElem?_append_left
abbrev YM:=@Option.map_eq_some_iff
abbrev YN:=@List.length_drop
abbrev YO:=@List.take_succ_eq_append_getElem
abbrev YP:=@decide_eq_true_eq
abbrev YR:=@List.getElem?_eq_getElem
abbrev YS:=@List.length_take
abbrev YT:=@Nat.zero_le
abbrev YU:=@Nat.le_of_ble_eq_true
abbrev YV:=@Array.getElem?_eq_getElem
abbrev YW:=@Nat.not_lt_zero
abbrev YX:=@List.getElem?_append_right
abbrev YY:=@UInt8.toNat_ofNat'
abbrev YZ:=@List.getElem?_set_ne
abbrev Y0:=@List.take_of_length_le
abbrev Y1:=@List.eq_nil_of_length_eq_zero
abbrev Y2:=@List.mem_cons_self
abbrev Y3:=@congrArg
abbrev Y4:=@Array.getElem?_eq_some_iff
abbrev Y5:=@List.drop_eq_getElem_cons
abbrev Y6:=@List.getElem?_eq_none
abbrev Y7:=@List.mem_cons_of_mem
abbrev Y8:=@List.all_eq_true
abbrev Y9:=@Option.some.inj
abbrev Za:=@List.take_length
abbrev Zb:=@List.append_assoc
abbrev Zc:=@List.map_cons
abbrev Zd:=@Nat.le_trans
abbrev Ze:=@Nat.mul_one
abbrev Zf:=@Nat.lt_of_lt_of_le
abbrev Zg:=@List.mem_cons
abbrev Zh:=@List.length_pos_iff
abbrev Zi:=@Option.some.injEq
abbrev Zj:=@decide_eq_true
abbrev Zk:=@UInt8.toNat_lt
abbrev Zl:=@decide_eq_false
abbrev Zm:=@Nat.eq_of_beq_eq_true
abbrev Zn:=@Array.getElem?_setIfInBounds_ne
abbrev Zo:=@List.not_mem_nil
abbrev Zp:=@List.length_eq_zero_iff
abbrev Zq:=@UInt8.toNat_inj
abbrev Zr:=@Bool.true_and
abbrev Zs:=@List.mem_singleton
abbrev Zt:=@Nat.add_zero
abbrev Zu:=@List.take_append_drop
abbrev Zv:=@List.flatten_cons
abbrev Zw:=@Option.getD_some
abbrev Zx:=@Bool.or_eq_true
abbrev Zy:=@List.length_map
abbrev Zz:=@Int.fdiv_eq_ediv_of_nonneg
abbrev ZA:=@Nat.pow_le_pow_right
abbrev ZB:=@List.getElem?_map
abbrev ZC:=@List.length_singleton
abbrev ZD:=@Array.getD_eq_getD_getElem?
abbrev ZE:=@List.drop_eq_nil_of_le
abbrev ZF:=@List.mem_of_getElem?
abbrev ZG:=@Nat.mul_le_mul_right
abbrev ZH:=@List.append_nil
abbrev ZI:=@Array.getElem?_append_left
abbrev ZJ:=@Bool.and_false
abbrev ZK:=@List.getElem?_cons_zero
abbrev ZL:=@List.getElem?_replicate
abbrev ZM:=@Nat.shiftRight_eq_div_pow
abbrev ZN:=@Nat.div_one
abbrev ZO:=@Nat.ble_eq_true_of_le
abbrev ZP:=@Nat.sub_zero
abbrev ZQ:=@Nat.zero_mul
abbrev ZR:=@Nat.le_of_eq
abbrev ZS:=@List.getElem_mem
abbrev ZT:=@decide_eq_false_iff_not
abbrev ZU:=@Array.getElem?_eq_none
abbrev ZV:=@List.getElem?_take
abbrev ZW:=@List.length_set
abbrev ZX:=@List.drop_drop
abbrev ZY:=@List.flatten_append
abbrev ZZ:=@beq_iff_eq
abbrev Z0:=@Nat.mod_lt
abbrev Z1:=@Nat.lt_or_ge
abbrev Z2:=@Nat.add_sub_cancel_left
abbrev Z3:=@List.map_append
abbrev Z4:=@Classical.byContradiction
abbrev Z5:=@Classical.not_not
abbrev Z6:=@List.all_cons
abbrev Z7:=@List.dropLast_concat_getLast
abbrev Z8:=@Nat.mod_eq_of_lt
abbrev Z9:=@List.map_map
abbrev aax:=@of_decide_eq_true
abbrev abx:=@List.reverse_cons
abbrev acx:=@List.getElem_of_mem
abbrev adx:=@Nat.add_mul
abbrev aex:=@Array.getElem?_modify
abbrev afx:=@List.getElem?_drop
abbrev agx:=@List.ext_getElem
abbrev ahx:=@Nat.lt_of_lt_of_eq
abbrev aix:=@Nat.shiftLeft_eq
abbrev ajx:=@List.getElem?_cons_succ
abbrev akx:=@List.mem_append
abbrev alx:=@List.filterMap_cons
abbrev amx:=@List.getD_cons_zero
abbrev anx:=@List.getD_cons_succ
abbrev aox:=@Array.getElem?_append_right
abbrev apx:=@List.drop_length
abbrev aqx:=@List.mem_range
abbrev arx:=@Nat.eq_zero_or_pos
abbrev asx:=@List.getElem?_toArray
abbrev atx:=@List.contains_iff_mem
abbrev aux:=@List.mem_append_right
abbrev avx:=@List.length_replicate
abbrev awx:=@Option.map_some
abbrev axx:=@Bool.eq_iff_iff
abbrev ayx:=@List.getElem?_append
abbrev azx:=@Int.toNat_natCast
abbrev aAx:=@List.map_nil
abbrev aBx:=@List.mem_map
abbrev aCx:=@UInt8.ofNat_toNat
abbrev aDx:=@Array.setIfInBounds_comm
abbrev aEx:=@List.getElem?_range
abbrev aFx:=@List.length_reverse
abbrev aGx:=@List.map_congr_left
abbrev aHx:=@Int.toNat_of_nonneg
abbrev aIx:=@List.any_eq_true
abbrev aJx:=@Nat.and_two_pow_sub_one_eq_mod
abbrev aKx:=@List.flatten_nil
abbrev aLx:=@List.take_append_of_le_length
abbrev aMx:=@Nat.shiftLeft_add_eq_or_of_lt
abbrev aNx:=@Nat.sub_self
abbrev aOx:=@Bool.false_eq_true
abbrev aPx:=@List.set_set
abbrev aQx:=@List.nodup_cons
abbrev aRx:=@List.foldl_cons
abbrev aSx:=@List.range_succ
abbrev aTx:=@List.all_append
abbrev aUx:=@Nat.two_pow_pos
abbrev aVx:=@List.mem_iff_getElem?
abbrev aWx:=@Bool.not_eq_true'
abbrev aXx:=@List.ext_getElem?
abbrev aYx:=@List.mem_iff_getElem
abbrev aZx:=@List.foldl_nil
abbrev a0x:=@Nat.mul_comm
abbrev a1x:=@Int.natCast_ediv
abbrev a2x:=@Bool.or_eq_true_iff
abbrev a3x:=@List.cons.injEq
abbrev a4x:=@UInt8.toNat_xor
abbrev a5x:=@Nat.lt_of_le_of_lt
abbrev a6x:=@Nat.pow_succ
abbrev a7x:=@Nat.lt_trichotomy
abbrev a8x:=@List.take_zero
abbrev a9x:=@List.getElem?_set
abbrev bax:=@Bool.eq_false_iff
abbrev bbx:=@Nat.eq_zero_of_not_pos
abbrev bcx:=@Bool.false_and
abbrev bdx:=@Array.getElem?_toList
abbrev bex:=@List.getElem?_reverse
abbrev bfx:=@List.singleton_append
abbrev bgx:=@Nat.le_of_not_lt
abbrev bhx:=@Nat.add_assoc
abbrev bix:=@Nat.div_lt_of_lt_mul
abbrev bjx:=@Array.getElem_toList
abbrev bkx:=@Nat.pow_add
abbrev blx:=@Prod.ext
abbrev bmx:=@List.set_append_left
abbrev bnx:=@List.mem_of_mem_take
abbrev bpx:=@Nat.mod_one
abbrev bqx:=@Nat.eq_of_testBit_eq
abbrev brx:=@List.drop_append_of_le_length
abbrev bsx:=@List.mem_filter
abbrev btx:=@List.reverse_append
abbrev bux:=@Array.any_eq_true'
abbrev bvx:=@Nat.pos_of_ne_zero
abbrev bwx:=@Bool.not_false
abbrev bxx:=@List.drop_zero
abbrev byx:=@List.mem_or_eq_of_mem_set
abbrev bzx:=@List.getElem?_inj
abbrev bAx:=@not_false_eq_true
abbrev bBx:=@List.any_eq_false
abbrev bCx:=@List.foldl_append
abbrev bDx:=@Int.lt_trichotomy
abbrev bEx:=@List.sum_cons
abbrev bFx:=@List.set_comm
abbrev bGx:=@Option.isSome_iff_exists
abbrev bHx:=@ByteArray.mk.inj
abbrev bIx:=@decide_false
abbrev bJx:=@Nat.mul_zero
abbrev bKx:=@Nat.ne_of_beq_eq_false
abbrev bLx:=@Bool.not_not
abbrev bMx:=@Nat.div_div_eq_div_mul
abbrev bNx:=@Array.mk.inj
abbrev bOx:=@Nat.eq_zero_of_le_zero
abbrev bPx:=@Option.any_some
abbrev bQx:=@Int.natCast_mul
abbrev bRx:=@Nat.div_le_self
abbrev bSx:=@Nat.min_eq_left
abbrev bTx:=@Nat.testBit_xor
abbrev bUx:=@List.nodup_nil
abbrev bVx:=@List.idxOf_cons_self
abbrev bWx:=@List.getElem_reverse
abbrev bXx:=@List.map_id
abbrev bYx:=@and_true
abbrev bZx:=@List.mem_of_mem_drop
abbrev b0x:=@dif_neg
abbrev b1x:=@Array.length_toList
abbrev b2x:=@List.drop_succ_cons
abbrev b3x:=@Prod.mk.injEq
abbrev b4x:=@Nat.add_comm
abbrev b5x:=@Nat.succ_mul
abbrev b6x:=@Int.le_of_lt
abbrev b7x:=@Nat.one_mul
end Go.Proofs
namespace Go.Proofs.YtghminnpfnkbjaaGreatDoor
set_option linter.unusedVariables false
theorem O {p:Prop} (h:p:=by omega):p:=h
theorem jD {p:Prop} (h:p:=by decide):p:=h
theorem jK {c:Prop} {i:Decidable c} {α:Sort _} {a b:α} (h:¬c:=by omega):@ite α c i a b=b:=YE h
theorem jP {c:Prop} {i:Decidable c} {α:Sort _} {a b:α} (h:c:=by omega):@ite α c i a b=a:=YF h
open Go.RowKit

theorem D7 {B:Nat} {a w:World} (h:Below B a w) (n:Nat):Below B a (w.drewN n):=⟨h.os,h.tape,h.output,h.size,h.block⟩
theorem oo {a b c:World} (h:Below a.heap.size a b) (k:Below b.heap.size b c):Below a.heap.size a c:=h.trans (k.mono h.size)
theorem jV {a b:World} (h:Below a.heap.size a b) {p:Addr} {v:Value} (hc:a.cell? p=some v):b.cell? p=some v :=
 (h.cell (World.block_lt_of_cell? a p hc)).trans hc

theorem As {P:Program} {ops:Array Oper} {Q:Exit→Act→World→Prop} {rest:List Oper} {o:Oper} {a:Act} {w:World} (v:Value) (w':World)
  (hg:o.guard=none) (hr:(execOp a.eval o).run P w=.ok (.value v) w') (hK:wpList P ops Q rest (a.put o.dst v) w'):wpList P ops Q (o::rest) a w :=
 wpList_plain hg fun K hk=>by
  unfold Oper.wp
  rw [hr]
  exact hk _ _ hK

def Bs (w:World) (v:Value) (l:Z):Prop :=
 ∃ ao cap,v=.slice ao l.length cap∧l.length≤cap∧cap≤9223372036854775807∧(ao=none→cap=0) ∧
  ∀ x,ao=some x→(0<l.length→x.spot=none)∧∀ i,i<l.length→w.cell? ⟨x.block,x.off+i,none⟩=some (.int .u8 (l.getD i 0).toNat)

theorem Bs.below {a b:World} {v:Value} {l:Z} (h:Bs a v l) (k:Below a.heap.size a b):Bs b v l:=by
 obtain ⟨ao,cap,rfl,h1,h2,h3,h4⟩:=h
 exact ⟨ao,cap,rfl,h1,h2,h3,fun x hx=>⟨(h4 x hx).1,fun i hi=>jV k ((h4 x hx).2 i hi)⟩⟩

theorem Bs.cons {w:World} {v:Value} {l:Z} (h:Bs w v l) (hl:0<l.length) :
  ∃ b o cap,v=.slice (some ⟨b,o,none⟩) l.length cap∧l.length≤cap∧cap≤9223372036854775807∧∀ i,i<l.length→w.cell? ⟨b,o+i,none⟩=some (.int .u8 (l.getD i 0).toNat):=by
 obtain ⟨ao,cap,rfl,h1,h2,h3,h4⟩:=h
 cases ao with
 | none=>have:=h3 rfl;omega
 | some x =>
  obtain ⟨b,o,sp⟩:=x
  obtain ⟨hs,hc⟩:=h4 _ rfl
  have hs:=hs hl
  simp only at hs
  subst hs
  exact ⟨b,o,cap,rfl,h1,by omega,hc⟩

theorem Bs.len {w:World} {ao:Option Addr} {n cap:Nat} {l:Z} (h:Bs w (.slice ao n cap) l):n=l.length:=by
 obtain ⟨_,_,e,_⟩:=h
 injection e

theorem Bs.nil (w:World):Bs w (.slice none 0 0) []:=⟨none,0,rfl,by simp,by simp,fun _=>rfl,fun x h=>by cases h⟩

theorem Bs.of_cells {w:World} {b o cap:Nat} {l:Z} (h1:l.length≤cap) (h2:cap≤9223372036854775807)
  (h:∀ i,i<l.length→w.cell? ⟨b,o+i,none⟩=some (.int .u8 (l.getD i 0).toNat)):Bs w (.slice (some ⟨b,o,none⟩) l.length cap) l :=
 ⟨_,cap,rfl,h1,h2,by simp,fun x hx=>by cases hx;exact ⟨fun _=>rfl,h⟩⟩

theorem Bs.piece {w:World} {ao:Option Addr} {n cap:Nat} {l:Z} (h:Bs w (.slice ao n cap) l) (lo hi:Nat) (h1:lo≤hi) (h2:hi≤n) :
  Bs w (.slice (if cap=lo then ao else ao.map (·.add lo)) (hi-lo) (cap-lo)) ((l.take hi).drop lo):=by
 obtain ⟨ao',cap',e,h3,h4,h5,h6⟩:=h
 injection e with e1 e2 e3
 subst e1 e2 e3
 have hlen:((l.take hi).drop lo).length=hi-lo:=by simp;omega
 refine ⟨_,_,by rw [hlen],by rw [hlen];omega,by omega,?_,?_⟩
 ·intro hn
  split at hn
  ·omega
  ·have:ao=none:=by simpa using hn
   have:=h5 this
   omega
 ·intro x hx
  split at hx
  ·have hz:hi-lo=0:=by omega
   exact ⟨fun h=>by rw [hlen] at h;omega,fun i hi'=>by rw [hlen] at hi';omega⟩
  ·obtain ⟨y,rfl,rfl⟩:=YM.1 hx
   obtain ⟨hs,hc⟩:=h6 y rfl
   obtain ⟨b,o,sp⟩:=y
   by_cases hz:hi-lo=0
   ·exact ⟨fun h=>by rw [hlen] at h;omega,fun i hi'=>by rw [hlen] at hi';omega⟩
   have hs:=hs O
   simp only at hs
   subst hs
   rw [Addr.add_lit]
   refine ⟨fun _=>rfl,fun i hi'=>?_⟩
   rw [hlen] at hi'
   show w.cell? ⟨b,o+lo+i,none⟩=_
   rw [bhx,hc (lo+i) O]
   simp [List.getD,show lo+i<hi by omega]

theorem Bs.from {w:World} {ao:Option Addr} {n cap:Nat} {l:Z} (h:Bs w (.slice ao n cap) l) (lo:Nat) (h2:lo≤n) :
  Bs w (.slice (if cap=lo then ao else ao.map (·.add lo)) (n-lo) (cap-lo)) (l.drop lo):=by
 have:=h.piece lo n h2 (YG _)
 have e:l.take n=l:=by rw [h.len,Za]
 rwa [e] at this

theorem ik {P:Program} {w:World} {ao:Option Addr} {n cap:Nat} {l:Z} (h:Bs w (.slice ao n cap) l) (src dst e:TypeId)
  (hs:P.underlying src=some (.slice e)) (he:P.underlying e=some (.int .u8)) (hd:P.underlying dst=some .string) :
  (convert src dst (.slice ao n cap)).run P w=.ok (.string ⟨l.toArray⟩) w:=by
 obtain ⟨ao',cap',e0,h3,h4,h5,h6⟩:=h
 injection e0 with e1 e2 e3
 subst e1 e2 e3
 cases ao with
 | none =>
  have:=h5 rfl
  have hl:l=[]:=Y1 O
  subst hl
  rw [run_convert_bytes_string w src dst e none _ cap hs he hd]
  rfl
 | some x =>
  obtain ⟨b,o,sp⟩:=x
  obtain ⟨hsp,hc⟩:=h6 _ rfl
  exact run_convert_bytes_back w src dst e ⟨b,o,sp⟩ cap l hs he hd fun j hj=>by
   have hsp:=hsp O
   simp only at hsp
   subst hsp
   rw [Addr.add_lit,hc j hj]
   simp [List.getD,hj]

def ev (al:List Addr) (k:Nat):Value:=if k=0 then .nilIface else .iface 338 (.pointer al[k-1]?)

def uV:Nat:=30
def uU:Nat:=31
def Am.kL:List Nat:=[0x428a2f98,0x71374491,0xb5c0fbcf,0xe9b5dba5,0x3956c25b,0x59f111f1,0x923f82a4,0xab1c5ed5,
 0xd807aa98,0x12835b01,0x243185be,0x550c7dc3,0x72be5d74,0x80deb1fe,0x9bdc06a7,0xc19bf174,
 0xe49b69c1,0xefbe4786,0x0fc19dc6,0x240ca1cc,0x2de92c6f,0x4a7484aa,0x5cb0a9dc,0x76f988da,
 0x983e5152,0xa831c66d,0xb00327c8,0xbf597fc7,0xc6e00bf3,0xd5a79147,0x06ca6351,0x14292967,
 0x27b70a85,0x2e1b2138,0x4d2c6dfc,0x53380d13,0x650a7354,0x766a0abb,0x81c2c92e,0x92722c85,
 0xa2bfe8a1,0xa81a664b,0xc24b8b70,0xc76c51a3,0xd192e819,0xd6990624,0xf40e3585,0x106aa070,
 0x19a4c116,0x1e376c08,0x2748774c,0x34b0bcb5,0x391c0cb3,0x4ed8aa4a,0x5b9cca4f,0x682e6ff3,
 0x748f82ee,0x78a5636f,0x84c87814,0x8cc70208,0x90befffa,0xa4506ceb,0xbef9a3f7,0xc67178f2]
def Am.firstL:List Nat:=[0x6a09e667,0xbb67ae85,0x3c6ef372,0xa54ff53a,0x510e527f,0x9b05688c,0x1f83d9ab,0x5be0cd19]
def oH:List (Nat×List Value):=[(29,Am.firstL.map fun (n:Nat)=>.int .u32 n),(32,Am.kL.map fun (n:Nat)=>.int .u32 n)]
def NB (g:Nat):Bool:=Nat.beq g uV || Nat.beq g uU || oH.any fun t=>Nat.beq g t.1
def nk (gs:List Nat):List Nat:=gs.filter fun g=>!NB g
def pn (gs:List Nat):List Nat:=gs.filter fun g=>Nat.blt g 1000000000
theorem si {gs:List Nat} {g:Nat}:g ∈ pn gs↔g ∈ gs∧g<1000000000:=by simp [pn]
structure gc (w:World) (gs:List Nat) (al:List Addr):Prop where
 len:al.length=(nk gs).length
 nd:∀ (i j g g':Nat),(nk gs)[i]?=some g→g ∈ pn gs→(nk gs)[j]?=some g'→g' ∈ pn gs→al[i]?=al[j]?→i=j
 var:∀ i g,(nk gs)[i]?=some g→g ∈ pn gs→w.cell? ⟨g,0,none⟩=some (ev al (i+1))
 row:∀ a ∈ al,∃ c t,w.heap[a.block]?=some (.cells c t (0,0))
 tab:uV ∈ pn gs→uU ∈ pn gs→Lib.Utf8Tabs uV uU w
 tbl:∀ t ∈ oH,t.1 ∈ pn gs→∀ (i:Nat) (v:Value),t.2[i]?=some v→w.cell? ⟨t.1,i,none⟩=some v
 lt:∀ g ∈ pn gs,g<w.heap.size
theorem Hz {w w':World} {g3 g4:Nat} (h:Lib.Utf8Tabs g3 g4 w) (h1:∀ o,w'.cell? ⟨g3,o,none⟩=w.cell? ⟨g3,o,none⟩) (h2:∀ o,w'.cell? ⟨g4,o,none⟩=w.cell? ⟨g4,o,none⟩):Lib.Utf8Tabs g3 g4 w' :=
 ⟨fun c hc=>(h1 c).trans (h.1 c hc),fun i hi=>⟨(h2 _).trans (h.2 i hi).1,(h2 _).trans (h.2 i hi).2⟩⟩
theorem gc.below {a b:World} {gs:List Nat} {al:List Addr} (h:gc a gs al) (k:Below a.heap.size a b):gc b gs al :=
 ⟨h.len,h.nd,fun i g hi hl=>jV k (h.var i g hi hl),fun x hx=>by
  obtain ⟨c,t,hc⟩:=h.row x hx
  exact ⟨c,t,by rw [k.block x.block (Y4.1 hc).1];exact hc⟩,fun h1 h2=>Utf8Tabs_below (h.tab h1 h2) k,fun t ht hl i v hv=>jV k (h.tbl t ht hl i v hv),fun g hg=>Zf (h.lt g hg) k.size⟩

def gs:List Nat:=[0,1,2,3,4,5,6,7,8,9,10,11,12,13,14,15,16,17,18,19,20,21,22,23,24,25,26,27]
def XL:List Nat:=gs++[uV,uU]
class dK (l:List Nat):Prop where
 eq:nk l=gs
instance okG:dK gs:=⟨by decide⟩
instance okT:dK XL:=⟨by decide⟩
def WL:List Nat:=XL++oH.map (·.1)
instance okS:dK WL:=⟨by decide⟩
class sZ (l:List Nat):Prop where
 a:∀ t ∈ oH,t.1 ∈ pn l
abbrev SF (w:World) (al:List Addr):Prop:=gc w gs al
class dO (l:List Nat) (k:Nat):Prop where
 eq:(nk l)[k]?=gs[k]?
 lt:∀ g,gs[k]?=some g→g ∈ pn l
theorem cr {l:List Nat} [h:dK l] (k:Nat) (hk:(gs[k]?).any (fun g=>Nat.blt g 1000000000)=true):dO l k:=⟨by rw [dK.eq],fun g hg=>by
 rw [hg] at hk
 refine si.2 ⟨?_,YU hk⟩
 have h1:g ∈ nk l:=by rw [dK.eq];exact ZF hg
 exact (bsx.1 h1).1⟩
instance hasE0 {l:List Nat} [dK l]:dO l 0:=cr 0 jD
instance hasE1 {l:List Nat} [dK l]:dO l 1:=cr 1 jD
instance hasE2 {l:List Nat} [dK l]:dO l 2:=cr 2 jD
instance hasE3 {l:List Nat} [dK l]:dO l 3:=cr 3 jD
instance hasE4 {l:List Nat} [dK l]:dO l 4:=cr 4 jD
instance hasE5 {l:List Nat} [dK l]:dO l 5:=cr 5 jD
instance hasE6 {l:List Nat} [dK l]:dO l 6:=cr 6 jD
instance hasE7 {l:List Nat} [dK l]:dO l 7:=cr 7 jD
instance hasE8 {l:List Nat} [dK l]:dO l 8:=cr 8 jD
instance hasE9 {l:List Nat} [dK l]:dO l 9:=cr 9 jD
instance hasE10 {l:List Nat} [dK l]:dO l 10:=cr 10 jD
instance hasE11 {l:List Nat} [dK l]:dO l 11:=cr 11 jD
instance hasE12 {l:List Nat} [dK l]:dO l 12:=cr 12 jD
instance hasE13 {l:List Nat} [dK l]:dO l 13:=cr 13 jD
instance hasE14 {l:List Nat} [dK l]:dO l 14:=cr 14 jD
instance hasE15 {l:List Nat} [dK l]:dO l 15:=cr 15 jD
instance hasE16 {l:List Nat} [dK l]:dO l 16:=cr 16 jD
instance hasE17 {l:List Nat} [dK l]:dO l 17:=cr 17 jD
instance hasE18 {l:List Nat} [dK l]:dO l 18:=cr 18 jD
instance hasE19 {l:List Nat} [dK l]:dO l 19:=cr 19 jD
instance hasE20 {l:List Nat} [dK l]:dO l 20:=cr 20 jD
instance hasE21 {l:List Nat} [dK l]:dO l 21:=cr 21 jD
instance hasE22 {l:List Nat} [dK l]:dO l 22:=cr 22 jD
instance hasE23 {l:List Nat} [dK l]:dO l 23:=cr 23 jD
instance hasE24 {l:List Nat} [dK l]:dO l 24:=cr 24 jD
instance hasE25 {l:List Nat} [dK l]:dO l 25:=cr 25 jD
instance hasE26 {l:List Nat} [dK l]:dO l 26:=cr 26 jD
instance hasE27 {l:List Nat} [dK l]:dO l 27:=cr 27 jD
class Pk (l:List Nat):Prop where
 h0:dO l 0
 h3:dO l 3
instance ok2_0 {l:List Nat} [h:Pk l]:dO l 0:=h.h0
instance ok2_3 {l:List Nat} [h:Pk l]:dO l 3:=h.h3
instance ok2_all {l:List Nat} [dK l]:Pk l:=⟨inferInstance,inferInstance⟩
class gQ (l:List Nat):Prop where
 h0:dO l 0
 h1:dO l 1
 h2:dO l 2
 h3:dO l 3
 h4:dO l 4
 h5:dO l 5
 h6:dO l 6
 h7:dO l 7
 h23:dO l 23
instance ok9_0 {l:List Nat} [h:gQ l]:dO l 0:=h.h0
instance ok9_1 {l:List Nat} [h:gQ l]:dO l 1:=h.h1
instance ok9_2 {l:List Nat} [h:gQ l]:dO l 2:=h.h2
instance ok9_3 {l:List Nat} [h:gQ l]:dO l 3:=h.h3
instance ok9_4 {l:List Nat} [h:gQ l]:dO l 4:=h.h4
instance ok9_5 {l:List Nat} [h:gQ l]:dO l 5:=h.h5
instance ok9_6 {l:List Nat} [h:gQ l]:dO l 6:=h.h6
instance ok9_7 {l:List Nat} [h:gQ l]:dO l 7:=h.h7
instance ok9_23 {l:List Nat} [h:gQ l]:dO l 23:=h.h23
instance ok9_all {l:List Nat} [dK l]:gQ l:=⟨inferInstance,inferInstance,inferInstance,inferInstance,inferInstance,inferInstance,inferInstance,inferInstance,inferInstance⟩
instance ok9_two {l:List Nat} [gQ l]:Pk l:=⟨inferInstance,inferInstance⟩
theorem UX {l:List Nat} [dK l]:∀ g ∈ gs,g ∈ l:=fun g hg=>by
 rw [← dK.eq (l:=l)] at hg
 exact (bsx.1 hg).1
theorem nR {l:List Nat} [dK l] {g:Nat} (h:g ∈ pn gs):g ∈ pn l:=si.2 ⟨UX g (si.1 h).1,(si.1 h).2⟩
theorem gc.std {w:World} {l:List Nat} {al:List Addr} [dK l] (h:gc w l al):SF w al where
 len:=h.len.trans (by rw [dK.eq,dK.eq])
 nd:=fun i j g g' hi hl hj hl' e=>h.nd i j g g' (by rw [dK.eq] at hi ⊢;exact hi) (nR hl) (by rw [dK.eq] at hj ⊢;exact hj) (nR hl') e
 var:=fun i g hi hl=>h.var i g (by rw [dK.eq] at hi ⊢;exact hi) (nR hl)
 row:=h.row
 tab:=fun h1 h2=>h.tab (nR h1) (nR h2)
 tbl:=fun t ht hl=>h.tbl t ht (nR hl)
 lt:=fun g hg=>h.lt g (nR hg)

theorem G2 (al:List Addr):ev al 0=.nilIface:=rfl

@[go_sem] theorem jj (op:BinOp) (t:TypeId) (x:Operand) (c:Value) (al:List Addr) (k:Nat):eqGuard op t x (.const c) (ev al k) .nilIface=pure ():=by
 unfold ev
 split
 ·exact eqGuard_nil_constR op t x c
 ·exact eqGuard_at_iface op t x _ _ _ _
theorem nY:Tryz.prog.underlying 37=some (.interface (Tryz.prog.methodsAt 37)):=by kernel_rfl
@[go_sem] theorem o7 (al:List Addr) (k:Nat) (w:World):(binOp .eql 37 (ev al k) .nilIface).run Tryz.prog w=.ok (.bool (decide (k=0))) w:=by
 unfold ev
 split
 ·subst k
  exact run_eql_nil_nil w _ nY
 ·rename_i hk
  simp only [hk,bIx]
  exact run_eql_held_nil w _ _ _ nY
@[go_sem] theorem o5 (al:List Addr) (k:Nat) (w:World):(binOp .neq 37 (ev al k) .nilIface).run Tryz.prog w=.ok (.bool (!decide (k=0))) w:=by
 unfold ev
 split
 ·subst k
  exact run_neq_nil_nil w _ nY
 ·rename_i hk
  simp only [hk,bIx]
  exact run_neq_held_nil w _ _ _ nY
end Go.Proofs.YtghminnpfnkbjaaGreatDoor
namespace Go.Proofs.YtghminnpfnkbjaaGreatDoor
set_option linter.unusedVariables false
open Go.RowKit

def lC (w:World):Type:={ W:World // Below w.heap.size w W }
def lC.w {w:World} (n:lC w):World:=n.1
theorem lC.below {w:World} (n:lC w):Below w.heap.size w n.w:=n.2
instance (w:World):Nonempty (lC w):=⟨⟨w,Below.refl _ _⟩⟩
theorem lC.cell {w:World} {p:Addr} {v:Value} (h:w.cell? p=some v) (n:lC w):n.w.cell? p=some v:=jV n.below h
def lC.up {w W:World} (h:Below w.heap.size w W) (n:lC W):lC w:=⟨n.w,oo h n.below⟩

section
variable {P:Program} {ops:Array Oper} {Q:Exit→Act→World→Prop} {md:Region.Mode}

def mG (P:Program) (md:Region.Mode) (ops:Array Oper) (Q:Exit→Act→World→Prop):Nat→Array Bool→Act→World→Prop
 | 0,listed,a,w=>Region.ready md ops listed=[]∧∀ n:lC w,Q .normal a n.w
 | fuel+1,listed,a,w =>
  (Region.ready md ops listed=[]→∀ n:lC w,Q .normal a n.w) ∧
  ∀ i ∈ Region.ready md ops listed,∀ n:lC w,wpOp P ops Q i (fun a' w'=>Below n.w.heap.size n.w w'∧mG P md ops Q fuel (listed.setIfInBounds i true) a' w') a n.w

theorem oT:∀ (fuel:Nat) (listed:Array Bool) (a:Act) (w W:World),Below w.heap.size w W→mG P md ops Q fuel listed a w→mG P md ops Q fuel listed a W
 | 0,_,_,_,_,hb,h=>⟨h.1,fun n=>h.2 (n.up hb)⟩
 | _+1,_,_,_,_,hb,h=>⟨fun h0 n=>h.1 h0 (n.up hb),fun i hi n=>h.2 i hi (n.up hb)⟩

theorem vH:∀ (fuel:Nat) (listed:Array Bool) (a:Act) (w:World),mG P md ops Q fuel listed a w→wpAny P md ops Q fuel listed a w
 | 0,_,_,w,h=>⟨h.1,h.2 ⟨w,Below.refl _ _⟩⟩
 | fuel+1,_,_,w,h=>⟨fun h0=>h.1 h0 ⟨w,Below.refl _ _⟩,fun i hi=>wpOp_mono (fun a' w' h'=>vH fuel _ a' w' h'.2) (h.2 i hi ⟨w,Below.refl _ _⟩)⟩

def fT (P:Program) (ops:Array Oper) (w:World) (o:Oper) (v:Value) (a:Act):Prop:=YieldsIf P ops (fun W=>Below w.heap.size w W) o v a

theorem fT.mono {w W:World} {o:Oper} {v:Value} {a:Act} (hb:Below w.heap.size w W) (h:fT P ops w o v a):fT P ops W o v a :=
 h.imp (fun ⟨h1,h2⟩=>⟨h1,fun X hX=>h2 X (oo hb hX)⟩) id

theorem Au {i:Nat} {oi:Oper} {v:Value} (hi:ops[i]?=some oi) (hsel:∀ (j:Nat) (o:Oper) cs b,ops[j]?=some o→o.op≠.select cs b)
  (hQ:∀ c a w,Q (.panic c) (a.put oi.dst v) w→Q (.panic c) a w) :
  ∀ (fuel:Nat) (listed:Array Bool) (a:Act) (w:World),
   (∀ j oj,ops[j]?=some oj→j≠i→listed.getD j true=false→(∀ e ∈ oj.after,Region.binds md e=true→e.on≠i)→oi.apart ops oj=true) →
   i ∈ Region.ready md ops listed→fT P ops w oi v a →
   mG P md ops Q fuel (listed.setIfInBounds i true) (a.put oi.dst v) w→mG P md ops Q (fuel+1) listed a w:=by
 intro fuel
 induction fuel with
 | zero =>
  intro listed a w _ hr hy H
  refine ⟨fun h=>(by rw [h] at hr;cases hr),fun j hj n=>?_⟩
  by_cases hji:j=i
  ·subst hji
   exact YieldsIf.wpOp hi hy n.below ⟨Below.refl _ _,oT 0 _ _ _ _ n.below H⟩
  ·have:=ready_mono hj hji
   rw [H.1] at this
   cases this
 | succ fuel ih =>
  intro listed a w hfree hr hy H
  refine ⟨fun h=>(by rw [h] at hr;cases hr),fun j hj n=>?_⟩
  by_cases hji:j=i
  ·subst hji
   exact YieldsIf.wpOp hi hy n.below ⟨Below.refl _ _,oT (fuel+1) _ _ _ _ n.below H⟩
  ·have h1:=H.2 j (ready_mono hj hji) n
   obtain ⟨hjun,oj,hoj,hall⟩:=mem_ready.1 hj
   have hnot:∀ e ∈ oj.after,Region.binds md e=true→e.on≠i:=fun e he hb heq=>by
    have h1:=hall e he hb
    have h0:=(mem_ready.1 hr).1
    rw [heq] at h1
    rcases Z1 i listed.size with h'|h'
    ·simp [h'] at h0 h1;rw [h0] at h1;cases h1
    ·simp [ZU h'] at h1
   have h2:=wpOp_putIf hoj (hfree j oj hoj hji hjun hnot) (fun cs b=>hsel i oi cs b hi) (fun cs b=>hsel j oj cs b hoj) hQ (fT.mono n.below hy) h1
   have hfree':∀ k ok,ops[k]?=some ok→k≠i→(listed.setIfInBounds j true).getD k true=false →
     (∀ e ∈ ok.after,Region.binds md e=true→e.on≠i)→oi.apart ops ok=true:=fun k ok hk hki hun hno=>by
    refine hfree k ok hk hki ?_ hno
    by_cases hjk:j=k
    ·subst hjk;exact hjun
    ·rw [getD_set_ne true hjk] at hun;exact hun
   refine wpOp_mono (fun a' w' h3=>⟨h3.2.1,ih (listed.setIfInBounds j true) a' w' hfree' (ready_mono hr (Ne.symm hji)) (fT.mono h3.2.1 h3.1) ?_⟩) h2
   rw [aDx _ _ hji]
   exact h3.2.2

theorem mA (w:World):Below w.heap.size w w.drew:=⟨rfl,rfl,rfl,YG _,fun _ _=>rfl⟩

end
end Go.Proofs.YtghminnpfnkbjaaGreatDoor
namespace Go.Proofs.YtghminnpfnkbjaaGreatDoor
set_option linter.unusedVariables false
open Go.RowKit

inductive kE where
 | done
 | rd (i:Nat) (k:kE)
 | one (i:Nat) (k:kE)
 | two (i:Nat) (k:kE) (j:Nat) (m:kE)
 | three (i:Nat) (k:kE) (j:Nat) (m:kE) (q:Nat) (l:kE)

def kE.len:kE→Nat
 | .done=>0
 | .rd _ k=>k.len+1
 | .one _ k=>k.len+1
 | .two _ k _ _=>k.len+1
 | .three _ k _ _ _ _=>k.len+1

def kE.within (n:Nat):kE→Bool
 | .done=>true
 | .rd i k=>decide (i<n) && k.within n
 | .one i k=>decide (i<n) && k.within n
 | .two i k j m=>decide (i<n) && k.within n && decide (j<n) && m.within n
 | .three i k j m q l=>decide (i<n) && k.within n && decide (j<n) && m.within n && decide (q<n) && l.within n

section
variable {P:Program} {ops:Array Oper} {Q:Exit→Act→World→Prop} {md:Region.Mode}

def Ho (P:Program) (ops:Array Oper) (Q:Exit→Act→World→Prop):kE→Act→World→Prop
 | .done,a,w=>∀ n:lC w,Q .normal a n.w
 | .rd i k,a,w=>∃ v o,ops[i]?=some o∧fT P ops w o v a∧Ho P ops Q k (a.put o.dst v) w
 | .one i k,a,w=>∀ n:lC w,wpOp P ops Q i (fun a' w'=>Below n.w.heap.size n.w w'∧Ho P ops Q k a' w') a n.w
 | .two i k j m,a,w =>
  (∀ n:lC w,wpOp P ops Q i (fun a' w'=>Below n.w.heap.size n.w w'∧Ho P ops Q k a' w') a n.w) ∧
  (∀ n:lC w,wpOp P ops Q j (fun a' w'=>Below n.w.heap.size n.w w'∧Ho P ops Q m a' w') a n.w)
 | .three i k j m q l,a,w =>
  (∀ n:lC w,wpOp P ops Q i (fun a' w'=>Below n.w.heap.size n.w w'∧Ho P ops Q k a' w') a n.w) ∧
  (∀ n:lC w,wpOp P ops Q j (fun a' w'=>Below n.w.heap.size n.w w'∧Ho P ops Q m a' w') a n.w) ∧
  (∀ n:lC w,wpOp P ops Q q (fun a' w'=>Below n.w.heap.size n.w w'∧Ho P ops Q l a' w') a n.w)

theorem BY:∀ (r:kE) (a:Act) (w W:World),Below w.heap.size w W→Ho P ops Q r a w→Ho P ops Q r a W
 | .done,_,_,_,hb,h=>fun n=>h (n.up hb)
 | .rd _ k,_,_,_,hb,⟨v,o,ho,hy,h⟩=>⟨v,o,ho,fT.mono hb hy,BY k _ _ _ hb h⟩
 | .one _ _,_,_,_,hb,h=>fun n=>h (n.up hb)
 | .two _ _ _ _,_,_,_,hb,h=>⟨fun n=>h.1 (n.up hb),fun n=>h.2 (n.up hb)⟩
 | .three _ _ _ _ _ _,_,_,_,hb,h=>⟨fun n=>h.1 (n.up hb),fun n=>h.2.1 (n.up hb),fun n=>h.2.2 (n.up hb)⟩

def dX (md:Region.Mode) (ops:Array Oper):kE→Array Bool→Bool
 | .done,listed=>Region.ready md ops listed == []
 | .rd i k,listed=>(Region.ready md ops listed).contains i && Region.free md ops listed i && dX md ops k (listed.setIfInBounds i true)
 | .one i k,listed=>Region.ready md ops listed == [i] && dX md ops k (listed.setIfInBounds i true)
 | .two i k j m,listed=>Region.ready md ops listed == [i,j] && (k.len == m.len) && dX md ops k (listed.setIfInBounds i true) && dX md ops m (listed.setIfInBounds j true)
 | .three i k j m q l,listed=>Region.ready md ops listed == [i,j,q] && (k.len == m.len) && (k.len == l.len) && dX md ops k (listed.setIfInBounds i true) && dX md ops m (listed.setIfInBounds j true) && dX md ops l (listed.setIfInBounds q true)

theorem gB (hs:Region.noSelect ops=true) (hQ:∀ c a w,¬ Q (.panic c) a w):∀ (l:kE) (listed:Array Bool) (a:Act) (w:World),dX md ops l listed=true→Ho P ops Q l a w→mG P md ops Q l.len listed a w
 | .done,listed,a,w,hB,h=>⟨by simpa [dX] using hB,h⟩
 | .rd i r,listed,a,w,hB,h=>by
  simp only [dX,YK] at hB
  obtain ⟨⟨hr,hf⟩,hB'⟩:=hB
  obtain ⟨v,o,ho,hy,hK⟩:=h
  exact Au ho (Region.noSelect_spec hs) (fun c a w h=>absurd h (hQ c _ w)) r.len listed a w (Region.free_spec ho hf) (by simpa using hr) hy (gB hs hQ r _ _ _ hB' hK)
 | .one i r,listed,a,w,hB,h=>by
  simp only [dX,YK,ZZ] at hB
  refine ⟨fun h0=>(by rw [hB.1] at h0;cases h0),fun j hj n=>?_⟩
  rw [hB.1] at hj
  obtain rfl:=Zs.1 hj
  exact wpOp_mono (fun a' w' h'=>⟨h'.1,gB hs hQ r _ _ _ hB.2 h'.2⟩) (h n)
 | .two i r j m,listed,a,w,hB,h=>by
  simp only [dX,YK,ZZ] at hB
  obtain ⟨⟨⟨h1,h2⟩,h3⟩,h4⟩:=hB
  refine ⟨fun h0=>(by rw [h1] at h0;cases h0),fun q hq n=>?_⟩
  rw [h1] at hq
  simp only [Zg,Zo,or_false] at hq
  rcases hq with rfl|rfl
  ·exact wpOp_mono (fun a' w' h'=>⟨h'.1,gB hs hQ r _ _ _ h3 h'.2⟩) (h.1 n)
  ·refine wpOp_mono (fun a' w' h'=>⟨h'.1,?_⟩) (h.2 n)
   show mG P md ops Q r.len _ _ _
   rw [h2]
   exact gB hs hQ m _ _ _ h4 h'.2
 | .three i r j m q0 l,listed,a,w,hB,h=>by
  simp only [dX,YK,ZZ] at hB
  obtain ⟨⟨⟨⟨⟨h1,h2⟩,h2'⟩,h3⟩,h4⟩,h5⟩:=hB
  refine ⟨fun h0=>(by rw [h1] at h0;cases h0),fun q hq n=>?_⟩
  rw [h1] at hq
  simp only [Zg,Zo,or_false] at hq
  rcases hq with rfl|rfl|rfl
  ·exact wpOp_mono (fun a' w' h'=>⟨h'.1,gB hs hQ r _ _ _ h3 h'.2⟩) (h.1 n)
  ·refine wpOp_mono (fun a' w' h'=>⟨h'.1,?_⟩) (h.2.1 n)
   show mG P md ops Q r.len _ _ _
   rw [h2]
   exact gB hs hQ m _ _ _ h4 h'.2
  ·refine wpOp_mono (fun a' w' h'=>⟨h'.1,?_⟩) (h.2.2 n)
   show mG P md ops Q r.len _ _ _
   rw [h2']
   exact gB hs hQ l _ _ _ h5 h'.2

inductive eN where
 | done
 | rd (o:Oper) (k:eN)
 | one (o:Oper) (k:eN)
 | two (o:Oper) (k:eN) (p:Oper) (m:eN)
 | three (o:Oper) (k:eN) (p:Oper) (m:eN) (q:Oper) (l:eN)

def aG (ops:Array Oper):kE→eN
 | .done=>.done
 | .rd i k=>match ops[i]? with|some o=>.rd o (aG ops k)|none=>.done
 | .one i k=>match ops[i]? with|some o=>.one o (aG ops k)|none=>.done
 | .two i k j m=>match ops[i]?,ops[j]? with|some o,some p=>.two o (aG ops k) p (aG ops m)|_,_=>.done
 | .three i k j m q l=>match ops[i]?,ops[j]?,ops[q]? with|some o,some p,some r=>.three o (aG ops k) p (aG ops m) r (aG ops l)|_,_,_=>.done

def Ar (P:Program) (ops:Array Oper) (Q:Exit→Act→World→Prop):eN→Act→World→Prop
 | .done,a,w=>∀ n:lC w,Q .normal a n.w
 | .rd o r,a,w=>∃ v,fT P ops w o v a∧Ar P ops Q r (a.put o.dst v) w
 | .one o r,a,w=>∀ n:lC w,if Region.wanted o (yielded ops a.tmps) then o.wp P a n.w (fun a' w'=>Below n.w.heap.size n.w w'∧Ar P ops Q r a' w') Q else Ar P ops Q r (a.put o.dst undef) w
 | .two o r p m,a,w =>
  (∀ n:lC w,if Region.wanted o (yielded ops a.tmps) then o.wp P a n.w (fun a' w'=>Below n.w.heap.size n.w w'∧Ar P ops Q r a' w') Q else Ar P ops Q r (a.put o.dst undef) w) ∧
  (∀ n:lC w,if Region.wanted p (yielded ops a.tmps) then p.wp P a n.w (fun a' w'=>Below n.w.heap.size n.w w'∧Ar P ops Q m a' w') Q else Ar P ops Q m (a.put p.dst undef) w)
 | .three o r p m q l,a,w =>
  (∀ n:lC w,if Region.wanted o (yielded ops a.tmps) then o.wp P a n.w (fun a' w'=>Below n.w.heap.size n.w w'∧Ar P ops Q r a' w') Q else Ar P ops Q r (a.put o.dst undef) w) ∧
  (∀ n:lC w,if Region.wanted p (yielded ops a.tmps) then p.wp P a n.w (fun a' w'=>Below n.w.heap.size n.w w'∧Ar P ops Q m a' w') Q else Ar P ops Q m (a.put p.dst undef) w) ∧
  (∀ n:lC w,if Region.wanted q (yielded ops a.tmps) then q.wp P a n.w (fun a' w'=>Below n.w.heap.size n.w w'∧Ar P ops Q l a' w') Q else Ar P ops Q l (a.put q.dst undef) w)

theorem lg {i:Nat} {o:Oper} {a:Act} {w:World} {k:kE} {r:eN} (ho:ops[i]?=some o) (hk:∀ a' w',Ar P ops Q r a' w'→Ho P ops Q k a' w')
  (h:∀ n:lC w,if Region.wanted o (yielded ops a.tmps) then o.wp P a n.w (fun a' w'=>Below n.w.heap.size n.w w'∧Ar P ops Q r a' w') Q else Ar P ops Q r (a.put o.dst undef) w) :
  ∀ n:lC w,wpOp P ops Q i (fun a' w'=>Below n.w.heap.size n.w w'∧Ho P ops Q k a' w') a n.w:=by
 intro n
 have h:=h n
 unfold wpOp
 simp only [ho]
 split
 ·rename_i hw
  rw [YF hw] at h
  exact .inl (Oper.wp_mono (fun a' w' h'=>⟨h'.1,hk _ _ h'.2⟩) h)
 ·rename_i hw
  rw [YE hw] at h
  exact ⟨Below.refl _ _,BY k _ _ _ n.below (hk _ _ h)⟩

theorem ke:∀ (l:kE) (a:Act) (w:World),l.within ops.size=true→Ar P ops Q (aG ops l) a w→Ho P ops Q l a w
 | .done,_,_,_,h=>h
 | .rd i k,a,w,hl,h=>by
  simp only [kE.within,YK,YP] at hl
  have ho:ops[i]?=some ops[i]:=YV hl.1
  simp only [aG,ho] at h
  obtain ⟨v,hy,hk⟩:=h
  exact ⟨v,ops[i],ho,hy,ke k _ _ hl.2 hk⟩
 | .one i k,a,w,hl,h=>by
  simp only [kE.within,YK,YP] at hl
  have ho:ops[i]?=some ops[i]:=YV hl.1
  simp only [aG,ho] at h
  exact lg ho (fun a' w'=>ke k a' w' hl.2) h
 | .two i k j m,a,w,hl,h=>by
  simp only [kE.within,YK,YP] at hl
  have ho:ops[i]?=some ops[i]:=YV hl.1.1.1
  have hp:ops[j]?=some ops[j]:=YV hl.1.2
  simp only [aG,ho,hp] at h
  exact ⟨lg ho (fun a' w'=>ke k a' w' hl.1.1.2) h.1,lg hp (fun a' w'=>ke m a' w' hl.2) h.2⟩
 | .three i k j m q l,a,w,hl,h=>by
  simp only [kE.within,YK,YP] at hl
  have ho:ops[i]?=some ops[i]:=YV hl.1.1.1.1.1
  have hp:ops[j]?=some ops[j]:=YV hl.1.1.1.2
  have hq:ops[q]?=some ops[q]:=YV hl.1.2
  simp only [aG,ho,hp,hq] at h
  exact ⟨lg ho (fun a' w'=>ke k a' w' hl.1.1.1.1.2) h.1,lg hp (fun a' w'=>ke m a' w' hl.1.1.2) h.2.1,lg hq (fun a' w'=>ke l a' w' hl.2) h.2.2⟩

theorem WY {a:Act} {w:World} (l:kE) (hs:Region.noSelect ops=true) (hl:l.len=ops.size)
  (hin:l.within ops.size=true)
  (hB:dX .any ops l (Array.replicate ops.size false)=true) (h:Ar P ops (NoPanic Q) (aG ops l) a w):wpAny P .any ops (NoPanic Q) ops.size (Array.replicate ops.size false) a w.drew:=by
 refine vH _ _ _ _ (oT _ _ _ _ _ (mA w) ?_)
 have:=gB hs (fun c a w h=>h) l _ a w hB (ke l a w hin h)
 rwa [hl] at this
end
end Go.Proofs.YtghminnpfnkbjaaGreatDoor
namespace Go.Proofs.YtghminnpfnkbjaaGreatDoor
set_option linter.unusedVariables false
open Go.RowKit
section
variable {P:Program} {ops:Array Oper} {Q:Exit→Act→World→Prop} {md:Region.Mode} {m:Nat} {R:Act→World→Prop}

def kr (m:Nat) (listed:Array Bool):Bool:=(List.range m).all fun i=>listed.getD i false
theorem lQ {listed:Array Bool}:kr m listed=true↔∀ i,i<m→listed.getD i false=true:=by
 simp [kr]
def ju (md:Region.Mode) (ops:Array Oper) (listed:Array Bool):Prop:=∀ (i:Nat) o,ops[i]?=some o→listed.getD i false=true→∀ e ∈ o.after,Region.binds md e=true→listed.getD e.on false=true
def n9 (md:Region.Mode) (ops:Array Oper) (m:Nat):Bool :=
 ((List.range m).all fun i=>(List.range (m+1)).any fun k=>Nat.blt i k && (ops[k]?).any fun o=>o.after.any fun e=>Region.binds md e && e.on == i) &&
 ((List.range ops.size).all fun j=>Nat.ble j m || (List.range j).any fun k=>Nat.ble m k && (ops[j]?).any fun o=>o.after.any fun e=>Region.binds md e && e.on == k)

theorem any_some {α:Type} {p:α→Bool} {x:Option α} (h:x.any p=true):∃ o,x=some o∧p o=true:=by
 cases x with
 | none=>cases h
 | some o=>exact ⟨o,rfl,h⟩
theorem CU {listed:Array Bool} {i j:Nat} (hji:j≠i) (h0:listed.getD j true=false) (h1:(listed.setIfInBounds i true).getD j false=true):False:=by
 have e:(listed.setIfInBounds i true)[j]?=listed[j]?:=Zn (Ne.symm hji)
 simp only [ZD] at h0 h1
 rw [e] at h1
 cases h:listed[j]? with
 | none=>rw [h] at h0;cases h0
 | some b=>rw [h] at h0 h1;simp at h0 h1;rw [h0] at h1;cases h1
theorem DX (hc:n9 md ops m=true) {listed:Array Bool} (hcl:ju md ops listed):∀ (n j:Nat),j=m+n→(∀ o,ops[j]?=some o→∀ e ∈ o.after,Region.binds md e=true→listed.getD e.on false=true)→j<ops.size→kr m listed=true:=by
 simp only [n9,YK,Y8,aIx,aqx,Zx] at hc
 obtain ⟨h1,h2⟩:=hc
 intro n
 induction n using Nat.strongRecOn with
 | _ n ih =>
  intro j hj hr hlt
  by_cases hn:n=0
  ·subst hn
   have hj:j=m:=by omega
   subst hj
   rw [lQ]
   have key:∀ d i,i+d=j→d≠0→listed.getD i false=true:=by
    intro d
    induction d using Nat.strongRecOn with
    | _ d ihd =>
     intro i hid hd
     obtain ⟨k,hk,hk2⟩:=h1 i O
     obtain ⟨hik,hk3⟩:=hk2
     have hik:i<k:=YU hik
     obtain ⟨o,ho,ha⟩:=any_some hk3
     obtain ⟨e,he,hbe⟩:=bux.1 ha
     simp only [YK,ZZ] at hbe
     by_cases hkj:k=j
     ·subst hkj
      have:=hr o ho e he hbe.1
      rwa [hbe.2] at this
     ·have:=hcl k o ho (ihd (j-k) O k O O) e he hbe.1
      rwa [hbe.2] at this
   intro i hi
   exact key (j-i) i O O
  ·have h3:=h2 j hlt
   rcases h3 with h3|⟨k,hk,hk2,hk3⟩
   ·have:=YU h3;omega
   ·have hk2:m≤k:=YU hk2
    obtain ⟨o,ho,ha⟩:=any_some hk3
    obtain ⟨e,he,hbe⟩:=bux.1 ha
    simp only [YK,ZZ] at hbe
    have hl:=hr o ho e he hbe.1
    rw [hbe.2] at hl
    refine ih (k-m) O k O (fun o' ho' e' he' hb'=>hcl k o' ho' hl e' he' hb') ?_
    omega

theorem wz (hc:n9 md ops m=true) {listed:Array Bool} (hcl:ju md ops listed) (hf:kr m listed=false) {j:Nat} (hj:j ∈ Region.ready md ops listed):j<m:=by
 rcases Z1 j m with h|h
 ·exact h
 ·obtain ⟨hun,o,ho,hall⟩:=mem_ready.1 hj
  have:=DX hc hcl (j-m) j O (fun o' ho' e he hb=>by
   rw [ho] at ho';cases ho'
   exact hall e he hb) (Y4.1 ho).1
  rw [this] at hf;cases hf

def Hr (P:Program) (md:Region.Mode) (ops:Array Oper) (Q:Exit→Act→World→Prop) (m:Nat) (R:Act→World→Prop):Nat→Array Bool→Act→World→Prop
 | 0,listed,a,w=>kr m listed=true∧∀ n:lC w,R a n.w
 | f+1,listed,a,w=>(kr m listed=true→∀ n:lC w,R a n.w) ∧
  (kr m listed=false→Region.ready md ops listed≠[]∧∀ i ∈ Region.ready md ops listed,∀ n:lC w,wpOp P ops Q i (fun a' w'=>Below n.w.heap.size n.w w'∧Hr P md ops Q m R f (listed.setIfInBounds i true) a' w') a n.w)

theorem vF:∀ (f:Nat) (listed:Array Bool) (a:Act) (w W:World),Below w.heap.size w W→Hr P md ops Q m R f listed a w→Hr P md ops Q m R f listed a W
 | 0,_,_,_,_,hb,h=>⟨h.1,fun n=>h.2 (n.up hb)⟩
 | _+1,_,_,_,_,hb,h=>⟨fun h0 n=>h.1 h0 (n.up hb),fun h0=>⟨(h.2 h0).1,fun i hi n=>(h.2 h0).2 i hi (n.up hb)⟩⟩

theorem qP {listed:Array Bool} {i j:Nat} (h:listed.getD j false=true):(listed.setIfInBounds i true).getD j false=true:=by
 by_cases hij:i=j
 ·subst hij
  have:i<listed.size:=by
   rcases Z1 i listed.size with h'|h'
   ·exact h'
   ·simp [ZU h'] at h
  simp [this]
 ·simpa [Zn hij] using h

theorem cm {listed:Array Bool} (hcl:ju md ops listed) {i:Nat} (hi:i ∈ Region.ready md ops listed):ju md ops (listed.setIfInBounds i true):=by
 obtain ⟨hun,oi,hoi,hall⟩:=mem_ready.1 hi
 intro k o ho hk e he hb
 by_cases hik:k=i
 ·subst hik
  rw [hoi] at ho;cases ho
  exact qP (hall e he hb)
 ·have hk':listed.getD k false=true:=by simpa [Zn (Ne.symm hik)] using hk
  exact qP (hcl k o ho hk' e he hb)

theorem Hq {i:Nat} {oi:Oper} {v:Value} (hc:n9 md ops m=true) (hi:ops[i]?=some oi) (him:i<m) (hsel:∀ (j:Nat) (o:Oper) cs b,ops[j]?=some o→o.op≠.select cs b)
  (hQ:∀ c a w,Q (.panic c) (a.put oi.dst v) w→Q (.panic c) a w) :
  ∀ (fuel:Nat) (listed:Array Bool) (a:Act) (w:World),ju md ops listed →
   (∀ j oj,ops[j]?=some oj→j<m→j≠i→listed.getD j true=false→(∀ e ∈ oj.after,Region.binds md e=true→e.on≠i)→oi.apart ops oj=true) →
   i ∈ Region.ready md ops listed→fT P ops w oi v a →
   Hr P md ops Q m R fuel (listed.setIfInBounds i true) (a.put oi.dst v) w→Hr P md ops Q m R (fuel+1) listed a w:=by
 have nf:∀ {listed:Array Bool},i ∈ Region.ready md ops listed→kr m listed=false:=fun {listed} hr=>by
  cases h:kr m listed with
  | false=>rfl
  | true =>
   have:=lQ.1 h i him
   have h0:=(mem_ready.1 hr).1
   rcases Z1 i listed.size with h'|h'
   ·simp [h'] at h0 this;rw [h0] at this;cases this
   ·simp [ZU h'] at this
 intro fuel
 induction fuel with
 | zero =>
  intro listed a w hcl _ hr hy H
  have hnf:=nf hr
  refine ⟨fun h=>(by rw [hnf] at h;cases h),fun _=>⟨(by intro h;rw [h] at hr;cases hr),fun j hj n=>?_⟩⟩
  by_cases hji:j=i
  ·subst hji
   exact YieldsIf.wpOp hi hy n.below ⟨Below.refl _ _,vF 0 _ _ _ _ n.below H⟩
  ·have hjm:=wz hc hcl hnf hj
   have h1:=lQ.1 H.1 j hjm
   exact (CU hji (mem_ready.1 hj).1 h1).elim
 | succ fuel ih =>
  intro listed a w hcl hfree hr hy H
  have hnf:=nf hr
  refine ⟨fun h=>(by rw [hnf] at h;cases h),fun _=>⟨(by intro h;rw [h] at hr;cases hr),fun j hj n=>?_⟩⟩
  by_cases hji:j=i
  ·subst hji
   exact YieldsIf.wpOp hi hy n.below ⟨Below.refl _ _,vF (fuel+1) _ _ _ _ n.below H⟩
  ·have hjm:=wz hc hcl hnf hj
   obtain ⟨hjun,oj,hoj,hall⟩:=mem_ready.1 hj
   have hnf2:kr m (listed.setIfInBounds i true)=false:=by
    cases h:kr m (listed.setIfInBounds i true) with
    | false=>rfl
    | true =>
     have h1:=lQ.1 h j hjm
     exact (CU hji hjun h1).elim
   have h1:=(H.2 hnf2).2 j (ready_mono hj hji) n
   have hnot:∀ e ∈ oj.after,Region.binds md e=true→e.on≠i:=fun e he hb heq=>by
    have h1:=hall e he hb
    have h0:=(mem_ready.1 hr).1
    rw [heq] at h1
    rcases Z1 i listed.size with h'|h'
    ·simp [h'] at h0 h1;rw [h0] at h1;cases h1
    ·simp [ZU h'] at h1
   have h2:=wpOp_putIf hoj (hfree j oj hoj hjm hji hjun hnot) (fun cs b=>hsel i oi cs b hi) (fun cs b=>hsel j oj cs b hoj) hQ (fT.mono n.below hy) h1
   have hfree':∀ k ok,ops[k]?=some ok→k<m→k≠i→(listed.setIfInBounds j true).getD k true=false →
     (∀ e ∈ ok.after,Region.binds md e=true→e.on≠i)→oi.apart ops ok=true:=fun k ok hk hkm hki hun hno=>by
    refine hfree k ok hk hkm hki ?_ hno
    by_cases hjk:j=k
    ·subst hjk;exact hjun
    ·rw [getD_set_ne true hjk] at hun;exact hun
   refine wpOp_mono (fun a' w' h3=>⟨h3.2.1,ih (listed.setIfInBounds j true) a' w' (cm hcl hj) hfree' (ready_mono hr (Ne.symm hji)) (fT.mono h3.2.1 h3.1) ?_⟩) h2
   rw [aDx _ _ hji]
   exact h3.2.2

def s0 (P:Program) (ops:Array Oper) (Q:Exit→Act→World→Prop) (R:Act→World→Prop):kE→Act→World→Prop
 | .done,a,w=>∀ n:lC w,R a n.w
 | .rd i k,a,w=>∃ v o,ops[i]?=some o∧fT P ops w o v a∧s0 P ops Q R k (a.put o.dst v) w
 | .one i k,a,w=>∀ n:lC w,wpOp P ops Q i (fun a' w'=>Below n.w.heap.size n.w w'∧s0 P ops Q R k a' w') a n.w
 | .two i k j l,a,w =>
  (∀ n:lC w,wpOp P ops Q i (fun a' w'=>Below n.w.heap.size n.w w'∧s0 P ops Q R k a' w') a n.w) ∧
  (∀ n:lC w,wpOp P ops Q j (fun a' w'=>Below n.w.heap.size n.w w'∧s0 P ops Q R l a' w') a n.w)
 | .three i k j l q u,a,w =>
  (∀ n:lC w,wpOp P ops Q i (fun a' w'=>Below n.w.heap.size n.w w'∧s0 P ops Q R k a' w') a n.w) ∧
  (∀ n:lC w,wpOp P ops Q j (fun a' w'=>Below n.w.heap.size n.w w'∧s0 P ops Q R l a' w') a n.w) ∧
  (∀ n:lC w,wpOp P ops Q q (fun a' w'=>Below n.w.heap.size n.w w'∧s0 P ops Q R u a' w') a n.w)

def Oa (md:Region.Mode) (ops:Array Oper) (m:Nat) (listed:Array Bool) (i:Nat):Bool:=match ops[i]? with
 | none=>false
 | some oi=>(List.range m).all fun j=>Nat.beq j i || listed.getD j true || match ops[j]? with|none=>true|some oj=>(oj.after.any fun e=>Region.binds md e && e.on == i) || oi.apart ops oj
theorem Fn {listed:Array Bool} {i:Nat} {oi:Oper} (hi:ops[i]?=some oi) (h:Oa md ops m listed i=true) :
  ∀ j oj,ops[j]?=some oj→j<m→j≠i→listed.getD j true=false→(∀ e ∈ oj.after,Region.binds md e=true→e.on≠i)→oi.apart ops oj=true:=by
 intro j oj hj hjm hji hun hno
 simp only [Oa,hi,Y8,aqx] at h
 have:=h j hjm
 simp only [hun,hj,Bool.or_false,Zx] at this
 rcases this with h1|h1|h1
 ·exact absurd (Zm h1) hji
 ·obtain ⟨e,he,hb⟩:=bux.1 h1
  simp only [YK,ZZ] at hb
  exact absurd hb.2 (hno e he hb.1)
 ·exact h1

def fP (md:Region.Mode) (ops:Array Oper) (m:Nat):kE→Array Bool→Bool
 | .done,listed=>kr m listed
 | .rd i k,listed=>(Region.ready md ops listed).contains i && Nat.blt i m && Oa md ops m listed i && fP md ops m k (listed.setIfInBounds i true)
 | .one i k,listed=>!kr m listed && Region.ready md ops listed == [i] && fP md ops m k (listed.setIfInBounds i true)
 | .two i k j l,listed=>!kr m listed && Region.ready md ops listed == [i,j] && (k.len == l.len) && fP md ops m k (listed.setIfInBounds i true) && fP md ops m l (listed.setIfInBounds j true)
 | .three i k j l q u,listed=>!kr m listed && Region.ready md ops listed == [i,j,q] && (k.len == l.len) && (k.len == u.len) && fP md ops m k (listed.setIfInBounds i true) && fP md ops m l (listed.setIfInBounds j true) && fP md ops m u (listed.setIfInBounds q true)

theorem oS (hc:n9 md ops m=true) (hs:Region.noSelect ops=true) (hQ:∀ c a w,¬ Q (.panic c) a w):∀ (l:kE) (listed:Array Bool) (a:Act) (w:World),ju md ops listed→fP md ops m l listed=true→s0 P ops Q R l a w→Hr P md ops Q m R l.len listed a w
 | .done,listed,a,w,_,hB,h=>⟨hB,h⟩
 | .rd i r,listed,a,w,hcl,hB,h=>by
  simp only [fP,YK] at hB
  obtain ⟨⟨⟨hr,him⟩,hf⟩,hB'⟩:=hB
  obtain ⟨v,o,ho,hy,hK⟩:=h
  have hr':i ∈ Region.ready md ops listed:=by simpa using hr
  exact Hq hc ho (YU him) (Region.noSelect_spec hs) (fun c a w h=>absurd h (hQ c _ w)) r.len listed a w hcl (Fn ho hf) hr' hy (oS hc hs hQ r _ _ _ (cm hcl hr') hB' hK)
 | .one i r,listed,a,w,hcl,hB,h=>by
  simp only [fP,YK,ZZ,aWx] at hB
  obtain ⟨⟨hnf,hr⟩,hB'⟩:=hB
  have hi:i ∈ Region.ready md ops listed:=by rw [hr];exact Zs.2 rfl
  refine ⟨fun h0=>(by rw [hnf] at h0;cases h0),fun _=>⟨(by rw [hr];simp),fun j hj n=>?_⟩⟩
  rw [hr] at hj
  obtain rfl:=Zs.1 hj
  exact wpOp_mono (fun a' w' h'=>⟨h'.1,oS hc hs hQ r _ _ _ (cm hcl hi) hB' h'.2⟩) (h n)
 | .two i r j l,listed,a,w,hcl,hB,h=>by
  simp only [fP,YK,ZZ,aWx] at hB
  obtain ⟨⟨⟨⟨hnf,h1⟩,h2⟩,h3⟩,h4⟩:=hB
  have hi:i ∈ Region.ready md ops listed:=by rw [h1];simp
  have hj:j ∈ Region.ready md ops listed:=by rw [h1];simp
  refine ⟨fun h0=>(by rw [hnf] at h0;cases h0),fun _=>⟨(by rw [h1];simp),fun q hq n=>?_⟩⟩
  rw [h1] at hq
  simp only [Zg,Zo,or_false] at hq
  rcases hq with rfl|rfl
  ·exact wpOp_mono (fun a' w' h'=>⟨h'.1,oS hc hs hQ r _ _ _ (cm hcl hi) h3 h'.2⟩) (h.1 n)
  ·refine wpOp_mono (fun a' w' h'=>⟨h'.1,?_⟩) (h.2 n)
   show Hr P md ops Q m R r.len _ _ _
   rw [h2]
   exact oS hc hs hQ l _ _ _ (cm hcl hj) h4 h'.2
 | .three i r j l q0 u,listed,a,w,hcl,hB,h=>by
  simp only [fP,YK,ZZ,aWx] at hB
  obtain ⟨⟨⟨⟨⟨⟨hnf,h1⟩,h2⟩,h2'⟩,h3⟩,h4⟩,h5⟩:=hB
  have hi:i ∈ Region.ready md ops listed:=by rw [h1];simp
  have hj:j ∈ Region.ready md ops listed:=by rw [h1];simp
  have hq0:q0 ∈ Region.ready md ops listed:=by rw [h1];simp
  refine ⟨fun h0=>(by rw [hnf] at h0;cases h0),fun _=>⟨(by rw [h1];simp),fun q hq n=>?_⟩⟩
  rw [h1] at hq
  simp only [Zg,Zo,or_false] at hq
  rcases hq with rfl|rfl|rfl
  ·exact wpOp_mono (fun a' w' h'=>⟨h'.1,oS hc hs hQ r _ _ _ (cm hcl hi) h3 h'.2⟩) (h.1 n)
  ·refine wpOp_mono (fun a' w' h'=>⟨h'.1,?_⟩) (h.2.1 n)
   show Hr P md ops Q m R r.len _ _ _
   rw [h2]
   exact oS hc hs hQ l _ _ _ (cm hcl hj) h4 h'.2
  ·refine wpOp_mono (fun a' w' h'=>⟨h'.1,?_⟩) (h.2.2 n)
   show Hr P md ops Q m R r.len _ _ _
   rw [h2']
   exact oS hc hs hQ u _ _ _ (cm hcl hq0) h5 h'.2

theorem vK:∀ (f k:Nat) (listed:Array Bool) (a:Act) (w:World),wpAny P md ops Q f listed a w→wpAny P md ops Q (f+k) listed a w
 | 0,0,_,_,_,h=>h
 | 0,k+1,listed,a,w,h=>by
  rw [Nat.zero_add]
  exact ⟨fun _=>h.2,fun i hi=>(by rw [h.1] at hi;cases hi)⟩
 | f+1,k,listed,a,w,h=>by
  rw [Nat.add_right_comm]
  exact ⟨h.1,fun i hi=>wpOp_mono (fun a' w' h'=>vK f k _ a' w' h') (h.2 i hi)⟩

def yk (m n:Nat):Array Bool:=(List.replicate m true++List.replicate (n-m) false).toArray
theorem wT {listed:Array Bool} (hm:m≤ops.size) (hsz:listed.size=ops.size) (hf:kr m listed=true) (ht:∀ j,m≤j→listed.getD j false=false):listed=yk m ops.size:=by
 apply Array.ext_getElem?
 intro j
 rcases Z1 j listed.size with h|h
 ·have e:listed[j]?=some (listed.getD j false):=by simp [h]
  rw [e]
  rcases Z1 j m with h1|h1
  ·rw [lQ.1 hf j h1]
   simp [yk,ayx,h1]
  ·rw [ht j h1]
   simp [yk,ayx,show ¬ j<m by omega,show j-m<ops.size-m by omega]
 ·rw [ZU h]
  simp [yk]
  omega

theorem vJ (hc:n9 md ops m=true) (hm:m≤ops.size) (g:Nat):∀ (f:Nat) (listed:Array Bool) (a:Act) (w:World),listed.size=ops.size→ju md ops listed→(∀ j,m≤j→listed.getD j false=false) →
  Hr P md ops Q m (fun a w=>wpAny P md ops Q g (yk m ops.size) a w) f listed a w→wpAny P md ops Q (f+g) listed a w
 | 0,listed,a,w,hsz,_,ht,h=>by
  rw [Nat.zero_add,wT hm hsz h.1 ht]
  exact h.2 ⟨w,Below.refl _ _⟩
 | f+1,listed,a,w,hsz,hcl,ht,h=>by
  cases hf:kr m listed with
  | true =>
   rw [wT hm hsz hf ht,b4x]
   exact vK g (f+1) _ a w (h.1 hf ⟨w,Below.refl _ _⟩)
  | false =>
   obtain ⟨hne,h2⟩:=h.2 hf
   rw [Nat.add_right_comm]
   refine ⟨fun h0=>absurd h0 hne,fun i hi=>wpOp_mono (fun a' w' h'=>vJ hc hm g f _ a' w' (by simp [hsz]) (cm hcl hi) (fun j hj=>?_) h'.2) (h2 i hi ⟨w,Below.refl _ _⟩)⟩
   have him:=wz hc hcl hf hi
   have:=ht j hj
   simpa [Zn (show i≠j by omega)] using this

def vO (md:Region.Mode) (ops:Array Oper):Nat→Nat→Array Bool→Bool
 | 0,_,listed=>Region.ready md ops listed == []
 | f+1,i,listed=>Region.ready md ops listed == [i] && vO md ops f (i+1) (listed.setIfInBounds i true)
theorem qT:∀ (f i:Nat) (listed:Array Bool) (a:Act) (w:World),vO md ops f i listed=true→wpOps P ops Q ((List.range f).map (i+·)) a w→wpAny P md ops Q f listed a w
 | 0,i,listed,a,w,hB,h=>⟨by simpa [vO] using hB,by simpa [wpOps] using h⟩
 | f+1,i,listed,a,w,hB,h=>by
  simp only [vO,YK,ZZ] at hB
  refine ⟨fun h0=>(by rw [hB.1] at h0;cases h0),fun j hj=>?_⟩
  rw [hB.1] at hj
  obtain rfl:=Zs.1 hj
  rw [List.range_succ_eq_map,Zc,wpOps_cons,Zt,Z9] at h
  have e:((fun x=>j+x) ∘ Nat.succ)=(fun x=>j+1+x):=funext fun x=>by simp;omega
  rw [e] at h
  exact wpOp_mono (fun a' w' h'=>qT f (j+1) _ a' w' hB.2 h') h

def mO (P:Program) (ops:Array Oper) (Q:Exit→Act→World→Prop) (R:Act→World→Prop):eN→Act→World→Prop
 | .done,a,w=>∀ n:lC w,R a n.w
 | .rd o r,a,w=>∃ v,fT P ops w o v a∧mO P ops Q R r (a.put o.dst v) w
 | .one o r,a,w=>∀ n:lC w,if Region.wanted o (yielded ops a.tmps) then o.wp P a n.w (fun a' w'=>Below n.w.heap.size n.w w'∧mO P ops Q R r a' w') Q else mO P ops Q R r (a.put o.dst undef) w
 | .two o r p l,a,w =>
  (∀ n:lC w,if Region.wanted o (yielded ops a.tmps) then o.wp P a n.w (fun a' w'=>Below n.w.heap.size n.w w'∧mO P ops Q R r a' w') Q else mO P ops Q R r (a.put o.dst undef) w) ∧
  (∀ n:lC w,if Region.wanted p (yielded ops a.tmps) then p.wp P a n.w (fun a' w'=>Below n.w.heap.size n.w w'∧mO P ops Q R l a' w') Q else mO P ops Q R l (a.put p.dst undef) w)
 | .three o r p l q u,a,w =>
  (∀ n:lC w,if Region.wanted o (yielded ops a.tmps) then o.wp P a n.w (fun a' w'=>Below n.w.heap.size n.w w'∧mO P ops Q R r a' w') Q else mO P ops Q R r (a.put o.dst undef) w) ∧
  (∀ n:lC w,if Region.wanted p (yielded ops a.tmps) then p.wp P a n.w (fun a' w'=>Below n.w.heap.size n.w w'∧mO P ops Q R l a' w') Q else mO P ops Q R l (a.put p.dst undef) w) ∧
  (∀ n:lC w,if Region.wanted q (yielded ops a.tmps) then q.wp P a n.w (fun a' w'=>Below n.w.heap.size n.w w'∧mO P ops Q R u a' w') Q else mO P ops Q R u (a.put q.dst undef) w)
theorem yu:∀ (r:kE) (a:Act) (w W:World),Below w.heap.size w W→s0 P ops Q R r a w→s0 P ops Q R r a W
 | .done,_,_,_,hb,h=>fun n=>h (n.up hb)
 | .rd _ k,_,_,_,hb,⟨v,o,ho,hy,h⟩=>⟨v,o,ho,fT.mono hb hy,yu k _ _ _ hb h⟩
 | .one _ _,_,_,_,hb,h=>fun n=>h (n.up hb)
 | .two _ _ _ _,_,_,_,hb,h=>⟨fun n=>h.1 (n.up hb),fun n=>h.2 (n.up hb)⟩
 | .three _ _ _ _ _ _,_,_,_,hb,h=>⟨fun n=>h.1 (n.up hb),fun n=>h.2.1 (n.up hb),fun n=>h.2.2 (n.up hb)⟩
theorem jA {i:Nat} {o:Oper} {a:Act} {w:World} {k:kE} {r:eN} (ho:ops[i]?=some o) (hk:∀ a' w',mO P ops Q R r a' w'→s0 P ops Q R k a' w')
  (h:∀ n:lC w,if Region.wanted o (yielded ops a.tmps) then o.wp P a n.w (fun a' w'=>Below n.w.heap.size n.w w'∧mO P ops Q R r a' w') Q else mO P ops Q R r (a.put o.dst undef) w) :
  ∀ n:lC w,wpOp P ops Q i (fun a' w'=>Below n.w.heap.size n.w w'∧s0 P ops Q R k a' w') a n.w:=by
 intro n
 have h:=h n
 unfold wpOp
 simp only [ho]
 split
 ·rename_i hw
  rw [YF hw] at h
  exact .inl (Oper.wp_mono (fun a' w' h'=>⟨h'.1,hk _ _ h'.2⟩) h)
 ·rename_i hw
  rw [YE hw] at h
  exact ⟨Below.refl _ _,yu k _ _ _ n.below (hk _ _ h)⟩
theorem iL:∀ (l:kE) (a:Act) (w:World),l.within ops.size=true→mO P ops Q R (aG ops l) a w→s0 P ops Q R l a w
 | .done,_,_,_,h=>h
 | .rd i k,a,w,hl,h=>by
  simp only [kE.within,YK,YP] at hl
  have ho:ops[i]?=some ops[i]:=YV hl.1
  simp only [aG,ho] at h
  obtain ⟨v,hy,hk⟩:=h
  exact ⟨v,ops[i],ho,hy,iL k _ _ hl.2 hk⟩
 | .one i k,a,w,hl,h=>by
  simp only [kE.within,YK,YP] at hl
  have ho:ops[i]?=some ops[i]:=YV hl.1
  simp only [aG,ho] at h
  exact jA ho (fun a' w'=>iL k a' w' hl.2) h
 | .two i k j l,a,w,hl,h=>by
  simp only [kE.within,YK,YP] at hl
  have ho:ops[i]?=some ops[i]:=YV hl.1.1.1
  have hp:ops[j]?=some ops[j]:=YV hl.1.2
  simp only [aG,ho,hp] at h
  exact ⟨jA ho (fun a' w'=>iL k a' w' hl.1.1.2) h.1,jA hp (fun a' w'=>iL l a' w' hl.2) h.2⟩
 | .three i k j l q u,a,w,hl,h=>by
  simp only [kE.within,YK,YP] at hl
  have ho:ops[i]?=some ops[i]:=YV hl.1.1.1.1.1
  have hp:ops[j]?=some ops[j]:=YV hl.1.1.1.2
  have hq:ops[q]?=some ops[q]:=YV hl.1.2
  simp only [aG,ho,hp,hq] at h
  exact ⟨jA ho (fun a' w'=>iL k a' w' hl.1.1.1.1.2) h.1,jA hp (fun a' w'=>iL l a' w' hl.1.1.2) h.2.1,jA hq (fun a' w'=>iL u a' w' hl.2) h.2.2⟩

theorem yR (n i:Nat):(Array.replicate n false).getD i false=false:=by
 rcases Z1 i n with h|h
 ·simp [h]
 ·simp [Nat.not_lt.2 h]
theorem py (n:Nat):ju md ops (Array.replicate n false):=fun i o _ hi=>by rw [yR] at hi;cases hi
theorem dQ:∀ (t:eN) (a:Act) (w:World),mO P ops Q (Q .normal) t a w→Ar P ops Q t a w
 | .done,_,_,h=>h
 | .rd _ r,_,_,⟨v,hy,h⟩=>⟨v,hy,dQ r _ _ h⟩
 | .one o r,a,w,h=>fun n=>by
  have h:=h n
  split
  ·rename_i hw;rw [YF hw] at h;exact Oper.wp_mono (fun a' w' h'=>⟨h'.1,dQ r _ _ h'.2⟩) h
  ·rename_i hw;rw [YE hw] at h;exact dQ r _ _ h
 | .two o r p l,a,w,h=>⟨fun n=>by
  have h:=h.1 n
  split
  ·rename_i hw;rw [YF hw] at h;exact Oper.wp_mono (fun a' w' h'=>⟨h'.1,dQ r _ _ h'.2⟩) h
  ·rename_i hw;rw [YE hw] at h;exact dQ r _ _ h,fun n=>by
  have h:=h.2 n
  split
  ·rename_i hw;rw [YF hw] at h;exact Oper.wp_mono (fun a' w' h'=>⟨h'.1,dQ l _ _ h'.2⟩) h
  ·rename_i hw;rw [YE hw] at h;exact dQ l _ _ h⟩
 | .three o r p l q u,a,w,h=>⟨fun n=>by
  have h:=h.1 n
  split
  ·rename_i hw;rw [YF hw] at h;exact Oper.wp_mono (fun a' w' h'=>⟨h'.1,dQ r _ _ h'.2⟩) h
  ·rename_i hw;rw [YE hw] at h;exact dQ r _ _ h,fun n=>by
  have h:=h.2.1 n
  split
  ·rename_i hw;rw [YF hw] at h;exact Oper.wp_mono (fun a' w' h'=>⟨h'.1,dQ l _ _ h'.2⟩) h
  ·rename_i hw;rw [YE hw] at h;exact dQ l _ _ h,fun n=>by
  have h:=h.2.2 n
  split
  ·rename_i hw;rw [YF hw] at h;exact Oper.wp_mono (fun a' w' h'=>⟨h'.1,dQ u _ _ h'.2⟩) h
  ·rename_i hw;rw [YE hw] at h;exact dQ u _ _ h⟩

theorem Vr {a:Act} {w:World} (m:Nat) (l:kE) (hs:Region.noSelect ops=true) (hm:Nat.ble m ops.size=true) (hl:l.len=m) (hin:l.within ops.size=true) (hc:n9 .any ops m=true)
  (hB:fP .any ops m l (Array.replicate ops.size false)=true) (ht:vO .any ops (ops.size-m) m (yk m ops.size)=true)
  (h:mO P ops (NoPanic Q) (fun a w=>wpOps P ops (NoPanic Q) ((List.range (ops.size-m)).map (m+·)) a w) (aG ops l) a w):wpAny P .any ops (NoPanic Q) ops.size (Array.replicate ops.size false) a w.drew:=by
 have hm:=YU hm
 have h1:=oS (md:=.any) hc hs (fun c a w h=>h) l _ a w (py _) hB (iL l a w hin h)
 have h2:=vF _ _ _ _ _ (mA w) h1
 have h3:Hr P .any ops (NoPanic Q) m (fun a w=>wpAny P .any ops (NoPanic Q) (ops.size-m) (yk m ops.size) a w) l.len (Array.replicate ops.size false) a w.drew:=by
  have mono:∀ (f:Nat) (listed:Array Bool) (a:Act) (w:World),Hr P .any ops (NoPanic Q) m (fun a w=>wpOps P ops (NoPanic Q) ((List.range (ops.size-m)).map (m+·)) a w) f listed a w→Hr P .any ops (NoPanic Q) m (fun a w=>wpAny P .any ops (NoPanic Q) (ops.size-m) (yk m ops.size) a w) f listed a w:=by
   intro f
   induction f with
   | zero=>exact fun listed a w h=>⟨h.1,fun n=>qT _ _ _ _ _ ht (h.2 n)⟩
   | succ f ih=>exact fun listed a w h=>⟨fun h0 n=>qT _ _ _ _ _ ht (h.1 h0 n),fun h0=>⟨(h.2 h0).1,fun i hi n=>wpOp_mono (fun a' w' h'=>⟨h'.1,ih _ a' w' h'.2⟩) ((h.2 h0).2 i hi n)⟩⟩
  exact mono _ _ _ _ h2
 have h4:=vJ hc hm (ops.size-m) _ _ _ _ (by simp) (py _) (fun j _=>yR _ _) h3
 rw [hl,show m+(ops.size-m)=ops.size by omega] at h4
 exact h4
end
end Go.Proofs.YtghminnpfnkbjaaGreatDoor
namespace Go.Proofs.YtghminnpfnkbjaaGreatDoor
set_option linter.unusedVariables false
open Go.RowKit
def eX (S:Nat→Prop) (w W:World):Prop:=∀ b,S b→W.heap[b]?=w.heap[b]?
theorem eX.refl (S:Nat→Prop) (w:World):eX S w w:=fun _ _=>rfl
theorem eX.trans {S:Nat→Prop} {a b c:World} (h:eX S a b) (k:eX S b c):eX S a c:=fun x hx=>(k x hx).trans (h x hx)
section
variable {P:Program} {ops:Array Oper} {Q:Exit→Act→World→Prop} {md:Region.Mode} {S:Nat→Prop}

def jn (P:Program) (ops:Array Oper) (S:Nat→Prop) (w:World) (o:Oper) (v:Value) (a:Act):Prop:=YieldsIf P ops (fun W=>eX S w W) o v a
theorem jn.mono {w W:World} {o:Oper} {v:Value} {a:Act} (hb:eX S w W) (h:jn P ops S w o v a):jn P ops S W o v a :=
 h.imp (fun ⟨h1,h2⟩=>⟨h1,fun X hX=>h2 X (hb.trans hX)⟩) id

theorem jn.grow {S':Nat→Prop} {w:World} {o:Oper} {v:Value} {a:Act} (hs:∀ b,S b→S' b) (h:jn P ops S w o v a):jn P ops S' w o v a :=
 h.imp (fun ⟨h1,h2⟩=>⟨h1,fun X hX=>h2 X fun b hb=>hX b (hs b hb)⟩) id
def Uj:List Nat:=[105,164,88]
def zG (o:Oper):Bool:=match o.op with
 | .move _|.assign _|.pick ..|.load ..|.binOp ..|.unOp ..|.convert ..|.slice ..|.fieldAddr ..|.field ..|.indexAddr ..|.index ..|.extract ..|.nilCheck ..|.alloc ..|.box ..|.buildSlice ..|.call ⟨.builtin .len,_,_⟩|.call ⟨.builtin .cap,_,_⟩=>false
 | .call ⟨.value (.func f),_,_⟩=>!Uj.any (Nat.beq f)
 | _=>true
def Sh (ops:Array Oper) (i:Nat):Nat→Nat→Bool
 | 0,_=>false
 | n+1,j=>(ops[j]?).any fun p=>(p.after.any fun e=>Region.binds .any e && Nat.beq e.on i) || p.after.any fun e=>Region.binds .any e && Sh ops i n e.on
theorem xw {ops:Array Oper} {listed:Array Bool} (hcl:ju .any ops listed) {i:Nat}:∀ (n j:Nat),Sh ops i n j=true→(∀ o,ops[j]?=some o→∀ e ∈ o.after,Region.binds .any e=true→listed.getD e.on false=true)→listed.getD i false=true
 | 0,_,h,_=>by cases h
 | n+1,j,h,hj=>by
  unfold Sh at h
  obtain ⟨p,hp⟩:∃ p,ops[j]?=some p:=by
   cases hp:ops[j]? with
   | none=>rw [hp] at h;cases h
   | some p=>exact ⟨p,rfl⟩
  rw [hp,bPx] at h
  rcases a2x.1 h with h|h
  ·obtain ⟨q,hq,h5⟩:=Array.any_eq_true.1 h
   simp only [YK] at h5
   have:=hj p hp _ (Array.getElem_mem hq) h5.1
   rwa [Zm h5.2] at this
  ·obtain ⟨q,hq,h5⟩:=Array.any_eq_true.1 h
   simp only [YK] at h5
   have hl:=hj p hp _ (Array.getElem_mem hq) h5.1
   exact xw hcl n _ h5.2 fun o ho e he hb=>hcl _ o ho hl e he hb
def BJ (ops:Array Oper) (i:Nat):Bool:=(List.range ops.size).all fun j=>!((ops[j]?).any zG) || Sh ops i 8 j
def ownB (ops:Array Oper) (o:Oper):Bool:=(List.range ops.size).all fun i=>!((ops[i]?).any fun q=>q.dst == o.dst) || BJ ops i
def qA (P:Program) (ops:Array Oper) (w:World) (o:Oper) (v:Value) (a:Act):Prop:=YieldsIf P ops (fun W=>Below w.heap.size w W) o v a
theorem qA.mono {w W:World} {o:Oper} {v:Value} {a:Act} (hb:Below w.heap.size w W) (h:qA P ops w o v a):qA P ops W o v a :=
 h.imp (fun ⟨h1,h2⟩=>⟨h1,fun X hX=>h2 X (oo hb hX)⟩) id
def ou (S:Nat→Prop) (o:Option Oper) (w W:World):Prop:=eX S w W∧(o.any zG=false→Below w.heap.size w W)
theorem ou.refl (S:Nat→Prop) (o:Option Oper) (w:World):ou S o w w:=⟨eX.refl S w,fun _=>Below.refl _ _⟩

def mF (P:Program) (md:Region.Mode) (ops:Array Oper) (Q:Exit→Act→World→Prop):(Nat→Prop)→Nat→Array Bool→Act→World→Prop
 | _,0,listed,a,w=>Region.ready md ops listed=[]∧Q .normal a w
 | S,fuel+1,listed,a,w =>
  (Region.ready md ops listed=[]→Q .normal a w) ∧
  ∀ i ∈ Region.ready md ops listed,wpOp P ops Q i (fun a' w'=>ou S ops[i]? w w'∧∃ S',(∀ b,S b→S' b)∧mF P md ops Q S' fuel (listed.setIfInBounds i true) a' w') a w

theorem vG:∀ (fuel:Nat) (S:Nat→Prop) (listed:Array Bool) (a:Act) (w:World),mF P md ops Q S fuel listed a w→wpAny P md ops Q fuel listed a w
 | 0,_,_,_,_,h=>h
 | fuel+1,_,_,_,_,h=>⟨h.1,fun i hi=>wpOp_mono (fun a' w' ⟨_,_,_,h'⟩=>vG fuel _ _ a' w' h') (h.2 i hi)⟩

theorem At {i:Nat} {oi:Oper} {v:Value} (hi:ops[i]?=some oi) (hsel:∀ (j:Nat) (o:Oper) cs b,ops[j]?=some o→o.op≠.select cs b)
  (hQ:∀ c a w,Q (.panic c) (a.put oi.dst v) w→Q (.panic c) a w) :
  ∀ (fuel:Nat) (S:Nat→Prop) (listed:Array Bool) (a:Act) (w:World),
   (∀ j oj,ops[j]?=some oj→j≠i→listed.getD j true=false→(∀ e ∈ oj.after,Region.binds md e=true→e.on≠i)→oi.apart ops oj=true) →
   i ∈ Region.ready md ops listed→jn P ops S w oi v a →
   mF P md ops Q S fuel (listed.setIfInBounds i true) (a.put oi.dst v) w→mF P md ops Q S (fuel+1) listed a w:=by
 intro fuel
 induction fuel with
 | zero =>
  intro S listed a w _ hr hy H
  refine ⟨fun h=>(by rw [h] at hr;cases hr),fun j hj=>?_⟩
  by_cases hji:j=i
  ·subst hji
   exact YieldsIf.wpOp hi hy (eX.refl S w) ⟨ou.refl S _ w,S,fun _ h=>h,H⟩
  ·have:=ready_mono hj hji
   rw [H.1] at this
   cases this
 | succ fuel ih =>
  intro S listed a w hfree hr hy H
  refine ⟨fun h=>(by rw [h] at hr;cases hr),fun j hj=>?_⟩
  by_cases hji:j=i
  ·subst hji
   exact YieldsIf.wpOp hi hy (eX.refl S w) ⟨ou.refl S _ w,S,fun _ h=>h,H⟩
  ·have h1:=H.2 j (ready_mono hj hji)
   obtain ⟨hjun,oj,hoj,hall⟩:=mem_ready.1 hj
   have hnot:∀ e ∈ oj.after,Region.binds md e=true→e.on≠i:=fun e he hb heq=>by
    have h1:=hall e he hb
    have h0:=(mem_ready.1 hr).1
    rw [heq] at h1
    rcases Z1 i listed.size with h'|h'
    ·simp [h'] at h0 h1;rw [h0] at h1;cases h1
    ·simp [ZU h'] at h1
   have h2:=wpOp_putIf hoj (hfree j oj hoj hji hjun hnot) (fun cs b=>hsel i oi cs b hi) (fun cs b=>hsel j oj cs b hoj) hQ hy h1
   have hfree':∀ k ok,ops[k]?=some ok→k≠i→(listed.setIfInBounds j true).getD k true=false →
     (∀ e ∈ ok.after,Region.binds md e=true→e.on≠i)→oi.apart ops ok=true:=fun k ok hk hki hun hno=>by
    refine hfree k ok hk hki ?_ hno
    by_cases hjk:j=k
    ·subst hjk;exact hjun
    ·rw [getD_set_ne true hjk] at hun;exact hun
   refine wpOp_mono (fun a' w' ⟨h3,h4,S',hSS,h5⟩=>⟨h4,S',hSS,ih S' (listed.setIfInBounds j true) a' w' hfree' (ready_mono hr (Ne.symm hji)) (jn.grow hSS (jn.mono h4.1 h3)) ?_⟩) h2
   rw [aDx _ _ hji]
   exact h5

theorem xR {i:Nat} {oi:Oper} {v:Value} (hi:ops[i]?=some oi) (hbe:BJ ops i=true) (hsel:∀ (j:Nat) (o:Oper) cs b,ops[j]?=some o→o.op≠.select cs b)
  (hQ:∀ c a w,Q (.panic c) (a.put oi.dst v) w→Q (.panic c) a w) :
  ∀ (fuel:Nat) (S:Nat→Prop) (listed:Array Bool) (a:Act) (w:World),ju .any ops listed →
   (∀ j oj,ops[j]?=some oj→j≠i→listed.getD j true=false→(∀ e ∈ oj.after,Region.binds .any e=true→e.on≠i)→oi.apart ops oj=true) →
   i ∈ Region.ready .any ops listed→qA P ops w oi v a →
   mF P .any ops Q S fuel (listed.setIfInBounds i true) (a.put oi.dst v) w→mF P .any ops Q S (fuel+1) listed a w:=by
 intro fuel
 induction fuel with
 | zero =>
  intro S listed a w _ _ hr hy H
  refine ⟨fun h=>(by rw [h] at hr;cases hr),fun j hj=>?_⟩
  by_cases hji:j=i
  ·subst hji
   exact YieldsIf.wpOp hi hy (Below.refl _ _) ⟨ou.refl S _ w,S,fun _ h=>h,H⟩
  ·have:=ready_mono hj hji
   rw [H.1] at this
   cases this
 | succ fuel ih =>
  intro S listed a w hcl hfree hr hy H
  refine ⟨fun h=>(by rw [h] at hr;cases hr),fun j hj=>?_⟩
  by_cases hji:j=i
  ·subst hji
   exact YieldsIf.wpOp hi hy (Below.refl _ _) ⟨ou.refl S _ w,S,fun _ h=>h,H⟩
  ·have h1:=H.2 j (ready_mono hj hji)
   obtain ⟨hjun,oj,hoj,hall⟩:=mem_ready.1 hj
   have hnot:∀ e ∈ oj.after,Region.binds .any e=true→e.on≠i:=fun e he hb heq=>by
    have h1:=hall e he hb
    have h0:=(mem_ready.1 hr).1
    rw [heq] at h1
    rcases Z1 i listed.size with h'|h'
    ·simp [h'] at h0 h1;rw [h0] at h1;cases h1
    ·simp [ZU h'] at h1
   have hmod:zG oj=false:=by
    cases hm:zG oj with
    | false=>rfl
    | true =>
     have h3:=Y8.1 hbe j (aqx.2 (Y4.1 hoj).1)
     rw [hoj,bPx,hm] at h3
     simp only [Bool.not_true,Bool.false_or] at h3
     have h4:=xw hcl 8 j h3 fun o ho e he hb=>by
      rw [hoj] at ho;cases ho
      exact hall e he hb
     have h5:=(mem_ready.1 hr).1
     rcases Z1 i listed.size with h'|h'
     ·simp [h'] at h4 h5;rw [h4] at h5;cases h5
     ·simp [ZU h'] at h4
   have h2:=wpOp_putIf hoj (hfree j oj hoj hji hjun hnot) (fun cs b=>hsel i oi cs b hi) (fun cs b=>hsel j oj cs b hoj) hQ hy h1
   have hfree':∀ k ok,ops[k]?=some ok→k≠i→(listed.setIfInBounds j true).getD k true=false →
     (∀ e ∈ ok.after,Region.binds .any e=true→e.on≠i)→oi.apart ops ok=true:=fun k ok hk hki hun hno=>by
    refine hfree k ok hk hki ?_ hno
    by_cases hjk:j=k
    ·subst hjk;exact hjun
    ·rw [getD_set_ne true hjk] at hun;exact hun
   refine wpOp_mono (fun a' w' ⟨h3,h4,S',hSS,h5⟩=>⟨h4,S',hSS,ih S' (listed.setIfInBounds j true) a' w' (cm hcl hj) hfree' (ready_mono hr (Ne.symm hji)) (qA.mono (h4.2 (by rw [hoj];exact hmod)) h3) ?_⟩) h2
   rw [aDx _ _ hji]
   exact h5

def l8 (P:Program) (ops:Array Oper) (Q:Exit→Act→World→Prop):(Nat→Prop)→eN→Act→World→Prop
 | _,.done,a,w=>Q .normal a w
 | S,.rd o r,a,w=>∃ v,(jn P ops S w o v a∨(ownB ops o=true∧qA P ops w o v a))∧l8 P ops Q S r (a.put o.dst v) w
 | S,.one o r,a,w=>if Region.wanted o (yielded ops a.tmps) then o.wp P a w (fun a' w'=>ou S (some o) w w'∧∃ S',(∀ b,S b→S' b)∧l8 P ops Q S' r a' w') Q else ∃ S',(∀ b,S b→S' b)∧l8 P ops Q S' r (a.put o.dst undef) w
 | S,.two o r p l,a,w =>
  (if Region.wanted o (yielded ops a.tmps) then o.wp P a w (fun a' w'=>ou S (some o) w w'∧∃ S',(∀ b,S b→S' b)∧l8 P ops Q S' r a' w') Q else ∃ S',(∀ b,S b→S' b)∧l8 P ops Q S' r (a.put o.dst undef) w) ∧
  (if Region.wanted p (yielded ops a.tmps) then p.wp P a w (fun a' w'=>ou S (some p) w w'∧∃ S',(∀ b,S b→S' b)∧l8 P ops Q S' l a' w') Q else ∃ S',(∀ b,S b→S' b)∧l8 P ops Q S' l (a.put p.dst undef) w)
 | S,.three o r p l q u,a,w =>
  (if Region.wanted o (yielded ops a.tmps) then o.wp P a w (fun a' w'=>ou S (some o) w w'∧∃ S',(∀ b,S b→S' b)∧l8 P ops Q S' r a' w') Q else ∃ S',(∀ b,S b→S' b)∧l8 P ops Q S' r (a.put o.dst undef) w) ∧
  (if Region.wanted p (yielded ops a.tmps) then p.wp P a w (fun a' w'=>ou S (some p) w w'∧∃ S',(∀ b,S b→S' b)∧l8 P ops Q S' l a' w') Q else ∃ S',(∀ b,S b→S' b)∧l8 P ops Q S' l (a.put p.dst undef) w) ∧
  (if Region.wanted q (yielded ops a.tmps) then q.wp P a w (fun a' w'=>ou S (some q) w w'∧∃ S',(∀ b,S b→S' b)∧l8 P ops Q S' u a' w') Q else ∃ S',(∀ b,S b→S' b)∧l8 P ops Q S' u (a.put q.dst undef) w)

theorem ou.lower {S S1:Nat→Prop} {o:Option Oper} {w W:World} (hs:∀ b,S b→S1 b) (h:ou S1 o w W):ou S o w W:=⟨fun b hb=>h.1 b (hs b hb),h.2⟩
theorem vA {S S1:Nat→Prop} {o:Oper} {r:eN} {a:Act} {w:World} (hs:∀ b,S b→S1 b) (h:l8 P ops Q S1 (.one o r) a w):l8 P ops Q S (.one o r) a w:=by
 unfold l8 at h ⊢
 split
 ·rename_i hw
  rw [YF hw] at h
  exact Oper.wp_mono (fun a' w' ⟨h1,S',h2,h3⟩=>⟨h1.lower hs,S',fun b hb=>h2 b (hs b hb),h3⟩) h
 ·rename_i hw
  rw [YE hw] at h
  obtain ⟨S',h2,h3⟩:=h
  exact ⟨S',fun b hb=>h2 b (hs b hb),h3⟩

theorem jz {i:Nat} {o:Oper} {a:Act} {w:World} {K K':(Nat→Prop)→Act→World→Prop} (ho:ops[i]?=some o) (hk:∀ S a' w',K S a' w'→K' S a' w')
  (h:if Region.wanted o (yielded ops a.tmps) then o.wp P a w (fun a' w'=>ou S (some o) w w'∧∃ S',(∀ b,S b→S' b)∧K S' a' w') Q else ∃ S',(∀ b,S b→S' b)∧K S' (a.put o.dst undef) w):wpOp P ops Q i (fun a' w'=>ou S ops[i]? w w'∧∃ S',(∀ b,S b→S' b)∧K' S' a' w') a w:=by
 unfold wpOp
 simp only [ho]
 split
 ·rename_i hw
  rw [YF hw] at h
  exact .inl (Oper.wp_mono (fun a' w' h'=>⟨h'.1,let ⟨S',h1,h2⟩:=h'.2;⟨S',h1,hk _ _ _ h2⟩⟩) h)
 ·rename_i hw
  rw [YE hw] at h
  exact ⟨ou.refl S _ w,let ⟨S',h1,h2⟩:=h;⟨S',h1,hk _ _ _ h2⟩⟩

theorem fK (hs:Region.noSelect ops=true) (hQ:∀ c a w,¬ Q (.panic c) a w):∀ (l:kE) (S:Nat→Prop) (listed:Array Bool) (a:Act) (w:World),ju .any ops listed→l.within ops.size=true→dX .any ops l listed=true→l8 P ops Q S (aG ops l) a w→mF P .any ops Q S l.len listed a w
 | .done,S,listed,a,w,_,_,hB,h=>⟨by simpa [dX] using hB,h⟩
 | .rd i r,S,listed,a,w,hcl,hl,hB,h=>by
  simp only [kE.within,YK,YP] at hl
  have ho:ops[i]?=some ops[i]:=YV hl.1
  simp only [aG,ho] at h
  simp only [dX,YK] at hB
  obtain ⟨⟨hr,hf⟩,hB'⟩:=hB
  obtain ⟨v,hy,hK⟩:=h
  rcases hy with hy|⟨hown,hy⟩
  ·exact At ho (Region.noSelect_spec hs) (fun c a w h=>absurd h (hQ c _ w)) r.len S listed a w (Region.free_spec ho hf) (by simpa using hr) hy (fK hs hQ r _ _ _ _ (cm hcl (by simpa using hr)) hl.2 hB' hK)
  ·have hbe:BJ ops i=true:=by
    have:=Y8.1 hown i (aqx.2 hl.1)
    simpa [ho] using this
   exact xR ho hbe (Region.noSelect_spec hs) (fun c a w h=>absurd h (hQ c _ w)) r.len S listed a w hcl (Region.free_spec ho hf) (by simpa using hr) hy (fK hs hQ r _ _ _ _ (cm hcl (by simpa using hr)) hl.2 hB' hK)
 | .one i r,S,listed,a,w,hcl,hl,hB,h=>by
  simp only [kE.within,YK,YP] at hl
  have ho:ops[i]?=some ops[i]:=YV hl.1
  simp only [aG,ho] at h
  simp only [dX,YK,ZZ] at hB
  refine ⟨fun h0=>(by rw [hB.1] at h0;cases h0),fun j hj=>?_⟩
  rw [hB.1] at hj
  obtain rfl:=Zs.1 hj
  exact jz ho (fun S' a' w'=>fK hs hQ r S' _ a' w' (cm hcl (by rw [hB.1];simp)) hl.2 hB.2) h
 | .two i r j l,S,listed,a,w,hcl,hl,hB,h=>by
  simp only [kE.within,YK,YP] at hl
  have ho:ops[i]?=some ops[i]:=YV hl.1.1.1
  have hp:ops[j]?=some ops[j]:=YV hl.1.2
  simp only [aG,ho,hp] at h
  simp only [dX,YK,ZZ] at hB
  obtain ⟨⟨⟨h1,h2⟩,h3⟩,h4⟩:=hB
  refine ⟨fun h0=>(by rw [h1] at h0;cases h0),fun q hq=>?_⟩
  rw [h1] at hq
  simp only [Zg,Zo,or_false] at hq
  rcases hq with rfl|rfl
  ·exact jz ho (fun S' a' w'=>fK hs hQ r S' _ a' w' (cm hcl (by rw [h1];simp)) hl.1.1.2 h3) h.1
  ·refine jz hp (fun S' a' w' h'=>?_) h.2
   show mF P .any ops Q S' r.len _ _ _
   rw [h2]
   exact fK hs hQ l S' _ a' w' (cm hcl (by rw [h1];simp)) hl.2 h4 h'
 | .three i r j l q0 u,S,listed,a,w,hcl,hl,hB,h=>by
  simp only [kE.within,YK,YP] at hl
  have ho:ops[i]?=some ops[i]:=YV hl.1.1.1.1.1
  have hp:ops[j]?=some ops[j]:=YV hl.1.1.1.2
  have hq0:ops[q0]?=some ops[q0]:=YV hl.1.2
  simp only [aG,ho,hp,hq0] at h
  simp only [dX,YK,ZZ] at hB
  obtain ⟨⟨⟨⟨⟨h1,h2⟩,h2'⟩,h3⟩,h4⟩,h5⟩:=hB
  refine ⟨fun h0=>(by rw [h1] at h0;cases h0),fun q hq=>?_⟩
  rw [h1] at hq
  simp only [Zg,Zo,or_false] at hq
  rcases hq with rfl|rfl|rfl
  ·exact jz ho (fun S' a' w'=>fK hs hQ r S' _ a' w' (cm hcl (by rw [h1];simp)) hl.1.1.1.1.2 h3) h.1
  ·refine jz hp (fun S' a' w' h'=>?_) h.2.1
   show mF P .any ops Q S' r.len _ _ _
   rw [h2]
   exact fK hs hQ l S' _ a' w' (cm hcl (by rw [h1];simp)) hl.1.1.2 h4 h'
  ·refine jz hq0 (fun S' a' w' h'=>?_) h.2.2
   show mF P .any ops Q S' r.len _ _ _
   rw [h2']
   exact fK hs hQ u S' _ a' w' (cm hcl (by rw [h1];simp)) hl.2 h5 h'

theorem WZ {a:Act} {w:World} (u:kE) (hs:Region.noSelect ops=true) (hul:u.len=ops.size) (huin:u.within ops.size=true) (hu:dX .any ops u (Array.replicate ops.size false)=true)
  (h:l8 P ops (NoPanic Q) S (aG ops u) a w.drew):wpAny P .any ops (NoPanic Q) ops.size (Array.replicate ops.size false) a w.drew:=by
 have:=vG _ _ _ _ _ (fK hs (fun c a w h=>h) u S _ a w.drew (py _) huin hu h)
 rwa [hul] at this
end
end Go.Proofs.YtghminnpfnkbjaaGreatDoor
namespace Go.Proofs.YtghminnpfnkbjaaGreatDoor
set_option linter.unusedVariables false
open Go.RowKit
def GW (rd:Option Nat):Fence:={ Fence.wide with round:=rd }
def su (o:Oper):Bool:=match o.op with|.defer _=>true|_=>false
theorem I4 {o:Oper} (h:su o=false):∀ c,o.op≠.defer c:=fun c e=>by simp [su,e] at h
def Gq (rd:Option Nat) (ops:Array Oper):Bool:=match rd with|none=>true|some _=>ops.toList.all fun o=>!su o
section
variable {P:Program} {rd:Option Nat} {n:Nat} {ops:Array Oper} {Q:Exit→Act→World→Prop} {md:Region.Mode}
theorem uI {f:FuncId} {args:Array Value} {w:World} {R:Ending→World→Prop}:CallsIn (GW rd) n P f args w R↔Calls P f args w R:=callsIn_wide
theorem PP {o:Oper} {a:Act} {K:Act→World→Prop}:∀ {r:Result Next},o.upon P a K Q r→o.uponIn (GW rd) n P a K Q r
 | .ok x w',h=>by
  cases x with
  | enter f args=>exact ⟨fun h=>(by cases h),uI.2 h⟩
  | row row args=>exact ⟨fun h=>(by cases h),fun c cs _=>let ⟨v,w',h1,h2⟩:=h c cs;⟨v,w',h1,stepsIn_wide.2 h2⟩⟩
  | _=>first|exact h|exact (h:False).elim
 | .halt x w',h=>by cases x <;> exact h
theorem Oper.wp_in {o:Oper} {a:Act} {w:World} {K:Act→World→Prop} (hd:rd=none∨su o=false) (h:o.wp P a w K Q):o.wpIn (GW rd) n P a w K Q:=by
 refine ⟨fun f _=>trivial,?_⟩
 have e:o.semAt (GW rd).round a.eval=execOp a.eval o:=by
  rcases hd with rfl|hd
  ·rfl
  ·exact Oper.semAt_eq _ _ _ (I4 hd)
 rw [e]
 exact PP h
theorem L8 (h:Gq rd ops=true) {i:Nat} {o:Oper} (ho:ops[i]?=some o):rd=none∨su o=false:=by
 cases rd with
 | none=>exact .inl rfl
 | some l =>
  have:=Y8.1 h o (Array.mem_toList_iff.2 (Array.mem_of_getElem? ho))
  simpa using this
theorem PI (hd:Gq rd ops=true) (hlo:¬ LetsOut Q) {i:Nat} {a:Act} {w:World} {K K':Act→World→Prop} (hK:∀ a w,K a w→K' a w) (h:wpOp P ops Q i K a w):wpOpIn (GW rd) n P ops Q i K' a w:=by
 unfold wpOp at h
 unfold wpOpIn
 cases ho:ops[i]? with
 | none=>simp only [ho] at h;exact hK _ _ h
 | some o =>
  simp only [ho] at h ⊢
  split
  ·rename_i hw
   rw [YF hw] at h
   rcases h with h|h
   ·exact Oper.wp_in (L8 hd ho) (Oper.wp_mono hK h)
   ·exact absurd h.2 hlo
  ·rename_i hw
   rw [YE hw] at h
   exact ⟨fun f _=>trivial,hK _ _ h⟩
theorem BZ (hd:Gq rd ops=true) (hlo:¬ LetsOut Q):∀ (f:Nat) (listed:Array Bool) (a:Act) (w:World),wpAny P md ops Q f listed a w→wpAnyIn (GW rd) n P md ops Q f listed a w
 | 0,_,_,_,h=>h
 | f+1,_,_,_,h=>⟨h.1,fun i hi=>PI hd hlo (fun a' w' h'=>BZ hd hlo f _ a' w' h') (h.2 i hi)⟩
def Al (Q:Exit→Act→World→Prop):Exit→Act→World→Prop
 | .normal,a,w=>Q .normal a w
 | _,_,_=>False
theorem Al.imp:∀ (e:Exit) (a:Act) (w:World),NoPanic (Al Q) e a w→Q e a w:=fun e a w h=>by
 cases e <;> first|exact h|exact (h:False).elim
theorem IV:¬ LetsOut (NoPanic (Al Q)):=fun ⟨_,_,h⟩=>h
theorem vD {id:Nat} {a:Act} {w:World} (hd:Gq rd ops=true) (hm:P.follows .mixedOrders=true) (h:wpAny P .any ops (NoPanic (Al Q)) ops.size (Array.replicate ops.size false) a w.drew):(Code.region id ops true).wpIn (GW rd) n P Q a w :=
 wpIn_mono (wpIn_region_any hm (BZ hd IV _ _ _ _ h)) Al.imp
end
end Go.Proofs.YtghminnpfnkbjaaGreatDoor
namespace Go.Proofs.YtghminnpfnkbjaaGreatDoor
set_option linter.unusedVariables false
namespace Am
open Go.RowKit
structure SV where
 p:(Nat→Prop)→World→Value→Prop
 st:∀ {St St':Nat→Prop} {w w':World} {v:Value},(∀ b,St b→St' b)→(∀ b cur t z,St b→w.heap[b]?=some (.cells cur t z)→w'.heap[b]?=some (.cells cur t z))→p St w v→p St' w' v
 one:∀ {St:Nat→Prop} {w:World} {v:Value},p St w v→v.cells=#[v]∧v.oneCell'=true

inductive CV where
 | top
 | c (v:Value)
 | err (k:Nat)
 | agg (n:Nat) (f:Nat→CV)
 | tup (n:Nat) (f:Nat→CV)
 | rs (k n:Nat) (f:Nat→Nat→CV)
 | rp (n:Nat) (f:Nat→CV)
 | os (i:Nat) (g:Option Nat) (off n k:Nat)
 | op (i:Nat) (g:Option Nat) (off:Nat)
 | fn (g:FuncId) (n:Nat) (f:Nat→CV)
 | pv (p:SV)

def ba (al:List Addr) (St:Nat→Prop) (w:World):CV→Value→Prop
 | .top,_=>True
 | .c v,x=>x=v
 | .err k,x=>x=ev al k
 | .agg n f,x=>∃ cs:Array Value,x=.agg cs∧cs.size=n∧∀ i,i<n→ba al St w (f i) (cs.getD i undef)
 | .tup n f,x=>∃ cs:Array Value,x=.tuple cs∧cs.size=n∧∀ i,i<n→ba al St w (f i) (cs.getD i undef)
 | .rs k n f,x=>∃ ao cap,x=.slice ao n cap∧n≤cap∧cap≤9223372036854775807∧(ao=none→cap=0)∧∀ a,ao=some a→0<n →
   a.spot=none∧St a.block∧∀ i j,i<n→j<k→∃ v,w.cell? ⟨a.block,a.off+(i * k+j),none⟩=some v∧ba al St w (f i j) v
 | .rp n f,x=>∃ b o,x=.pointer (some ⟨b,o,none⟩)∧St b∧∀ j,j<n→∃ v,w.cell? ⟨b,o+j,none⟩=some v∧ba al St w (f j) v
 | .os _ none _ n _,x=>n=0∧x=.slice none 0 0
 | .os _ (some g) off n k,x=>∃ cap,x=.slice (some ⟨g,off,none⟩) n cap∧n≤cap∧cap≤9223372036854775807∧∃ cur t z,w.heap[g]?=some (.cells cur t z)∧off+cap * k≤cur.size
 | .op _ g off,x=>∃ b,g=some b∧x=.pointer (some ⟨b,off,none⟩)
 | .fn g n f,x=>∃ cs:Array Value,x=.func (.func g) #[] cs∧cs.size=n∧∀ i,i<n→ba al St w (f i) (cs.getD i undef)
 | .pv p,x=>p.p St w x

structure qS (St:Nat→Prop) (w w':World):Prop where
 st:∀ b cur t z,St b→w.heap[b]?=some (.cells cur t z)→w'.heap[b]?=some (.cells cur t z)
 sh:∀ (b:Nat) cur t z,w.heap[b]?=some (.cells cur t z)→∃ cur' z',w'.heap[b]?=some (.cells cur' t z')∧cur'.size=cur.size

theorem qS.of_below {St:Nat→Prop} {w w':World} (h:Below w.heap.size w w') (hs:∀ b,St b→b<w.heap.size):qS St w w' where
 st:=fun b cur t z hb hc=>(h.block b (hs b hb)).trans hc
 sh:=fun b cur t z hb=>⟨cur,z,(h.block b (Y4.1 hb).1).trans hb,rfl⟩

theorem db {w w':World} {b:Nat} (h:w'.heap[b]?=w.heap[b]?) (o:Nat):w'.cell? ⟨b,o,none⟩=w.cell? ⟨b,o,none⟩:=World.cell?_of_block (w:=w) (a:=⟨b,o,none⟩) h

theorem ub {w w':World} {b o:Nat} {v:Value} (h:∀ cur t z,w.heap[b]?=some (.cells cur t z)→w'.heap[b]?=some (.cells cur t z)) (hv:w.cell? ⟨b,o,none⟩=some v):w'.cell? ⟨b,o,none⟩=some v:=by
 unfold World.cell? at hv ⊢
 split at hv
 ·rename_i cur t z hc
  rw [h _ _ _ hc]
  exact hv
 ·cases hv

theorem ba.evo {al:List Addr} {St St':Nat→Prop} {w w':World} (he:qS St w w') (hs:∀ b,St b→St' b):∀ (c:CV) (v:Value),ba al St w c v→ba al St' w' c v
 | .top,_,_=>trivial
 | .c _,_,h=>h
 | .err _,_,h=>h
 | .agg n f,_,⟨cs,h1,h2,h3⟩=>⟨cs,h1,h2,fun i hi=>ba.evo he hs (f i) _ (h3 i hi)⟩
 | .tup n f,_,⟨cs,h1,h2,h3⟩=>⟨cs,h1,h2,fun i hi=>ba.evo he hs (f i) _ (h3 i hi)⟩
 | .rs k n f,_,⟨ao,cap,h1,h2,h3,h4,h5⟩=>⟨ao,cap,h1,h2,h3,h4,fun a ha hn=>by
   obtain ⟨h6,h7,h8⟩:=h5 a ha hn
   refine ⟨h6,hs _ h7,fun i j hi hj=>?_⟩
   obtain ⟨v,hv,hr⟩:=h8 i j hi hj
   exact ⟨v,ub (fun cur t z hc=>he.st _ cur t z h7 hc) hv,ba.evo he hs (f i j) v hr⟩⟩
 | .rp n f,_,⟨b,o,h1,h2,h3⟩=>⟨b,o,h1,hs _ h2,fun j hj=>by
   obtain ⟨v,hv,hr⟩:=h3 j hj
   exact ⟨v,ub (fun cur t z hc=>he.st _ cur t z h2 hc) hv,ba.evo he hs (f j) v hr⟩⟩
 | .os _ none _ _ _,_,h=>h
 | .os _ (some g) off n k,_,⟨cap,h1,h2,h3,cur,t,z,h4,h5⟩=>by
   obtain ⟨cur',z',h6,h7⟩:=he.sh g cur t z h4
   exact ⟨cap,h1,h2,h3,cur',t,z',h6,by omega⟩
 | .op _ _ _,_,h=>h
 | .fn g n f,_,⟨cs,h1,h2,h3⟩=>⟨cs,h1,h2,fun i hi=>ba.evo he hs (f i) _ (h3 i hi)⟩
 | .pv p,_,h=>p.st hs he.st h

structure OP where
 p:List Addr→(Nat→Prop)→World→Nat→(Nat→Prop)→Prop
 st:∀ {al:List Addr} {St St':Nat→Prop} {w w':World} {g:Nat} {F:Nat→Prop},qS St w w'→(∀ b,St b→St' b)→(∀ b,F b→w'.heap[b]?=w.heap[b]?)→p al St w g F→p al St' w' g F

inductive bi where
 | dead
 | blk (n:Nat) (f:Nat→CV)
 | frz (n:Nat) (f:Nat→CV)
 | obj (p:OP)

def bi.rep (al:List Addr) (St:Nat→Prop) (w:World) (F:Nat→Prop):Option Nat→bi→Prop
 | _,.dead=>∀ b,¬ F b
 | none,.blk n _=>n=0∧∀ b,¬ F b
 | some g,.blk n f=>(∀ b,F b↔b=g)∧∃ cur t,w.heap[g]?=some (.cells cur t (0,0))∧n≤cur.size∧∀ i,i<n→ba al St w (f i) (cur.getD i undef)
 | none,.frz n _=>n=0∧∀ b,¬ F b
 | some g,.frz n f=>(∀ b,¬ F b)∧St g∧∃ cur t z,w.heap[g]?=some (.cells cur t z)∧n≤cur.size∧∀ i,i<n→ba al St w (f i) (cur.getD i undef)
 | none,.obj _=>∀ b,¬ F b
 | some g,.obj p=>p.p al St w g F

theorem bi.rep_evo {al:List Addr} {St St':Nat→Prop} {w w':World} (he:qS St w w') (hs:∀ b,St b→St' b) {F:Nat→Prop} (hF:∀ b,F b→w'.heap[b]?=w.heap[b]?):∀ {g:Option Nat} {r:bi},r.rep al St w F g→r.rep al St' w' F g
 | none,.dead,h=>h
 | some _,.dead,h=>h
 | none,.blk _ _,h=>h
 | some g,.blk n f,⟨h0,cur,t,h1,h2,h4⟩=>⟨h0,cur,t,(hF g ((h0 g).2 rfl)).trans h1,h2,fun i hi=>ba.evo he hs _ _ (h4 i hi)⟩
 | none,.frz _ _,h=>h
 | some g,.frz n f,⟨h0,hg,cur,t,z,h1,h2,h4⟩=>⟨h0,hs _ hg,cur,t,z,he.st g cur t z hg h1,h2,fun i hi=>ba.evo he hs _ _ (h4 i hi)⟩
 | none,.obj _,h=>h
 | some _,.obj p,h=>p.st he hs hF h

structure AS where
 env:List (Nat×CV)
 b:Nat→CV
 H:List (Option Nat×bi)

def look:List (Nat×CV)→(Nat→CV)→Nat→CV
 | [],b,d=>b d
 |(e,v)::r,b,d=>match Nat.beq e d with|true=>v|false=>look r b d

theorem qy (e d:Nat):(Nat.beq e d=true∧e=d)∨(Nat.beq e d=false∧e≠d):=by
 by_cases h:e=d
 ·exact .inl ⟨by subst h;exact Nat.beq_refl e,h⟩
 ·exact .inr ⟨by cases hb:Nat.beq e d with|true=>exact absurd (Zm hb) h|false=>rfl,h⟩

theorem fu (r:List (Nat×CV)) (b:Nat→CV) (d:Nat) (v:CV):look ((d,v)::r) b d=v:=by
 rcases qy d d with ⟨h,_⟩|⟨_,h⟩
 ·simp [look]
 ·exact absurd rfl h
theorem dy (r:List (Nat×CV)) (b:Nat→CV) {e d:Nat} (v:CV) (hn:e≠d):look ((e,v)::r) b d=look r b d:=by
 rcases qy e d with ⟨_,h⟩|⟨h,_⟩
 ·exact absurd h hn
 ·simp [look,h]

def AS.eval (s:AS):Operand→CV
 | .tmp t=>look s.env s.b t
 | .const v=>.c v
 | .global g=>.c (.pointer (some ⟨g,0,none⟩))
 | .func f=>.c (.func (.func f) #[] #[])

def AS.put (s:AS) (dst:Option Tmp) (v:CV):AS:=match dst with|some d=>⟨(d,v)::s.env,s.b,s.H⟩|none=>s

structure Gh where
 gs:List Nat
 al:List Addr
 w0:World
 F0:Nat→Prop
 St0:Nat→Prop
 N:Nat
 rd:Option Nat
 yl:Bool

structure jr (F0:Nat→Prop) (w0 w:World):Prop where
 os:w.os=w0.os
 tape:w.tape=w0.tape
 output:w.output=w0.output
 size:w0.heap.size≤w.heap.size
 block:∀ k,k<w0.heap.size→¬ F0 k→w.heap[k]?=w0.heap[k]?
 sh:∀ (b:Nat) cur t z,w0.heap[b]?=some (.cells cur t z)→∃ cur' z',w.heap[b]?=some (.cells cur' t z')∧cur'.size=cur.size

theorem jr.refl (F0:Nat→Prop) (w:World):jr F0 w w:=⟨rfl,rfl,rfl,YG _,fun _ _ _=>rfl,fun _ cur _ z h=>⟨cur,z,h,rfl⟩⟩
theorem jr.then {F0:Nat→Prop} {a b c:World} (h:jr F0 a b) (k:Below b.heap.size b c):jr F0 a c :=
 ⟨k.os.trans h.os,k.tape.trans h.tape,k.output.trans h.output,Zd h.size k.size,fun i hi hn=>(k.block i (Zf hi h.size)).trans (h.block i hi hn),fun i cur t z hb=>by
  obtain ⟨cur',z',h1,h2⟩:=h.sh i cur t z hb
  exact ⟨cur',z',(k.block i (Y4.1 h1).1).trans h1,h2⟩⟩
theorem jr.below {w w':World} (h:jr (fun _=>False) w w'):Below w.heap.size w w':=⟨h.os,h.tape,h.output,h.size,fun k hk=>h.block k hk (fun h=>h)⟩

structure Ef (al:List Addr) (St:Nat→Prop) (w:World) (base:Nat) (F0:Nat→Prop) (H:List (Option Nat×bi)) (fp:Nat→Nat→Prop):Prop where
 rep:∀ (i:Nat) (g:Option Nat) (r:bi),H[i]?=some (g,r)→r.rep al St w (fp i) g
 dis:∀ i j b,fp i b→fp j b→i=j
 own:∀ i b,fp i b→b<w.heap.size∧¬ St b∧(base≤b∨F0 b)
 out:∀ i,H.length≤i→∀ b,¬ fp i b
def dr (al:List Addr) (St:Nat→Prop) (w:World) (base:Nat) (F0:Nat→Prop) (H:List (Option Nat×bi)):Prop:=∃ fp,Ef al St w base F0 H fp

def oz (D:Nat):Deferred:={ target:=.collected D,args:=#[] }
def pD (G:Gh) (St:Nat→Prop) (w:World) (ds:List Deferred):Prop:=∃ Ds:List Nat,ds=Ds.map oz∧Ds.Nodup∧∀ D ∈ Ds,(St D∧w.heap[D]?=some (.deferred (some [])))∧G.w0.heap.size≤D∧D ∉ pn G.gs∧∀ a ∈ G.al,a.block≠D
theorem pD.none (G:Gh) (St:Nat→Prop) (w:World):pD G St w []:=⟨[],rfl,bUx,fun _ h=>by cases h⟩
theorem pD.keep {G:Gh} {St St':Nat→Prop} {w w':World} {ds:List Deferred} (h:pD G St w ds) (hs:∀ b,St b→St' b) (hw:∀ b,St b→w'.heap[b]?=w.heap[b]?):pD G St' w' ds:=by
 obtain ⟨Ds,h1,h2,h3⟩:=h
 exact ⟨Ds,h1,h2,fun D hD=>⟨⟨hs D (h3 D hD).1.1,(hw D (h3 D hD).1.1).trans (h3 D hD).1.2⟩,(h3 D hD).2⟩⟩
theorem pD.grow {G:Gh} {St St':Nat→Prop} {w:World} {ds:List Deferred} (h:pD G St w ds) (hs:∀ b,St b→St' b):pD G St' w ds:=h.keep hs fun _ _=>rfl
structure az (G:Gh) (St:Nat→Prop) (s:AS) (a:Act) (w:World):Prop where
 df:pD G St w a.defers
 sz:a.tmps.size=G.N
 env:∀ d,ba G.al St w (look s.env s.b d) (a.tmps.getD d undef)
 un:jr G.F0 G.w0 w
 s1:∀ b,G.St0 b→St b
 s2:∀ b,St b→G.St0 b∨G.w0.heap.size≤b∨G.F0 b
 s3:∀ b,St b→b<w.heap.size
 hp:dr G.al St w G.w0.heap.size G.F0 s.H
 sn:gc w G.gs G.al
 sg:(∀ g ∈ pn G.gs,St g)∧∀ a ∈ G.al,St a.block
def vy (G:Gh) (s:AS) (a:Act) (w:World):Prop:=∃ St,az G St s a w

theorem az.eval {G:Gh} {St:Nat→Prop} {s:AS} {a:Act} {w:World} (h:az G St s a w):∀ x:Operand,ba G.al St w (s.eval x) (a.eval x)
 | .tmp t=>h.env t
 | .const _=>rfl
 | .global _=>rfl
 | .func _=>rfl

theorem az.put {G:Gh} {St:Nat→Prop} {s:AS} {a:Act} {w:World} (h:az G St s a w) {dst:Option Tmp} {v:CV} {x:Value} (hd:∀ d,dst=some d→d<G.N) (hv:ba G.al St w v x) :
  az G St (s.put dst v) (a.put dst x) w:=by
 cases dst with
 | none=>exact h
 | some d =>
  have hlt:=hd d rfl
  refine ⟨h.df,by simp [Act.put,h.sz],fun e=>?_,h.un,h.s1,h.s2,h.s3,h.hp,h.sn,h.sg⟩
  by_cases hde:d=e
  ·subst hde
   show ba _ _ _ (look ((d,v)::s.env) s.b d) _
   rw [fu]
   simpa [Act.put,h.sz,hlt] using hv
  ·show ba _ _ _ (look ((d,v)::s.env) s.b e) _
   rw [dy _ _ _ hde]
   have:=h.env e
   simpa [Act.put,Zn hde] using this

theorem gc.keep {w w':World} {gs:List Nat} {al:List Addr} (h:gc w gs al) (h1:∀ g ∈ pn gs,w'.heap[g]?=w.heap[g]?) (h2:∀ a ∈ al,w'.heap[a.block]?=w.heap[a.block]?):gc w' gs al :=
 ⟨h.len,h.nd,fun i g hi hl=>(db (h1 g hl) 0).trans (h.var i g hi hl),fun x hx=>by
  obtain ⟨c,t,hc⟩:=h.row x hx
  exact ⟨c,t,(h2 x hx).trans hc⟩,fun h3 h4=>Hz (h.tab h3 h4) (fun o=>db (h1 _ h3) o) (fun o=>db (h1 _ h4) o),fun t ht hl i v hv=>(db (h1 _ hl) i).trans (h.tbl t ht hl i v hv),fun g hg=>by
   have h3:=h.lt g hg
   have h4:=h1 g hg
   rw [YV h3] at h4
   exact (Y4.1 h4).1⟩

theorem az.ext {G:Gh} {St:Nat→Prop} {s:AS} {a:Act} {w w':World} (h:az G St s a w) (hb:Below w.heap.size w w'):az G St s a w':=by
 have he:qS St w w':=qS.of_below hb h.s3
 refine ⟨h.df.keep (fun _ h=>h) (fun b hb'=>hb.block b (h.s3 b hb')),h.sz,fun d=>ba.evo he (fun _ x=>x) _ _ (h.env d),h.un.then hb,h.s1,h.s2,fun b hs=>Zf (h.s3 b hs) hb.size,?_,?_,h.sg⟩
 ·obtain ⟨fp,hp⟩:=h.hp
  exact ⟨fp,fun i g r hi=>bi.rep_evo he (fun _ x=>x) (fun b hF=>hb.block b (hp.own i b hF).1) (hp.rep i g r hi),hp.dis,fun i b hF=>⟨Zf (hp.own i b hF).1 hb.size,(hp.own i b hF).2⟩,hp.out⟩
 ·exact gc.keep h.sn (fun g hg=>hb.block g (h.s3 _ (h.sg.1 g hg))) (fun x hx=>hb.block _ (h.s3 _ (h.sg.2 x hx)))
theorem az.take {G:Gh} {St:Nat→Prop} {s:AS} {tmps:Array Value} {D:Nat} {Ds:List Nat} {w:World} (h:az G St s { tmps:=tmps,defers:=oz D::Ds.map oz } w) :
  w.heap[D]?=some (.deferred (some []))∧az G St s { tmps:=tmps,defers:=Ds.map oz } (w.putObj D (.deferred none)):=by
 obtain ⟨Ds',h1,h2,h3⟩:=h.df
 have h1:(D::Ds).map oz=Ds'.map oz:=h1
 have inj:∀ (l m:List Nat),l.map oz=m.map oz→l=m:=fun l=>by
  induction l with
  | nil=>intro m hm;cases m with|nil=>rfl|cons=>simp at hm
  | cons x l ih =>
   intro m hm
   cases m with
   | nil=>simp at hm
   | cons y m =>
    simp only [Zc,a3x] at hm
    have e:x=y:=by
     have:=Y3 Deferred.target hm.1
     simp only [oz,Target.collected.injEq] at this
     exact this
    rw [e,ih m hm.2]
 have e:=inj _ _ h1
 subst e
 obtain ⟨⟨hS,hD⟩,hb,hg,ha⟩:=h3 D (Y2 ..)
 have hold:∀ b,b≠D→(w.putObj D (.deferred none)).heap[b]?=w.heap[b]?:=fun b hb=>World.putObj_heap_other hb
 have hrow:∀ (b:Nat) cur t z,w.heap[b]?=some (.cells cur t z)→b≠D:=fun b cur t z hc e=>by rw [e,hD] at hc;cases hc
 have he:qS St w (w.putObj D (.deferred none)):=⟨fun b cur t z _ hc=>(hold b (hrow b cur t z hc)).trans hc,fun b cur t z hc=>⟨cur,z,(hold b (hrow b cur t z hc)).trans hc,rfl⟩⟩
 refine ⟨hD,⟨Ds,rfl,(aQx.1 h2).2,fun E hE=>?_⟩,h.sz,fun d=>ba.evo he (fun _ x=>x) _ _ (h.env d),⟨h.un.os,h.un.tape,h.un.output,by simp [h.un.size],fun k hk hF=>(hold k O).trans (h.un.block k hk hF),fun b cur t z hc=>?_⟩,h.s1,h.s2,fun b hb=>by simpa using h.s3 b hb,?_,?_,h.sg⟩
 ·obtain ⟨⟨k1,k2⟩,k3⟩:=h3 E (Y7 _ hE)
  exact ⟨⟨k1,(hold E (fun e=>(aQx.1 h2).1 (e ▸ hE))).trans k2⟩,k3⟩
 ·obtain ⟨cur',z',k1,k2⟩:=h.un.sh b cur t z hc
  exact ⟨cur',z',(hold b (hrow b _ _ _ k1)).trans k1,k2⟩
 ·obtain ⟨fp,hp⟩:=h.hp
  have hne:∀ i b,fp i b→b≠D:=fun i b hF e=>(hp.own i b hF).2.1 (e ▸ hS)
  exact ⟨fp,fun i g r hi=>bi.rep_evo he (fun _ x=>x) (fun b hF=>hold b (hne i b hF)) (hp.rep i g r hi),hp.dis,fun i b hF=>by simpa using hp.own i b hF,hp.out⟩
 ·exact gc.keep h.sn (fun g hg'=>hold g (fun e=>hg (e ▸ hg'))) (fun x hx=>hold _ (ha x hx))
theorem vy.ext {G:Gh} {s:AS} {a:Act} {w w':World} (h:vy G s a w) (hb:Below w.heap.size w w'):vy G s a w':=h.imp fun _ h=>h.ext hb

def aa (x y:CV):Prop:=∀ al St w v,ba al St w x v→ba al St w y v
theorem aa.refl (x:CV):aa x x:=fun _ _ _ _ h=>h
theorem I {v:CV}:aa v v:=aa.refl v
theorem aa.top (x:CV):aa x .top:=fun _ _ _ _ _=>trivial
theorem aa.of_eq {x y:CV} (h:x=y):aa x y:=h ▸ aa.refl x
theorem aa.trans {x y z:CV} (h:aa x y) (k:aa y z):aa x z:=fun al St w v hr=>k al St w v (h al St w v hr)
theorem aa.nil:aa (.c .nilIface) (.err 0):=fun _ _ _ _ h=>h
theorem aa.nilS (k:Nat) (f:Nat→Nat→CV):aa (.c (.slice none 0 0)) (.rs k 0 f):=fun _ _ _ _ h=>⟨none,0,h,YG _,by decide,fun _=>rfl,fun _ ha=>by cases ha⟩
theorem aa.rs {k n m:Nat} {f g:Nat→Nat→CV} (hn:n=m) (h:∀ i j,i<n→j<k→aa (f i j) (g i j)):aa (.rs k n f) (.rs k m g):=by
 subst hn
 rintro al St w v ⟨ao,cap,h1,h2,h3,h4,h5⟩
 refine ⟨ao,cap,h1,h2,h3,h4,fun a ha hn=>?_⟩
 obtain ⟨h6,h7,h8⟩:=h5 a ha hn
 refine ⟨h6,h7,fun i j hi hj=>?_⟩
 obtain ⟨v,hv,hr⟩:=h8 i j hi hj
 exact ⟨v,hv,h i j hi hj _ _ _ _ hr⟩
theorem aa.agg {n m:Nat} {f g:Nat→CV} (hn:n=m) (h:∀ i,i<n→aa (f i) (g i)):aa (.agg n f) (.agg m g):=by
 subst hn
 rintro al St w v ⟨cs,h1,h2,h3⟩
 exact ⟨cs,h1,h2,fun i hi=>h i hi _ _ _ _ (h3 i hi)⟩
theorem aa.tup {n m:Nat} {f g:Nat→CV} (hn:n=m) (h:∀ i,i<n→aa (f i) (g i)):aa (.tup n f) (.tup m g):=by
 subst hn
 rintro al St w v ⟨cs,h1,h2,h3⟩
 exact ⟨cs,h1,h2,fun i hi=>h i hi _ _ _ _ (h3 i hi)⟩

def fl (l:List CV) (i:Nat):CV:=match l,i with|[],_=>.top|x::_,0=>x|_::r,i+1=>fl r i

inductive oQ:List CV→List CV→Prop where
 | nil:oQ [] []
 | cons {x y:CV} {l m:List CV} (h:aa x y) (t:oQ l m):oQ (x::l) (y::m)

inductive bz (env:List (Nat×CV)) (b:Nat→CV):List (Nat×CV)→Prop where
 | nil:bz env b []
 | cons {d:Nat} {v:CV} {r:List (Nat×CV)} (h:aa (look env b d) v) (t:bz env b r):bz env b ((d,v)::r)

theorem bz.look {env:List (Nat×CV)} {b b':Nat→CV} {env':List (Nat×CV)} (h:bz env b env') (hb:∀ d,(∀ v,(d,v) ∉ env')→aa (look env b d) (b' d)):∀ d,aa (look env b d) (look env' b' d):=by
 have key:∀ l,bz env b l→∀ d,(∃ v,(d,v) ∈ l)→aa (Am.look env b d) (Am.look l b' d):=by
  intro l hl
  induction hl with
  | nil=>intro d ⟨v,hv⟩;cases hv
  | @cons e v r h1 _ ih =>
   intro d ⟨u,hu⟩
   by_cases hed:e=d
   ·subst hed;rw [fu];exact h1
   ·rw [dy _ _ _ hed]
    refine ih d ⟨u,?_⟩
    rcases Zg.1 hu with h2|h2
    ·cases h2;exact absurd rfl hed
    ·exact h2
 have key2:∀ l:List (Nat×CV),∀ d,(∀ v,(d,v) ∉ l)→Am.look l b' d=b' d:=by
  intro l
  induction l with
  | nil=>intro d _;rfl
  | cons x r ih =>
   intro d hd
   obtain ⟨e,v⟩:=x
   have hed:e≠d:=fun h=>hd v (by rw [h];exact Y2 ..)
   rw [dy _ _ _ hed]
   exact ih d fun u hu=>hd u (Y7 _ hu)
 intro d
 by_cases hd:∃ v,(d,v) ∈ env'
 ·exact key env' h d hd
 ·have hd':∀ v,(d,v) ∉ env':=fun v hv=>hd ⟨v,hv⟩
  rw [key2 env' d hd']
  exact hb d hd'

theorem az.ent {G:Gh} {St:Nat→Prop} {env env':List (Nat×CV)} {b b':Nat→CV} {H:List (Option Nat×bi)} {a:Act} {w:World} (h:az G St ⟨env,b,H⟩ a w) (he:∀ d,aa (look env b d) (look env' b' d)):az G St ⟨env',b',H⟩ a w :=
 ⟨h.df,h.sz,fun d=>he d _ _ _ _ (h.env d),h.un,h.s1,h.s2,h.s3,h.hp,h.sn,h.sg⟩

def im (H:List (Option Nat×bi)) (l:List Nat):List (Option Nat×bi):=l.map fun j=>H.getD j (none,.dead)
theorem dr.pick {al:List Addr} {St:Nat→Prop} {w:World} {base:Nat} {F0:Nat→Prop} {H H':List (Option Nat×bi)} (h:dr al St w base F0 H) (l:List Nat) (hl:l.Nodup) (hH:im H l=H'):dr al St w base F0 H':=by
 obtain ⟨fp,hp⟩:=h
 subst hH
 refine ⟨fun i b=>∃ j,l[i]?=some j∧fp j b,fun i g r hi=>?_,fun i j b ⟨p,hp1,hp2⟩ ⟨q,hq1,hq2⟩=>?_,fun i b ⟨p,_,hp2⟩=>hp.own p b hp2,fun i hi b ⟨p,hp1,_⟩=>?_⟩
 ·simp only [im,ZB,YM] at hi
  obtain ⟨j,hj,he⟩:=hi
  have e:(fun b=>∃ q,l[i]?=some q∧fp q b)=fp j:=funext fun b=>propext ⟨fun ⟨q,h1,h2⟩=>by rw [hj] at h1;cases h1;exact h2,fun h=>⟨j,hj,h⟩⟩
  show r.rep al St w (fun b=>∃ q,l[i]?=some q∧fp q b) g
  rw [e]
  by_cases hlt:j<H.length
  ·refine hp.rep j g r ?_
   rw [YR hlt,← he]
   simp [hlt]
  ·rw [YH,Y6 O] at he
   cases he
   exact fun b hb=>hp.out j O b hb
 ·have:=hp.dis p q b hp2 hq2
  subst this
  have hi:=(YJ.1 hp1).1
  exact (bzx hi hl).1 (hp1.trans hq1.symm)
 ·simp only [im,Zy] at hi
  rw [Y6 hi] at hp1
  cases hp1
inductive aP:List (Option Nat×bi)→List (Option Nat×bi)→Prop where
 | nil:aP [] []
 | same {x:Option Nat×bi} {l m:List (Option Nat×bi)} (t:aP l m):aP (x::l) (x::m)
 | blk {g:Option Nat} {n N:Nat} {f F:Nat→CV} {l m:List (Option Nat×bi)} (hn:n=N) (hF:∀ j,j<N→aa (f j) (F j)) (t:aP l m):aP ((g,.blk n f)::l) ((g,.blk N F)::m)
 | dead {g:Option Nat} {r:bi} {l m:List (Option Nat×bi)} (hr:∀ al St w F,bi.rep al St w F g r→∀ b,¬ F b) (t:aP l m):aP ((g,r)::l) ((g,.dead)::m)
theorem aP.refl:∀ l:List (Option Nat×bi),aP l l
 | []=>.nil
 | _::r=>.same (aP.refl r)
theorem aP.at {l m:List (Option Nat×bi)} (h:aP l m):l.length=m.length∧∀ (i:Nat) (g:Option Nat) (r':bi),m[i]?=some (g,r')→∃ r,l[i]?=some (g,r)∧∀ al St w F,bi.rep al St w F g r→bi.rep al St w F g r':=by
 induction h with
 | nil=>exact ⟨rfl,fun i g r h=>by simp at h⟩
 | same _ ih =>
  refine ⟨by simp [ih.1],fun i g r h=>?_⟩
  match i,h with
  | 0,h=>exact ⟨r,h,fun _ _ _ _ h=>h⟩
  | i+1,h=>exact ih.2 i g r h
 | @blk g0 n N f F l m hn hF _ ih =>
  subst hn
  refine ⟨by simp [ih.1],fun i g r h=>?_⟩
  match i,h with
  | 0,h =>
   simp at h
   obtain ⟨rfl,rfl⟩:=h
   refine ⟨.blk n f,rfl,fun al St w F1 h=>?_⟩
   cases g0 with
   | none=>exact h
   | some g =>
    obtain ⟨h1,cur,t,h2,h3,h4⟩:=h
    exact ⟨h1,cur,t,h2,h3,fun j hj=>hF j hj _ _ _ _ (h4 j hj)⟩
  | i+1,h=>exact ih.2 i g r h
 | @dead g0 r0 l m hr _ ih =>
  refine ⟨by simp [ih.1],fun i g r h=>?_⟩
  match i,h with
  | 0,h =>
   simp at h
   obtain ⟨rfl,rfl⟩:=h
   refine ⟨r0,rfl,fun al St w F1 h=>?_⟩
   have:=hr al St w F1 h
   cases g0 <;> exact this
  | i+1,h=>exact ih.2 i g r h
theorem dr.hent {al:List Addr} {St:Nat→Prop} {w:World} {base:Nat} {F0:Nat→Prop} {H H':List (Option Nat×bi)} (h:dr al St w base F0 H) (he:aP H H'):dr al St w base F0 H':=by
 obtain ⟨fp,hp⟩:=h
 obtain ⟨h1,h2⟩:=he.at
 exact ⟨fp,fun i g r hi=>by
  obtain ⟨r0,h3,h4⟩:=h2 i g r hi
  exact h4 _ _ _ _ (hp.rep i g r0 h3),hp.dis,hp.own,fun i hi=>hp.out i O⟩
theorem dr.none (al:List Addr) (St:Nat→Prop) (w:World) (base:Nat) (F0:Nat→Prop):dr al St w base F0 [] :=
 ⟨fun _ _=>False,fun i g r hi=>by simp at hi,fun _ _ _ h=>h.elim,fun _ _ h=>h.elim,fun _ _ _ h=>h⟩
end Am
end Go.Proofs.YtghminnpfnkbjaaGreatDoor
