/- The reference's Put (chapter 4). -/
import Derived.Test.YtjhgocnjhhjkoaaDoorW04c
namespace Go.Proofs.YtjhgocnjhhjkoaaDoor
open Go.RowKit

theorem digs8 (n : Int) : (digs 8 n).reverse = [byte (sh 7 n), byte (sh 6 n), byte (sh 5 n), byte (sh 4 n), byte (sh 3 n), byte (sh 2 n), byte (sh 1 n), byte (sh 0 n)] := rfl
theorem isLen_of (n : Int) (j : Nat) (hj : j ≤ 7) (h : stp (7 - j) n = true) (hno : j = 7 ∨ stp (6 - j) n = false) : IsLen n (7 - j) := by
  refine ⟨by omega, h, fun i hi => ?_⟩
  rcases hno with e | e
  · omega
  · cases hs : stp i n with
    | false => rfl
    | true =>
      have := stp_mono' n i (6 - j) (by omega) hs
      rw [this] at e
      cases e

theorem Bs.of_cells' {w : World} {b o cap n : Nat} {l : List UInt8} (hn : n = l.length) (h1 : n ≤ cap) (h2 : cap ≤ 9223372036854775807)
    (h : ∀ i, i < n → w.cell? ⟨b, o + i, none⟩ = some (.int .u8 (l.getD i 0).toNat)) : Bs w (.slice (some ⟨b, o, none⟩) n cap) l := by
  subst hn
  exact Bs.of_cells h1 h2 h

theorem own_len {w : World} {base : Nat} {e : TypeId} {size : Nat} {v : Value} {n : Nat} {xs : List Value} (h : w.ownsRow base e size v n xs) : lenOf v = n := by
  rcases h.2 with ⟨rfl, h0⟩ | ⟨g, cap, cur, rfl, _⟩
  · simp [lenOf, h0]
  · rfl

def RPut (n : Int) (w : World) (e : Ending) (w' : World) : Prop := ∃ v k, e = .returned v ∧ IsLen n k ∧ Bs w' v (digs (k + 1) n).reverse ∧ Below w.heap.size w w'

set_option maxRecDepth 100000 in
set_option maxHeartbeats 4000000 in
theorem rput_any (n : Int) (w : World) (h1 : -9223372036854775808 ≤ n) (h2 : n ≤ 9223372036854775807) :
    Calls Tryd.prog 23 #[.int .i64 n] w (RPut n w) := by
  obtain ⟨i, hi, hz0, hz1, hz2⟩ := info_parts info_byte
  have H7 := Lib.hid (stp_seven n h1 h2)
  obtain ⟨m, hm⟩ : ∃ m, m = n % 18446744073709551616 := ⟨_, rfl⟩
  have hm0 : 0 ≤ m := by omega
  have hm1 : m < 18446744073709551616 := by omega
  have hw : IntKind.u64.wrap n = m := by rw [IntKind.wrap_u64]; exact hm.symm
  have HM := Lib.hid hm
  clear hm
  go_enter Tryd.func23, Tryd.ntmps23
  go_wp2
  clear hw
  go_loopw [3, 5] (fun v i wr => ∃ k : Nat, k ≤ 8 ∧ i = .int .i64 (7 - (k : Int)) ∧ wr.ownsRow w.heap.size 5 1 v k (bv ((digs 8 n).reverse.take k)) ∧ Below w.heap.size w wr)
    (fun v _ _ => 8 - lenOf v)
  case atStart =>
    refine ⟨0, by omega, rfl, ⟨rfl, .inr ⟨w.heap.size, 0, #[], rfl, Nat.le_refl _, heap_alloc_new w _, by omega, by decide, rfl, rfl⟩⟩, (Below.refl _ _).alloc (Nat.le_refl _) _⟩
  case round =>
    obtain ⟨k, hk, rfl, ho, hB⟩ := hrel
    by_cases h8 : k = 8
    · subst h8
      obtain ⟨wo, rfl⟩ : ∃ wo : World, wo = wr := ⟨_, rfl⟩
      have HO := Lib.hid ho
      clear ho
      obtain ⟨g, cap, rfl, hg, hkc, hgs, hcm⟩ := own_cons HO.out (by omega)
      have HC : Hid (∀ i, i < 8 → wo.cell? ⟨g, i, none⟩ = some (.int .u8 (byte (sh (7 - i) n)).toNat)) := fun i hi => by
        rw [HO.out.cellAt i (by omega), bv_get _ _ (by simp [digs_length]; omega)]
        have e : (List.take 8 (digs 8 n).reverse) = (digs 8 n).reverse := List.take_of_length_le (by simp [digs_length])
        rw [e, digs_rev_get _ _ _ (by omega)]
      have HW : Hid (Below w.heap.size w wo) := hB
      clear hB HO
      go_wp2
      go_loopw [3] (fun v wr => ∃ j : Nat, j ≤ 7 ∧ v = .slice (some ⟨g, j, none⟩) (8 - j) (cap - j) ∧ stp (7 - j) n = true ∧ Below wo.heap.size wo wr) (fun v _ => lenOf v)
      case atStart => exact ⟨0, by omega, rfl, H7.out, Below.refl _ _⟩
      case round =>
        obtain ⟨j, hj, rfl, hst, hB⟩ := hrel
        have HST := Lib.hid hst
        have HBW : Hid (Below w.heap.size w wr) := HW.out.trans (hB.mono HW.out.size)
        have HBL : Hid (Below wo.heap.size wo wr) := hB
        have HFIN : Hid ((j = 7 ∨ stp (6 - j) n = false) → IsLen n (7 - j) ∧ Bs wr (.slice (some ⟨g, j, none⟩) (8 - j) (cap - j)) (digs (7 - j + 1) n).reverse) := fun hno =>
          ⟨isLen_of n j hj HST.out hno, Bs.of_cells' (by simp [digs_length]; omega) (by omega) (by omega) fun i hi => by
            rw [below_cell hB (HC.out (j + i) (by omega)), digs_rev_get _ _ _ (by omega), show 7 - j + 1 - 1 - i = 7 - (j + i) by omega]⟩
        by_cases h7 : j = 7
        · subst h7
          go_wp2
          go_ret
          exact ⟨_, 0, rfl, (HFIN.out (.inl (by trivial))).1, (HFIN.out (.inl (by trivial))).2, HBW.out⟩
        · have c0 := below_cell hB (HC.out j (by omega))
          have c1 := below_cell hB (HC.out (j + 1) (by omega))
          have HI := Lib.hid (idle_digs n (6 - j) (by rw [show 6 - j + 1 = 7 - j by omega]; exact HST.out))
          have HX : Hid (idle (digs (6 - j + 2) n).reverse = (((byte (sh (7 - j) n)).toNat == 0 && decide ((byte (sh (7 - (j + 1)) n)).toNat < 128)) || ((byte (sh (7 - j) n)).toNat == 255 && decide (128 ≤ (byte (sh (7 - (j + 1)) n)).toNat)))) := by
            rw [digs_rev_cons, idle_two, show 6 - j + 1 = 7 - j by omega, show 7 - (j + 1) = 6 - j by omega]
            rfl
          clear hst hB
          have bx := (byte (sh (7 - j) n)).toNat_lt
          have by' := (byte (sh (7 - (j + 1)) n)).toNat_lt
          generalize byte (sh (7 - j) n) = x at c0 HX bx
          generalize byte (sh (7 - (j + 1)) n) = y at c1 HX by'
          have hcap : ¬ cap - j = 1 := by omega
          have el : ((8 - j : Nat) : Int) = 8 - (j : Int) := by omega
          have p1 : (1 : Int) < 8 - (j : Int) := by omega
          have p2 : (0 : Int) < 8 - (j : Int) := by omega
          by_cases hs : stp (6 - j) n = true
          · have hxy : (x.toNat = 0 ∧ y.toNat < 128) ∨ (x.toNat = 255 ∧ 128 ≤ y.toNat) := by
              have := HX.out
              rw [HI.out, hs] at this
              simpa using this.symm
            have HS1 : Hid (stp (7 - (j + 1)) n = true) := by rw [show 7 - (j + 1) = 6 - j by omega]; exact hs
            have H2 : ((((x.toNat : Nat) : Int) == 0) = true ∧ decide (((y.toNat : Nat) : Int) < 128) = true) ∨
                ((((x.toNat : Nat) : Int) == 0) = false ∧ (((x.toNat : Nat) : Int) == 255) = true ∧ decide ((127 : Int) < (y.toNat : Nat)) = true) := by
              simp only [beq_iff_eq, beq_eq_false_iff_ne, ne_eq, decide_eq_true_eq]
              omega
            clear hxy hs
            rcases H2 with ⟨t0, t1⟩ | ⟨t0, t1, t2⟩
            all_goals
              go_wp2
              go_roundw
              case rel => exact ⟨j + 1, by omega, by rw [show 8 - (j + 1) = 8 - j - 1 by omega, show cap - (j + 1) = cap - j - 1 by omega], HS1.out, HBL.out⟩
              case measure => simp [lenOf]; omega
          · have hxy : ¬ (x.toNat = 0 ∧ y.toNat < 128) ∧ ¬ (x.toNat = 255 ∧ 128 ≤ y.toNat) := by
              have := HX.out
              rw [HI.out, show stp (6 - j) n = false by simpa using hs] at this
              simp at this
              omega
            have HF2 := Lib.hid (HFIN.out (.inr (by simpa using hs)))
            have H3 : ((((x.toNat : Nat) : Int) == 0) = true ∧ decide (((y.toNat : Nat) : Int) < 128) = false ∧ (((x.toNat : Nat) : Int) == 255) = false ∧ True) ∨
                ((((x.toNat : Nat) : Int) == 0) = false ∧ True ∧ (((x.toNat : Nat) : Int) == 255) = true ∧ decide ((127 : Int) < (y.toNat : Nat)) = false) ∨
                ((((x.toNat : Nat) : Int) == 0) = false ∧ True ∧ (((x.toNat : Nat) : Int) == 255) = false ∧ True) := by
              simp only [beq_iff_eq, beq_eq_false_iff_ne, ne_eq, decide_eq_false_iff_not, and_true, true_and]
              omega
            clear hxy hs
            rcases H3 with ⟨t0, t1, t2, t3⟩ | ⟨t0, t1, t2, t3⟩ | ⟨t0, t1, t2, t3⟩
            all_goals
              go_wp2
              go_ret
              exact ⟨_, 7 - j, rfl, HF2.out.1, HF2.out.2, HBW.out⟩
    · have b8 : (0 : Int) ≤ 7 - (k : Int) := by omega
      have HL := Lib.hid (own_len ho)
      have HO := Lib.hid ho
      clear ho
      have HT : Hid ((digs 8 n).reverse.take (k + 1) = (digs 8 n).reverse.take k ++ [byte (sh (7 - k) n)]) := by
        rw [List.take_succ_eq_append_getElem (by simp [digs_length]; omega)]
        have := digs_rev_get n 8 k (by omega)
        simp only [List.getD, List.getElem?_eq_getElem (show k < (digs 8 n).reverse.length by simp [digs_length]; omega), Option.getD_some] at this
        rw [this]
        rfl
      have hk7 : k = 0 ∨ k = 1 ∨ k = 2 ∨ k = 3 ∨ k = 4 ∨ k = 5 ∨ k = 6 ∨ k = 7 := by omega
      clear hk h8
      rcases hk7 with rfl | rfl | rfl | rfl | rfl | rfl | rfl | rfl
      · go_wp2_with (at_builtin; refine wpList_append_own _ rfl (.tmp 13) (.tmp 20) 38 rfl w.heap.size 5 i (.int .u8 0) 1 1 Tryd.underlying38 hi hz0 hz1 hz2 rfl (by decide) _ _ _ rfl (HO.out.alloc _) ⟨wr.heap.size, 0, none⟩ 1 1 [.int .u8 (m / 72057594037927936)] rfl rfl ?c1 ?c2 ?c3 ?c4 ?c5 ?_)
        case c1 =>
          intro j u hu
          match j, hu with
          | 0, hu => simp at hu; subst hu; simp [Addr.add]
          | j + 1, hu => simp at hu
        case c2 => intro u hu; simp at hu; subst hu; rfl
        case c3 => decide
        case c4 => decide
        case c5 => have := hB.size; simp; omega
        intro v' w1 ho1 hg1 _
        have HO1 : Hid (w1.ownsRow w.heap.size 5 1 v' (0 + 1) (bv ((digs 8 n).reverse.take (0 + 1)))) := by
          rw [HT.out, bv_append]
          have e : bv [byte (sh (7 - 0) n)] = [.int .u8 (m / 72057594037927936)] := by
            have e1 : (m / 72057594037927936) = sh (7 - 0) n % 256 := by
              rw [HM.out]
              simp only [sh, Nat.reduceSub]
              omega
            simp only [bv, List.map_cons, List.map_nil, byte_toNat, e1]
          rw [e]
          exact ho1
        have HB1 : Hid (Below w.heap.size w w1) := (hB.alloc hB.size _).grown hg1 (by have := hB.size; simp; omega) (fun q hq => (HO.out.lt q hq).1)
        clear ho1 hg1 hB
        obtain ⟨g2, cap2, e2, _⟩ := own_cons HO1.out (by omega)
        subst e2
        go_wp2
        go_roundw
        case rel => exact ⟨0 + 1, by omega, int_eq (by omega), HO1.out, HB1.out⟩
        case measure => rw [HL.out]; simp only [lenOf]; omega
      · go_wp2_with (at_builtin; refine wpList_append_own _ rfl (.tmp 13) (.tmp 20) 38 rfl w.heap.size 5 i (.int .u8 0) 1 1 Tryd.underlying38 hi hz0 hz1 hz2 rfl (by decide) _ _ _ rfl (HO.out.alloc _) ⟨wr.heap.size, 0, none⟩ 1 1 [.int .u8 (m / 281474976710656 % 256)] rfl rfl ?c1 ?c2 ?c3 ?c4 ?c5 ?_)
        case c1 =>
          intro j u hu
          match j, hu with
          | 0, hu => simp at hu; subst hu; simp [Addr.add]
          | j + 1, hu => simp at hu
        case c2 => intro u hu; simp at hu; subst hu; rfl
        case c3 => decide
        case c4 => decide
        case c5 => have := hB.size; simp; omega
        intro v' w1 ho1 hg1 _
        have HO1 : Hid (w1.ownsRow w.heap.size 5 1 v' (1 + 1) (bv ((digs 8 n).reverse.take (1 + 1)))) := by
          rw [HT.out, bv_append]
          have e : bv [byte (sh (7 - 1) n)] = [.int .u8 (m / 281474976710656 % 256)] := by
            have e1 : (m / 281474976710656 % 256) = sh (7 - 1) n % 256 := by
              rw [HM.out]
              simp only [sh, Nat.reduceSub]
              omega
            simp only [bv, List.map_cons, List.map_nil, byte_toNat, e1]
          rw [e]
          exact ho1
        have HB1 : Hid (Below w.heap.size w w1) := (hB.alloc hB.size _).grown hg1 (by have := hB.size; simp; omega) (fun q hq => (HO.out.lt q hq).1)
        clear ho1 hg1 hB
        obtain ⟨g2, cap2, e2, _⟩ := own_cons HO1.out (by omega)
        subst e2
        go_wp2
        go_roundw
        case rel => exact ⟨1 + 1, by omega, int_eq (by omega), HO1.out, HB1.out⟩
        case measure => rw [HL.out]; simp only [lenOf]; omega
      · go_wp2_with (at_builtin; refine wpList_append_own _ rfl (.tmp 13) (.tmp 20) 38 rfl w.heap.size 5 i (.int .u8 0) 1 1 Tryd.underlying38 hi hz0 hz1 hz2 rfl (by decide) _ _ _ rfl (HO.out.alloc _) ⟨wr.heap.size, 0, none⟩ 1 1 [.int .u8 (m / 1099511627776 % 256)] rfl rfl ?c1 ?c2 ?c3 ?c4 ?c5 ?_)
        case c1 =>
          intro j u hu
          match j, hu with
          | 0, hu => simp at hu; subst hu; simp [Addr.add]
          | j + 1, hu => simp at hu
        case c2 => intro u hu; simp at hu; subst hu; rfl
        case c3 => decide
        case c4 => decide
        case c5 => have := hB.size; simp; omega
        intro v' w1 ho1 hg1 _
        have HO1 : Hid (w1.ownsRow w.heap.size 5 1 v' (2 + 1) (bv ((digs 8 n).reverse.take (2 + 1)))) := by
          rw [HT.out, bv_append]
          have e : bv [byte (sh (7 - 2) n)] = [.int .u8 (m / 1099511627776 % 256)] := by
            have e1 : (m / 1099511627776 % 256) = sh (7 - 2) n % 256 := by
              rw [HM.out]
              simp only [sh, Nat.reduceSub]
              omega
            simp only [bv, List.map_cons, List.map_nil, byte_toNat, e1]
          rw [e]
          exact ho1
        have HB1 : Hid (Below w.heap.size w w1) := (hB.alloc hB.size _).grown hg1 (by have := hB.size; simp; omega) (fun q hq => (HO.out.lt q hq).1)
        clear ho1 hg1 hB
        obtain ⟨g2, cap2, e2, _⟩ := own_cons HO1.out (by omega)
        subst e2
        go_wp2
        go_roundw
        case rel => exact ⟨2 + 1, by omega, int_eq (by omega), HO1.out, HB1.out⟩
        case measure => rw [HL.out]; simp only [lenOf]; omega
      · go_wp2_with (at_builtin; refine wpList_append_own _ rfl (.tmp 13) (.tmp 20) 38 rfl w.heap.size 5 i (.int .u8 0) 1 1 Tryd.underlying38 hi hz0 hz1 hz2 rfl (by decide) _ _ _ rfl (HO.out.alloc _) ⟨wr.heap.size, 0, none⟩ 1 1 [.int .u8 (m / 4294967296 % 256)] rfl rfl ?c1 ?c2 ?c3 ?c4 ?c5 ?_)
        case c1 =>
          intro j u hu
          match j, hu with
          | 0, hu => simp at hu; subst hu; simp [Addr.add]
          | j + 1, hu => simp at hu
        case c2 => intro u hu; simp at hu; subst hu; rfl
        case c3 => decide
        case c4 => decide
        case c5 => have := hB.size; simp; omega
        intro v' w1 ho1 hg1 _
        have HO1 : Hid (w1.ownsRow w.heap.size 5 1 v' (3 + 1) (bv ((digs 8 n).reverse.take (3 + 1)))) := by
          rw [HT.out, bv_append]
          have e : bv [byte (sh (7 - 3) n)] = [.int .u8 (m / 4294967296 % 256)] := by
            have e1 : (m / 4294967296 % 256) = sh (7 - 3) n % 256 := by
              rw [HM.out]
              simp only [sh, Nat.reduceSub]
              omega
            simp only [bv, List.map_cons, List.map_nil, byte_toNat, e1]
          rw [e]
          exact ho1
        have HB1 : Hid (Below w.heap.size w w1) := (hB.alloc hB.size _).grown hg1 (by have := hB.size; simp; omega) (fun q hq => (HO.out.lt q hq).1)
        clear ho1 hg1 hB
        obtain ⟨g2, cap2, e2, _⟩ := own_cons HO1.out (by omega)
        subst e2
        go_wp2
        go_roundw
        case rel => exact ⟨3 + 1, by omega, int_eq (by omega), HO1.out, HB1.out⟩
        case measure => rw [HL.out]; simp only [lenOf]; omega
      · go_wp2_with (at_builtin; refine wpList_append_own _ rfl (.tmp 13) (.tmp 20) 38 rfl w.heap.size 5 i (.int .u8 0) 1 1 Tryd.underlying38 hi hz0 hz1 hz2 rfl (by decide) _ _ _ rfl (HO.out.alloc _) ⟨wr.heap.size, 0, none⟩ 1 1 [.int .u8 (m / 16777216 % 256)] rfl rfl ?c1 ?c2 ?c3 ?c4 ?c5 ?_)
        case c1 =>
          intro j u hu
          match j, hu with
          | 0, hu => simp at hu; subst hu; simp [Addr.add]
          | j + 1, hu => simp at hu
        case c2 => intro u hu; simp at hu; subst hu; rfl
        case c3 => decide
        case c4 => decide
        case c5 => have := hB.size; simp; omega
        intro v' w1 ho1 hg1 _
        have HO1 : Hid (w1.ownsRow w.heap.size 5 1 v' (4 + 1) (bv ((digs 8 n).reverse.take (4 + 1)))) := by
          rw [HT.out, bv_append]
          have e : bv [byte (sh (7 - 4) n)] = [.int .u8 (m / 16777216 % 256)] := by
            have e1 : (m / 16777216 % 256) = sh (7 - 4) n % 256 := by
              rw [HM.out]
              simp only [sh, Nat.reduceSub]
              omega
            simp only [bv, List.map_cons, List.map_nil, byte_toNat, e1]
          rw [e]
          exact ho1
        have HB1 : Hid (Below w.heap.size w w1) := (hB.alloc hB.size _).grown hg1 (by have := hB.size; simp; omega) (fun q hq => (HO.out.lt q hq).1)
        clear ho1 hg1 hB
        obtain ⟨g2, cap2, e2, _⟩ := own_cons HO1.out (by omega)
        subst e2
        go_wp2
        go_roundw
        case rel => exact ⟨4 + 1, by omega, int_eq (by omega), HO1.out, HB1.out⟩
        case measure => rw [HL.out]; simp only [lenOf]; omega
      · go_wp2_with (at_builtin; refine wpList_append_own _ rfl (.tmp 13) (.tmp 20) 38 rfl w.heap.size 5 i (.int .u8 0) 1 1 Tryd.underlying38 hi hz0 hz1 hz2 rfl (by decide) _ _ _ rfl (HO.out.alloc _) ⟨wr.heap.size, 0, none⟩ 1 1 [.int .u8 (m / 65536 % 256)] rfl rfl ?c1 ?c2 ?c3 ?c4 ?c5 ?_)
        case c1 =>
          intro j u hu
          match j, hu with
          | 0, hu => simp at hu; subst hu; simp [Addr.add]
          | j + 1, hu => simp at hu
        case c2 => intro u hu; simp at hu; subst hu; rfl
        case c3 => decide
        case c4 => decide
        case c5 => have := hB.size; simp; omega
        intro v' w1 ho1 hg1 _
        have HO1 : Hid (w1.ownsRow w.heap.size 5 1 v' (5 + 1) (bv ((digs 8 n).reverse.take (5 + 1)))) := by
          rw [HT.out, bv_append]
          have e : bv [byte (sh (7 - 5) n)] = [.int .u8 (m / 65536 % 256)] := by
            have e1 : (m / 65536 % 256) = sh (7 - 5) n % 256 := by
              rw [HM.out]
              simp only [sh, Nat.reduceSub]
              omega
            simp only [bv, List.map_cons, List.map_nil, byte_toNat, e1]
          rw [e]
          exact ho1
        have HB1 : Hid (Below w.heap.size w w1) := (hB.alloc hB.size _).grown hg1 (by have := hB.size; simp; omega) (fun q hq => (HO.out.lt q hq).1)
        clear ho1 hg1 hB
        obtain ⟨g2, cap2, e2, _⟩ := own_cons HO1.out (by omega)
        subst e2
        go_wp2
        go_roundw
        case rel => exact ⟨5 + 1, by omega, int_eq (by omega), HO1.out, HB1.out⟩
        case measure => rw [HL.out]; simp only [lenOf]; omega
      · go_wp2_with (at_builtin; refine wpList_append_own _ rfl (.tmp 13) (.tmp 20) 38 rfl w.heap.size 5 i (.int .u8 0) 1 1 Tryd.underlying38 hi hz0 hz1 hz2 rfl (by decide) _ _ _ rfl (HO.out.alloc _) ⟨wr.heap.size, 0, none⟩ 1 1 [.int .u8 (m / 256 % 256)] rfl rfl ?c1 ?c2 ?c3 ?c4 ?c5 ?_)
        case c1 =>
          intro j u hu
          match j, hu with
          | 0, hu => simp at hu; subst hu; simp [Addr.add]
          | j + 1, hu => simp at hu
        case c2 => intro u hu; simp at hu; subst hu; rfl
        case c3 => decide
        case c4 => decide
        case c5 => have := hB.size; simp; omega
        intro v' w1 ho1 hg1 _
        have HO1 : Hid (w1.ownsRow w.heap.size 5 1 v' (6 + 1) (bv ((digs 8 n).reverse.take (6 + 1)))) := by
          rw [HT.out, bv_append]
          have e : bv [byte (sh (7 - 6) n)] = [.int .u8 (m / 256 % 256)] := by
            have e1 : (m / 256 % 256) = sh (7 - 6) n % 256 := by
              rw [HM.out]
              simp only [sh, Nat.reduceSub]
              omega
            simp only [bv, List.map_cons, List.map_nil, byte_toNat, e1]
          rw [e]
          exact ho1
        have HB1 : Hid (Below w.heap.size w w1) := (hB.alloc hB.size _).grown hg1 (by have := hB.size; simp; omega) (fun q hq => (HO.out.lt q hq).1)
        clear ho1 hg1 hB
        obtain ⟨g2, cap2, e2, _⟩ := own_cons HO1.out (by omega)
        subst e2
        go_wp2
        go_roundw
        case rel => exact ⟨6 + 1, by omega, int_eq (by omega), HO1.out, HB1.out⟩
        case measure => rw [HL.out]; simp only [lenOf]; omega
      · go_wp2_with (at_builtin; refine wpList_append_own _ rfl (.tmp 13) (.tmp 20) 38 rfl w.heap.size 5 i (.int .u8 0) 1 1 Tryd.underlying38 hi hz0 hz1 hz2 rfl (by decide) _ _ _ rfl (HO.out.alloc _) ⟨wr.heap.size, 0, none⟩ 1 1 [.int .u8 (m % 256)] rfl rfl ?c1 ?c2 ?c3 ?c4 ?c5 ?_)
        case c1 =>
          intro j u hu
          match j, hu with
          | 0, hu => simp at hu; subst hu; simp [Addr.add]
          | j + 1, hu => simp at hu
        case c2 => intro u hu; simp at hu; subst hu; rfl
        case c3 => decide
        case c4 => decide
        case c5 => have := hB.size; simp; omega
        intro v' w1 ho1 hg1 _
        have HO1 : Hid (w1.ownsRow w.heap.size 5 1 v' (7 + 1) (bv ((digs 8 n).reverse.take (7 + 1)))) := by
          rw [HT.out, bv_append]
          have e : bv [byte (sh (7 - 7) n)] = [.int .u8 (m % 256)] := by
            have e1 : (m % 256) = sh (7 - 7) n % 256 := by
              rw [HM.out]
              simp only [sh, Nat.reduceSub]
              omega
            simp only [bv, List.map_cons, List.map_nil, byte_toNat, e1]
          rw [e]
          exact ho1
        have HB1 : Hid (Below w.heap.size w w1) := (hB.alloc hB.size _).grown hg1 (by have := hB.size; simp; omega) (fun q hq => (HO.out.lt q hq).1)
        clear ho1 hg1 hB
        obtain ⟨g2, cap2, e2, _⟩ := own_cons HO1.out (by omega)
        subst e2
        go_wp2
        go_roundw
        case rel => exact ⟨7 + 1, by omega, int_eq (by omega), HO1.out, HB1.out⟩
        case measure => rw [HL.out]; simp only [lenOf]; omega
end Go.Proofs.YtjhgocnjhhjkoaaDoor
