/- The walks of the statements of chapter 4. -/
import Derived.Test.YtjhgocnjhhjkoaaDoorW04d
namespace Go.Proofs.YtjhgocnjhhjkoaaDoor
open Go.RowKit

theorem str_bs {w : World} {v : Value} {l : List UInt8} (h : Bs w v l) : (convert 38 9 v).run Tryd.prog w = .ok (.string ⟨l.toArray⟩) w := by
  have h' := h
  obtain ⟨ao, cap, rfl, _⟩ := h
  exact run_string_bs h' _ _ _ Tryd.underlying38 Tryd.underlying5 Tryd.underlying9
theorem own_bs {w : World} {base n : Nat} {v : Value} {l : List UInt8} (h : w.ownsRow base 5 1 v n (bv l)) : Bs w v l := Bs.of_own h
theorem below_refl (w : World) : Below w.heap.size w w := Below.refl _ _

theorem len128 : IsLen 128 1 := ⟨by decide, by decide, by decide⟩
theorem len129 : IsLen (-129) 1 := ⟨by decide, by decide, by decide⟩

set_option maxHeartbeats 400000 in
theorem alive04_any (w : World) : Calls Tryd.prog 17 #[] w fun e w' => e = .returned (.bool true) ∧ Below w.heap.size w w' := by
  have H1 := fun w => Lib.hid (wput_any 128 w (by decide) (by decide))
  go_enter Tryd.func17, Tryd.ntmps17
  go_wp2_with fail
  refine (wput_any 128 w (by decide) (by decide)).mono ?_
  rintro e w1 ⟨v, k, rfl, hk, ho, hB⟩
  obtain rfl := hk.unique len128
  have s1 := str_bs (own_bs ho)
  have e1 : (digs 2 128).reverse = [0, 128] := by decide
  rw [e1] at s1
  clear H1 ho hk
  go_wp2_with fail
  refine (wput_any (-129) w1 (by decide) (by decide)).mono ?_
  rintro e w2 ⟨v2, k, rfl, hk, ho, hB2⟩
  obtain rfl := hk.unique len129
  have s2 := str_bs (own_bs ho)
  have e2 : (digs 2 (-129)).reverse = [255, 127] := by decide
  rw [e2] at s2
  clear ho hk s1
  go_wp2
  go_ret
  exact ⟨rfl, below_then hB hB2⟩

theorem isTrue_truth (b : Bool) : isTrueM [if b then 255 else 0] = (b, 0) := by cases b <;> decide

theorem Bs.shape {w : World} {ao : Option Addr} {n cap : Nat} {l : List UInt8} (h : Bs w (.slice ao n cap) l) (hl : 0 < l.length) :
    ∃ b o, ao = some ⟨b, o, none⟩ ∧ ∀ i, i < l.length → w.cell? ⟨b, o + i, none⟩ = some (.int .u8 (l.getD i 0).toNat) := by
  obtain ⟨b, o, cap', e, _, _, hc⟩ := h.cons hl
  injection e with e1 e2 e3
  exact ⟨b, o, e1, hc⟩

set_option maxRecDepth 100000 in
set_option maxHeartbeats 1000000 in
theorem wholeTruth_walk {w : World} {al : List Addr} {v : Value} {l : List UInt8} (b : Bool) (hs : Sent w al) (hb : Bs w v l) :
    Calls Tryd.prog 4 #[v, .bool b] w fun e w' => e = .returned (.bool true) ∧ Below w.heap.size w w' := by
  have HB0 := Lib.hid (below_refl w)
  have HS0 := Lib.hid hs
  clear hs
  have HB := Lib.hid hb
  obtain ⟨ao, cap, rfl, -⟩ := hb
  go_enter Tryd.func4, Tryd.ntmps4
  go_wp2_with fail
  refine (alive04_any w).mono ?_
  rintro e w1 ⟨rfl, hB1⟩
  have HB1 := Lib.hid (below_then HB0.out hB1)
  have HS1 := Lib.hid (HS0.out.below hB1)
  have HP1 := Lib.hid hB1
  clear hB1
  by_cases hl : (100 : Int) < (l.length : Int)
  · go_wp2_with fail
    go_ret
    exact ⟨rfl, HB1.out⟩
  · go_wp2_with fail
    refine (truth_any b w1).mono ?_
    rintro e w2 ⟨v2, rfl, hv2, hB2⟩
    have HB2 := Lib.hid (below_then HB1.out hB2)
    have HS2 := Lib.hid (HS1.out.below hB2)
    have HP2 := Lib.hid hB2
    clear hB2
    have HV2 := Lib.hid hv2
    clear hv2
    go_wp2_with fail
    refine (istrue_any HS2.out HV2.out).mono ?_
    rw [isTrue_truth]
    rintro e w3 ⟨rfl, hB3⟩
    have HB3 := Lib.hid (below_then HB2.out hB3)
    have HS3 := Lib.hid (HS2.out.below hB3)
    clear hB3
    go_wp2_with fail
    refine (truth_any b w3).mono ?_
    rintro e w4 ⟨v4, rfl, hv4, hB4⟩
    have HB4 := Lib.hid (below_then HB3.out hB4)
    have HS4 := Lib.hid (HS3.out.below hB4)
    have HP4 := Lib.hid hB4
    clear hB4
    obtain ⟨ao4, cap4, rfl, -⟩ := hv4
    go_wp2_with fail
    refine (istrue_any HS4.out (HB.out.below HB4.out)).mono ?_
    rintro e w5 ⟨he, hB5⟩
    have HB5 := Lib.hid (below_then HB4.out hB5)
    have HS5 := Lib.hid (HS4.out.below hB5)
    have HP5 := Lib.hid hB5
    clear hB5
    by_cases h0 : l.length = 0
    · have e0 : isTrueM l = (false, 2) := by simp only [isTrueM, h0, if_true]
      rw [e0] at he
      subst he
      rw [h0] at hl ⊢
      clear e0
      go_wp2_with fail
      refine (num_any HS5.out 2 (by decide)).mono ?_
      rintro e w6 ⟨rfl, hB6⟩
      have HB6 := Lib.hid (below_then HB5.out hB6)
      have HS6 := Lib.hid (HS5.out.below hB6)
      have HP6 := Lib.hid hB6
      clear hB6
      go_wp2
      go_ret
      exact ⟨rfl, HB6.out⟩
    · obtain ⟨b0, o, rfl, hc⟩ := HB.out.shape (by omega)
      have c0 := below_cell HB5.out (hc 0 (by omega))
      rw [Nat.add_zero] at c0
      have c6 := fun w6 (h : Below w5.heap.size w5 w6) => below_cell h c0
      have hp : (0 : Int) < (l.length : Int) := by omega
      have hu := (l.getD 0 0).toNat_lt
      by_cases hbad : 1 < l.length ∨ ((l.getD 0 0).toNat ≠ 255 ∧ (l.getD 0 0).toNat ≠ 0)
      · have e0 : isTrueM l = (false, 4) := by simp only [isTrueM, h0, hbad, if_true, if_false]
        rw [e0] at he
        subst he
        clear e0 hc
        generalize l.getD 0 0 = x at *
        have HN := Lib.hid (num_any HS5.out 4 (by decide))
        clear c6
        have H2 : (decide ((1 : Int) < (l.length : Nat)) = true) ∨ (decide ((1 : Int) < (l.length : Nat)) = false ∧ (((x.toNat : Nat) : Int) != 0) = true ∧ (((x.toNat : Nat) : Int) != 255) = true) := by
          simp only [bne_iff_ne, ne_eq, decide_eq_true_eq, decide_eq_false_iff_not]
          omega
        clear hbad
        rcases H2 with t0 | ⟨t0, t1, t2⟩
        all_goals
          go_wp2_with (go_at_call 20; refine (HN.out).mono ?_; rintro e w6 ⟨rfl, hB6⟩)
          go_ret
          exact ⟨rfl, below_then HB5.out hB6⟩
      · have e0 : isTrueM l = (decide ((l.getD 0 0).toNat = 255), 0) := by simp only [isTrueM, h0, hbad, if_false]
        rw [e0] at he
        subst he
        clear e0 hc c6
        generalize l.getD 0 0 = x at *
        have t0 : decide ((1 : Int) < (l.length : Nat)) = false := by simp; omega
        by_cases h255 : x.toNat = 255
        · have ex : x = 255 := UInt8.toNat_inj.1 h255
          subst ex
          go_wp2
          go_ret
          exact ⟨rfl, HB5.out⟩
        · have ex : x = 0 := UInt8.toNat_inj.1 (by show x.toNat = 0; omega)
          subst ex
          go_wp2
          go_ret
          exact ⟨rfl, HB5.out⟩
end Go.Proofs.YtjhgocnjhhjkoaaDoor
