/- The walks on figures: whole.Figures, the reference's. -/
import Derived.Test.YtjhgocnjhhjkoaaDoorW04e
namespace Go.Proofs.YtjhgocnjhhjkoaaDoor
open Go.RowKit

theorem ba_get (l : List UInt8) : ∀ (i : Nat) (h : i < (⟨l.toArray⟩ : ByteArray).size), (⟨l.toArray⟩ : ByteArray)[i]'h = l.getD i 0 := by
  intro i h
  have h' : i < l.length := h
  show l.toArray[i] = _
  simp [List.getD, List.getElem?_eq_getElem h']
theorem li_get (l : List UInt8) (i : Nat) : ∃ x, (∀ h, l[i]'h = x) ∧ (∀ h : i < (⟨l.toArray⟩ : ByteArray).size, (⟨l.toArray⟩ : ByteArray)[i]'h = x) ∧ x = l.getD i 0 :=
  ⟨_, fun h => by simp [List.getD, List.getElem?_eq_getElem h], ba_get l i, rfl⟩
theorem fig_true {c : UInt8} (h : isFig c = true) : decide ((c.toNat : Int) < 48) = false ∧ decide ((57 : Int) < c.toNat) = false ∧ 48 ≤ (c.toNat : Int) ∧ (c.toNat : Int) ≤ 57 := by
  simp only [isFig, Bool.and_eq_true, decide_eq_true_eq] at h
  refine ⟨by simp; omega, by simp; omega, by omega, by omega⟩
theorem fig_false {c : UInt8} (h : isFig c = false) : decide ((c.toNat : Int) < 48) = true ∨ (decide ((c.toNat : Int) < 48) = false ∧ decide ((57 : Int) < c.toNat) = true) := by
  simp only [isFig, Bool.and_eq_false_iff, decide_eq_false_iff_not] at h
  simp only [decide_eq_true_eq, decide_eq_false_iff_not]
  omega

set_option maxRecDepth 100000 in
set_option maxHeartbeats 1000000 in
theorem wfig_any {w : World} {al : List Addr} (l : List UInt8) (hs : Sent w al) :
    Calls Tryd.prog 31 #[.string ⟨l.toArray⟩] w fun e w' => e = .returned (.tuple #[.int .i64 (figM l).1, ev al (figM l).2]) ∧ Below w.heap.size w w' := by
  have g2 : w.cell? ⟨2, 0, none⟩ = some (ev al 4) := hs.var 3 _ rfl
  by_cases h0 : l = []
  · subst h0
    go_enter Tryd.func31, Tryd.ntmps31
    go_wp2
    go_quiet (fail)
    go_wp2
    go_ret2
    exact ⟨rfl, below_drewN (Below.refl _ _) _⟩
  · have hp := List.length_pos_iff.2 h0
    by_cases h18 : 18 < l.length
    · have HF : Hid (figM l = (0, 4)) := by unfold figM; exact if_pos (.inr (.inl h18))
      have t1 : decide ((18 : Int) < (l.length : Nat)) = true := by simp; omega
      go_enter Tryd.func31, Tryd.ntmps31
      go_wp2
      go_quiet (fail)
      go_wp2
      go_ret2
      exact ⟨by rw [HF.out]; rfl, below_drewN (Below.refl _ _) _⟩
    · have he : l.isEmpty = false := by cases l <;> simp at h0 ⊢
      have t1 : decide ((18 : Int) < (l.length : Nat)) = false := by simp; omega
      by_cases hz : 1 < l.length ∧ (l.getD 0 0).toNat = 48
      · have HF : Hid (figM l = (0, 4)) := by unfold figM; exact if_pos (.inr (.inr (.inl hz)))
        have t2 : decide ((1 : Int) < (l.length : Nat)) = true := by simp; omega
        obtain ⟨x, gx, gy, hx⟩ := li_get l 0
        rw [← hx] at hz
        have t3 : ((x.toNat : Int) == 48) = true := by simp only [beq_iff_eq]; omega
        clear hz hx
        go_enter Tryd.func31, Tryd.ntmps31
        go_wp2
        go_quiet (fail)
        go_wp2
        go_ret2
        exact ⟨by rw [HF.out]; rfl, below_drewN (Below.refl _ _) _⟩
      · have HF : Hid (figM l = if l.all isFig = false then (0, 4) else (valD l, 0)) := by
          unfold figM
          simp only [show ¬ l.length = 0 by omega, h18, hz, false_or, Hid]
        obtain ⟨x, gx, gy, hx⟩ := li_get l 0
        rw [← hx] at hz
        clear hx
        have h2 : (decide ((1 : Int) < (l.length : Nat)) = false ∧ True) ∨ (decide ((1 : Int) < (l.length : Nat)) = true ∧ ((x.toNat : Int) == 48) = false) := by
          simp only [decide_eq_false_iff_not, decide_eq_true_eq, beq_eq_false_iff_ne, ne_eq, and_true]; omega
        clear hz
        go_enter Tryd.func31, Tryd.ntmps31
        rcases h2 with ⟨t2, t3⟩ | ⟨t2, t3⟩
        all_goals
          go_wp2
          go_loopw [4, 27] (fun n j wr => ∃ i : Nat, i ≤ l.length ∧ j = .int .i64 i ∧ n = .int .i64 (valD (l.take i)) ∧ (l.take i).all isFig = true ∧ Below w.heap.size w wr)
            (fun _ j _ => l.length - (intOf j).toNat)
          case atStart => exact ⟨0, by omega, rfl, by simp [valD], by simp, Below.refl _ _⟩
          case round =>
            obtain ⟨i, hi, rfl, rfl, hf, hB⟩ := hrel
            have HB := Lib.hid hB
            have HA := Lib.hid hf
            have g3 := below_cell hB g2
            clear hf hB gx gy
            by_cases hlt : i = l.length
            · subst hlt
              have HV : Hid (figM l = (valD (l.take l.length), 0)) := by
                have := HA.out
                rw [List.take_length] at this ⊢
                show figM l = _
                rw [HF.out, this, if_neg (by decide)]
              generalize valD (l.take l.length) = V at *
              go_wp2
              go_ret2
              exact ⟨by rw [HV.out]; rfl, HB.out⟩
            · have hi' : (i : Int) < l.length := by omega
              obtain ⟨y, gx, gy, hy⟩ := li_get l i
              have HT := take_snoc l i (by omega)
              rw [← hy] at HT
              cases hc : isFig y with
              | false =>
                have HV : Hid (figM l = (0, 4)) := by
                  show figM l = _
                  rw [HF.out, all_of_bad (i := i) (by omega) (by rw [← hy]; exact hc), if_pos rfl]
                have h3 := fig_false hc
                clear hy HT hc HF
                generalize valD (l.take i) = V at *
                rcases h3 with t5 | ⟨t5, t6⟩
                all_goals
                  go_wp2
                  go_quiet (fail)
                  go_wp2
                  go_ret2
                  exact ⟨by rw [HV.out]; rfl, below_drewN HB.out _⟩
              | true =>
                obtain ⟨t5, t6, b1, b2⟩ := fig_true hc
                have hv := valD_lt17 HA.out (by rw [List.length_take]; omega)
                have HA2 : Hid ((l.take (i + 1)).all isFig = true) := by rw [HT]; simp [HA.out, hc, Hid]
                have HV2 : Hid (valD (l.take (i + 1)) = 10 * valD (l.take i) + (y.toNat - 48)) := by rw [HT]; exact valD_append _ _
                have hv' : (valD (l.take i) : Int) < 100000000000000000 := by omega
                have hy' := y.toNat_lt
                clear hy HT hc hv
                generalize valD (l.take i) = V at *
                go_wp2
                go_roundw
                case rel => exact ⟨i + 1, by omega, by go_num, by rw [HV2.out]; exact int_eq (by omega), HA2.out, HB.out⟩
                case measure => simp [intOf]; omega

/-- the reference's answer -/
def figR (l : List UInt8) : Nat × Bool := if 1 ≤ l.length ∧ l.length ≤ 18 ∧ l.all isFig = true ∧ dec (valD l) = l then (valD l, true) else (0, false)
set_option maxRecDepth 100000 in
set_option maxHeartbeats 1000000 in
theorem rfig_any (l : List UInt8) (w : World) :
    Calls Tryd.prog 32 #[.string ⟨l.toArray⟩] w fun e w' => e = .returned (.tuple #[.int .i64 (figR l).1, .bool (figR l).2]) ∧ Below w.heap.size w w' := by
  by_cases hb : l.length < 1 ∨ 18 < l.length
  · have HF : Hid (figR l = (0, false)) := by unfold figR; exact if_neg (fun h => by omega)
    have h2 : (decide ((l.length : Nat) < (1 : Int)) = true ∧ True) ∨ (decide ((l.length : Nat) < (1 : Int)) = false ∧ decide ((18 : Int) < (l.length : Nat)) = true) := by
      simp only [decide_eq_false_iff_not, decide_eq_true_eq, and_true]; omega
    clear hb
    go_enter Tryd.func32, Tryd.ntmps32
    rcases h2 with ⟨t2, t3⟩ | ⟨t2, t3⟩
    all_goals
      go_wp2
      go_ret2
      exact ⟨by rw [HF.out]; rfl, Below.refl _ _⟩
  · have HF : Hid (figR l = if l.all isFig = true ∧ dec (valD l) = l then (valD l, true) else (0, false)) := by
      unfold figR
      simp only [show 1 ≤ l.length by omega, show l.length ≤ 18 by omega, true_and, Hid]
    have h18 : l.length ≤ 18 := by omega
    have t2 : decide ((l.length : Nat) < (1 : Int)) = false := by simp only [decide_eq_false_iff_not]; omega
    have t3 : decide ((18 : Int) < (l.length : Nat)) = false := by simp only [decide_eq_false_iff_not]; omega
    clear hb
    go_enter Tryd.func32, Tryd.ntmps32
    go_wp2
    go_loopw [4, 5] (fun n j wr => ∃ i : Nat, i ≤ l.length ∧ j = .int .i64 i ∧ n = .int .i64 (valD (l.take i)) ∧ (l.take i).all isFig = true ∧ Below w.heap.size w wr)
      (fun _ j _ => l.length - (intOf j).toNat)
    case atStart => exact ⟨0, by omega, rfl, by simp [valD], by simp, Below.refl _ _⟩
    case round =>
      obtain ⟨i, hi, rfl, rfl, hf, hB⟩ := hrel
      have HB := Lib.hid hB
      have HA := Lib.hid hf
      clear hf hB
      by_cases hlt : i = l.length
      · subst hlt
        rw [List.take_length] at HA ⊢
        have hv := valD_lt18 HA.out h18
        have HS := Lib.hid (rserial_any (valD l) wr (by omega))
        by_cases he : dec (valD l) = l
        · have HV : Hid (figR l = (valD l, true)) := by
            show figR l = _
            rw [HF.out, if_pos ⟨HA.out, he⟩]
          rw [he] at HS
          clear hv he HF
          generalize valD l = V at *
          go_wp2_with (go_at_call 30; refine (HS.out).mono ?_; rintro e w6 ⟨rfl, hB6⟩)
          go_ret2
          exact ⟨by rw [HV.out]; rfl, below_then HB.out hB6⟩
        · have HV : Hid (figR l = (0, false)) := by
            show figR l = _
            rw [HF.out, if_neg (fun h => he h.2)]
          have hne : (dec (valD l) == l) = false := beq_eq_false_iff_ne.2 he
          clear hv he HF
          generalize valD l = V at *
          go_wp2_with (go_at_call 30; refine (HS.out).mono ?_; rintro e w6 ⟨rfl, hB6⟩)
          go_ret2
          exact ⟨by rw [HV.out]; rfl, below_then HB.out hB6⟩
      · have hi' : (i : Int) < l.length := by omega
        obtain ⟨y, gx, gy, hy⟩ := li_get l i
        have HT := take_snoc l i (by omega)
        rw [← hy] at HT
        cases hc : isFig y with
        | false =>
          have HV : Hid (figR l = (0, false)) := by
            show figR l = _
            rw [HF.out, all_of_bad (i := i) (by omega) (by rw [← hy]; exact hc), if_neg (fun h => by cases h.1)]
          have h3 := fig_false hc
          clear hy HT hc HF
          generalize valD (l.take i) = V at *
          rcases h3 with t5 | ⟨t5, t6⟩
          all_goals
            go_wp2
            go_ret2
            exact ⟨by rw [HV.out]; rfl, HB.out⟩
        | true =>
          obtain ⟨t5, t6, b1, b2⟩ := fig_true hc
          have hv := valD_lt17 HA.out (by rw [List.length_take]; omega)
          have HA2 : Hid ((l.take (i + 1)).all isFig = true) := by rw [HT]; simp [HA.out, hc, Hid]
          have HV2 : Hid (valD (l.take (i + 1)) = 10 * valD (l.take i) + (y.toNat - 48)) := by rw [HT]; exact valD_append _ _
          have hv' : (valD (l.take i) : Int) < 100000000000000000 := by omega
          have hy' := y.toNat_lt
          clear hy HT hc hv
          generalize valD (l.take i) = V at *
          go_wp2
          go_roundw
          case rel => exact ⟨i + 1, by omega, by go_num, by rw [HV2.out]; exact int_eq (by omega), HA2.out, HB.out⟩
          case measure => simp [intOf]; omega
end Go.Proofs.YtjhgocnjhhjkoaaDoor
