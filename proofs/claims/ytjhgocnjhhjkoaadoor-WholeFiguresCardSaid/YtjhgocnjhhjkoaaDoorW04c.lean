/- The walks of package whole: Range, Bytes; the reference's Put and Get. -/
import Derived.Test.YtjhgocnjhhjkoaaDoorW04b
namespace Go.Proofs.YtjhgocnjhhjkoaaDoor
open Go.RowKit

/-- what whole.Range answers -/
def rangeM (l : List UInt8) (least most : Int) : Int × Nat :=
  if (getM l).2 ≠ 0 then (0, (getM l).2) else if (getM l).1 < least ∨ most < (getM l).1 then (0, 1) else ((getM l).1, 0)

set_option maxHeartbeats 400000 in
theorem wrange_any {w : World} {al : List Addr} {v : Value} {l : List UInt8} (least most : Int) (hs : Sent w al) (hb : Bs w v l) :
    Calls Tryd.prog 28 #[v, .int .i64 least, .int .i64 most] w fun e w' => e = .returned (.tuple #[.int .i64 (rangeM l least most).1, ev al (rangeM l least most).2]) ∧ Below w.heap.size w w' := by
  have HC := Lib.hid (wget_any hs hb)
  have HS := Lib.hid hs
  have HF : Hid (rangeM l least most = if (getM l).2 ≠ 0 then (0, (getM l).2) else if (getM l).1 < least ∨ most < (getM l).1 then (0, 1) else ((getM l).1, 0)) := rfl
  clear hs hb
  generalize (getM l).1 = n at HC HF
  generalize (getM l).2 = k at HC HF
  by_cases hk : k = 0
  · subst hk
    go_enter Tryd.func28, Tryd.ntmps28
    go_wp2_with (go_at_call 22; refine (HC.out).mono ?_; rintro e w1 ⟨rfl, hB⟩; have g0 : w1.cell? ⟨0, 0, none⟩ = some (ev al 1) := below_cell hB (HS.out.var 0 _ rfl))
    all_goals (try (go_quiet (fail); go_wp2))
    all_goals go_ret2
    all_goals refine ⟨?_, by first | assumption | (exact below_drewN (by assumption) _)⟩
    all_goals rw [HF.out]
    all_goals go_light
    all_goals (try simp only [not_or, Int.not_lt] at *)
    all_goals rw [if_neg (by simp)]
    all_goals first | (rw [if_pos (by omega)]; rfl) | (rw [if_neg (by omega)]; rfl)
  · have hd : decide (k = 0) = false := by simpa using hk
    go_enter Tryd.func28, Tryd.ntmps28
    go_wp2_with (go_at_call 22; refine (HC.out).mono ?_; rintro e w1 ⟨rfl, hB⟩)
    go_ret2
    exact ⟨by rw [HF.out, if_pos hk]; rfl, hB⟩

set_option maxHeartbeats 400000 in
theorem wbytes_any (n : Int) (w : World) (h1 : -9223372036854775808 ≤ n) (h2 : n ≤ 9223372036854775807) :
    Calls Tryd.prog 24 #[.int .i64 n] w fun e w' => (∃ k : Nat, e = .returned (.int .i64 ((k : Int) + 1)) ∧ IsLen n k) ∧ Below w.heap.size w w' := by
  have HC := Lib.hid (wput_any n w h1 h2)
  go_enter Tryd.func24, Tryd.ntmps24
  go_wp2_with (go_at_call 21; refine (HC.out).mono ?_; rintro e w1 ⟨v, k, rfl, hk, ho, hB⟩; obtain ⟨g, cap, rfl, -⟩ := own_cons ho (by omega))
  go_ret
  exact ⟨⟨k, rfl, hk⟩, hB⟩

theorem u64_step (V c : Int) : IntKind.u64.wrap (IntKind.u64.wrap (V % 18446744073709551616 * 256) + c) = (V * 256 + c) % 18446744073709551616 := by
  rw [IntKind.wrap_u64, IntKind.wrap_u64]
  omega

/-- the number of the first k bytes, with the sign ahead -/
def vk (l : List UInt8) (k : Nat) : Int := if k = 0 then (if (l.getD 0 0).toNat < 128 then 0 else -1) else valS (l.take k)
theorem vk_succ (l : List UInt8) (k : Nat) (h : k < l.length) : vk l (k + 1) = vk l k * 256 + (l.getD k 0).toNat := by
  cases k with
  | zero =>
    simp only [vk, if_true, Nat.zero_add, Nat.one_ne_zero, if_false]
    rw [valS_take_one l (by omega)]
    unfold sgn
    split <;> omega
  | succ k =>
    simp only [vk, Nat.add_one_ne_zero, if_false]
    exact valS_take_succ l k h
theorem valS_bd8 (l : List UInt8) (h : l.length ≤ 8) : -9223372036854775808 ≤ valS l ∧ valS l < 9223372036854775808 := by
  by_cases h7 : l.length ≤ 7
  · have := valS_small l h7
    omega
  · have e : l = l.take 7 ++ [l.getD 7 0] := by
      have : l.take (7 + 1) = l.take 7 ++ [l[7]] := List.take_succ_eq_append_getElem (by omega)
      rw [List.take_of_length_le (by omega)] at this
      have e7 : l.getD 7 0 = l[7] := by simp [List.getD, show 7 < l.length by omega]
      rw [e7]
      exact this
    have h2 := valS_small (l.take 7) (by simp; omega)
    have hc := (l.getD 7 0).toNat_lt
    rw [e, valS_snoc _ (by intro e; have := congrArg List.length e; simp at this; rw [this] at h7; simp at h7)]
    omega

set_option maxRecDepth 100000 in
set_option maxHeartbeats 1000000 in
theorem rget_any {w : World} {v : Value} {l : List UInt8} (hb : Bs w v l) :
    Calls Tryd.prog 26 #[v] w fun e w' => e = .returned (.tuple #[.int .i64 (getM l).1, .int .i64 (getM l).2]) ∧ Below w.heap.size w w' := by
  by_cases hl : l.length = 0
  · have HF : Hid (getM l = (0, 2)) := by simp only [getM, hl, if_true, Hid]
    obtain ⟨ao, cap, rfl⟩ := hb.empty hl
    clear hl
    go_enter Tryd.func26, Tryd.ntmps26
    go_wp2
    go_ret2
    exact ⟨by rw [HF.out]; rfl, Below.refl _ _⟩
  · obtain ⟨b, o, cap, rfl, h1, h2, hc⟩ := hb.cons (by omega)
    have c0 := hc 0 (by omega)
    rw [Nat.add_zero] at c0
    have hp : (0 : Int) < (l.length : Int) := by omega
    have HC := Lib.hid hc
    clear hc
    have HH : Hid (l.length ≤ 8 → idle l = false → getM l = (valS l, 0)) := fun h8 hi => by simp only [getM, hl, hi, show ¬ 8 < l.length by omega, if_false, Bool.false_eq_true]
    have H0 : Hid (vk l 0 = if (l.getD 0 0).toNat < 128 then 0 else -1) := rfl
    by_cases hone : l.length = 1
    · have HF := Lib.hid (HH.out (by omega) (idle_short l (by omega)))
      have d8 : decide ((8 : Int) < l.length) = false := by simp; omega
      have d1 : decide ((1 : Int) < l.length) = false := by simp; omega
      have b1 : l.length ≤ 8 := by omega
      clear hone
      generalize l.getD 0 0 = x at c0 H0
      by_cases hs : (127 : Int) < ((x.toNat : Nat) : Int)
      all_goals go_enter Tryd.func26, Tryd.ntmps26
      all_goals go_wp2
      all_goals
        go_loopw [4, 46] (fun v i wr => ∃ k : Nat, k ≤ l.length ∧ v = .int .u64 (vk l k % 18446744073709551616) ∧ i = .int .i64 k ∧ Below w.heap.size w wr) (fun _ i _ => l.length - (intOf i).toNat)
        case atStart => exact ⟨0, by omega, by rw [H0.out]; first | (rw [if_pos (by omega)]; rfl) | (rw [if_neg (by omega)]; rfl), rfl, Below.refl _ _⟩
        case round =>
          obtain ⟨k, hk, rfl, rfl, hB⟩ := hrel
          by_cases hlt : (k : Int) < (l.length : Int)
          · have ck := below_cell hB (HC.out k (by omega))
            have HV := Lib.hid (vk_succ l k (by omega))
            have hc1 := (l.getD k 0).toNat_lt
            generalize l.getD k 0 = c at ck hc1 HV
            have HU := Lib.hid (u64_step (vk l k) c.toNat)
            generalize vk l k = V at HU HV
            have hb0 : 0 ≤ V % 18446744073709551616 := Int.emod_nonneg _ (by decide)
            go_wp2
            go_roundw
            case rel => exact ⟨k + 1, by omega, int_eq (by rw [HU.out, HV.out]), by go_num, hB⟩
            case measure => simp [intOf]; omega
          · have HV : Hid (vk l k = valS l) := by
              unfold vk Hid
              rw [if_neg (by omega), List.take_of_length_le (by omega)]
            have HB := Lib.hid (valS_bd8 l b1)
            go_wp2
            go_ret2
            refine ⟨?_, hB⟩
            rw [HF.out]
            refine ret2 (int_eq ?_) rfl
            rw [HV.out]
            have := HB.out
            unfold wrap64
            dsimp only
            omega
    · have c1 := HC.out 1 (by omega)
      have p1 : (1 : Int) < (l.length : Int) := by omega
      have HI := Lib.hid (idle_get l (by omega))
      generalize hx : l.getD 0 0 = x at c0 HI H0
      generalize hy : l.getD 1 0 = y at c1 HI
      have HX := Lib.hid hx
      have HY := Lib.hid hy
      clear hx hy
      by_cases hid : idle l = true
      · have HF : Hid (getM l = (0, 4)) := by simp only [getM, hl, hid, if_true, if_false, Hid]
        have hxy : (x.toNat = 0 ∧ y.toNat < 128) ∨ (x.toNat = 255 ∧ 128 ≤ y.toNat) := by
          have := HI.out
          rw [hid] at this
          simpa using this.symm
        clear hid
        go_enter Tryd.func26, Tryd.ntmps26
        rcases hxy with ⟨hx0, hy0⟩ | ⟨hx0, hy0⟩
        all_goals
          go_wp2
          go_ret2
          exact ⟨by rw [HF.out]; rfl, Below.refl _ _⟩
      · have hxy : ¬ (x.toNat = 0 ∧ y.toNat < 128) ∧ ¬ (x.toNat = 255 ∧ 128 ≤ y.toNat) := by
          have := HI.out
          rw [show idle l = false by simpa using hid] at this
          simp at this
          omega
        have H3 : ((((x.toNat : Nat) : Int) == 0) = true ∧ decide (((y.toNat : Nat) : Int) < 128) = false ∧ (((x.toNat : Nat) : Int) == 255) = false ∧ True) ∨
              ((((x.toNat : Nat) : Int) == 0) = false ∧ True ∧ (((x.toNat : Nat) : Int) == 255) = true ∧ decide ((127 : Int) < (y.toNat : Nat)) = false) ∨
              ((((x.toNat : Nat) : Int) == 0) = false ∧ True ∧ (((x.toNat : Nat) : Int) == 255) = false ∧ True) := by
          simp only [beq_iff_eq, beq_eq_false_iff_ne, ne_eq, decide_eq_false_iff_not, and_true, true_and]
          omega
        by_cases h8 : 8 < l.length
        · have HF : Hid (getM l = (0, 1)) := by simp only [getM, hl, hid, h8, if_true, if_false, Hid, Bool.false_eq_true]
          have p8 : (8 : Int) < (l.length : Int) := by omega
          clear hid hxy
          go_enter Tryd.func26, Tryd.ntmps26
          rcases H3 with ⟨t0, t1, t2, t3⟩ | ⟨t0, t1, t2, t3⟩ | ⟨t0, t1, t2, t3⟩
          all_goals
            go_wp2
            go_ret2
            exact ⟨by rw [HF.out]; rfl, Below.refl _ _⟩
        · have HF := Lib.hid (HH.out (by omega) (by simpa using hid))
          have d8 : decide ((8 : Int) < l.length) = false := by simp; omega
          have b1 : l.length ≤ 8 := by omega
          clear hid hxy
          rcases H3 with ⟨t0, t1, t2, t3⟩ | ⟨t0, t1, t2, t3⟩ | ⟨t0, t1, t2, t3⟩
          all_goals
            by_cases hs : (127 : Int) < ((x.toNat : Nat) : Int)
            all_goals go_enter Tryd.func26, Tryd.ntmps26
            all_goals go_wp2
            all_goals
              go_loopw [4, 46] (fun v i wr => ∃ k : Nat, k ≤ l.length ∧ v = .int .u64 (vk l k % 18446744073709551616) ∧ i = .int .i64 k ∧ Below w.heap.size w wr) (fun _ i _ => l.length - (intOf i).toNat)
              case atStart => exact ⟨0, by omega, by rw [H0.out]; first | (rw [if_pos (by omega)]; rfl) | (rw [if_neg (by omega)]; rfl), rfl, Below.refl _ _⟩
              case round =>
                obtain ⟨k, hk, rfl, rfl, hB⟩ := hrel
                by_cases hlt : (k : Int) < (l.length : Int)
                · have ck := below_cell hB (HC.out k (by omega))
                  have HV := Lib.hid (vk_succ l k (by omega))
                  have hc1 := (l.getD k 0).toNat_lt
                  generalize l.getD k 0 = c at ck hc1 HV
                  have HU := Lib.hid (u64_step (vk l k) c.toNat)
                  generalize vk l k = V at HU HV
                  have hb0 : 0 ≤ V % 18446744073709551616 := Int.emod_nonneg _ (by decide)
                  go_wp2
                  go_roundw
                  case rel => exact ⟨k + 1, by omega, int_eq (by rw [HU.out, HV.out]), by go_num, hB⟩
                  case measure => simp [intOf]; omega
                · have HV : Hid (vk l k = valS l) := by
                    unfold vk Hid
                    rw [if_neg (by omega), List.take_of_length_le (by omega)]
                  have HB := Lib.hid (valS_bd8 l b1)
                  go_wp2
                  go_ret2
                  refine ⟨?_, hB⟩
                  rw [HF.out]
                  refine ret2 (int_eq ?_) rfl
                  rw [HV.out]
                  have := HB.out
                  unfold wrap64
                  dsimp only
                  omega
end Go.Proofs.YtjhgocnjhhjkoaaDoor
