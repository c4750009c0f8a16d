/- Chapter 7, plain: masks and bodies tell one another; bit by bit. -/
import Derived.Test.YtndbjkapdmpbbaaDoorP07
namespace Go.Proofs.YtndbjkapdmpbbaaDoor
namespace Am
open Go.RowKit
set_option linter.unusedVariables false
set_option maxRecDepth 100000

theorem u8_ofNat {n : Nat} (h : n < 256) : (UInt8.ofNat n).toNat = n := by
  simp [UInt8.toNat_ofNat']; omega
theorem u8_eq {a b : UInt8} (h : a.toNat = b.toNat) : a = b := UInt8.toNat_inj.1 h
theorem len8_ntz {m : Nat} (h : m < 256) (h0 : 0 < m) : ntz8 (rev8 m) = (8 - len8 m % 8) % 8 ∧ 0 < len8 m ∧ (8 - (8 + len8 m) % 8) % 8 = (8 - len8 m % 8) % 8 := by
  have := all_lt (n := 256) (p := fun m => decide (0 < m → ntz8 (rev8 m) = (8 - len8 m % 8) % 8 ∧ 0 < len8 m)) (by decide +kernel) h
  have := (of_decide_eq_true this) h0
  exact ⟨this.1, this.2, by omega⟩
theorem len8_zero : len8 0 = 0 := by decide
theorem bl_small {m : Nat} (h : m < 256) : bl m = len8 m := by unfold bl; rw [if_neg (by omega)]
theorem bl_big {m : Nat} (h : 256 ≤ m) : bl m = 8 + len8 (m / 256) := by unfold bl; rw [if_pos h]
theorem flags_zero : flagsL 0 = [0] := by decide
theorem flags_one {m : Nat} (h : m < 256) (h0 : 0 < m) : flagsL m = [UInt8.ofNat ((8 - len8 m % 8) % 8), UInt8.ofNat (rev8 m)] := by
  have h1 := len8_ntz h h0
  have h2 := len8_bd h
  unfold flagsL
  rw [bl_small h, if_neg (by omega), if_pos h2.2.1, Nat.mod_eq_of_lt h]
theorem flags_two {m : Nat} (h : m < 65536) (h0 : 256 ≤ m) : flagsL m = [UInt8.ofNat ((8 - len8 (m / 256) % 8) % 8), UInt8.ofNat (rev8 (m % 256)), UInt8.ofNat (rev8 (m / 256))] := by
  have h1 := len8_ntz (m := m / 256) (by omega) (by omega)
  unfold flagsL
  rw [bl_big h0, if_neg (by omega), if_neg (by omega), h1.2.2]
theorem flags_len {m : Nat} (h : m < 65536) : (flagsL m).length = 1 + (bl m + 7) / 8 := by
  have := (bl_is h).2
  unfold flagsL
  split
  · rename_i e; rw [e]; rfl
  · split
    · simp; omega
    · simp; omega
theorem maskM_ite (n x y z : Nat) (b : List UInt8) (hn : b.length = n) (hx : (b.getD 0 0).toNat = x) (hl : (b.getD (n - 1) 0).toNat = z) (hy : (b.getD 1 0).toNat = y) : maskM b = if n = 0 then (0, 2) else
    if 8 ≤ x ∨ 3 < n ∨ (n = 1 ∧ 0 < x) then (0, 4) else if n = 1 then (0, 0) else if ntz8 z ≠ x then (0, 4) else
    if 32768 ≤ rev8 y + 256 * (if n = 3 then rev8 (b.getD 2 0).toNat else 0) then (0, 1) else (rev8 y + 256 * (if n = 3 then rev8 (b.getD 2 0).toNat else 0), 0) := by
  subst hn hx hl hy
  rfl
theorem maskM_one (x y : UInt8) : maskM [x, y] = if 8 ≤ x.toNat then (0, 4) else if ntz8 y.toNat ≠ x.toNat then (0, 4) else (rev8 y.toNat, 0) := by
  have hy := rev8_lt (i := y.toNat) y.toNat_lt
  rw [maskM_ite 2 x.toNat y.toNat y.toNat [x, y] rfl rfl rfl rfl, if_neg (by decide : ¬ (2 : Nat) = 0)]
  by_cases h : 8 ≤ x.toNat
  · rw [if_pos (Or.inl h), if_pos h]
  · rw [if_neg (by omega), if_neg (by decide : ¬ (2 : Nat) = 1), if_neg h, if_neg (by decide : ¬ (2 : Nat) = 3), Nat.mul_zero, Nat.add_zero, if_neg (show ¬ 32768 ≤ rev8 y.toNat by omega)]
theorem maskM_two (x y z : UInt8) : maskM [x, y, z] = if 8 ≤ x.toNat then (0, 4) else if ntz8 z.toNat ≠ x.toNat then (0, 4) else if 32768 ≤ rev8 y.toNat + 256 * rev8 z.toNat then (0, 1) else (rev8 y.toNat + 256 * rev8 z.toNat, 0) := by
  rw [maskM_ite 3 x.toNat y.toNat z.toNat [x, y, z] rfl rfl rfl rfl, if_neg (by decide : ¬ (3 : Nat) = 0)]
  by_cases h : 8 ≤ x.toNat
  · rw [if_pos (Or.inl h), if_pos h]
  · rw [if_neg (by omega), if_neg (by decide : ¬ (3 : Nat) = 1), if_neg h, if_pos (rfl : (3 : Nat) = 3)]
    rfl
theorem mask_flags {m : Nat} (h : m < 32768) : maskM (flagsL m) = (m, 0) := by
  by_cases h0 : m = 0
  · subst h0; rw [flags_zero]; decide
  · by_cases h1 : m < 256
    · have h2 := len8_ntz h1 (by omega)
      have h3 := rev8_lt h1
      rw [flags_one h1 (by omega), maskM_one, u8_ofNat (n := (8 - len8 m % 8) % 8) (by omega), u8_ofNat h3, h2.1, rev8_rev h1, if_neg (by omega), if_neg (by omega)]
    · have h2 := len8_ntz (m := m / 256) (by omega) (by omega)
      have h3 := rev8_lt (i := m % 256) (by omega)
      have h4 := rev8_lt (i := m / 256) (by omega)
      rw [flags_two (by omega) (by omega), maskM_two, u8_ofNat (n := (8 - len8 (m / 256) % 8) % 8) (by omega), u8_ofNat h3, u8_ofNat h4, h2.1, rev8_rev (i := m % 256) (by omega), rev8_rev (i := m / 256) (by omega), if_neg (by omega), if_neg (by omega), if_neg (by omega), show m % 256 + 256 * (m / 256) = m by omega]
theorem ntz_back {y : Nat} (hy : y < 256) (h : ntz8 y < 8) : 0 < rev8 y ∧ (8 - len8 (rev8 y) % 8) % 8 = ntz8 y := by
  have := all_lt (n := 256) (p := fun y => decide (ntz8 y < 8 → 0 < rev8 y ∧ (8 - len8 (rev8 y) % 8) % 8 = ntz8 y)) (by decide +kernel) hy
  exact (of_decide_eq_true this) h
theorem flags_mask {b : List UInt8} (h : (maskM b).2 = 0) : flagsL (maskM b).1 = b := by
  match b with
  | [] => exact absurd h (by decide)
  | [x] =>
    have h8 := x.toNat_lt
    have : x = 0 := by
      refine u8_eq ?_
      refine Decidable.byContradiction fun hn => ?_
      have hn : x.toNat ≠ 0 := hn
      have e : maskM [x] = (0, 4) := by
        rw [maskM_ite 1 x.toNat 0 x.toNat [x] rfl rfl rfl rfl, if_neg (by decide : ¬ (1 : Nat) = 0), if_pos (by omega)]
      rw [e] at h; exact absurd h (by decide)
    subst this; decide
  | [x, y] =>
    have hx := x.toNat_lt
    have hy : y.toNat < 256 := y.toNat_lt
    rw [maskM_one] at h ⊢
    split at h
    · exact absurd h (by show ¬ (4 : Nat) = 0; decide)
    · rename_i h1
      rw [if_neg h1]
      split at h
      · exact absurd h (by show ¬ (4 : Nat) = 0; decide)
      · rename_i h2
        rw [if_neg h2]
        have h4 : ntz8 y.toNat = x.toNat := Classical.byContradiction h2
        have h6 := ntz_back hy (by omega)
        have h7 := rev8_lt hy
        show flagsL (rev8 y.toNat) = _
        rw [flags_one h7 h6.1, rev8_rev hy, h6.2, h4]
        rw [u8_eq (a := UInt8.ofNat x.toNat) (b := x) (u8_ofNat (by omega)), u8_eq (a := UInt8.ofNat y.toNat) (b := y) (u8_ofNat hy)]
  | [x, y, z] =>
    have hx := x.toNat_lt
    have hy : y.toNat < 256 := y.toNat_lt
    have hz : z.toNat < 256 := z.toNat_lt
    rw [maskM_two] at h ⊢
    split at h
    · exact absurd h (by show ¬ (4 : Nat) = 0; decide)
    · rename_i h1
      rw [if_neg h1]
      split at h
      · exact absurd h (by show ¬ (4 : Nat) = 0; decide)
      · rename_i h2
        rw [if_neg h2]
        split at h
        · exact absurd h (by show ¬ (1 : Nat) = 0; decide)
        · rename_i h3
          rw [if_neg h3]
          have h4 : ntz8 z.toNat = x.toNat := Classical.byContradiction h2
          have h6 := ntz_back hz (by omega)
          have h7 := rev8_lt hy
          have h8 := rev8_lt hz
          show flagsL (rev8 y.toNat + 256 * rev8 z.toNat) = _
          rw [flags_two (by omega) (by omega), show (rev8 y.toNat + 256 * rev8 z.toNat) / 256 = rev8 z.toNat by omega, show (rev8 y.toNat + 256 * rev8 z.toNat) % 256 = rev8 y.toNat by omega, rev8_rev hy, rev8_rev hz, h6.2, h4]
          rw [u8_eq (a := UInt8.ofNat x.toNat) (b := x) (u8_ofNat (by omega)), u8_eq (a := UInt8.ofNat y.toNat) (b := y) (u8_ofNat hy), u8_eq (a := UInt8.ofNat z.toNat) (b := z) (u8_ofNat hz)]
  | x :: y :: z :: q :: l =>
    have e : maskM (x :: y :: z :: q :: l) = (0, 4) := by
      unfold maskM
      rw [if_neg (by simp), if_pos (.inr (.inl (by simp)))]
    rw [e] at h; exact absurd h (by decide)

/-! ### bit by bit -/
def lo8 (M i : Nat) : Nat := M % 2 ^ (min i 8)
def hi8 (M i : Nat) : Nat := M / 256 % 2 ^ (i - 8)
/-- the body while its bits are laid, up to bit i -/
def gF (M n i j : Nat) : Nat := if j = 0 then (8 - n % 8) % 8 else if j = 1 then rev8 (lo8 M i) else rev8 (hi8 M i)
theorem lo8_lt (M i : Nat) : lo8 M i < 256 := Nat.lt_of_lt_of_le (Nat.mod_lt _ (Nat.two_pow_pos _)) (Nat.pow_le_pow_right (n := 2) (by decide) (Nat.min_le_right i 8))
theorem hi8_lt {M i : Nat} (h : M < 65536) : hi8 M i < 256 := Nat.lt_of_le_of_lt (Nat.mod_le _ _) (by omega)
theorem gF_lt {M n i j : Nat} (h : M < 65536) : gF M n i j < 256 := by
  unfold gF
  split
  · omega
  · split
    · exact rev8_lt (lo8_lt _ _)
    · exact rev8_lt (hi8_lt h)
theorem gF_zero {M n j : Nat} (hj : j ≠ 0) : gF M n 0 j = 0 := by
  unfold gF lo8 hi8
  rw [if_neg hj]
  simp only [Nat.zero_min, Nat.zero_sub, Nat.pow_zero, Nat.mod_one]
  split <;> rfl
theorem gF_off {M n i j : Nat} (hb : M / 2 ^ i % 2 = 0) : gF M n (i + 1) j = gF M n i j := by
  have hl : lo8 M (i + 1) = lo8 M i := by
    unfold lo8
    by_cases h : i < 8
    · rw [Nat.min_eq_left (by omega), Nat.min_eq_left (by omega), mod_step, hb, Nat.zero_mul, Nat.add_zero]
    · rw [Nat.min_eq_right (by omega), Nat.min_eq_right (by omega)]
  have hh : hi8 M (i + 1) = hi8 M i := by
    unfold hi8
    by_cases h : i < 8
    · rw [show i + 1 - 8 = i - 8 by omega]
    · rw [show i + 1 - 8 = (i - 8) + 1 by omega, mod_step, Nat.div_div_eq_div_mul, show 256 * 2 ^ (i - 8) = 2 ^ i by rw [show i = 8 + (i - 8) by omega, Nat.pow_add]; simp, hb, Nat.zero_mul, Nat.add_zero]
  unfold gF; rw [hl, hh]
theorem gF_on {M n i j : Nat} (hb : M / 2 ^ i % 2 = 1) (hi : i < 16) (hj : j ≤ 2) : gF M n (i + 1) j = if j = 1 + i / 8 then gF M n i j + 2 ^ (7 - i % 8) else gF M n i j := by
  by_cases h : i < 8
  · have hl : lo8 M (i + 1) = lo8 M i + 2 ^ i := by
      unfold lo8
      rw [Nat.min_eq_left (by omega), Nat.min_eq_left (by omega), mod_step, hb, Nat.one_mul]
    have hh : hi8 M (i + 1) = hi8 M i := by
      unfold hi8; rw [show i + 1 - 8 = i - 8 by omega]
    have hlt : lo8 M i < 2 ^ i := by unfold lo8; rw [Nat.min_eq_left (by omega)]; exact Nat.mod_lt _ (Nat.two_pow_pos _)
    have hr := rev8_add h hlt
    unfold gF
    rw [hl, hh, hr, show i / 8 = 0 by omega, show i % 8 = i by omega]
    by_cases h0 : j = 0
    · rw [if_pos h0, if_neg (by omega), if_pos h0]
    · rw [if_neg h0, if_neg h0]
      by_cases h1 : j = 1
      · rw [if_pos h1, if_pos (by omega), if_pos h1]
      · rw [if_neg h1, if_neg (by omega), if_neg h1]
  · have hl : lo8 M (i + 1) = lo8 M i := by
      unfold lo8
      rw [Nat.min_eq_right (by omega), Nat.min_eq_right (by omega)]
    have hh : hi8 M (i + 1) = hi8 M i + 2 ^ (i - 8) := by
      unfold hi8
      rw [show i + 1 - 8 = (i - 8) + 1 by omega, mod_step, Nat.div_div_eq_div_mul, show 256 * 2 ^ (i - 8) = 2 ^ i by rw [show i = 8 + (i - 8) by omega, Nat.pow_add]; simp, hb, Nat.one_mul]
    have hlt : hi8 M i < 2 ^ (i - 8) := Nat.mod_lt _ (Nat.two_pow_pos _)
    have hr := rev8_add (show i - 8 < 8 by omega) hlt
    unfold gF
    rw [hl, hh, hr, show i / 8 = 1 by omega, show i % 8 = i - 8 by omega]
    by_cases h0 : j = 0
    · rw [if_pos h0, if_neg (by omega), if_pos h0]
    · rw [if_neg h0, if_neg h0]
      by_cases h1 : j = 1
      · rw [if_pos h1, if_neg (by omega), if_pos h1]
      · rw [if_neg h1, if_pos (by omega), if_neg h1]
theorem gF_end {M j : Nat} (h : M < 65536) (hj : j < 1 + (bl M + 7) / 8) : gF M (bl M) (bl M) j = ((flagsL M).getD j 0).toNat := by
  obtain ⟨⟨h1, h2⟩, h3⟩ := bl_is h
  by_cases h0 : j = 0
  · subst h0
    unfold gF flagsL
    rw [if_pos rfl, List.getD_cons_zero, u8_ofNat (by omega)]
  · have hn : bl M ≠ 0 := fun e => by rw [e] at hj; omega
    unfold gF flagsL
    rw [if_neg h0, if_neg hn]
    by_cases h8 : bl M ≤ 8
    · have hM : M < 256 := Nat.lt_of_lt_of_le h1 (Nat.pow_le_pow_right (n := 2) (by decide) h8)
      have : j = 1 := by omega
      subst this
      rw [if_pos rfl, if_pos h8]
      simp only [List.getD_cons_succ, List.getD_cons_zero]
      unfold lo8
      rw [Nat.min_eq_left h8, Nat.mod_eq_of_lt h1, Nat.mod_eq_of_lt hM, u8_ofNat (rev8_lt hM)]
    · rw [if_neg h8]
      by_cases hj1 : j = 1
      · subst hj1
        rw [if_pos rfl]
        simp only [List.getD_cons_succ, List.getD_cons_zero]
        unfold lo8
        rw [Nat.min_eq_right (by omega), u8_ofNat (rev8_lt (by omega))]
      · have : j = 2 := by omega
        subst this
        rw [if_neg (by decide)]
        simp only [List.getD_cons_succ, List.getD_cons_zero]
        unfold hi8
        have : M / 256 < 2 ^ (bl M - 8) := by
          have e : 2 ^ bl M = 256 * 2 ^ (bl M - 8) := by rw [show bl M = 8 + (bl M - 8) by omega, Nat.pow_add]; simp
          rw [e] at h1
          exact Nat.div_lt_of_lt_mul h1
        rw [Nat.mod_eq_of_lt this, u8_ofNat (rev8_lt (by omega))]
end Am
end Go.Proofs.YtndbjkapdmpbbaaDoor
