/- Plain facts on whole.Get: what is read is written so (chapter 4). -/
import Derived.Test.YtjhgocnjhhjkoaaDoorW04c
namespace Go.Proofs.YtjhgocnjhhjkoaaDoor
open Go.RowKit

theorem byte_mod (a : Int) (c : UInt8) : byte (a * 256 + c.toNat) = c := by
  apply UInt8.toNat_inj.1
  have h1 := byte_toNat (a * 256 + c.toNat)
  have := c.toNat_lt
  omega
theorem byte_sgn (c : UInt8) : byte (sgn c) = c := by
  apply UInt8.toNat_inj.1
  have h1 := byte_toNat (sgn c)
  have := c.toNat_lt
  unfold sgn at h1 ⊢
  split at h1 <;> rename_i hc
  · rw [if_pos hc]; omega
  · rw [if_neg hc]; omega
theorem sh_valS (l : List UInt8) : ∀ j, j < l.length → sh j (valS l) = valS (l.take (l.length - j)) := by
  intro j
  induction j with
  | zero => intro _; simp [sh]
  | succ j ih =>
    intro hj
    simp only [sh]
    rw [ih (by omega)]
    have e : l.length - j = (l.length - (j + 1) - 1) + 1 + 1 := by omega
    rw [e, valS_take_succ l _ (by omega), show l.length - (j + 1) = l.length - (j + 1) - 1 + 1 by omega]
    have := (l.getD (l.length - (j + 1) - 1 + 1) 0).toNat_lt
    simp only [Nat.add_sub_cancel]
    omega
theorem byte_sh_valS (l : List UInt8) (j : Nat) (hj : j < l.length) : byte (sh j (valS l)) = l.getD (l.length - 1 - j) 0 := by
  rw [sh_valS l j hj]
  by_cases h1 : l.length - j = 1
  · rw [h1, valS_take_one l (by omega), byte_sgn, show l.length - 1 - j = 0 by omega]
  · have e : l.length - j = (l.length - 1 - j - 1) + 1 + 1 := by omega
    rw [e, valS_take_succ l _ (by omega), byte_mod, show l.length - 1 - j - 1 + 1 = l.length - 1 - j by omega]
theorem digs_valS (l : List UInt8) : (digs l.length (valS l)).reverse = l := by
  refine List.ext_getElem? fun i => ?_
  by_cases hi : i < l.length
  · have h1 := digs_rev_get (valS l) l.length i hi
    rw [byte_sh_valS l _ (by omega)] at h1
    have e : l.length - 1 - (l.length - 1 - i) = i := by omega
    rw [e] at h1
    have hl : i < (digs l.length (valS l)).reverse.length := by simp [digs_length]; exact hi
    rw [List.getElem?_eq_getElem hl, List.getElem?_eq_getElem hi]
    simp only [List.getD, List.getElem?_eq_getElem hl, List.getElem?_eq_getElem hi, Option.getD_some] at h1
    rw [h1]
  · rw [List.getElem?_eq_none (by simp [digs_length]; omega), List.getElem?_eq_none (by omega)]
theorem getM_zero {l : List UInt8} (h : (getM l).2 = 0) : 0 < l.length ∧ l.length ≤ 8 ∧ idle l = false ∧ (getM l).1 = valS l := by
  unfold getM at h ⊢
  split at h
  · cases h
  · rename_i h0
    split at h
    · cases h
    · rename_i hi
      split at h
      · cases h
      · rename_i h8
        rw [if_neg h0, if_neg hi, if_neg h8]
        exact ⟨by omega, by omega, by simpa using hi, rfl⟩
theorem getM_len {l : List UInt8} (h : (getM l).2 = 0) : IsLen (getM l).1 (l.length - 1) ∧ (digs (l.length - 1 + 1) (getM l).1).reverse = l := by
  obtain ⟨h1, h2, h3, h4⟩ := getM_zero h
  rw [h4, show l.length - 1 + 1 = l.length by omega]
  have hd := digs_valS l
  have hs : stp (l.length - 1) (valS l) = true := by
    rw [stp_iff, sh_valS l _ (by omega), show l.length - (l.length - 1) = 1 by omega, valS_take_one l (by omega)]
    have := (l.getD 0 0).toNat_lt
    unfold sgn
    split <;> omega
  refine ⟨⟨by omega, hs, fun j hj => ?_⟩, hd⟩
  cases he : stp j (valS l) with
  | false => rfl
  | true =>
    have hm := stp_mono' (valS l) j (l.length - 2) (by omega) he
    have hid := idle_digs (valS l) (l.length - 2) (by rw [show l.length - 2 + 1 = l.length - 1 by omega]; exact hs)
    rw [show l.length - 2 + 2 = l.length by omega, hd, h3, hm] at hid
    cases hid
theorem getM_bd {l : List UInt8} (h : (getM l).2 = 0) : -9223372036854775808 ≤ (getM l).1 ∧ (getM l).1 ≤ 9223372036854775807 := by
  obtain ⟨_, h2, _, h4⟩ := getM_zero h
  have := valS_bd8 l h2
  rw [h4]
  omega
theorem getM_err (l : List UInt8) : (getM l).2 ≤ 28 ∧ ((getM l).2 ≠ 0 → (getM l).1 = 0) := by
  unfold getM
  split
  · exact ⟨by decide, fun _ => rfl⟩
  · split
    · exact ⟨by decide, fun _ => rfl⟩
    · split
      · exact ⟨by decide, fun _ => rfl⟩
      · exact ⟨Nat.zero_le _, fun h => absurd rfl h⟩
end Go.Proofs.YtjhgocnjhhjkoaaDoor
