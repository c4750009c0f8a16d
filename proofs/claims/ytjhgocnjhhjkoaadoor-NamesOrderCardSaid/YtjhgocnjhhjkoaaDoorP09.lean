/- Plain facts of chapter 9: subjects' order. -/
import Derived.Test.YtjhgocnjhhjkoaaDoorErr
import Derived.Lib.Bytealg
import Derived.Lib.Small
namespace Go.Proofs.YtjhgocnjhhjkoaaDoor
open Go.RowKit

abbrev cb := Lib.compareBytes
theorem cb_refl : ∀ x, cb x x = 0
  | [] => rfl
  | a :: x => by
    have := cb_refl x
    simp only [cb, Lib.compareBytes] at this ⊢
    have h : ¬ a < a := by simp [UInt8.lt_iff_toNat_lt]
    rw [if_neg h, if_neg h]; exact this
theorem cb_eq : ∀ x y, cb x y = 0 → x = y
  | [], [], _ => rfl
  | [], _ :: _, h => by simp [cb, Lib.compareBytes] at h
  | _ :: _, [], h => by simp [cb, Lib.compareBytes] at h
  | a :: x, b :: y, h => by
    simp only [cb, Lib.compareBytes, UInt8.lt_iff_toNat_lt] at h
    split at h
    · omega
    · split at h
      · omega
      · rename_i h1 h2
        have e : a = b := UInt8.toNat_inj.1 (by omega)
        rw [e, cb_eq x y h]
theorem cb_anti : ∀ x y, cb y x = - cb x y
  | [], [] => rfl
  | [], _ :: _ => rfl
  | _ :: _, [] => rfl
  | a :: x, b :: y => by
    have := cb_anti x y
    simp only [cb, Lib.compareBytes, UInt8.lt_iff_toNat_lt] at this ⊢
    split <;> split <;> first | omega | (split <;> omega) | skip
theorem cb_tr : ∀ x y z, cb x y ≤ 0 → cb y z ≤ 0 → cb x z ≤ 0 ∧ (cb x y < 0 ∨ cb y z < 0 → cb x z < 0)
  | [], [], z, h1, h2 => by
    cases z <;> simp [cb, Lib.compareBytes]
  | [], b :: y, [], h1, h2 => by simp [cb, Lib.compareBytes] at h2
  | [], b :: y, c :: z, h1, h2 => by simp [cb, Lib.compareBytes]
  | a :: x, [], z, h1, h2 => by simp [cb, Lib.compareBytes] at h1
  | a :: x, b :: y, [], h1, h2 => by simp [cb, Lib.compareBytes] at h2
  | a :: x, b :: y, c :: z, h1, h2 => by
    have ih := cb_tr x y z
    simp only [cb, Lib.compareBytes, UInt8.lt_iff_toNat_lt] at ih h1 h2 ⊢
    generalize Lib.compareBytes x y = p at *
    generalize Lib.compareBytes y z = q at *
    generalize Lib.compareBytes x z = r at *
    repeat' split at h1
    all_goals repeat' split at h2
    all_goals first | (exfalso; omega) | skip
    all_goals (repeat' split) <;> first | omega | (constructor <;> omega) | skip
theorem cb_less : ∀ x y, x ≠ y → cb x y = if Op.bytesLess x y then -1 else 1
  | [], [], h => absurd rfl h
  | [], _ :: _, _ => by simp [cb, Lib.compareBytes, Op.bytesLess]
  | _ :: _, [], _ => by simp [cb, Lib.compareBytes, Op.bytesLess]
  | a :: x, b :: y, h => by
    simp only [cb, Lib.compareBytes, Op.bytesLess]
    by_cases h1 : a < b
    · simp [h1]
    · by_cases h2 : b < a
      · have : ¬ a = b := fun e => h1 (e ▸ h2)
        simp [h1, h2, this]
      · have e : a = b := UInt8.toNat_inj.1 (by simp only [UInt8.lt_iff_toNat_lt] at h1 h2; omega)
        subst e
        have := cb_less x y (fun e => h (by rw [e]))
        simp only [cb] at this
        simp [h1, this]
theorem cb_bd : ∀ x y, cb x y = -1 ∨ cb x y = 0 ∨ cb x y = 1
  | [], [] => by simp [cb, Lib.compareBytes]
  | [], _ :: _ => by simp [cb, Lib.compareBytes]
  | _ :: _, [] => by simp [cb, Lib.compareBytes]
  | a :: x, b :: y => by
    have := cb_bd x y
    simp only [cb, Lib.compareBytes] at this ⊢
    split
    · simp
    · split
      · simp
      · exact this

/-- the first that is not 0 -/
def or3 (a b c : Int) : Int := if a ≠ 0 then a else if b ≠ 0 then b else c
def cmpM (k : Int) (sp nm : List UInt8) (k2 : Int) (sp2 nm2 : List UInt8) : Int := or3 (Lib.compareInt k k2) (cb sp sp2) (cb nm nm2)
theorem cmpM_anti (k : Int) (sp nm : List UInt8) (k2 : Int) (sp2 nm2 : List UInt8) : cmpM k2 sp2 nm2 k sp nm = - cmpM k sp nm k2 sp2 nm2 := by
  have h1 := cb_anti sp sp2
  have h2 := cb_anti nm nm2
  have h0 : Lib.compareInt k2 k = - Lib.compareInt k k2 := by unfold Lib.compareInt; split <;> split <;> first | omega | (split <;> omega)
  unfold cmpM or3
  rw [h0, h1, h2]
  split <;> split <;> first | omega | (split <;> split <;> omega)
theorem cmpM_zero (k : Int) (sp nm : List UInt8) (k2 : Int) (sp2 nm2 : List UInt8) : cmpM k sp nm k2 sp2 nm2 = 0 ↔ (k = k2 ∧ sp = sp2 ∧ nm = nm2) := by
  constructor
  · intro h
    unfold cmpM or3 at h
    split at h
    · omega
    · rename_i h0
      split at h
      · omega
      · rename_i h1
        refine ⟨?_, cb_eq _ _ (by omega), cb_eq _ _ h⟩
        unfold Lib.compareInt at h0
        split at h0
        · omega
        · split at h0 <;> omega
  · rintro ⟨rfl, rfl, rfl⟩
    unfold cmpM or3
    rw [cb_refl, cb_refl]
    simp [Lib.compareInt]
theorem cmpM_trans (k : Int) (sp nm : List UInt8) (k2 : Int) (sp2 nm2 : List UInt8) (k3 : Int) (sp3 nm3 : List UInt8) (h1 : cmpM k sp nm k2 sp2 nm2 ≤ 0) (h2 : cmpM k2 sp2 nm2 k3 sp3 nm3 ≤ 0) :
    cmpM k sp nm k3 sp3 nm3 ≤ 0 := by
  have a1 := cb_tr sp sp2 sp3
  have a2 := cb_tr nm nm2 nm3
  have b1 : cb sp sp2 = 0 → cb sp sp3 = cb sp2 sp3 := fun h => by rw [cb_eq _ _ h]
  have b2 : cb sp2 sp3 = 0 → cb sp sp3 = cb sp sp2 := fun h => by rw [cb_eq _ _ h]
  have c : (Lib.compareInt k k2 = -1 ∧ k < k2 ∨ Lib.compareInt k k2 = 0 ∧ k = k2 ∨ Lib.compareInt k k2 = 1 ∧ k2 < k) ∧ (Lib.compareInt k2 k3 = -1 ∧ k2 < k3 ∨ Lib.compareInt k2 k3 = 0 ∧ k2 = k3 ∨ Lib.compareInt k2 k3 = 1 ∧ k3 < k2) ∧ (Lib.compareInt k k3 = -1 ∧ k < k3 ∨ Lib.compareInt k k3 = 0 ∧ k = k3 ∨ Lib.compareInt k k3 = 1 ∧ k3 < k) := by
    unfold Lib.compareInt
    refine ⟨?_, ?_, ?_⟩ <;> (split <;> first | omega | (split <;> omega))
  unfold cmpM or3 at h1 h2 ⊢
  generalize cb sp sp2 = p1 at *
  generalize cb sp2 sp3 = p2 at *
  generalize cb sp sp3 = p3 at *
  generalize cb nm nm2 = q1 at *
  generalize cb nm2 nm3 = q2 at *
  generalize cb nm nm3 = q3 at *
  generalize Lib.compareInt k k2 = r1 at *
  generalize Lib.compareInt k2 k3 = r2 at *
  generalize Lib.compareInt k k3 = r3 at *
  split at h1 <;> split at h2 <;> split
  all_goals first | omega | skip
  all_goals (repeat' split at h1) <;> (repeat' split at h2) <;> (repeat' split) <;> omega
end Go.Proofs.YtjhgocnjhhjkoaaDoor
