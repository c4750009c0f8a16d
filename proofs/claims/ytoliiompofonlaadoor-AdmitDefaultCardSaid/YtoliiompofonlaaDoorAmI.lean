
/- Functions that are handed over: what the library's functions on them share. -/
import Derived.Test.YtoliiompofonlaaDoorAmH
namespace Go.Proofs.YtoliiompofonlaaDoor
set_option linter.unusedVariables false
open Go.RowKit
namespace Am
/-- where the first one stands that has it; -1: none -/
def firstI {α : Type} (p : α → Bool) : List α → Int
  | [] => -1
  | x :: l => if p x = true then 0 else if firstI p l < 0 then -1 else firstI p l + 1
theorem firstI_bd {α : Type} (p : α → Bool) : ∀ l : List α, -1 ≤ firstI p l ∧ firstI p l < l.length
  | [] => by simp [firstI]
  | x :: l => by
    have := firstI_bd p l
    rw [firstI]
    rw [List.length_cons]
    split
    · omega
    split <;> omega
theorem firstI_neg {α : Type} {p : α → Bool} : ∀ {l : List α}, firstI p l < 0 ↔ l.all (fun x => !p x) = true
  | [] => by simp [firstI]
  | x :: l => by
    have ih := @firstI_neg α p l
    have := firstI_bd p l
    rw [firstI, List.all_cons]
    by_cases h : p x = true
    · simp [h]
    · rw [if_neg h]
      have hx : (!p x) = true := by simpa using h
      rw [hx, Bool.true_and, ← ih]
      split <;> omega
theorem firstI_none {α : Type} {p : α → Bool} {l : List α} (h : ∀ i (hi : i < l.length), p l[i] = false) : firstI p l = -1 := by
  have h1 : firstI p l < 0 := firstI_neg.2 (List.all_eq_true.2 fun x hx => by
    obtain ⟨i, hi, rfl⟩ := List.getElem_of_mem hx
    simp [h i hi])
  have := firstI_bd p l
  omega
theorem firstI_at {α : Type} {p : α → Bool} : ∀ {l : List α} (i : Nat) (hi : i < l.length), p l[i] = true → (∀ j (hj : j < i), p (l[j]'(by omega)) = false) → firstI p l = (i : Nat)
  | [], i, hi, _, _ => by simp at hi
  | x :: l, 0, hi, h, _ => by simp at h; simp [firstI, h]
  | x :: l, i + 1, hi, h, hb => by
    have h0 : p x = false := by simpa using hb 0 (by omega)
    have ih := @firstI_at α p l i (by simpa using hi) (by simpa using h) (fun j hj => by simpa using hb (j + 1) (by omega))
    rw [firstI, if_neg (by simp [h0]), ih, if_neg (by omega)]
    omega
theorem entL_refl : ∀ l : List CV, EntL l l
  | [] => .nil
  | c :: l => .cons (CEnt.refl c) (entL_refl l)
theorem entL_fn {c d : CV} (h : CEnt c d) (l : List CV) : EntL ([c] ++ l) (d :: l) := .cons h (entL_refl l)
theorem CEnt.fn0 {g : FuncId} {f : Nat → CV} : CEnt (.c (.func (.func g) #[] #[])) (.fn g 0 f) := fun al St w v h => ⟨#[], h, rfl, fun i hi => absurd hi (Nat.not_lt_zero i)⟩
theorem firstI_any {α : Type} (p : α → Bool) (l : List α) : decide (0 ≤ firstI p l) = l.any p := by
  have := @firstI_neg _ p l
  by_cases h : firstI p l < 0
  · have h2 := this.1 h
    rw [decide_eq_false (by omega)]
    symm
    rw [List.any_eq_false]
    intro x hx h3
    have := List.all_eq_true.1 h2 x hx
    rw [h3] at this
    exact Bool.noConfusion this
  · have h2 := mt this.2 h
    rw [decide_eq_true (by omega)]
    symm
    rw [List.any_eq_true]
    simpa using h2
theorem all_not_any {α : Type} (p : α → Bool) (l : List α) : (!l.any fun x => !p x) = l.all p := by
  induction l with
  | nil => rfl
  | cons a l ih => simp only [List.any_cons, List.all_cons, Bool.not_or, Bool.not_not, ih]
theorem CEnt.rp {n : Nat} {f g : Nat → CV} (h : ∀ j, j < n → CEnt (f j) (g j)) : CEnt (.rp n f) (.rp n g) := fun al St w v ⟨b, o, h1, h2, h3⟩ =>
  ⟨b, o, h1, h2, fun j hj => by
    obtain ⟨x, hx, hr⟩ := h3 j hj
    exact ⟨x, hx, h j hj al St w x hr⟩⟩
theorem CEnt.fn3 {k : FuncId} {f g : Nat → CV} (h0 : CEnt (f 0) (g 0)) (h1 : CEnt (f 1) (g 1)) (h2 : CEnt (f 2) (g 2)) : CEnt (.fn k 3 f) (.fn k 3 g) := fun al St w v ⟨cs, k1, k2, k3⟩ =>
  ⟨cs, k1, k2, fun i hi => match i, hi with
    | 0, hi => h0 al St w _ (k3 0 hi)
    | 1, hi => h1 al St w _ (k3 1 hi)
    | 2, hi => h2 al St w _ (k3 2 hi)⟩
theorem CEnt.fn1 {k : FuncId} {f g : Nat → CV} (h : CEnt (f 0) (g 0)) : CEnt (.fn k 1 f) (.fn k 1 g) := fun al St w v ⟨cs, h1, h2, h3⟩ =>
  ⟨cs, h1, h2, fun i hi => by
    obtain rfl : i = 0 := by omega
    exact h al St w _ (h3 0 hi)⟩
/-! ### pieces of lists of numbers -/
theorem is_piece (l : List Int) (p q : Nat) (hpq : p ≤ q) (hq : q ≤ l.length) : CEnt (.rs 1 (q - p) fun i j => inF l (p + i)) (isC ((l.take q).drop p)) := by
  refine CEnt.rs (by simp; omega) fun i j hi hj => CEnt.of_eq ?_
  simp [inF, List.getD, List.getElem?_take, show p + i < q by omega]
theorem is_to (l : List Int) (q : Nat) (hq : q ≤ l.length) : CEnt (.rs 1 (q - 0) fun i j => inF l (0 + i)) (isC (l.take q)) := by
  have := is_piece l 0 q (by omega) hq
  simpa using this
theorem is_from (l : List Int) (p : Nat) (hp : p ≤ l.length) : CEnt (.rs 1 (l.length - p) fun i j => inF l (p + i)) (isC (l.drop p)) := by
  have := is_piece l p l.length hp (Nat.le_refl _)
  rwa [List.take_length] at this
/-- a round's end inside a join's first part -/
theorem BLe.look2 {D : List Nat} {b0 b2 : Nat → CV} {env2 : List (Nat × CV)} (h : BLe D b0 b2) (h3 : (env2.all fun x => D.any (Nat.beq x.1)) = true) : BLe D b0 (look env2 b2) := BLe.nest (D2 := []) (env2 := env2) (b2 := b2) h rfl h3
end Am
end Go.Proofs.YtoliiompofonlaaDoor
