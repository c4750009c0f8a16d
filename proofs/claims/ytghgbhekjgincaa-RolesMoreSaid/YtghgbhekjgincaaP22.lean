
/- Chapter 22, plain: rules, tables, asks. -/
import Derived.Test.YtghgbhekjgincaaP09n
namespace Go.Proofs.Ytghgbhekjgincaa
namespace Am
open Go.RowKit
set_option linter.unusedVariables false

/-! ### rules: verb, kind, who, name, space -/
abbrev R5 := Int × Int × Int × List UInt8 × List UInt8
/-- who asks, the verb, the kind, the space -/
abbrev A4 := S3 × Int × Int × List UInt8
def ruleOk (r : R5) : Bool := decide (1 ≤ r.1) && decide (r.1 ≤ 6) && decide (0 ≤ r.2.1) && decide (r.2.1 ≤ 7) && decide (0 ≤ r.2.2.1) && decide (r.2.2.1 ≤ 5) && (decide (r.2.2.2.1 = []) || labM r.2.2.2.1) && (decide (r.2.2.2.2 = []) || decide (r.2.2.2.2 = [46]) || labM r.2.2.2.2)
def tabOk (l : List R5) : Bool := decide (l.length ≤ 32) && l.all ruleOk
def ruleOf (r : R5) (s : S3) : Bool := (decide (r.2.2.1 = 0) || decide (r.2.2.1 = s.1)) && (decide (r.2.2.2.1 = []) || decide (r.2.2.2.1 = s.2.2)) && (decide (r.2.2.2.2 ≠ [46]) || decide (s.2.1 ≠ []))
def spaceOf (r : R5) (s : S3) : List UInt8 := if r.2.2.2.2 = [46] then s.2.1 else r.2.2.2.2
def covers (r : R5) (a : A4) : Bool := ruleOf r a.1 && decide (r.1 = a.2.1) && (decide (r.2.1 = 0) || decide (r.2.1 = a.2.2.1)) && (decide (spaceOf r a.1 = []) || decide (spaceOf r a.1 = a.2.2.2))
/-- where the first one stands that has it; -1: none -/
def firstI {α : Type} (p : α → Bool) : List α → Int
  | [] => -1
  | x :: l => if p x = true then 0 else if firstI p l < 0 then -1 else firstI p l + 1
theorem firstI_bd {α : Type} (p : α → Bool) : ∀ l : List α, -1 ≤ firstI p l ∧ firstI p l < l.length
  | [] => by simp [firstI]
  | x :: l => by
    have := firstI_bd p l
    rw [firstI]
    rw [List.length_cons]
    split
    · omega
    split <;> omega
theorem firstI_neg {α : Type} {p : α → Bool} : ∀ {l : List α}, firstI p l < 0 ↔ l.all (fun x => !p x) = true
  | [] => by simp [firstI]
  | x :: l => by
    have ih := @firstI_neg α p l
    have := firstI_bd p l
    rw [firstI, List.all_cons]
    by_cases h : p x = true
    · simp [h]
    · rw [if_neg h]
      have hx : (!p x) = true := by simpa using h
      rw [hx, Bool.true_and, ← ih]
      split <;> omega
theorem firstI_none {α : Type} {p : α → Bool} {l : List α} (h : ∀ i (hi : i < l.length), p l[i] = false) : firstI p l = -1 := by
  have h1 : firstI p l < 0 := firstI_neg.2 (List.all_eq_true.2 fun x hx => by
    obtain ⟨i, hi, rfl⟩ := List.getElem_of_mem hx
    simp [h i hi])
  have := firstI_bd p l
  omega
theorem firstI_at {α : Type} {p : α → Bool} : ∀ {l : List α} (i : Nat) (hi : i < l.length), p l[i] = true → (∀ j (hj : j < i), p (l[j]'(by omega)) = false) → firstI p l = (i : Nat)
  | [], i, hi, _, _ => by simp at hi
  | x :: l, 0, hi, h, _ => by simp at h; simp [firstI, h]
  | x :: l, i + 1, hi, h, hb => by
    have h0 : p x = false := by simpa using hb 0 (by omega)
    have ih := @firstI_at α p l i (by simpa using hi) (by simpa using h) (fun j hj => by simpa using hb (j + 1) (by omega))
    rw [firstI, if_neg (by simp [h0]), ih, if_neg (by omega)]
    omega
def whichM (l : List R5) (a : A4) : Int := if tabOk l = true ∧ rightS a.1 = true then firstI (fun r => covers r a) l else -1
def ofR (l : List R5) (s : S3) : List R5 := if tabOk l = true ∧ rightS s = true then l.filter fun r => ruleOf r s else []
theorem which_nonneg {l : List R5} {a : A4} : 0 ≤ whichM l a ↔ tabOk l = true ∧ rightS a.1 = true ∧ ∃ r ∈ l, covers r a = true := by
  unfold whichM
  by_cases h : tabOk l = true ∧ rightS a.1 = true
  · rw [if_pos h]
    have h1 := @firstI_neg R5 (fun r => covers r a) l
    have h2 := firstI_bd (fun r => covers r a) l
    constructor
    · intro h0
      refine ⟨h.1, h.2, ?_⟩
      apply Classical.byContradiction
      intro hn
      have : firstI (fun r => covers r a) l < 0 := h1.2 (List.all_eq_true.2 fun r hr => by
        have : ¬ covers r a = true := fun e => hn ⟨r, hr, e⟩
        simpa using this)
      omega
    · rintro ⟨_, _, r, hr, hc⟩
      apply Classical.byContradiction
      intro hn
      have := List.all_eq_true.1 (h1.1 (by omega)) r hr
      simp [hc] at this
  · rw [if_neg h]
    exact ⟨fun h0 => by omega, fun h1 => absurd ⟨h1.1, h1.2.1⟩ h⟩
theorem which_more {l : List R5} {m : R5} {a : A4} (h : tabOk (l ++ [m]) = true) (h2 : 0 ≤ whichM l a) : 0 ≤ whichM (l ++ [m]) a := by
  obtain ⟨_, h4, r, hr, hc⟩ := which_nonneg.1 h2
  exact which_nonneg.2 ⟨h, h4, r, by simp [hr], hc⟩
theorem which_of (l : List R5) (a : A4) : 0 ≤ whichM (ofR l a.1) a ↔ 0 ≤ whichM l a := by
  rw [which_nonneg, which_nonneg]
  unfold ofR
  by_cases h : tabOk l = true ∧ rightS a.1 = true
  · rw [if_pos h]
    constructor
    · rintro ⟨_, h2, r, hr, hc⟩
      exact ⟨h.1, h2, r, (List.mem_filter.1 hr).1, hc⟩
    · rintro ⟨h1, h2, r, hr, hc⟩
      refine ⟨?_, h2, r, List.mem_filter.2 ⟨hr, ?_⟩, hc⟩
      · simp only [tabOk, Bool.and_eq_true, decide_eq_true_eq, List.all_eq_true] at h1 ⊢
        exact ⟨Nat.le_trans (List.length_filter_le _ _) h1.1, fun r hr => h1.2 r (List.mem_filter.1 hr).1⟩
      · simp only [covers, Bool.and_eq_true] at hc
        exact hc.1.1.1
  · rw [if_neg h]
    constructor
    · rintro ⟨_, _, r, hr, _⟩; simp at hr
    · rintro ⟨h1, h2, _⟩; exact absurd ⟨h1, h2⟩ h
/-- the reference's way to say it -/
theorem covers_ref (r : R5) (a : A4) : covers r a = (decide (r.1 = a.2.1) && (decide (r.2.1 = 0) || decide (r.2.1 = a.2.2.1)) && (decide (r.2.2.1 = 0) || decide (r.2.2.1 = a.1.1)) && (decide (r.2.2.2.1 = []) || decide (r.2.2.2.1 = a.1.2.2)) && (if r.2.2.2.2 = [46] then decide (a.1.2.1 ≠ []) && decide (a.1.2.1 = a.2.2.2) else decide (r.2.2.2.2 = []) || decide (r.2.2.2.2 = a.2.2.2))) := by
  unfold covers ruleOf spaceOf
  by_cases h : r.2.2.2.2 = [46]
  · by_cases h2 : a.1.2.1 = []
    · rw [if_pos h, if_pos h]
      simp [h, h2]
    · rw [if_pos h, if_pos h]
      simp [h, h2]
      grind
  · rw [if_neg h, if_neg h]
    simp [h]
    grind
end Am
end Go.Proofs.Ytghgbhekjgincaa
