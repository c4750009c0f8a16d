
/- Chapter 5, plain: a body's runs, one by one; a text's answer out of a body. -/
import Derived.Test.YtghgbhekjgincaaDoorP05
import Derived.Test.YtghgbhekjgincaaDoorAmI
import Derived.Lib.Join
namespace Go.Proofs.YtghgbhekjgincaaDoor
namespace Am
open Go.RowKit
set_option linter.unusedVariables false

/-- a body's runs -/
def runsL (b : List UInt8) : List (List UInt8) := if h : b = [] then [] else b.take (runLen b) :: runsL (b.drop (runLen b))
termination_by b.length
decreasing_by
  have := runLen_pos h
  have := List.length_pos_iff.2 h
  simp; omega
theorem runsL_nil : runsL [] = [] := by rw [runsL]; simp
theorem runsL_cons {b : List UInt8} (h : b ≠ []) : runsL b = b.take (runLen b) :: runsL (b.drop (runLen b)) := by rw [runsL, dif_neg h]
theorem runs_pos : ∀ (n : Nat) (b : List UInt8), b.length ≤ n → ∀ r ∈ runsL b, 0 < r.length := by
  intro n
  induction n with
  | zero =>
    intro b hb r hr
    have : b = [] := List.length_eq_zero_iff.1 (by omega)
    subst this
    rw [runsL_nil] at hr; cases hr
  | succ n ih =>
    intro b hb r hr
    by_cases h : b = []
    · subst h; rw [runsL_nil] at hr; cases hr
    · rw [runsL_cons h] at hr
      have h1 := runLen_pos h
      have h2 := runLen_le b
      rcases List.mem_cons.1 hr with rfl | hr
      · rw [List.length_take]; omega
      · exact ih _ (by rw [List.length_drop]; omega) r hr
theorem runs_len : ∀ (n : Nat) (b : List UInt8), b.length ≤ n → (runsL b).length ≤ b.length := by
  intro n
  induction n with
  | zero =>
    intro b hb
    have : b = [] := List.length_eq_zero_iff.1 (by omega)
    subst this
    rw [runsL_nil]; exact Nat.le_refl _
  | succ n ih =>
    intro b hb
    by_cases h : b = []
    · subst h; rw [runsL_nil]; exact Nat.le_refl _
    · rw [runsL_cons h]
      have h1 := runLen_pos h
      have h2 := runLen_le b
      have := ih (b.drop (runLen b)) (by rw [List.length_drop]; omega)
      rw [List.length_drop] at this
      simp only [List.length_cons]; omega
/-- each run's number, the first one's most apart -/
def resL (most : Nat) : List (List UInt8) → List (Nat × Nat)
  | [] => []
  | r :: t => numM r most :: resL 2147483647 t
theorem resL_len : ∀ (most : Nat) (l : List (List UInt8)), (resL most l).length = l.length
  | _, [] => rfl
  | most, r :: t => by rw [resL, List.length_cons, resL_len, List.length_cons]
theorem resL_get : ∀ (most : Nat) (l : List (List UInt8)) (k : Nat), k < l.length → (resL most l).getD k (0, 0) = numM (l.getD k []) (if k = 0 then most else 2147483647)
  | _, [], k, h => absurd h (Nat.not_lt_zero k)
  | most, r :: t, 0, _ => rfl
  | most, r :: t, k + 1, h => by
    have := resL_get 2147483647 t k (by simpa using h)
    rw [resL, List.getD_cons_succ, List.getD_cons_succ, this, if_neg (Nat.succ_ne_zero k)]
    split <;> rfl
/-- the first error -/
def errL : List (Nat × Nat) → Nat
  | [] => 0
  | x :: t => if x.2 = 0 then errL t else x.2
theorem errL_app {l r : List (Nat × Nat)} (h : errL l = 0) : errL (l ++ r) = errL r := by
  induction l with
  | nil => rfl
  | cons x t ih =>
    rw [errL] at h
    split at h
    · rename_i hx
      rw [List.cons_append, errL, if_pos hx, ih h]
    · rename_i hx; exact absurd h hx
theorem errL_one {l : List (Nat × Nat)} {k : Nat} (hk : k < l.length) (h : errL (l.take k) = 0) : errL (l.take (k + 1)) = (l.getD k (0, 0)).2 := by
  rw [List.take_succ_eq_append_getElem hk, errL_app h]
  simp only [errL, List.getD, List.getElem?_eq_getElem hk, Option.getD_some]
  split <;> simp_all
theorem errL_bad {l : List (Nat × Nat)} {k : Nat} (hk : k < l.length) (h : errL (l.take k) = 0) (h2 : (l.getD k (0, 0)).2 ≠ 0) : errL l = (l.getD k (0, 0)).2 := by
  have e : errL (l.take k ++ l.drop k) = errL (l.drop k) := errL_app h
  rw [List.take_append_drop] at e
  rw [e, List.drop_eq_getElem_cons hk, errL]
  simp only [List.getD, List.getElem?_eq_getElem hk, Option.getD_some] at h2 ⊢
  rw [if_neg h2]
theorem nums_res : ∀ (n : Nat) (b : List UInt8) (most : Nat), b.length ≤ n → numsM most b = if errL (resL most (runsL b)) = 0 then ((resL most (runsL b)).map (·.1), 0) else ([], errL (resL most (runsL b))) := by
  intro n
  induction n with
  | zero =>
    intro b most hb
    have : b = [] := List.length_eq_zero_iff.1 (by omega)
    subst this
    rw [numsM, runsL_nil]; rfl
  | succ n ih =>
    intro b most hb
    by_cases h : b = []
    · subst h; rw [numsM, runsL_nil]; rfl
    · have h1 := runLen_pos h
      have h2 := runLen_le b
      have hi := ih (b.drop (runLen b)) 2147483647 (by rw [List.length_drop]; omega)
      rw [numsM, dif_neg h, hi, runsL_cons h, resL, errL]
      by_cases e : (numM (b.take (runLen b)) most).2 = 0
      · rw [if_neg (by simp [e]), if_pos e]
        by_cases e2 : errL (resL 2147483647 (runsL (b.drop (runLen b)))) = 0
        · rw [if_pos e2, if_pos e2, if_neg (by simp), List.map_cons]
        · rw [if_neg e2, if_neg e2, if_pos e2]
      · rw [if_pos e, if_neg e, if_neg e]
theorem arcs_snoc {l : List Nat} (n : Nat) (h : l ≠ []) : arcsOf (l ++ [n]) = arcsOf l ++ [(n : Int)] := by
  cases l with
  | nil => exact absurd rfl h
  | cons a r => simp [arcsOf]
theorem arcs_len (l : List Nat) : (arcsOf l).length ≤ l.length + 1 ∧ (l ≠ [] → 2 ≤ (arcsOf l).length) := by
  cases l with
  | nil => exact ⟨by simp [arcsOf], fun h => absurd rfl h⟩
  | cons a r => simp [arcsOf]
/-- a body's numbers and their first error -/
def resB (b : List UInt8) : List (Nat × Nat) := resL 2147483727 (runsL b)
theorem resB_len (b : List UInt8) : (resB b).length = (runsL b).length := resL_len _ _
theorem nums_resB (b : List UInt8) : numsM 2147483727 b = if errL (resB b) = 0 then ((resB b).map (·.1), 0) else ([], errL (resB b)) := nums_res b.length b 2147483727 (Nat.le_refl _)
theorem getA_nil : getA [] = ([], 2) := by unfold getA; rw [if_pos rfl]
theorem getA_bad {b : List UInt8} (hb : b ≠ []) (h : errL (resB b) ≠ 0) : getA b = ([], errL (resB b)) := by
  unfold getA
  have := nums_resB b
  rw [if_neg h] at this
  rw [if_neg hb, this, if_pos h]
theorem getA_good {b : List UInt8} (hb : b ≠ []) (h : errL (resB b) = 0) : getA b = if rightA (arcsOf ((resB b).map (·.1))) = false then ([], 1) else (arcsOf ((resB b).map (·.1)), 0) := by
  unfold getA
  have := nums_resB b
  rw [if_pos h] at this
  rw [if_neg hb, this, if_neg (by simp)]
/-- the text of arcs, where they are an identifier's; the error's number -/
def textM (l : List Int) : List UInt8 × Nat := if rightA l = true then (textL l, 0) else ([], 1)
/-- a body's text; the error's number -/
def getM (b : List UInt8) : List UInt8 × Nat := if (getA b).2 = 0 then (textL (getA b).1, 0) else ([], (getA b).2)
theorem get_text {b : List UInt8} (hb : b ≠ []) (h : errL (resB b) = 0) : getM b = textM (arcsOf ((resB b).map (·.1))) := by
  unfold getM textM
  rw [getA_good hb h]
  cases rightA (arcsOf ((resB b).map (·.1))) <;> simp
theorem get_err {b : List UInt8} (hb : b ≠ []) (h : errL (resB b) ≠ 0) : getM b = ([], errL (resB b)) := by
  unfold getM
  rw [getA_bad hb h, if_neg h]
theorem get_nil : getM [] = ([], 2) := by unfold getM; rw [getA_nil, if_neg (by decide)]
theorem join_lib (c : UInt8) : ∀ ls : List (List UInt8), Lib.join ls [c] = joinC c ls
  | [] => rfl
  | [p] => Lib.join_one p [c]
  | p :: q :: r => by
    have ih := join_lib c (q :: r)
    rw [Lib.join_cons] at ih ⊢
    rw [joinC, ← ih]
    simp [Lib.joinTail]
theorem join_len {c : UInt8} {m : Nat} : ∀ {ls : List (List UInt8)}, (∀ p ∈ ls, p.length ≤ m) → (joinC c ls).length ≤ (m + 1) * ls.length
  | [], _ => Nat.zero_le _
  | [p], h => by have := h p (by simp); simp [joinC]; omega
  | p :: q :: r, h => by
    have h1 := h p (by simp)
    have ih := join_len (c := c) (m := m) (ls := q :: r) fun x hx => h x (by simp at hx ⊢; exact .inr hx)
    rw [joinC, List.length_append, List.length_cons, List.length_cons, Nat.mul_succ]
    omega
theorem low_run (l : List UInt8) (p : UInt8 → Bool) (hp : ∀ c, p c = decide (c.toNat < 128)) : (runLen l : Int) = if firstI p l < 0 then (l.length : Int) else firstI p l + 1 := by
  induction l with
  | nil => simp [runLen, firstI]
  | cons c l ih =>
    have hb := firstI_bd p l
    rw [runLen, firstI, hp]
    by_cases hc : c.toNat < 128
    · simp [hc]
    · simp only [hc, decide_false, if_false, Bool.false_eq_true]
      by_cases hn : firstI p l < 0
      · rw [if_pos hn] at ih
        rw [if_pos hn, if_pos (by decide)]
        simp only [List.length_cons]; omega
      · rw [if_neg hn] at ih
        rw [if_neg hn, if_neg (by omega)]
        omega
/-- what comes out of a body that was put of a right text -/
theorem get_of_put {s : List UInt8} (h : (parseM s).2 = 0) : getM (putA (parseM s).1) = (s, 0) := by
  have hr := (parse_right (s := s) (l := (parseM s).1) (by rw [← h])).1
  have ht := text_parse (s := s) (l := (parseM s).1) (by rw [← h])
  unfold getM
  rw [get_put hr, if_pos rfl, ht]
end Am
end Go.Proofs.YtghgbhekjgincaaDoor
