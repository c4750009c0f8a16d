
/- Chapter 23: Permit by the reference (under way). -/
import Derived.Test.YtoliiompofonlaaDoorW23k
namespace Go.Proofs.YtoliiompofonlaaDoor
set_option linter.unusedVariables false
namespace Am
variable {gs : List Nat} [OkG gs]
open Go.RowKit
set_option maxRecDepth 100000

def bitL : List Int := [1, 2, 4, 8]
def hasK (u g : Int) (k : Nat) : Bool := (bitL.take k).all fun b => decide (u / b % 2 = 0) || decide (g / b % 2 = 1)
theorem has_lack {u g : Int} (h1 : 0 ≤ u) (h2 : u ≤ 15) (h3 : 0 ≤ g) (h4 : g ≤ 15) : hasK u g 4 = decide (lackB u g = 0) := by
  have h : ∀ a b : Fin 16, hasK (a.val : Int) (b.val : Int) 4 = decide (lackB (a.val : Int) (b.val : Int) = 0) := by decide +kernel
  have := h ⟨u.toNat, by omega⟩ ⟨g.toNat, by omega⟩
  have e1 : ((⟨u.toNat, by omega⟩ : Fin 16).val : Int) = u := Int.toNat_of_nonneg h1
  have e2 : ((⟨g.toNat, by omega⟩ : Fin 16).val : Int) = g := Int.toNat_of_nonneg h3
  rwa [e1, e2] at this
/-- what one more grant does to the cap and the error -/
def stepR (w : S3) (q : Q5) (s : Int × Int) (g : G5) : Int × Int :=
  if p1M w q g = false then s else
    let e1 := if s.2 = 22 then 9 else s.2
    if p2M w q g = false then (s.1, e1) else
      let e2 := if e1 = 9 then 15 else e1
      if p3M q g = false then (s.1, e2) else (if s.1 < g.2.2.2.2 then g.2.2.2.2 else s.1, 0)
def refS (l : List G5) (w : S3) (q : Q5) : Int × Int := l.foldl (stepR w q) (0, 22)
theorem refS_next {l : List G5} {w : S3} {q : Q5} {i : Nat} (h : i < l.length) : refS (l.take (i + 1)) w q = stepR w q (refS (l.take i) w q) (l.getD i g0) := by
  rw [gtake_get h]
  simp [refS]
def topM (c : Int) (g : G5) : Int := if c < g.2.2.2.2 then g.2.2.2.2 else c
theorem maxG_fold : ∀ (t : List G5) (m : G5), (maxG m t).2.2.2.2 = t.foldl topM m.2.2.2.2
  | [], m => rfl
  | a :: t, m => by
    rw [maxG, maxG_fold t, List.foldl_cons, topM]
    split <;> rfl
/-- the grants of l that pass all, those that pass the first two, the first -/
def f1 (l : List G5) (w : S3) (q : Q5) : List G5 := l.filter (p1M w q)
def f2 (l : List G5) (w : S3) (q : Q5) : List G5 := (f1 l w q).filter (p2M w q)
def f3 (l : List G5) (w : S3) (q : Q5) : List G5 := (f2 l w q).filter (p3M q)
def errF (l : List G5) (w : S3) (q : Q5) : Int := if f1 l w q = [] then 22 else if f2 l w q = [] then 9 else if f3 l w q = [] then 15 else 0
theorem ne_app {α : Type} (a : List α) (x : α) : a ++ [x] ≠ [] := by simp
theorem f1_no {l : List G5} {w : S3} {q : Q5} {g : G5} (h : p1M w q g = false) : f1 (l ++ [g]) w q = f1 l w q := by simp [f1, h]
theorem f1_yes {l : List G5} {w : S3} {q : Q5} {g : G5} (h : p1M w q g = true) : f1 (l ++ [g]) w q = f1 l w q ++ [g] := by simp [f1, h]
theorem refS_is (l : List G5) (w : S3) (q : Q5) : refS l w q = ((f3 l w q).foldl topM 0, errF l w q) := by
  have key : ∀ n, n ≤ l.length → refS (l.take n) w q = ((f3 (l.take n) w q).foldl topM 0, errF (l.take n) w q) := by
    intro n
    induction n with
    | zero => intro _; rfl
    | succ n ih =>
      intro hn
      have hi := ih (by omega)
      rw [refS_next (by omega), hi, gtake_get (by omega)]
      generalize l.take n = t
      generalize l.getD n g0 = g
      unfold stepR
      cases h1 : p1M w q g with
      | false =>
        have e1 := f1_no (l := t) h1
        simp only [if_true]
        unfold errF f3 f2
        rw [e1]
      | true =>
        have e1 := f1_yes (l := t) h1
        have n1 : f1 (t ++ [g]) w q ≠ [] := by rw [e1]; exact ne_app _ _
        cases h2 : p2M w q g with
        | false =>
          have e2 : f2 (t ++ [g]) w q = f2 t w q := by unfold f2; rw [e1, List.filter_append]; simp [h2]
          have e3 : f3 (t ++ [g]) w q = f3 t w q := by unfold f3; rw [e2]
          simp only [if_true, if_false, Bool.true_eq_false]
          unfold errF
          rw [if_neg n1, e2, e3]
          by_cases z1 : f1 t w q = []
          · have z2 : f2 t w q = [] := by unfold f2; rw [z1]; rfl
            simp [z1, z2]
          · by_cases z2 : f2 t w q = []
            · simp [z1, z2]
            · by_cases z3 : f3 t w q = [] <;> simp [z1, z2, z3]
        | true =>
          have e2 : f2 (t ++ [g]) w q = f2 t w q ++ [g] := by unfold f2; rw [e1, List.filter_append]; simp [h2]
          have n2 : f2 (t ++ [g]) w q ≠ [] := by rw [e2]; exact ne_app _ _
          cases h3 : p3M q g with
          | false =>
            have e3 : f3 (t ++ [g]) w q = f3 t w q := by unfold f3; rw [e2, List.filter_append]; simp [h3]
            simp only [if_true, if_false, Bool.true_eq_false]
            unfold errF
            rw [if_neg n1, if_neg n2, e3]
            by_cases z1 : f1 t w q = []
            · have z2 : f2 t w q = [] := by unfold f2; rw [z1]; rfl
              have z3 : f3 t w q = [] := by unfold f3; rw [z2]; rfl
              simp [z1, z3]
            · by_cases z2 : f2 t w q = []
              · have z3 : f3 t w q = [] := by unfold f3; rw [z2]; rfl
                simp [z1, z2, z3]
              · by_cases z3 : f3 t w q = [] <;> simp [z1, z2, z3]
          | true =>
            have e3 : f3 (t ++ [g]) w q = f3 t w q ++ [g] := by unfold f3; rw [e2, List.filter_append]; simp [h3]
            have n3 : f3 (t ++ [g]) w q ≠ [] := by rw [e3]; exact ne_app _ _
            simp only [if_false, Bool.true_eq_false]
            unfold errF
            rw [if_neg n1, if_neg n2, if_neg n3, e3, List.foldl_append]
            rfl
  have := key l.length (Nat.le_refl _)
  rwa [List.take_length] at this
theorem st3_is (l : List G5) (w : S3) (q : Q5) : (((st3 l w q).2 : Nat) : Int) = errF l w q ∧ ((st3 l w q).2 = 0 → (st3 l w q).1 = f3 l w q) := by
  have a1 : st1 l w q = (f1 l w q, if f1 l w q = [] then 22 else 0) := keepS_good rfl
  unfold st3 st2 errF
  rw [a1]
  by_cases z1 : f1 l w q = []
  · simp only [z1, eq_self, if_true]
    rw [keepS_bad (k := 22) (by decide)]
    dsimp only
    rw [keepS_bad (k := 22) (by decide)]
    exact ⟨rfl, fun h => absurd h (by decide)⟩
  · simp only [if_neg z1]
    rw [keepS_good rfl]
    dsimp only
    rw [show (f1 l w q).filter (p2M w q) = f2 l w q from rfl]
    by_cases z2 : f2 l w q = []
    · simp only [z2, eq_self, if_true]
      rw [keepS_bad (k := 9) (by decide)]
      exact ⟨rfl, fun h => absurd h (by decide)⟩
    · simp only [if_neg z2]
      rw [keepS_good rfl]
      dsimp only
      rw [show (f2 l w q).filter (p3M q) = f3 l w q from rfl]
      by_cases z3 : f3 l w q = []
      · simp only [z3, eq_self, if_true]
        exact ⟨rfl, fun h => absurd h (by decide)⟩
      · simp only [if_neg z3]
        exact ⟨rfl, fun _ => by first | rfl | trivial⟩
/-- what the reference's loop ends with is what the program answers -/
theorem perm_ref {l : List G5} {w : S3} {q : Q5} (h1 : polOk l = true) (h2 : rightS w = true) (h3 : reqOk q = true) : refS l w q = ((permM l w q).1, (((permM l w q).2 : Nat) : Int)) := by
  obtain ⟨s1, s2⟩ := st3_is l w q
  unfold permM
  rw [if_neg (by simp [h1]), if_neg (by simp [h2]), if_neg (by simp [h3]), refS_is]
  by_cases hz : (st3 l w q).2 = 0
  · rw [if_neg (by simp [hz])]
    have e := s2 hz
    rw [e]
    have hne : f3 l w q ≠ [] := by rw [← e]; exact (st3_zero hz).2
    cases hf : f3 l w q with
    | nil => exact absurd hf hne
    | cons a t =>
      have ha : grOk a = true := pol_all h1 a (by
        have : a ∈ f3 l w q := by rw [hf]; simp
        exact (List.mem_filter.1 (List.mem_filter.1 (List.mem_filter.1 this).1).1).1)
      have ha1 : 1 ≤ a.2.2.2.2 := by
        unfold grOk at ha
        simp only [Bool.and_eq_true, decide_eq_true_eq] at ha
        omega
      refine Prod.ext ?_ ?_
      · show (a :: t).foldl topM 0 = _
        rw [List.foldl_cons, show topM 0 a = a.2.2.2.2 by unfold topM; rw [if_pos (by omega)]]
        exact (maxG_fold t a).symm
      · show errF l w q = _
        rw [← s1, hz]
  · rw [if_pos hz]
    have hf : f3 l w q = [] := by
      have : errF l w q ≠ 0 := by rw [← s1]; omega
      unfold errF at this
      by_cases z1 : f1 l w q = []
      · unfold f3 f2; rw [z1]; rfl
      · by_cases z2 : f2 l w q = []
        · unfold f3; rw [z2]; rfl
        · by_cases z3 : f3 l w q = []
          · exact z3
          · simp [z1, z2, z3] at this
    refine Prod.ext ?_ ?_
    · show (f3 l w q).foldl topM 0 = 0
      rw [hf]; rfl
    · exact s1.symm
end Am
end Go.Proofs.YtoliiompofonlaaDoor
