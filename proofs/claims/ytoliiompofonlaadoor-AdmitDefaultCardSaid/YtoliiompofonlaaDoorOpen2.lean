
/- Arguments that come in: texts as lists; lists in other words. -/
import Derived.Test.YtoliiompofonlaaDoorOpen
import Derived.Test.YtoliiompofonlaaDoorAmE
namespace Go.Proofs.YtoliiompofonlaaDoor
set_option linter.unusedVariables false
open Go.RowKit Go.ChangeShapes
namespace Am
theorem opens_strL {P : Program} {t : TypeId} (hu : P.underlying t = some .string) : Opens P t 1 (List UInt8) (fun s => s.length ≤ maxLen) (fun z _ => strC z) := fun H enc W fuel cs y h => by
  obtain ⟨n, rfl, _, hs⟩ := DataW.trod_string hu h
  obtain ⟨l, rfl⟩ := ba_list n
  exact ⟨rfl, l, hs, fun al => one_cell rfl⟩
theorem map_getD {α β : Type} (f : α → β) (l : List α) {i : Nat} (d0 : α) (d1 : β) (h : i < l.length) : (l.map f).getD i d1 = f (l.getD i d0) := by simp [List.getD, h]
theorem rs_map {α β : Type} {k : Nat} {E : α → Nat → CV} {E' : β → Nat → CV} {d0 : α} {d1 : β} (f : α → β) (l : List α) (h : ∀ a j, j < k → CEnt (E a j) (E' (f a) j)) : CEnt (.rs k l.length fun i j => E (l.getD i d0) j) (.rs k (l.map f).length fun i j => E' ((l.map f).getD i d1) j) := by
  refine CEnt.rs (by simp) fun i j hi hj => ?_
  have e : (l.map f).getD i d1 = f (l.getD i d0) := by simp [List.getD, hi]
  rw [e]
  exact h _ j hj
end Am
end Go.Proofs.YtoliiompofonlaaDoor
