
/- Chapter 22: the reference's Of; the laws. -/
import Derived.Test.YtghgbhekjgincaaW22g
namespace Go.Proofs.Ytghgbhekjgincaa
set_option linter.unusedVariables false
namespace Am
variable {gs : List Nat} [OkG gs]
open Go.RowKit
set_option maxRecDepth 100000

theorem filt_yes {l : List R5} {i : Nat} {q : R5 → Bool} (hi : i < l.length) (h : q (l.getD i r0) = true) : (l.take (i + 1)).filter q = (l.take i).filter q ++ [l.getD i r0] := by
  have e : l.getD i r0 = l[i] := by simp [List.getD, hi]
  rw [e] at h ⊢
  rw [List.take_succ_eq_append_getElem hi, List.filter_append]
  simp [h]
theorem filt_no {l : List R5} {i : Nat} {q : R5 → Bool} (hi : i < l.length) (h : q (l.getD i r0) = false) : (l.take (i + 1)).filter q = (l.take i).filter q := by
  have e : l.getD i r0 = l[i] := by simp [List.getD, hi]
  rw [e] at h
  rw [List.take_succ_eq_append_getElem hi, List.filter_append]
  simp [h]
end Am
end Go.Proofs.Ytghgbhekjgincaa
