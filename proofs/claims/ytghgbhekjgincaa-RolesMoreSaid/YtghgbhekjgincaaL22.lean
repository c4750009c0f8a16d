
/- Chapter 22: RolesAllow. -/
import Derived.Test.YtghgbhekjgincaaW22h
namespace Go.Proofs.Ytghgbhekjgincaa
set_option linter.unusedVariables false
namespace Am
variable {gs : List Nat} [OkG gs]
open Go.RowKit
set_option maxRecDepth 100000

theorem long_no {l : List R5} {a : A4} (h : longM l a = false) : l.length ≤ 60 := by
  unfold longM at h
  simp at h
  omega
theorem ofR_len (l : List R5) (s : S3) : (ofR l s).length ≤ l.length := by
  unfold ofR
  split
  · exact List.length_filter_le _ _
  · exact Nat.zero_le _
end Am
end Go.Proofs.Ytghgbhekjgincaa
