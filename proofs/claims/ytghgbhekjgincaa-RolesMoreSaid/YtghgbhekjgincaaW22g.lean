
/- Chapter 22: the reference's Covers, Which, Of. -/
import Derived.Test.YtghgbhekjgincaaW22f
namespace Go.Proofs.Ytghgbhekjgincaa
set_option linter.unusedVariables false
namespace Am
variable {gs : List Nat} [OkG gs]
open Go.RowKit
set_option maxRecDepth 100000

def wF (j : Nat) : CV := strC (wordL.getD j [])
theorem wF_of (j : Nat) (hj : j < 5) : CEnt (fl [strC [110, 111, 100, 101], strC [119, 111, 114, 107, 108, 111, 97, 100], strC [111, 112, 101, 114, 97, 116, 111, 114], strC [98, 111, 111, 116], strC [99, 97]] j) (wF j) := by
  rcases j with _ | _ | _ | _ | _ | j <;> first | exact CEnt.refl _ | omega
end Am
end Go.Proofs.Ytghgbhekjgincaa
