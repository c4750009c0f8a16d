
/- bullanum.Num as a contract of the abstract walk. -/
import Derived.Test.YtoliiompofonlaaDoorTy
import Derived.Test.YtoliiompofonlaaDoorNum
namespace Go.Proofs.YtoliiompofonlaaDoor
set_option linter.unusedVariables false
namespace Am
variable {gs : List Nat} [OkG gs]
open Go.RowKit
theorem num_ac (m : Nat) (hm : m ≤ 28) : ACp gs Tryd.prog 18 [.err m] (.c (.int .i64 m)) :=
  ac_old fun al w St vals hs hv hr => by
    have h0 : vals.getD 0 undef = ev al m := hr 0
    rw [vals1 hv, h0]
    exact num_any hs.std m hm
end Am
end Go.Proofs.YtoliiompofonlaaDoor
