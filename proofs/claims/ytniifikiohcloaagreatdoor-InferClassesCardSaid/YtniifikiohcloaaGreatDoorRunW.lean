/- The run of awake. -/
import Derived.Test.YtniifikiohcloaaGreatDoorTop
set_option linter.all false
namespace Go.Proofs.YtniifikiohcloaaGreatDoor
open Go Go.Ev
set_option maxRecDepth 1000000
theorem run_awake : runB 6 .nil Sp.isTrueS = Sp.R.good := by kernel_rfl
end Go.Proofs.YtniifikiohcloaaGreatDoor
