/- Runs of InferClasses, one for each pair of numbers. -/
import Derived.Test.YtniifikiohcloaaGreatDoorLawCT
set_option linter.all false
namespace Go.Proofs.YtniifikiohcloaaGreatDoor
set_option maxRecDepth 1000000
theorem law3_r3 : law3R 49152 16384 = Go.Ev.Sp.R.good := by kernel_rfl
end Go.Proofs.YtniifikiohcloaaGreatDoor
