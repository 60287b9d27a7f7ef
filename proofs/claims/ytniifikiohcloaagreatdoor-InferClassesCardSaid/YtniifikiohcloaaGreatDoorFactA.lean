/- Checks of the program's code, ahead of any run. -/
import Derived.Test.YtniifikiohcloaaGreatDoorTop
set_option linter.all false
namespace Go.Proofs.YtniifikiohcloaaGreatDoor
open Go Go.Ev
set_option maxRecDepth 1000000
theorem ok0 : rangeOk 60 0 = true := by kernel_rfl
end Go.Proofs.YtniifikiohcloaaGreatDoor
namespace Go.Proofs.YtniifikiohcloaaGreatDoor
open Go Go.Ev
set_option maxRecDepth 1000000
theorem ok1 : rangeOk 60 60 = true := by kernel_rfl
end Go.Proofs.YtniifikiohcloaaGreatDoor
namespace Go.Proofs.YtniifikiohcloaaGreatDoor
open Go Go.Ev
set_option maxRecDepth 1000000
theorem ok2 : rangeOk 60 120 = true := by kernel_rfl
end Go.Proofs.YtniifikiohcloaaGreatDoor
