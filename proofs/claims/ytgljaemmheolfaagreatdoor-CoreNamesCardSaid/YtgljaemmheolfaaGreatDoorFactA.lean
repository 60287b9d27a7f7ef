/- Checks of the code of the program, ahead of any run. -/
import Derived.Test.YtgljaemmheolfaaGreatDoorTop
set_option linter.all false
namespace Go.Proofs.YtgljaemmheolfaaGreatDoor
open Go Go.Ev
set_option maxRecDepth 1000000
theorem ok0 : rangeOk 60 0 = true := by kernel_rfl
end Go.Proofs.YtgljaemmheolfaaGreatDoor
namespace Go.Proofs.YtgljaemmheolfaaGreatDoor
open Go Go.Ev
set_option maxRecDepth 1000000
theorem ok1 : rangeOk 60 60 = true := by kernel_rfl
end Go.Proofs.YtgljaemmheolfaaGreatDoor
