/- Checks of the code of the program, ahead of any run. -/
import Derived.Test.YtgljaemmheolfaaGreatDoorTop
set_option linter.all false
namespace Go.Proofs.YtgljaemmheolfaaGreatDoor
open Go Go.Ev
set_option maxRecDepth 1000000
theorem ok10 : rangeOk 60 600 = true := by kernel_rfl
end Go.Proofs.YtgljaemmheolfaaGreatDoor
namespace Go.Proofs.YtgljaemmheolfaaGreatDoor
open Go Go.Ev
set_option maxRecDepth 1000000
theorem ok11 : rangeOk 60 660 = true := by kernel_rfl
end Go.Proofs.YtgljaemmheolfaaGreatDoor
