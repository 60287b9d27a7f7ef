/- Closed facts of the row. -/
import Derived.Test.YtgljaemmheolfaaGreatDoorProg
import Derived.JoinedOf
import Derived.KernelRfl
set_option linter.all false
namespace Go.Proofs.YtgljaemmheolfaaGreatDoor
open Go
set_option maxRecDepth 100000
theorem jg25 : (Tryz.prog.mayEnter) = true := by kernel_rfl
end Go.Proofs.YtgljaemmheolfaaGreatDoor
