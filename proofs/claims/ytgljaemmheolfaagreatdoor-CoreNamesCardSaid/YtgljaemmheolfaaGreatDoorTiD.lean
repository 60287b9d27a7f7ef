/- The tie: what the door names. -/
import Derived.LaidOnce
import Derived.LaidByTextLater
import Derived.KernelRfl
import Derived.Test.YtgljaemmheolfaaGreatDoorRows
import Derived.Test.YtgljaemmheolfaaGreatDoorTiA
set_option linter.all false
namespace Go.Proofs.YtgljaemmheolfaaGreatDoor
open Go
set_option maxRecDepth 100000
theorem ti6 : varsNamedLaterB Tryz.prog (varsId Tryz.prog) tieList = true := by kernel_rfl
end Go.Proofs.YtgljaemmheolfaaGreatDoor
