/- The tie, first facts. -/
import Derived.LaidOnce
import Derived.LaidByTextLater
import Derived.KernelRfl
import Derived.Test.YtgljaemmheolfaaGreatDoorRows
import Derived.Test.YtgljaemmheolfaaGreatDoorTiA
set_option linter.all false
namespace Go.Proofs.YtgljaemmheolfaaGreatDoor
open Go
set_option maxRecDepth 100000
theorem ti1 : Tryz.prog.worded (varsWordLater true) = true := by kernel_rfl
theorem ti2 : Tryz.prog.worded (varsWordLater !true) = false := by kernel_rfl
theorem ti3 : Tryz.prog.worded rootWordLater = true := by kernel_rfl
end Go.Proofs.YtgljaemmheolfaaGreatDoor
