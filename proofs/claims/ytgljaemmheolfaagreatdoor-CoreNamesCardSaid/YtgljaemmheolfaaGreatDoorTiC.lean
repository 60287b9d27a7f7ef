/- The tie, more facts. -/
import Derived.LaidOnce
import Derived.LaidByTextLater
import Derived.KernelRfl
import Derived.Test.YtgljaemmheolfaaGreatDoorRows
import Derived.Test.YtgljaemmheolfaaGreatDoorTiA
set_option linter.all false
namespace Go.Proofs.YtgljaemmheolfaaGreatDoor
open Go
set_option maxRecDepth 100000
theorem ti4 : tieList.map (fun x => Tryz.prog.kindOfLater x.1) = tieKinds.map some := by kernel_rfl
theorem ti5 : (Tryz.prog.funcNamed "gosem.cut.vars").isSome = true := by kernel_rfl
end Go.Proofs.YtgljaemmheolfaaGreatDoor
