/- Three facts of the card. -/
import Derived.Test.YtgljaemmheolfaaGreatDoorRows
import Derived.KernelRfl
import Derived.SevenTiedAt
set_option linter.all false
namespace Go.Proofs.YtgljaemmheolfaaGreatDoor
open Go
set_option maxRecDepth 100000
theorem funcNamed3 : Tryz.prog.funcNamed "cspcheck/cspchecklaw13.CoreNames" = some 3 := by kernel_rfl
theorem mainIs_fact : Tryz.prog.mainIs = some (true, "d24a417bdd72b5c9c7925037d47e6f5a6698c2247b5ea03e9b3f1986fc2d6a97".toList) := by kernel_rfl
theorem looks_fact : true = Tryz.prog.looks [] := by kernel_rfl
end Go.Proofs.YtgljaemmheolfaaGreatDoor
