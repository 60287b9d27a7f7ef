/- Checks of the program's code, ahead of any run. -/
import Derived.Test.YtniifikiohcloaaGreatDoorTop
set_option linter.all false
namespace Go.Proofs.YtniifikiohcloaaGreatDoor
open Go Go.Ev
set_option maxRecDepth 1000000
theorem ok6 : rangeOk 60 360 = true := by kernel_rfl
end Go.Proofs.YtniifikiohcloaaGreatDoor
namespace Go.Proofs.YtniifikiohcloaaGreatDoor
open Go Go.Ev
set_option maxRecDepth 1000000
theorem ok7 : rangeOk 60 420 = true := by kernel_rfl
end Go.Proofs.YtniifikiohcloaaGreatDoor
namespace Go.Proofs.YtniifikiohcloaaGreatDoor
open Go Go.Ev
set_option maxRecDepth 1000000
theorem ok8 : rangeOk 60 480 = true := by kernel_rfl
end Go.Proofs.YtniifikiohcloaaGreatDoor
namespace Go.Proofs.YtniifikiohcloaaGreatDoor
open Go Go.Ev
set_option maxRecDepth 1000000
noncomputable def eqsOkB : Bool := eqsL.all fun t => !(Tryz.prog.stoodInHeld t) && !(Tryz.prog.eqGuardType Tryz.prog.depth t)
theorem eqsOk_all : eqsOkB = true := by kernel_rfl
theorem mixedOk : Tryz.prog.follows .mixedOrders = true := by kernel_rfl
theorem sizeOk : Nat.beq Tryz.prog.funcs.size 540 = true := by kernel_rfl
end Go.Proofs.YtniifikiohcloaaGreatDoor
