/- Closed facts of the row. -/
import Derived.Test.YtniifikiohcloaaGreatDoorRows
import Derived.JoinedOf
import Derived.KernelRfl
set_option linter.all false
namespace Go.Proofs.YtniifikiohcloaaGreatDoor
open Go
set_option maxRecDepth 100000
theorem jg01 : (laidOutB Tryz.prog) = true := by kernel_rfl
end Go.Proofs.YtniifikiohcloaaGreatDoor
namespace Go.Proofs.YtniifikiohcloaaGreatDoor
open Go
set_option maxRecDepth 100000
theorem jg02 : (mapsRowed Tryz.prog) = true := by kernel_rfl
end Go.Proofs.YtniifikiohcloaaGreatDoor
namespace Go.Proofs.YtniifikiohcloaaGreatDoor
open Go
set_option maxRecDepth 100000
theorem jg24 : (Tryz.prog.stopsHeard) = true := by kernel_rfl
end Go.Proofs.YtniifikiohcloaaGreatDoor
namespace Go.Proofs.YtniifikiohcloaaGreatDoor
open Go
set_option maxRecDepth 100000
theorem jg25 : (Tryz.prog.mayEnter) = true := by kernel_rfl
end Go.Proofs.YtniifikiohcloaaGreatDoor
