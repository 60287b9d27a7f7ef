/- Closed facts of the row. -/
import Derived.Test.YtniifikiohcloaaGreatDoorRows
import Derived.JoinedOf
import Derived.KernelRfl
set_option linter.all false
namespace Go.Proofs.YtniifikiohcloaaGreatDoor
open Go
set_option maxRecDepth 100000
theorem jf01 : (laidOutB Tryz.prog) = true := by kernel_rfl
end Go.Proofs.YtniifikiohcloaaGreatDoor
namespace Go.Proofs.YtniifikiohcloaaGreatDoor
open Go
set_option maxRecDepth 100000
theorem jf02 : (mapsRowed Tryz.prog) = true := by kernel_rfl
end Go.Proofs.YtniifikiohcloaaGreatDoor
namespace Go.Proofs.YtniifikiohcloaaGreatDoor
open Go
set_option maxRecDepth 100000
theorem jf24 : (Tryz.prog.stopsHeard) = true := by kernel_rfl
end Go.Proofs.YtniifikiohcloaaGreatDoor
namespace Go.Proofs.YtniifikiohcloaaGreatDoor
open Go
set_option maxRecDepth 100000
theorem jf25 : (Tryz.prog.mayEnter) = true := by kernel_rfl
end Go.Proofs.YtniifikiohcloaaGreatDoor
