/- That table is right, first part. -/
import Derived.Test.YtgljaemmheolfaaGreatDoorCloA
set_option linter.all false
namespace Go.Proofs.YtgljaemmheolfaaGreatDoor
open Go
set_option maxRecDepth 100000
theorem lead0 : leadsOk 100 0 = true := by kernel_rfl
end Go.Proofs.YtgljaemmheolfaaGreatDoor
namespace Go.Proofs.YtgljaemmheolfaaGreatDoor
open Go
set_option maxRecDepth 100000
theorem lead1 : leadsOk 100 100 = true := by kernel_rfl
end Go.Proofs.YtgljaemmheolfaaGreatDoor
namespace Go.Proofs.YtgljaemmheolfaaGreatDoor
open Go
set_option maxRecDepth 100000
theorem lead2 : leadsOk 100 200 = true := by kernel_rfl
end Go.Proofs.YtgljaemmheolfaaGreatDoor
namespace Go.Proofs.YtgljaemmheolfaaGreatDoor
open Go
set_option maxRecDepth 100000
theorem lead3 : leadsOk 100 300 = true := by kernel_rfl
end Go.Proofs.YtgljaemmheolfaaGreatDoor
