/- That table is right, second part. -/
import Derived.Test.YtgljaemmheolfaaGreatDoorCloA
set_option linter.all false
namespace Go.Proofs.YtgljaemmheolfaaGreatDoor
open Go
set_option maxRecDepth 100000
theorem lead4 : leadsOk 100 400 = true := by kernel_rfl
end Go.Proofs.YtgljaemmheolfaaGreatDoor
namespace Go.Proofs.YtgljaemmheolfaaGreatDoor
open Go
set_option maxRecDepth 100000
theorem lead5 : leadsOk 100 500 = true := by kernel_rfl
end Go.Proofs.YtgljaemmheolfaaGreatDoor
namespace Go.Proofs.YtgljaemmheolfaaGreatDoor
open Go
set_option maxRecDepth 100000
theorem lead6 : leadsOk 100 600 = true := by kernel_rfl
end Go.Proofs.YtgljaemmheolfaaGreatDoor
