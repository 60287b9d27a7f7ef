/- The tie: what the run of the door leaves. -/
import Derived.LaidOnce
import Derived.LaidByTextLater
import Derived.KernelRfl
import Derived.Test.YtgljaemmheolfaaGreatDoorRows
import Derived.Test.YtgljaemmheolfaaGreatDoorTiA
set_option linter.all false
namespace Go.Proofs.YtgljaemmheolfaaGreatDoor
open Go
set_option maxRecDepth 100000
theorem ti7 : ∀ os tape, doorLeaves Tryz.prog 117 8 101 tieList os tape = some (tieList.filter fun x => x.2.handleName?.isNone, (funcsListed tieList).map (·.2.funcsOut)) := fun _ _ => by kernel_rfl
end Go.Proofs.YtgljaemmheolfaaGreatDoor
