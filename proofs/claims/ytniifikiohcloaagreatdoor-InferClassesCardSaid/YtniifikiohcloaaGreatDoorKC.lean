/- A closed fact of the row. -/
import Derived.Test.YtniifikiohcloaaGreatDoorRows
import Derived.JoinedOf
import Derived.KernelRfl
set_option linter.all false
namespace Go.Proofs.YtniifikiohcloaaGreatDoor
open Go
set_option maxRecDepth 100000
theorem jg09 : ((Rows.inferClassesRow.inPlace == Tryz.prog.inPlace 3)) = true := by kernel_rfl
end Go.Proofs.YtniifikiohcloaaGreatDoor
