/- Closed facts of the row. -/
import Derived.Test.YtniifikiohcloaaGreatDoorRows
import Derived.JoinedOf
import Derived.KernelRfl
set_option linter.all false
namespace Go.Proofs.YtniifikiohcloaaGreatDoor
open Go
set_option maxRecDepth 100000
theorem jg00 : (Rows.inferClassesRow.wf (OpenSpec.ofChange Rows.inferClassesSpec)) = true := by kernel_rfl
end Go.Proofs.YtniifikiohcloaaGreatDoor
namespace Go.Proofs.YtniifikiohcloaaGreatDoor
open Go
set_option maxRecDepth 100000
theorem jg03 : (Tryz.f3.params.all (Tryz.prog.readableRec ·)) = true := by kernel_rfl
end Go.Proofs.YtniifikiohcloaaGreatDoor
namespace Go.Proofs.YtniifikiohcloaaGreatDoor
open Go
set_option maxRecDepth 100000
theorem jg04 : (namedTie Tryz.prog Rows.inferClassesRow.named Rows.inferClassesSpec.vars) = true := by kernel_rfl
end Go.Proofs.YtniifikiohcloaaGreatDoor
namespace Go.Proofs.YtniifikiohcloaaGreatDoor
open Go
set_option maxRecDepth 100000
theorem jg05 : ((Rows.inferClassesRow.stops == [])) = true := by kernel_rfl
end Go.Proofs.YtniifikiohcloaaGreatDoor
namespace Go.Proofs.YtniifikiohcloaaGreatDoor
open Go
set_option maxRecDepth 100000
theorem jg06 : ((Tryz.prog.stops == [])) = true := by kernel_rfl
end Go.Proofs.YtniifikiohcloaaGreatDoor
namespace Go.Proofs.YtniifikiohcloaaGreatDoor
open Go
set_option maxRecDepth 100000
theorem jg07 : ((Rows.inferClassesRow.knobs == [])) = true := by kernel_rfl
end Go.Proofs.YtniifikiohcloaaGreatDoor
namespace Go.Proofs.YtniifikiohcloaaGreatDoor
open Go
set_option maxRecDepth 100000
theorem jg08 : ((Tryz.prog.stopKnobs == [])) = true := by kernel_rfl
end Go.Proofs.YtniifikiohcloaaGreatDoor
namespace Go.Proofs.YtniifikiohcloaaGreatDoor
open Go
set_option maxRecDepth 100000
theorem jg13 : ((Rows.inferClassesRow.maps == (Tryz.f3.params.toList ++ Rows.inferClassesSpec.plain.varTypes Tryz.prog).any (Tryz.prog.mapsRec ·))) = true := by kernel_rfl
end Go.Proofs.YtniifikiohcloaaGreatDoor
namespace Go.Proofs.YtniifikiohcloaaGreatDoor
open Go
set_option maxRecDepth 100000
theorem jg14 : ((Rows.inferClassesRow.ifaces == (Tryz.f3.params.toList ++ Rows.inferClassesSpec.plain.varTypes Tryz.prog).any (Tryz.prog.ifacesRec ·))) = true := by kernel_rfl
end Go.Proofs.YtniifikiohcloaaGreatDoor
namespace Go.Proofs.YtniifikiohcloaaGreatDoor
open Go
set_option maxRecDepth 100000
theorem jg15 : ((Rows.inferClassesRow.mapsOut == Tryz.prog.mapsAmong Tryz.f3.resultTypes.toList)) = true := by kernel_rfl
end Go.Proofs.YtniifikiohcloaaGreatDoor
namespace Go.Proofs.YtniifikiohcloaaGreatDoor
open Go
set_option maxRecDepth 100000
theorem jg16 : ((Rows.inferClassesRow.loops == (Tryz.f3.params.toList ++ Rows.inferClassesSpec.plain.varTypes Tryz.prog).any (Tryz.prog.loopsFrom ·))) = true := by kernel_rfl
end Go.Proofs.YtniifikiohcloaaGreatDoor
namespace Go.Proofs.YtniifikiohcloaaGreatDoor
open Go
set_option maxRecDepth 100000
theorem jg17 : ((Rows.inferClassesRow.wideKeys == (Tryz.f3.params.toList ++ Rows.inferClassesSpec.plain.varTypes Tryz.prog ++ Tryz.f3.resultTypes.toList).any (Tryz.prog.wideKeysFrom ·))) = true := by kernel_rfl
end Go.Proofs.YtniifikiohcloaaGreatDoor
namespace Go.Proofs.YtniifikiohcloaaGreatDoor
open Go
set_option maxRecDepth 100000
theorem jg18 : (Rows.inferClassesSpec.vars.all (Tryz.prog.varReadable ·)) = true := by kernel_rfl
end Go.Proofs.YtniifikiohcloaaGreatDoor
namespace Go.Proofs.YtniifikiohcloaaGreatDoor
open Go
set_option maxRecDepth 100000
theorem jg19 : (Tryz.f3.resultTypes.all (fun t => Tryz.prog.readableRec t && decide (t < Tryz.prog.types.size))) = true := by kernel_rfl
end Go.Proofs.YtniifikiohcloaaGreatDoor
namespace Go.Proofs.YtniifikiohcloaaGreatDoor
open Go
set_option maxRecDepth 100000
theorem jg20 : ((Rows.inferClassesRow.ifacesOut == Tryz.f3.resultTypes.toList.any (Tryz.prog.ifacesRec ·))) = true := by kernel_rfl
end Go.Proofs.YtniifikiohcloaaGreatDoor
namespace Go.Proofs.YtniifikiohcloaaGreatDoor
open Go
set_option maxRecDepth 100000
theorem jg21 : ((Rows.inferClassesRow.loopsOut == Tryz.f3.resultTypes.toList.any (Tryz.prog.loopsFrom ·))) = true := by kernel_rfl
end Go.Proofs.YtniifikiohcloaaGreatDoor
namespace Go.Proofs.YtniifikiohcloaaGreatDoor
open Go
set_option maxRecDepth 100000
theorem jg22 : ((Rows.inferClassesRow.plainKeys == Tryz.prog.plainKeys)) = true := by kernel_rfl
end Go.Proofs.YtniifikiohcloaaGreatDoor
namespace Go.Proofs.YtniifikiohcloaaGreatDoor
open Go
set_option maxRecDepth 100000
theorem jg23 : (Rows.inferClassesRow.shortTexts.isNone) = true := by kernel_rfl
end Go.Proofs.YtniifikiohcloaaGreatDoor
namespace Go.Proofs.YtniifikiohcloaaGreatDoor
open Go
set_option maxRecDepth 100000
theorem jg26 : ((Rows.inferClassesRow.lifted == Tryz.prog.liftsFinal)) = true := by kernel_rfl
end Go.Proofs.YtniifikiohcloaaGreatDoor
namespace Go.Proofs.YtniifikiohcloaaGreatDoor
open Go
set_option maxRecDepth 100000
theorem jg27 : ((Tryz.prog.make == some Rows.inferClassesRow.make)) = true := by kernel_rfl
end Go.Proofs.YtniifikiohcloaaGreatDoor
namespace Go.Proofs.YtniifikiohcloaaGreatDoor
open Go
set_option maxRecDepth 100000
theorem jg28 : ((Rows.inferClassesRow.kinds == (if Rows.inferClassesRow.domain.isEmpty then [] else Tryz.f3.params.toList.map fun t => match Tryz.prog.underlying t with | some (.int k) => some k | _ => none))) = true := by kernel_rfl
end Go.Proofs.YtniifikiohcloaaGreatDoor
namespace Go.Proofs.YtniifikiohcloaaGreatDoor
open Go
set_option maxRecDepth 100000
theorem jg29 : ((Rows.inferClassesRow.pinned == Rows.inferClassesRow.pinnedBy)) = true := by kernel_rfl
end Go.Proofs.YtniifikiohcloaaGreatDoor
namespace Go.Proofs.YtniifikiohcloaaGreatDoor
open Go
set_option maxRecDepth 100000
theorem jg30 : ((Rows.inferClassesRow.veiled == (Tryz.f3.params.toList ++ Rows.inferClassesSpec.plain.varTypes Tryz.prog ++ Tryz.f3.resultTypes.toList).any (Tryz.prog.veiledRec ·))) = true := by kernel_rfl
end Go.Proofs.YtniifikiohcloaaGreatDoor
namespace Go.Proofs.YtniifikiohcloaaGreatDoor
open Go
set_option maxRecDepth 100000
theorem jg31 : (Rows.inferClassesRow.veiledFits Tryz.prog Tryz.f3.params.toList (Tryz.f3.params.toList ++ Rows.inferClassesSpec.plain.varTypes Tryz.prog ++ Tryz.f3.resultTypes.toList)) = true := by kernel_rfl
end Go.Proofs.YtniifikiohcloaaGreatDoor
