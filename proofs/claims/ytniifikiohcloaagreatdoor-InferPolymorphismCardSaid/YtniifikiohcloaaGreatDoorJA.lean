/- Closed facts of the row. -/
import Derived.Test.YtniifikiohcloaaGreatDoorRows
import Derived.JoinedOf
import Derived.KernelRfl
set_option linter.all false
namespace Go.Proofs.YtniifikiohcloaaGreatDoor
open Go
set_option maxRecDepth 100000
theorem jf00 : (Rows.inferPolymorphismRow.wf (OpenSpec.ofChange Rows.inferPolymorphismSpec)) = true := by kernel_rfl
end Go.Proofs.YtniifikiohcloaaGreatDoor
namespace Go.Proofs.YtniifikiohcloaaGreatDoor
open Go
set_option maxRecDepth 100000
theorem jf03 : (Tryz.f4.params.all (Tryz.prog.readableRec ·)) = true := by kernel_rfl
end Go.Proofs.YtniifikiohcloaaGreatDoor
namespace Go.Proofs.YtniifikiohcloaaGreatDoor
open Go
set_option maxRecDepth 100000
theorem jf04 : (namedTie Tryz.prog Rows.inferPolymorphismRow.named Rows.inferPolymorphismSpec.vars) = true := by kernel_rfl
end Go.Proofs.YtniifikiohcloaaGreatDoor
namespace Go.Proofs.YtniifikiohcloaaGreatDoor
open Go
set_option maxRecDepth 100000
theorem jf05 : ((Rows.inferPolymorphismRow.stops == [])) = true := by kernel_rfl
end Go.Proofs.YtniifikiohcloaaGreatDoor
namespace Go.Proofs.YtniifikiohcloaaGreatDoor
open Go
set_option maxRecDepth 100000
theorem jf06 : ((Tryz.prog.stops == [])) = true := by kernel_rfl
end Go.Proofs.YtniifikiohcloaaGreatDoor
namespace Go.Proofs.YtniifikiohcloaaGreatDoor
open Go
set_option maxRecDepth 100000
theorem jf07 : ((Rows.inferPolymorphismRow.knobs == [])) = true := by kernel_rfl
end Go.Proofs.YtniifikiohcloaaGreatDoor
namespace Go.Proofs.YtniifikiohcloaaGreatDoor
open Go
set_option maxRecDepth 100000
theorem jf08 : ((Tryz.prog.stopKnobs == [])) = true := by kernel_rfl
end Go.Proofs.YtniifikiohcloaaGreatDoor
namespace Go.Proofs.YtniifikiohcloaaGreatDoor
open Go
set_option maxRecDepth 100000
theorem jf13 : ((Rows.inferPolymorphismRow.maps == (Tryz.f4.params.toList ++ Rows.inferPolymorphismSpec.plain.varTypes Tryz.prog).any (Tryz.prog.mapsRec ·))) = true := by kernel_rfl
end Go.Proofs.YtniifikiohcloaaGreatDoor
namespace Go.Proofs.YtniifikiohcloaaGreatDoor
open Go
set_option maxRecDepth 100000
theorem jf14 : ((Rows.inferPolymorphismRow.ifaces == (Tryz.f4.params.toList ++ Rows.inferPolymorphismSpec.plain.varTypes Tryz.prog).any (Tryz.prog.ifacesRec ·))) = true := by kernel_rfl
end Go.Proofs.YtniifikiohcloaaGreatDoor
namespace Go.Proofs.YtniifikiohcloaaGreatDoor
open Go
set_option maxRecDepth 100000
theorem jf15 : ((Rows.inferPolymorphismRow.mapsOut == Tryz.prog.mapsAmong Tryz.f4.resultTypes.toList)) = true := by kernel_rfl
end Go.Proofs.YtniifikiohcloaaGreatDoor
namespace Go.Proofs.YtniifikiohcloaaGreatDoor
open Go
set_option maxRecDepth 100000
theorem jf16 : ((Rows.inferPolymorphismRow.loops == (Tryz.f4.params.toList ++ Rows.inferPolymorphismSpec.plain.varTypes Tryz.prog).any (Tryz.prog.loopsFrom ·))) = true := by kernel_rfl
end Go.Proofs.YtniifikiohcloaaGreatDoor
namespace Go.Proofs.YtniifikiohcloaaGreatDoor
open Go
set_option maxRecDepth 100000
theorem jf17 : ((Rows.inferPolymorphismRow.wideKeys == (Tryz.f4.params.toList ++ Rows.inferPolymorphismSpec.plain.varTypes Tryz.prog ++ Tryz.f4.resultTypes.toList).any (Tryz.prog.wideKeysFrom ·))) = true := by kernel_rfl
end Go.Proofs.YtniifikiohcloaaGreatDoor
namespace Go.Proofs.YtniifikiohcloaaGreatDoor
open Go
set_option maxRecDepth 100000
theorem jf18 : (Rows.inferPolymorphismSpec.vars.all (Tryz.prog.varReadable ·)) = true := by kernel_rfl
end Go.Proofs.YtniifikiohcloaaGreatDoor
namespace Go.Proofs.YtniifikiohcloaaGreatDoor
open Go
set_option maxRecDepth 100000
theorem jf19 : (Tryz.f4.resultTypes.all (fun t => Tryz.prog.readableRec t && decide (t < Tryz.prog.types.size))) = true := by kernel_rfl
end Go.Proofs.YtniifikiohcloaaGreatDoor
namespace Go.Proofs.YtniifikiohcloaaGreatDoor
open Go
set_option maxRecDepth 100000
theorem jf20 : ((Rows.inferPolymorphismRow.ifacesOut == Tryz.f4.resultTypes.toList.any (Tryz.prog.ifacesRec ·))) = true := by kernel_rfl
end Go.Proofs.YtniifikiohcloaaGreatDoor
namespace Go.Proofs.YtniifikiohcloaaGreatDoor
open Go
set_option maxRecDepth 100000
theorem jf21 : ((Rows.inferPolymorphismRow.loopsOut == Tryz.f4.resultTypes.toList.any (Tryz.prog.loopsFrom ·))) = true := by kernel_rfl
end Go.Proofs.YtniifikiohcloaaGreatDoor
namespace Go.Proofs.YtniifikiohcloaaGreatDoor
open Go
set_option maxRecDepth 100000
theorem jf22 : ((Rows.inferPolymorphismRow.plainKeys == Tryz.prog.plainKeys)) = true := by kernel_rfl
end Go.Proofs.YtniifikiohcloaaGreatDoor
namespace Go.Proofs.YtniifikiohcloaaGreatDoor
open Go
set_option maxRecDepth 100000
theorem jf23 : (Rows.inferPolymorphismRow.shortTexts.isNone) = true := by kernel_rfl
end Go.Proofs.YtniifikiohcloaaGreatDoor
namespace Go.Proofs.YtniifikiohcloaaGreatDoor
open Go
set_option maxRecDepth 100000
theorem jf26 : ((Rows.inferPolymorphismRow.lifted == Tryz.prog.liftsFinal)) = true := by kernel_rfl
end Go.Proofs.YtniifikiohcloaaGreatDoor
namespace Go.Proofs.YtniifikiohcloaaGreatDoor
open Go
set_option maxRecDepth 100000
theorem jf27 : ((Tryz.prog.make == some Rows.inferPolymorphismRow.make)) = true := by kernel_rfl
end Go.Proofs.YtniifikiohcloaaGreatDoor
namespace Go.Proofs.YtniifikiohcloaaGreatDoor
open Go
set_option maxRecDepth 100000
theorem jf28 : ((Rows.inferPolymorphismRow.kinds == (if Rows.inferPolymorphismRow.domain.isEmpty then [] else Tryz.f4.params.toList.map fun t => match Tryz.prog.underlying t with | some (.int k) => some k | _ => none))) = true := by kernel_rfl
end Go.Proofs.YtniifikiohcloaaGreatDoor
namespace Go.Proofs.YtniifikiohcloaaGreatDoor
open Go
set_option maxRecDepth 100000
theorem jf29 : ((Rows.inferPolymorphismRow.pinned == Rows.inferPolymorphismRow.pinnedBy)) = true := by kernel_rfl
end Go.Proofs.YtniifikiohcloaaGreatDoor
namespace Go.Proofs.YtniifikiohcloaaGreatDoor
open Go
set_option maxRecDepth 100000
theorem jf30 : ((Rows.inferPolymorphismRow.veiled == (Tryz.f4.params.toList ++ Rows.inferPolymorphismSpec.plain.varTypes Tryz.prog ++ Tryz.f4.resultTypes.toList).any (Tryz.prog.veiledRec ·))) = true := by kernel_rfl
end Go.Proofs.YtniifikiohcloaaGreatDoor
namespace Go.Proofs.YtniifikiohcloaaGreatDoor
open Go
set_option maxRecDepth 100000
theorem jf31 : (Rows.inferPolymorphismRow.veiledFits Tryz.prog Tryz.f4.params.toList (Tryz.f4.params.toList ++ Rows.inferPolymorphismSpec.plain.varTypes Tryz.prog ++ Tryz.f4.resultTypes.toList)) = true := by kernel_rfl
end Go.Proofs.YtniifikiohcloaaGreatDoor
