/- Closed facts of the row. -/
import Derived.Test.YtgljaemmheolfaaGreatDoorRows
import Derived.JoinedOf
import Derived.KernelRfl
set_option linter.all false
namespace Go.Proofs.YtgljaemmheolfaaGreatDoor
open Go
set_option maxRecDepth 100000
theorem jg00 : (Rows.coreNamesRow.wf (OpenSpec.ofChange Rows.coreNamesSpec)) = true := by kernel_rfl
theorem jg03 : (Tryz.f3.params.all (Tryz.prog.readableRec ·)) = true := by kernel_rfl
theorem jg04 : (namedTie Tryz.prog Rows.coreNamesRow.named Rows.coreNamesSpec.vars) = true := by kernel_rfl
theorem jg05 : ((Rows.coreNamesRow.stops == [])) = true := by kernel_rfl
theorem jg06 : ((Tryz.prog.stops == [])) = true := by kernel_rfl
theorem jg07 : ((Rows.coreNamesRow.knobs == [])) = true := by kernel_rfl
theorem jg08 : ((Tryz.prog.stopKnobs == [])) = true := by kernel_rfl
theorem jg13 : ((Rows.coreNamesRow.maps == (Tryz.f3.params.toList ++ Rows.coreNamesSpec.plain.varTypes Tryz.prog).any (Tryz.prog.mapsRec ·))) = true := by kernel_rfl
theorem jg14 : ((Rows.coreNamesRow.ifaces == (Tryz.f3.params.toList ++ Rows.coreNamesSpec.plain.varTypes Tryz.prog).any (Tryz.prog.ifacesRec ·))) = true := by kernel_rfl
theorem jg15 : ((Rows.coreNamesRow.mapsOut == Tryz.prog.mapsAmong Tryz.f3.resultTypes.toList)) = true := by kernel_rfl
theorem jg16 : ((Rows.coreNamesRow.loops == (Tryz.f3.params.toList ++ Rows.coreNamesSpec.plain.varTypes Tryz.prog).any (Tryz.prog.loopsFrom ·))) = true := by kernel_rfl
theorem jg17 : ((Rows.coreNamesRow.wideKeys == (Tryz.f3.params.toList ++ Rows.coreNamesSpec.plain.varTypes Tryz.prog ++ Tryz.f3.resultTypes.toList).any (Tryz.prog.wideKeysFrom ·))) = true := by kernel_rfl
theorem jg18 : (Rows.coreNamesSpec.vars.all (Tryz.prog.varReadable ·)) = true := by kernel_rfl
theorem jg19 : (Tryz.f3.resultTypes.all (fun t => Tryz.prog.readableRec t && decide (t < Tryz.prog.types.size))) = true := by kernel_rfl
theorem jg20 : ((Rows.coreNamesRow.ifacesOut == Tryz.f3.resultTypes.toList.any (Tryz.prog.ifacesRec ·))) = true := by kernel_rfl
theorem jg21 : ((Rows.coreNamesRow.loopsOut == Tryz.f3.resultTypes.toList.any (Tryz.prog.loopsFrom ·))) = true := by kernel_rfl
theorem jg22 : ((Rows.coreNamesRow.plainKeys == Tryz.prog.plainKeys)) = true := by kernel_rfl
theorem jg23 : (Rows.coreNamesRow.shortTexts.isNone) = true := by kernel_rfl
theorem jg26 : ((Rows.coreNamesRow.lifted == Tryz.prog.liftsFinal)) = true := by kernel_rfl
theorem jg27 : ((Tryz.prog.make == some Rows.coreNamesRow.make)) = true := by kernel_rfl
theorem jg28 : ((Rows.coreNamesRow.kinds == (if Rows.coreNamesRow.domain.isEmpty then [] else Tryz.f3.params.toList.map fun t => match Tryz.prog.underlying t with | some (.int k) => some k | _ => none))) = true := by kernel_rfl
theorem jg29 : ((Rows.coreNamesRow.pinned == Rows.coreNamesRow.pinnedBy)) = true := by kernel_rfl
theorem jg30 : ((Rows.coreNamesRow.veiled == (Tryz.f3.params.toList ++ Rows.coreNamesSpec.plain.varTypes Tryz.prog ++ Tryz.f3.resultTypes.toList).any (Tryz.prog.veiledRec ·))) = true := by kernel_rfl
theorem jg31 : (Rows.coreNamesRow.veiledFits Tryz.prog Tryz.f3.params.toList (Tryz.f3.params.toList ++ Rows.coreNamesSpec.plain.varTypes Tryz.prog ++ Tryz.f3.resultTypes.toList)) = true := by kernel_rfl
end Go.Proofs.YtgljaemmheolfaaGreatDoor
