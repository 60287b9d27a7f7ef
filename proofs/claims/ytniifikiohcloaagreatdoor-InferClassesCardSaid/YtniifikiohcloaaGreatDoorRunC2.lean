/- Runs of inferred on sources of InferClasses. -/
import Derived.Test.YtniifikiohcloaaGreatDoorTop
set_option linter.all false
namespace Go.Proofs.YtniifikiohcloaaGreatDoor
open Go Go.Ev
set_option maxRecDepth 1000000
theorem run_e_10 : infRun 35 79387084080189458665074839770914626724421203063688334721474674831771811940461207908 0 0 0 = Sp.R.good := by kernel_rfl
theorem run_f_10 : infRun 32 4744802094467462686741675429787453203233318539365309817266645185666902942052 0 0 0 = Sp.R.good := by kernel_rfl
theorem run_e_11 : infRun 39 340964929849215966450440254192352575494263227093940886334585653608959154172549952229705277796 0 0 0 = Sp.R.good := by kernel_rfl
theorem run_f_11 : infRun 36 20378769821730054775639622892888682294423969067693644918382242104228802850827711832420 0 0 0 = Sp.R.good := by kernel_rfl
end Go.Proofs.YtniifikiohcloaaGreatDoor
