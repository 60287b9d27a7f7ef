/- Runs of inferred on sources of InferClasses. -/
import Derived.Test.YtniifikiohcloaaGreatDoorTop
set_option linter.all false
namespace Go.Proofs.YtniifikiohcloaaGreatDoor
open Go Go.Ev
set_option maxRecDepth 1000000
theorem run_e_20 : infRun 35 79387084080189458665074839768888964805660953549230468392048500571233056250318315876 3 7 7 = Sp.R.good := by kernel_rfl
theorem run_f_20 : infRun 32 4744802094467462686739649767868692953718860673035883643006106429976760050020 3 5 7 = Sp.R.good := by kernel_rfl
theorem run_e_21 : infRun 39 340964929849215966450440254192352442740483719222228706823857888335202815504657043025133068644 3 7 7 = Sp.R.good := by kernel_rfl
theorem run_f_21 : infRun 36 20378769821730054775639622760134902786552256888182917153108485765560909941623139623268 3 5 7 = Sp.R.good := by kernel_rfl
end Go.Proofs.YtniifikiohcloaaGreatDoor
