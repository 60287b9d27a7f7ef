/- Runs of inferred on sources of InferClasses. -/
import Derived.Test.YtniifikiohcloaaGreatDoorTop
set_option linter.all false
namespace Go.Proofs.YtniifikiohcloaaGreatDoor
open Go Go.Ev
set_option maxRecDepth 1000000
theorem run_e_00 : infRun 32 4731838946353760878150155530327685833200822855117895171522233257963168227684 0 0 0 = Sp.R.good := by kernel_rfl
theorem run_f_00 : infRun 29 282812243370262544556657251063989530598382940137494844115144322343268 0 0 0 = Sp.R.good := by kernel_rfl
theorem run_e_01 : infRun 36 20323093524528501418259158980390563439830238258345760881138839399355205825172142842212 0 0 0 = Sp.R.good := by kernel_rfl
theorem run_f_01 : infRun 33 1214669336183670447804905329023966430301771093269960635862682789499141226783076 0 0 0 = Sp.R.good := by kernel_rfl
end Go.Proofs.YtniifikiohcloaaGreatDoor
