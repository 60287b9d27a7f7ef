/- Runs of inferred on sources of InferClasses. -/
import Derived.Test.YtniifikiohcloaaGreatDoorTop
set_option linter.all false
namespace Go.Proofs.YtniifikiohcloaaGreatDoor
open Go Go.Ev
set_option maxRecDepth 1000000
theorem run_e_40 : infRun 32 4731838946353760878150155530476119593242242682747956912344980752146973876580 0 0 0 = Sp.R.good := by kernel_rfl
theorem run_f_40 : infRun 29 282812243370262544556805684824030950426013001878317591609328127992164 0 0 0 = Sp.R.good := by kernel_rfl
theorem run_e_41 : infRun 36 20323093524528501418259158980390573167585136332835584444865085958934984655059148890468 0 0 0 = Sp.R.good := by kernel_rfl
theorem run_f_41 : infRun 33 1214669336183670447804905338751721328376260916833686882422262568329028232831332 0 0 0 = Sp.R.good := by kernel_rfl
end Go.Proofs.YtniifikiohcloaaGreatDoor
