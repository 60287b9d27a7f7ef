/- Runs of inferred on sources of InferPolymorphism. -/
import Derived.Test.YtniifikiohcloaaGreatDoorTop
set_option linter.all false
namespace Go.Proofs.YtniifikiohcloaaGreatDoor
open Go Go.Ev
set_option maxRecDepth 1000000
theorem run_f00 : infRun 34 301229558629782624446683459274394871170155012039771935921208211102158580103323762 0 0 0 = Sp.R.good := by kernel_rfl
theorem run_f01 : infRun 37 5053793370716527123388888879875008437828698726845312178164320935304807196009719092027506 1 20 6 = Sp.R.good := by kernel_rfl
theorem run_f02 : infRun 36 19741380354361434075737847187007990731213462620158356300522419743206342395496010424434 1 20 6 = Sp.R.good := by kernel_rfl
theorem run_f03 : infRun 39 331205402343278321558414221631391714115542682237645471960369437859814733004108220589131243634 1 20 6 = Sp.R.good := by kernel_rfl
end Go.Proofs.YtniifikiohcloaaGreatDoor
