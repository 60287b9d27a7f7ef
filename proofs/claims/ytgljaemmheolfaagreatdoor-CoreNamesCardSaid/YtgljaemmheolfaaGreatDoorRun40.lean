/- Three of the 36 runs of the law. -/
import Derived.Test.YtgljaemmheolfaaGreatDoorTop
set_option linter.all false
namespace Go.Proofs.YtgljaemmheolfaaGreatDoor
open Go Go.Ev
set_option maxRecDepth 1000000
theorem run_40 (m : Nat) : runC m 3 (.cons (.cons (.int .u8 6) (.int .u8 4)) (.cons (.cons (.int .u8 6) (.int .u8 0)) .nil)) Sp.isTrueS = Sp.R.good := by kernel_rfl
theorem run_41 (m : Nat) : runC m 3 (.cons (.cons (.int .u8 6) (.int .u8 4)) (.cons (.cons (.int .u8 6) (.int .u8 1)) .nil)) Sp.isTrueS = Sp.R.good := by kernel_rfl
theorem run_42 (m : Nat) : runC m 3 (.cons (.cons (.int .u8 6) (.int .u8 4)) (.cons (.cons (.int .u8 6) (.int .u8 2)) .nil)) Sp.isTrueS = Sp.R.good := by kernel_rfl
end Go.Proofs.YtgljaemmheolfaaGreatDoor
