/- Closed facts of the row. -/
import Derived.Test.YtgljaemmheolfaaGreatDoorProg
import Derived.JoinedOf
import Derived.KernelRfl
import Derived.Test.YtgljaemmheolfaaGreatDoorCloD
set_option linter.all false
namespace Go.Proofs.YtgljaemmheolfaaGreatDoor
open Go
set_option maxRecDepth 100000
theorem inPlace3 : Tryz.prog.inPlace 3 = ["internal/bytealg.IndexByteString", "internal/bytealg.IndexString", "internal/bytealg.CountString"] := by
 unfold Program.inPlace
 rw [closure3]
 kernel_rfl
theorem unfollowed3 : Tryz.prog.unfollowed 3 = true := by
 unfold Program.unfollowed
 rw [closure3]
 kernel_rfl
theorem recurses3 : Tryz.prog.recurses 3 = true := by
 unfold Program.recurses
 rw [unfollowed3]
 rfl
theorem varsNamed3 : Tryz.prog.varsNamed 3 = ["cspcheck/lexer.keywords", "strconv.ErrSyntax", "strconv.ErrRange", "internal/strconv.uint64pow10", "math/bits.deBruijn32tab", "math/bits.deBruijn64tab", "cspcheck/lexer.symbols", "cspcheck/layout.closers", "internal/bytealg.MaxLen", "unicode/utf8.first", "unicode/utf8.acceptRanges", "cspcheck/scope.builtins"] := by
 unfold Program.varsNamed
 rw [closure3]
 kernel_rfl
end Go.Proofs.YtgljaemmheolfaaGreatDoor
