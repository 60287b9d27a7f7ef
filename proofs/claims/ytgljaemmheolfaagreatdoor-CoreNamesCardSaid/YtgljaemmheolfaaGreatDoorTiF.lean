/- The tie: the pinned table. -/
import Derived.LaidOnce
import Derived.LaidByTextLater
import Derived.KernelRfl
import Derived.Test.YtgljaemmheolfaaGreatDoorRows
import Derived.Test.YtgljaemmheolfaaGreatDoorTiA
set_option linter.all false
namespace Go.Proofs.YtgljaemmheolfaaGreatDoor
open Go
set_option maxRecDepth 100000
theorem pin_laid_unicode_utf8_first : Tryz.pinned.checked.prog.pinnedFits "unicode/utf8.first" = true := by kernel_rfl
theorem noOwnUnsafe : Tryz.pinned.checked.prog.headLifts.contains "ownunsafe" = false := by kernel_rfl
end Go.Proofs.YtgljaemmheolfaaGreatDoor
namespace Go.Proofs.YtgljaemmheolfaaGreatDoor
open Go
set_option maxRecDepth 100000
theorem fits1 : Tryz.pinned.checked.prog.listedFits [("math/bits.deBruijn32tab", Rows.laid_math_bits_deBruijn32tab), ("math/bits.deBruijn64tab", Rows.laid_math_bits_deBruijn64tab), ("internal/strconv.uint64pow10", Rows.laid_internal_strconv_uint64pow10), ("unicode/utf8.acceptRanges", Rows.laid_unicode_utf8_acceptRanges), ("strconv.ErrRange", Rows.laid_strconv_ErrRange), ("strconv.ErrSyntax", Rows.laid_strconv_ErrSyntax), ("cspcheck/lexer.keywords", Rows.laid_cspcheck_lexer_keywords), ("cspcheck/lexer.symbols", Rows.laid_cspcheck_lexer_symbols), ("cspcheck/layout.closers", Rows.laid_cspcheck_layout_closers), ("cspcheck/scope.builtins", Rows.laid_cspcheck_scope_builtins), ("unicode/utf8.first", Rows.laid_unicode_utf8_first)] = true := by
 unfold Program.listedFits
 rw [noOwnUnsafe]
 kernel_rfl
end Go.Proofs.YtgljaemmheolfaaGreatDoor
