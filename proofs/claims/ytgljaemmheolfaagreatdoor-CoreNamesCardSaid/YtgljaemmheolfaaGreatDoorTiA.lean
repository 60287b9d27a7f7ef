/- The listed variables and their kinds, as the given tie has them. -/
import Derived.LaidOnce
import Derived.LaidByTextLater
import Derived.KernelRfl
import Derived.Test.YtgljaemmheolfaaGreatDoorRows
set_option linter.all false
namespace Go.Proofs.YtgljaemmheolfaaGreatDoor
open Go
set_option maxRecDepth 100000
def tieList : List (String × DataW Unit) := [("math/bits.deBruijn32tab", Rows.laid_math_bits_deBruijn32tab), ("math/bits.deBruijn64tab", Rows.laid_math_bits_deBruijn64tab), ("internal/strconv.uint64pow10", Rows.laid_internal_strconv_uint64pow10), ("unicode/utf8.acceptRanges", Rows.laid_unicode_utf8_acceptRanges), ("strconv.ErrRange", Rows.laid_strconv_ErrRange), ("strconv.ErrSyntax", Rows.laid_strconv_ErrSyntax), ("cspcheck/lexer.keywords", Rows.laid_cspcheck_lexer_keywords), ("cspcheck/lexer.symbols", Rows.laid_cspcheck_lexer_symbols), ("cspcheck/layout.closers", Rows.laid_cspcheck_layout_closers), ("cspcheck/scope.builtins", Rows.laid_cspcheck_scope_builtins)]
def tieKinds : List LaidKind := [.data, .data, .data, .data, .sentinel, .sentinel, .widerDeep, .widerDeep, .widerDeep, .widerDeep]
end Go.Proofs.YtgljaemmheolfaaGreatDoor
