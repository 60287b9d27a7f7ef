/- The tie of the row, put together of parts that each fit into the memory limit. -/
import Derived.SevenTiedAt
import Derived.LaidSub
import Derived.LaidOnce
import Derived.LaidByTextLater
import Derived.KernelRfl
import Derived.Test.YtgljaemmheolfaaGreatDoorRows
import Derived.Test.YtgljaemmheolfaaGreatDoorTiB
import Derived.Test.YtgljaemmheolfaaGreatDoorTiC
import Derived.Test.YtgljaemmheolfaaGreatDoorTiD
import Derived.Test.YtgljaemmheolfaaGreatDoorTiE
import Derived.Test.YtgljaemmheolfaaGreatDoorTiF
set_option linter.all false
namespace Go.Proofs.YtgljaemmheolfaaGreatDoor
open Go
set_option maxRecDepth 100000
theorem tie : Tryz.prog.laidByTextLater [("math/bits.deBruijn32tab", Rows.laid_math_bits_deBruijn32tab), ("math/bits.deBruijn64tab", Rows.laid_math_bits_deBruijn64tab), ("internal/strconv.uint64pow10", Rows.laid_internal_strconv_uint64pow10), ("unicode/utf8.acceptRanges", Rows.laid_unicode_utf8_acceptRanges), ("strconv.ErrRange", Rows.laid_strconv_ErrRange), ("strconv.ErrSyntax", Rows.laid_strconv_ErrSyntax), ("cspcheck/lexer.keywords", Rows.laid_cspcheck_lexer_keywords), ("cspcheck/lexer.symbols", Rows.laid_cspcheck_lexer_symbols), ("cspcheck/layout.closers", Rows.laid_cspcheck_layout_closers), ("cspcheck/scope.builtins", Rows.laid_cspcheck_scope_builtins)] [.data, .data, .data, .data, .sentinel, .sentinel, .widerDeep, .widerDeep, .widerDeep, .widerDeep] true :=
 Program.laidByTextLater_by_one 117 8 101 ti1 ti2 ti3 ti4 ti5 ti6 ti7
theorem coreNames_row_tie : Rows.coreNamesRow.laidByTextAt .later Tryz.pinned [.data, .data, .data, .data, .sentinel, .sentinel, .widerDeep, .widerDeep, .widerDeep, .widerDeep, .pinned] true :=
 OpenClaim.laidByTextAt_pinned rfl rfl tie rfl rfl rfl rfl (fun y hy _e => by
  simp only [Rows.coreNamesRow, List.zip_cons_cons, List.zip_nil_right, List.mem_cons, List.mem_nil_iff, or_false] at hy
  rcases hy with rfl | rfl | rfl | rfl | rfl | rfl | rfl | rfl | rfl | rfl | rfl
  ·cases _e
  ·cases _e
  ·cases _e
  ·cases _e
  ·cases _e
  ·cases _e
  ·cases _e
  ·cases _e
  ·cases _e
  ·cases _e
  ·exact ⟨pin_laid_unicode_utf8_first, by kernel_rfl⟩) fits1
end Go.Proofs.YtgljaemmheolfaaGreatDoor
