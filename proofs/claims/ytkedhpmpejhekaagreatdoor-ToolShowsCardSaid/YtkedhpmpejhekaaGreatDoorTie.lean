/-
  DERIVED. GIVEN WITH THE SEED: THE PROGRAM's TIES (one call each: nine closed facts by the kernel) AND EACH ROW's TIE, after the 31st guide's Derived/Test/Toyas{Tie, Card}.lean. No idea stands in it: it is a product of the set-up. Laid BY PROGRAM, IN A SANDBOX (cutbox-door.mjs). By AI agents, Wed Nov 11 2026. No macro, syntax, notation, axiom, sorry.
-/
import Derived.Test.YtkedhpmpejhekaaGreatDoorRows
import Derived.LaidByTextLater
import Derived.SevenTiedAt
import Derived.LaidSub
import Derived.LaidOnce
namespace Go.Proofs.YtkedhpmpejhekaaGreatDoor
open Go
set_option maxRecDepth 100000
theorem seatTie1 : Tryz.prog.laidByTextLater [("math/bits.deBruijn32tab", Rows.laid_math_bits_deBruijn32tab), ("math/bits.deBruijn64tab", Rows.laid_math_bits_deBruijn64tab), ("internal/strconv.uint64pow10", Rows.laid_internal_strconv_uint64pow10), ("scrutiny/expr.keys", Rows.laid_scrutiny_expr_keys), ("scrutiny/expr.texts", Rows.laid_scrutiny_expr_texts), ("scrutiny/tool.kinds", Rows.laid_scrutiny_tool_kinds), ("scrutiny/tool.verdicts", Rows.laid_scrutiny_tool_verdicts)] [.data, .data, .data, .widerDeep, .data, .widerDeep, .data] true :=
  Program.laidByTextLater_by_one 44 8 65 (by kernel_rfl) (by kernel_rfl) (by kernel_rfl) (by kernel_rfl) (by kernel_rfl) (by kernel_rfl) (fun _ _ => by kernel_rfl)
theorem noOwnUnsafe : Tryz.pinned.checked.prog.headLifts.contains "ownunsafe" = false := by kernel_rfl
theorem tie : Tryz.prog.laidByTextLater [("math/bits.deBruijn32tab", Rows.laid_math_bits_deBruijn32tab), ("math/bits.deBruijn64tab", Rows.laid_math_bits_deBruijn64tab), ("internal/strconv.uint64pow10", Rows.laid_internal_strconv_uint64pow10), ("scrutiny/expr.keys", Rows.laid_scrutiny_expr_keys), ("scrutiny/expr.texts", Rows.laid_scrutiny_expr_texts), ("scrutiny/tool.kinds", Rows.laid_scrutiny_tool_kinds), ("scrutiny/tool.verdicts", Rows.laid_scrutiny_tool_verdicts)] [.data, .data, .data, .widerDeep, .data, .widerDeep, .data] true :=
  Program.laidByTextLater.sub seatTie1 ["math/bits.deBruijn32tab", "math/bits.deBruijn64tab", "internal/strconv.uint64pow10", "scrutiny/expr.keys", "scrutiny/expr.texts", "scrutiny/tool.kinds", "scrutiny/tool.verdicts"] (by kernel_rfl) (by kernel_rfl)
theorem toolTells_row_tie : Rows.toolTellsRow.laidByTextAt .later Tryz.pinned [.data, .data, .data, .widerDeep, .data, .widerDeep, .data] true :=
  OpenClaim.laidByTextAt_later rfl rfl tie noOwnUnsafe
theorem toolNumbers_row_tie : Rows.toolNumbersRow.laidByTextAt .later Tryz.pinned [.data, .data, .data, .widerDeep, .data, .widerDeep, .data] true :=
  OpenClaim.laidByTextAt_later rfl rfl tie noOwnUnsafe
theorem toolShows_row_tie : Rows.toolShowsRow.laidByTextAt .later Tryz.pinned [.data, .data, .data, .widerDeep, .data, .widerDeep, .data] true :=
  OpenClaim.laidByTextAt_later rfl rfl tie noOwnUnsafe
theorem toolWhat_row_tie : Rows.toolWhatRow.laidByTextAt .later Tryz.pinned [.data, .data, .data, .widerDeep, .data, .widerDeep, .data] true :=
  OpenClaim.laidByTextAt_later rfl rfl tie noOwnUnsafe
theorem toolTellsUpto_row_tie : Rows.toolTellsUptoRow.laidByTextAt .later Tryz.pinned [.data, .data, .data, .widerDeep, .data, .widerDeep, .data] true :=
  OpenClaim.laidByTextAt_later rfl rfl tie noOwnUnsafe
theorem toolNumbersUpto_row_tie : Rows.toolNumbersUptoRow.laidByTextAt .later Tryz.pinned [.data, .data, .data, .widerDeep, .data, .widerDeep, .data] true :=
  OpenClaim.laidByTextAt_later rfl rfl tie noOwnUnsafe
theorem toolShowsUpto_row_tie : Rows.toolShowsUptoRow.laidByTextAt .later Tryz.pinned [.data, .data, .data, .widerDeep, .data, .widerDeep, .data] true :=
  OpenClaim.laidByTextAt_later rfl rfl tie noOwnUnsafe
theorem toolWhatUpto_row_tie : Rows.toolWhatUptoRow.laidByTextAt .later Tryz.pinned [.data, .data, .data, .widerDeep, .data, .widerDeep, .data] true :=
  OpenClaim.laidByTextAt_later rfl rfl tie noOwnUnsafe
end Go.Proofs.YtkedhpmpejhekaaGreatDoor
