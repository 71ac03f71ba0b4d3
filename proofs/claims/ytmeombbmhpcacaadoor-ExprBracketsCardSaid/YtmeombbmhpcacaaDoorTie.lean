/-
  DERIVED. GIVEN WITH THE SEED: THE PROGRAM's TIES (one call each: nine closed facts by the kernel) AND EACH ROW's TIE, after the 31st guide's Derived/Test/Toyas{Tie, Card}.lean. No idea stands in it: it is a product of the set-up. Laid BY PROGRAM, IN A SANDBOX (cutbox-door.mjs). By AI agents, Wed Nov 11 2026. No macro, syntax, notation, axiom, sorry.
-/
import Derived.Test.YtmeombbmhpcacaaDoorRows
import Derived.LaidByTextLater
import Derived.SevenTiedAt
import Derived.LaidSub
import Derived.LaidOnce
namespace Go.Proofs.YtmeombbmhpcacaaDoor
open Go
set_option maxRecDepth 100000
theorem seatTie1 : Tryd.prog.laidByTextLater [("math/bits.deBruijn32tab", Rows.laid_math_bits_deBruijn32tab), ("math/bits.deBruijn64tab", Rows.laid_math_bits_deBruijn64tab), ("internal/strconv.uint64pow10", Rows.laid_internal_strconv_uint64pow10), ("scrutiny/expr.keys", Rows.laid_scrutiny_expr_keys), ("scrutiny/expr.texts", Rows.laid_scrutiny_expr_texts)] [.data, .data, .data, .widerDeep, .data] true :=
  Program.laidByTextLater_by_one 34 8 65 (by kernel_rfl) (by kernel_rfl) (by kernel_rfl) (by kernel_rfl) (by kernel_rfl) (by kernel_rfl) (fun _ _ => by kernel_rfl)
theorem noOwnUnsafe : Tryd.pinned.checked.prog.headLifts.contains "ownunsafe" = false := by kernel_rfl
theorem tie : Tryd.prog.laidByTextLater [("math/bits.deBruijn32tab", Rows.laid_math_bits_deBruijn32tab), ("math/bits.deBruijn64tab", Rows.laid_math_bits_deBruijn64tab), ("internal/strconv.uint64pow10", Rows.laid_internal_strconv_uint64pow10), ("scrutiny/expr.keys", Rows.laid_scrutiny_expr_keys), ("scrutiny/expr.texts", Rows.laid_scrutiny_expr_texts)] [.data, .data, .data, .widerDeep, .data] true :=
  Program.laidByTextLater.sub seatTie1 ["math/bits.deBruijn32tab", "math/bits.deBruijn64tab", "internal/strconv.uint64pow10", "scrutiny/expr.keys", "scrutiny/expr.texts"] (by kernel_rfl) (by kernel_rfl)
theorem exprTells_row_tie : Rows.exprTellsRow.laidByTextAt .later Tryd.pinned [.data, .data, .data, .widerDeep, .data] true :=
  OpenClaim.laidByTextAt_later rfl rfl tie noOwnUnsafe
theorem exprBack_row_tie : Rows.exprBackRow.laidByTextAt .later Tryd.pinned [.data, .data, .data, .widerDeep, .data] true :=
  OpenClaim.laidByTextAt_later rfl rfl tie noOwnUnsafe
theorem exprLaws_row_tie : Rows.exprLawsRow.laidByTextAt .later Tryd.pinned [.data, .data, .data, .widerDeep, .data] true :=
  OpenClaim.laidByTextAt_later rfl rfl tie noOwnUnsafe
theorem exprBinds_row_tie : Rows.exprBindsRow.laidByTextAt .later Tryd.pinned [.data, .data, .data, .widerDeep, .data] true :=
  OpenClaim.laidByTextAt_later rfl rfl tie noOwnUnsafe
theorem exprBrackets_row_tie : Rows.exprBracketsRow.laidByTextAt .later Tryd.pinned [.data, .data, .data, .widerDeep, .data] true :=
  OpenClaim.laidByTextAt_later rfl rfl tie noOwnUnsafe
theorem exprTypes_row_tie : Rows.exprTypesRow.laidByTextAt .later Tryd.pinned [.data, .data, .data, .widerDeep, .data] true :=
  OpenClaim.laidByTextAt_later rfl rfl tie noOwnUnsafe
theorem exprNames_row_tie : Rows.exprNamesRow.laidByTextAt .later Tryd.pinned [.data, .data, .data, .widerDeep, .data] true :=
  OpenClaim.laidByTextAt_later rfl rfl tie noOwnUnsafe
theorem exprTellsUpto_row_tie : Rows.exprTellsUptoRow.laidByTextAt .later Tryd.pinned [.data, .data, .data, .widerDeep, .data] true :=
  OpenClaim.laidByTextAt_later rfl rfl tie noOwnUnsafe
theorem exprBackUpto_row_tie : Rows.exprBackUptoRow.laidByTextAt .later Tryd.pinned [.data, .data, .data, .widerDeep, .data] true :=
  OpenClaim.laidByTextAt_later rfl rfl tie noOwnUnsafe
theorem exprLawsUpto_row_tie : Rows.exprLawsUptoRow.laidByTextAt .later Tryd.pinned [.data, .data, .data, .widerDeep, .data] true :=
  OpenClaim.laidByTextAt_later rfl rfl tie noOwnUnsafe
theorem exprBindsUpto_row_tie : Rows.exprBindsUptoRow.laidByTextAt .later Tryd.pinned [.data, .data, .data, .widerDeep, .data] true :=
  OpenClaim.laidByTextAt_later rfl rfl tie noOwnUnsafe
theorem exprBracketsUpto_row_tie : Rows.exprBracketsUptoRow.laidByTextAt .later Tryd.pinned [.data, .data, .data, .widerDeep, .data] true :=
  OpenClaim.laidByTextAt_later rfl rfl tie noOwnUnsafe
theorem exprTypesUpto_row_tie : Rows.exprTypesUptoRow.laidByTextAt .later Tryd.pinned [.data, .data, .data, .widerDeep, .data] true :=
  OpenClaim.laidByTextAt_later rfl rfl tie noOwnUnsafe
theorem exprNamesUpto_row_tie : Rows.exprNamesUptoRow.laidByTextAt .later Tryd.pinned [.data, .data, .data, .widerDeep, .data] true :=
  OpenClaim.laidByTextAt_later rfl rfl tie noOwnUnsafe
end Go.Proofs.YtmeombbmhpcacaaDoor
