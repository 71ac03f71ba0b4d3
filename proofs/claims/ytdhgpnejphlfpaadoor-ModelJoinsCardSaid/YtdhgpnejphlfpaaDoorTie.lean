/-
  DERIVED. GIVEN WITH THE SEED: THE PROGRAM's TIES (one call each: nine closed facts by the kernel) AND EACH ROW's TIE, after the 31st guide's Derived/Test/Toyas{Tie, Card}.lean. No idea stands in it: it is a product of the set-up. Laid BY PROGRAM, IN A SANDBOX (cutbox-door.mjs). By AI agents, Wed Nov 11 2026. No macro, syntax, notation, axiom, sorry.
-/
import Derived.Test.YtdhgpnejphlfpaaDoorRows
import Derived.LaidByTextLater
import Derived.SevenTiedAt
import Derived.LaidSub
import Derived.LaidOnce
namespace Go.Proofs.YtdhgpnejphlfpaaDoor
open Go
set_option maxRecDepth 100000
theorem seatTie1 : Tryd.prog.laidByTextLater [("scrutiny/expr.keys", Rows.laid_scrutiny_expr_keys), ("scrutiny/expr.texts", Rows.laid_scrutiny_expr_texts)] [.widerDeep, .data] true :=
  Program.laidByTextLater_by_one 19 8 26 (by kernel_rfl) (by kernel_rfl) (by kernel_rfl) (by kernel_rfl) (by kernel_rfl) (by kernel_rfl) (fun _ _ => by kernel_rfl)
theorem noOwnUnsafe : Tryd.pinned.checked.prog.headLifts.contains "ownunsafe" = false := by kernel_rfl
theorem tie : Tryd.prog.laidByTextLater [("scrutiny/expr.keys", Rows.laid_scrutiny_expr_keys), ("scrutiny/expr.texts", Rows.laid_scrutiny_expr_texts)] [.widerDeep, .data] true :=
  Program.laidByTextLater.sub seatTie1 ["scrutiny/expr.keys", "scrutiny/expr.texts"] (by kernel_rfl) (by kernel_rfl)
theorem modelBlanks_row_tie : Rows.modelBlanksRow.laidByTextAt .later Tryd.pinned [.widerDeep, .data] true :=
  OpenClaim.laidByTextAt_later rfl rfl tie noOwnUnsafe
theorem modelNames_row_tie : Rows.modelNamesRow.laidByTextAt .later Tryd.pinned [.widerDeep, .data] true :=
  OpenClaim.laidByTextAt_later rfl rfl tie noOwnUnsafe
theorem modelRanges_row_tie : Rows.modelRangesRow.laidByTextAt .later Tryd.pinned [.widerDeep, .data] true :=
  OpenClaim.laidByTextAt_later rfl rfl tie noOwnUnsafe
theorem modelMany_row_tie : Rows.modelManyRow.laidByTextAt .later Tryd.pinned [.widerDeep, .data] true :=
  OpenClaim.laidByTextAt_later rfl rfl tie noOwnUnsafe
theorem modelJoins_row_tie : Rows.modelJoinsRow.laidByTextAt .later Tryd.pinned [.widerDeep, .data] true :=
  OpenClaim.laidByTextAt_later rfl rfl tie noOwnUnsafe
theorem modelCuts_row_tie : Rows.modelCutsRow.laidByTextAt .later Tryd.pinned [.widerDeep, .data] true :=
  OpenClaim.laidByTextAt_later rfl rfl tie noOwnUnsafe
theorem modelBlanksUpto_row_tie : Rows.modelBlanksUptoRow.laidByTextAt .later Tryd.pinned [.widerDeep, .data] true :=
  OpenClaim.laidByTextAt_later rfl rfl tie noOwnUnsafe
theorem modelNamesUpto_row_tie : Rows.modelNamesUptoRow.laidByTextAt .later Tryd.pinned [.widerDeep, .data] true :=
  OpenClaim.laidByTextAt_later rfl rfl tie noOwnUnsafe
theorem modelRangesUpto_row_tie : Rows.modelRangesUptoRow.laidByTextAt .later Tryd.pinned [.widerDeep, .data] true :=
  OpenClaim.laidByTextAt_later rfl rfl tie noOwnUnsafe
theorem modelManyUpto_row_tie : Rows.modelManyUptoRow.laidByTextAt .later Tryd.pinned [.widerDeep, .data] true :=
  OpenClaim.laidByTextAt_later rfl rfl tie noOwnUnsafe
theorem modelJoinsUpto_row_tie : Rows.modelJoinsUptoRow.laidByTextAt .later Tryd.pinned [.widerDeep, .data] true :=
  OpenClaim.laidByTextAt_later rfl rfl tie noOwnUnsafe
theorem modelCutsUpto_row_tie : Rows.modelCutsUptoRow.laidByTextAt .later Tryd.pinned [.widerDeep, .data] true :=
  OpenClaim.laidByTextAt_later rfl rfl tie noOwnUnsafe
end Go.Proofs.YtdhgpnejphlfpaaDoor
