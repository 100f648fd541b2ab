/-
  DERIVED. GIVEN WITH THE SEED: THE PROGRAM's TIES (one call each: nine closed facts by the kernel) AND EACH ROW's TIE, after the 31st guide's Derived/Test/Toyas{Tie, Card}.lean. No idea stands in it: it is a product of the set-up. Laid BY PROGRAM, IN A SANDBOX (cutbox-door.mjs). By AI agents, Wed Nov 11 2026. No macro, syntax, notation, axiom, sorry.
-/
import Derived.Test.YtopolnbffmljaaaDoorRows
import Derived.LaidByTextLater
import Derived.SevenTiedAt
import Derived.LaidSub
import Derived.LaidOnce
namespace Go.Proofs.YtopolnbffmljaaaDoor
open Go
set_option maxRecDepth 100000
theorem seatTie1 : Tryd.prog.laidByTextLater [("headgate/expr.words", Rows.laid_headgate_expr_words), ("headgate/expr.arity", Rows.laid_headgate_expr_arity), ("headgate/expr.null", Rows.laid_headgate_expr_null)] [.widerDeep, .data, .data] true :=
  Program.laidByTextLater_by_one 24 8 22 (by kernel_rfl) (by kernel_rfl) (by kernel_rfl) (by kernel_rfl) (by kernel_rfl) (by kernel_rfl) (fun _ _ => by kernel_rfl)
theorem noOwnUnsafe : Tryd.pinned.checked.prog.headLifts.contains "ownunsafe" = false := by kernel_rfl
theorem tie : Tryd.prog.laidByTextLater [("headgate/expr.words", Rows.laid_headgate_expr_words), ("headgate/expr.arity", Rows.laid_headgate_expr_arity), ("headgate/expr.null", Rows.laid_headgate_expr_null)] [.widerDeep, .data, .data] true :=
  Program.laidByTextLater.sub seatTie1 ["headgate/expr.words", "headgate/expr.arity", "headgate/expr.null"] (by kernel_rfl) (by kernel_rfl)
theorem exprKinds_row_tie : Rows.exprKindsRow.laidByTextAt .later Tryd.pinned [.widerDeep, .data, .data] true :=
  OpenClaim.laidByTextAt_later rfl rfl tie noOwnUnsafe
theorem exprWorth_row_tie : Rows.exprWorthRow.laidByTextAt .later Tryd.pinned [.widerDeep, .data, .data] true :=
  OpenClaim.laidByTextAt_later rfl rfl tie noOwnUnsafe
theorem exprHolds_row_tie : Rows.exprHoldsRow.laidByTextAt .later Tryd.pinned [.widerDeep, .data, .data] true :=
  OpenClaim.laidByTextAt_later rfl rfl tie noOwnUnsafe
theorem exprTurns_row_tie : Rows.exprTurnsRow.laidByTextAt .later Tryd.pinned [.widerDeep, .data, .data] true :=
  OpenClaim.laidByTextAt_later rfl rfl tie noOwnUnsafe
theorem exprForms_row_tie : Rows.exprFormsRow.laidByTextAt .later Tryd.pinned [.widerDeep, .data, .data] true :=
  OpenClaim.laidByTextAt_later rfl rfl tie noOwnUnsafe
theorem exprWalks_row_tie : Rows.exprWalksRow.laidByTextAt .later Tryd.pinned [.widerDeep, .data, .data] true :=
  OpenClaim.laidByTextAt_later rfl rfl tie noOwnUnsafe
theorem exprFixed_row_tie : Rows.exprFixedRow.laidByTextAt .later Tryd.pinned [.widerDeep, .data, .data] true :=
  OpenClaim.laidByTextAt_later rfl rfl tie noOwnUnsafe
theorem exprKindsUpto_row_tie : Rows.exprKindsUptoRow.laidByTextAt .later Tryd.pinned [.widerDeep, .data, .data] true :=
  OpenClaim.laidByTextAt_later rfl rfl tie noOwnUnsafe
theorem exprWorthUpto_row_tie : Rows.exprWorthUptoRow.laidByTextAt .later Tryd.pinned [.widerDeep, .data, .data] true :=
  OpenClaim.laidByTextAt_later rfl rfl tie noOwnUnsafe
theorem exprHoldsUpto_row_tie : Rows.exprHoldsUptoRow.laidByTextAt .later Tryd.pinned [.widerDeep, .data, .data] true :=
  OpenClaim.laidByTextAt_later rfl rfl tie noOwnUnsafe
theorem exprTurnsUpto_row_tie : Rows.exprTurnsUptoRow.laidByTextAt .later Tryd.pinned [.widerDeep, .data, .data] true :=
  OpenClaim.laidByTextAt_later rfl rfl tie noOwnUnsafe
theorem exprFormsUpto_row_tie : Rows.exprFormsUptoRow.laidByTextAt .later Tryd.pinned [.widerDeep, .data, .data] true :=
  OpenClaim.laidByTextAt_later rfl rfl tie noOwnUnsafe
theorem exprWalksUpto_row_tie : Rows.exprWalksUptoRow.laidByTextAt .later Tryd.pinned [.widerDeep, .data, .data] true :=
  OpenClaim.laidByTextAt_later rfl rfl tie noOwnUnsafe
theorem exprFixedUpto_row_tie : Rows.exprFixedUptoRow.laidByTextAt .later Tryd.pinned [.widerDeep, .data, .data] true :=
  OpenClaim.laidByTextAt_later rfl rfl tie noOwnUnsafe
end Go.Proofs.YtopolnbffmljaaaDoor
