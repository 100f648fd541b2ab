/-
  DERIVED. GIVEN WITH THE SEED: THE CARDS: each row of YtopolnbffmljaaaDoorRows.lean that lists a variable, with what it lists TIED to the program's text (the seventh form; the later family's looks); each row that meets fmt, with fmt's text TOLD by the authors' own Lean function (tested against real Go, not proved from fmt's source: count such statements apart). THE CARD IS WHAT COUNTS. Prove the row's statement (the work); the ties are given (YtopolnbffmljaaaDoorTie.lean); close each card by the builder's one call (the guide's Derived/Test/ToyasCard.lean, 'card_holds'). Laid BY PROGRAM, IN A SANDBOX (cutbox-door.mjs). By AI agents, Wed Nov 11 2026. No macro, syntax, notation, axiom, sorry.
-/
import Derived.Test.YtopolnbffmljaaaDoorRows
import GoSem.ClaimSeven
namespace Go.Proofs.YtopolnbffmljaaaDoor
namespace Rows

/-- THE TIED CARD OF 'headgatelaw13.ExprKinds'. -/
def exprKindsCard : Claim7 := { stood := { row := exprKindsRow, standIns := [], harness := (true, "b6bd5b7291dccbfbe57591c994454b44bef96405f44afb44b5a23c45230b42ae"), looks := true }, kinds := [], alts := [], laidByText := true, laidKinds := [.widerDeep, .data, .data], laidTests := true, laidLooks := .later }
def ExprKindsCardSaid : Prop := Claim7.holds Tryd.pinned (.plain (OpenSpec.ofChange exprKindsSpec)) exprKindsCard

/-- THE TIED CARD OF 'headgatelaw13.ExprWorth'. -/
def exprWorthCard : Claim7 := { stood := { row := exprWorthRow, standIns := [], harness := (true, "b6bd5b7291dccbfbe57591c994454b44bef96405f44afb44b5a23c45230b42ae"), looks := true }, kinds := [], alts := [], laidByText := true, laidKinds := [.widerDeep, .data, .data], laidTests := true, laidLooks := .later }
def ExprWorthCardSaid : Prop := Claim7.holds Tryd.pinned (.plain (OpenSpec.ofChange exprWorthSpec)) exprWorthCard

/-- THE TIED CARD OF 'headgatelaw13.ExprHolds'. -/
def exprHoldsCard : Claim7 := { stood := { row := exprHoldsRow, standIns := [], harness := (true, "b6bd5b7291dccbfbe57591c994454b44bef96405f44afb44b5a23c45230b42ae"), looks := true }, kinds := [], alts := [], laidByText := true, laidKinds := [.widerDeep, .data, .data], laidTests := true, laidLooks := .later }
def ExprHoldsCardSaid : Prop := Claim7.holds Tryd.pinned (.plain (OpenSpec.ofChange exprHoldsSpec)) exprHoldsCard

/-- THE TIED CARD OF 'headgatelaw13.ExprTurns'. -/
def exprTurnsCard : Claim7 := { stood := { row := exprTurnsRow, standIns := [], harness := (true, "b6bd5b7291dccbfbe57591c994454b44bef96405f44afb44b5a23c45230b42ae"), looks := true }, kinds := [], alts := [], laidByText := true, laidKinds := [.widerDeep, .data, .data], laidTests := true, laidLooks := .later }
def ExprTurnsCardSaid : Prop := Claim7.holds Tryd.pinned (.plain (OpenSpec.ofChange exprTurnsSpec)) exprTurnsCard

/-- THE TIED CARD OF 'headgatelaw13.ExprForms'. -/
def exprFormsCard : Claim7 := { stood := { row := exprFormsRow, standIns := [], harness := (true, "b6bd5b7291dccbfbe57591c994454b44bef96405f44afb44b5a23c45230b42ae"), looks := true }, kinds := [], alts := [], laidByText := true, laidKinds := [.widerDeep, .data, .data], laidTests := true, laidLooks := .later }
def ExprFormsCardSaid : Prop := Claim7.holds Tryd.pinned (.plain (OpenSpec.ofChange exprFormsSpec)) exprFormsCard

/-- THE TIED CARD OF 'headgatelaw13.ExprWalks'. -/
def exprWalksCard : Claim7 := { stood := { row := exprWalksRow, standIns := [], harness := (true, "b6bd5b7291dccbfbe57591c994454b44bef96405f44afb44b5a23c45230b42ae"), looks := true }, kinds := [], alts := [], laidByText := true, laidKinds := [.widerDeep, .data, .data], laidTests := true, laidLooks := .later }
def ExprWalksCardSaid : Prop := Claim7.holds Tryd.pinned (.plain (OpenSpec.ofChange exprWalksSpec)) exprWalksCard

/-- THE TIED CARD OF 'headgatelaw13.ExprFixed'. -/
def exprFixedCard : Claim7 := { stood := { row := exprFixedRow, standIns := [], harness := (true, "b6bd5b7291dccbfbe57591c994454b44bef96405f44afb44b5a23c45230b42ae"), looks := true }, kinds := [], alts := [], laidByText := true, laidKinds := [.widerDeep, .data, .data], laidTests := true, laidLooks := .later }
def ExprFixedCardSaid : Prop := Claim7.holds Tryd.pinned (.plain (OpenSpec.ofChange exprFixedSpec)) exprFixedCard

/-- THE SECOND FORM's CARD OF 'headgatelaw13.ExprKinds'. -/
def exprKindsUptoCard : Claim7 := { stood := { row := exprKindsUptoRow, standIns := [], harness := (true, "b6bd5b7291dccbfbe57591c994454b44bef96405f44afb44b5a23c45230b42ae"), looks := true }, kinds := [], alts := [], laidByText := true, laidKinds := [.widerDeep, .data, .data], laidTests := true, laidLooks := .later }
def ExprKindsUptoCardSaid : Prop := Claim7.holds Tryd.pinned (.plain (OpenSpec.upto exprKindsSpec)) exprKindsUptoCard

/-- THE SECOND FORM's CARD OF 'headgatelaw13.ExprWorth'. -/
def exprWorthUptoCard : Claim7 := { stood := { row := exprWorthUptoRow, standIns := [], harness := (true, "b6bd5b7291dccbfbe57591c994454b44bef96405f44afb44b5a23c45230b42ae"), looks := true }, kinds := [], alts := [], laidByText := true, laidKinds := [.widerDeep, .data, .data], laidTests := true, laidLooks := .later }
def ExprWorthUptoCardSaid : Prop := Claim7.holds Tryd.pinned (.plain (OpenSpec.upto exprWorthSpec)) exprWorthUptoCard

/-- THE SECOND FORM's CARD OF 'headgatelaw13.ExprHolds'. -/
def exprHoldsUptoCard : Claim7 := { stood := { row := exprHoldsUptoRow, standIns := [], harness := (true, "b6bd5b7291dccbfbe57591c994454b44bef96405f44afb44b5a23c45230b42ae"), looks := true }, kinds := [], alts := [], laidByText := true, laidKinds := [.widerDeep, .data, .data], laidTests := true, laidLooks := .later }
def ExprHoldsUptoCardSaid : Prop := Claim7.holds Tryd.pinned (.plain (OpenSpec.upto exprHoldsSpec)) exprHoldsUptoCard

/-- THE SECOND FORM's CARD OF 'headgatelaw13.ExprTurns'. -/
def exprTurnsUptoCard : Claim7 := { stood := { row := exprTurnsUptoRow, standIns := [], harness := (true, "b6bd5b7291dccbfbe57591c994454b44bef96405f44afb44b5a23c45230b42ae"), looks := true }, kinds := [], alts := [], laidByText := true, laidKinds := [.widerDeep, .data, .data], laidTests := true, laidLooks := .later }
def ExprTurnsUptoCardSaid : Prop := Claim7.holds Tryd.pinned (.plain (OpenSpec.upto exprTurnsSpec)) exprTurnsUptoCard

/-- THE SECOND FORM's CARD OF 'headgatelaw13.ExprForms'. -/
def exprFormsUptoCard : Claim7 := { stood := { row := exprFormsUptoRow, standIns := [], harness := (true, "b6bd5b7291dccbfbe57591c994454b44bef96405f44afb44b5a23c45230b42ae"), looks := true }, kinds := [], alts := [], laidByText := true, laidKinds := [.widerDeep, .data, .data], laidTests := true, laidLooks := .later }
def ExprFormsUptoCardSaid : Prop := Claim7.holds Tryd.pinned (.plain (OpenSpec.upto exprFormsSpec)) exprFormsUptoCard

/-- THE SECOND FORM's CARD OF 'headgatelaw13.ExprWalks'. -/
def exprWalksUptoCard : Claim7 := { stood := { row := exprWalksUptoRow, standIns := [], harness := (true, "b6bd5b7291dccbfbe57591c994454b44bef96405f44afb44b5a23c45230b42ae"), looks := true }, kinds := [], alts := [], laidByText := true, laidKinds := [.widerDeep, .data, .data], laidTests := true, laidLooks := .later }
def ExprWalksUptoCardSaid : Prop := Claim7.holds Tryd.pinned (.plain (OpenSpec.upto exprWalksSpec)) exprWalksUptoCard

/-- THE SECOND FORM's CARD OF 'headgatelaw13.ExprFixed'. -/
def exprFixedUptoCard : Claim7 := { stood := { row := exprFixedUptoRow, standIns := [], harness := (true, "b6bd5b7291dccbfbe57591c994454b44bef96405f44afb44b5a23c45230b42ae"), looks := true }, kinds := [], alts := [], laidByText := true, laidKinds := [.widerDeep, .data, .data], laidTests := true, laidLooks := .later }
def ExprFixedUptoCardSaid : Prop := Claim7.holds Tryd.pinned (.plain (OpenSpec.upto exprFixedSpec)) exprFixedUptoCard
end Rows
end Go.Proofs.YtopolnbffmljaaaDoor
