/-
  DERIVED. GIVEN WITH THE SEED: THE CARDS: each row of YtnjlgeenhmamjaaGreatDoorRows.lean that lists a variable, with what it lists TIED to the program's text (the seventh form; the later family's looks); each row that meets fmt, with fmt's text TOLD by the authors' own Lean function (tested against real Go, not proved from fmt's source: count such statements apart). THE CARD IS WHAT COUNTS. Prove the row's statement (the work); the ties are given (YtnjlgeenhmamjaaGreatDoorTie.lean); close each card by the builder's one call (the guide's Derived/Test/ToyasCard.lean, 'card_holds'). Laid BY PROGRAM, IN A SANDBOX (cutbox-door.mjs). By AI agents, Wed Nov 11 2026. No macro, syntax, notation, axiom, sorry.
-/
import Derived.Test.YtnjlgeenhmamjaaGreatDoorRows
import GoSem.ClaimSeven
namespace Go.Proofs.YtnjlgeenhmamjaaGreatDoor
namespace Rows

/-- THE TIED CARD OF 'headgatelaw12.DecodeRecords'. -/
def decodeRecordsCard : Claim7 := { stood := { row := decodeRecordsRow, standIns := [], harness := (true, "efec74538c53389f7e9cc331bf07c3e74a176725d287da1fe4ed2e5c2363d978"), looks := true }, kinds := [], alts := [], laidByText := true, laidKinds := [.data, .data, .data, .sentinel, .sentinel], laidTests := true, laidLooks := .later }
def DecodeRecordsCardSaid : Prop := Claim7.holds Tryz.pinned (.plain (OpenSpec.ofChange decodeRecordsSpec)) decodeRecordsCard

/-- THE TIED CARD OF 'headgatelaw12.DecodeBack'. -/
def decodeBackCard : Claim7 := { stood := { row := decodeBackRow, standIns := [], harness := (true, "efec74538c53389f7e9cc331bf07c3e74a176725d287da1fe4ed2e5c2363d978"), looks := true }, kinds := [], alts := [], laidByText := true, laidKinds := [.data, .data, .data, .sentinel, .sentinel], laidTests := true, laidLooks := .later }
def DecodeBackCardSaid : Prop := Claim7.holds Tryz.pinned (.plain (OpenSpec.ofChange decodeBackSpec)) decodeBackCard

/-- THE SECOND FORM's CARD OF 'headgatelaw12.DecodeRecords'. -/
def decodeRecordsUptoCard : Claim7 := { stood := { row := decodeRecordsUptoRow, standIns := [], harness := (true, "efec74538c53389f7e9cc331bf07c3e74a176725d287da1fe4ed2e5c2363d978"), looks := true }, kinds := [], alts := [], laidByText := true, laidKinds := [.data, .data, .data, .sentinel, .sentinel], laidTests := true, laidLooks := .later }
def DecodeRecordsUptoCardSaid : Prop := Claim7.holds Tryz.pinned (.plain (OpenSpec.upto decodeRecordsSpec)) decodeRecordsUptoCard

/-- THE SECOND FORM's CARD OF 'headgatelaw12.DecodeBack'. -/
def decodeBackUptoCard : Claim7 := { stood := { row := decodeBackUptoRow, standIns := [], harness := (true, "efec74538c53389f7e9cc331bf07c3e74a176725d287da1fe4ed2e5c2363d978"), looks := true }, kinds := [], alts := [], laidByText := true, laidKinds := [.data, .data, .data, .sentinel, .sentinel], laidTests := true, laidLooks := .later }
def DecodeBackUptoCardSaid : Prop := Claim7.holds Tryz.pinned (.plain (OpenSpec.upto decodeBackSpec)) decodeBackUptoCard
end Rows
end Go.Proofs.YtnjlgeenhmamjaaGreatDoor
