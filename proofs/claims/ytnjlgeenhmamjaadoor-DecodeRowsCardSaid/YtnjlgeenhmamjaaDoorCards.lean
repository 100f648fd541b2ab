/-
  DERIVED. GIVEN WITH THE SEED: THE CARDS: each row of YtnjlgeenhmamjaaDoorRows.lean that lists a variable, with what it lists TIED to the program's text (the seventh form; the later family's looks); each row that meets fmt, with fmt's text TOLD by the authors' own Lean function (tested against real Go, not proved from fmt's source: count such statements apart). THE CARD IS WHAT COUNTS. Prove the row's statement (the work); the ties are given (YtnjlgeenhmamjaaDoorTie.lean); close each card by the builder's one call (the guide's Derived/Test/ToyasCard.lean, 'card_holds'). Laid BY PROGRAM, IN A SANDBOX (cutbox-door.mjs). By AI agents, Wed Nov 11 2026. No macro, syntax, notation, axiom, sorry.
-/
import Derived.Test.YtnjlgeenhmamjaaDoorRows
import GoSem.ClaimSeven
namespace Go.Proofs.YtnjlgeenhmamjaaDoor
namespace Rows

/-- THE TIED CARD OF 'headgatelaw12.DecodeCols'. -/
def decodeColsCard : Claim7 := { stood := { row := decodeColsRow, standIns := [], harness := (true, "e203cf3cb27c1450356dafcba11977ae0dd95584f8af2acbb7b8a39ab951ce82"), looks := true }, kinds := [], alts := [], laidByText := true, laidKinds := [.data, .data, .data, .sentinel, .sentinel], laidTests := true, laidLooks := .later }
def DecodeColsCardSaid : Prop := Claim7.holds Tryd.pinned (.plain (OpenSpec.ofChange decodeColsSpec)) decodeColsCard

/-- THE TIED CARD OF 'headgatelaw12.DecodeRows'. -/
def decodeRowsCard : Claim7 := { stood := { row := decodeRowsRow, standIns := [], harness := (true, "e203cf3cb27c1450356dafcba11977ae0dd95584f8af2acbb7b8a39ab951ce82"), looks := true }, kinds := [], alts := [], laidByText := true, laidKinds := [.data, .data, .data, .sentinel, .sentinel], laidTests := true, laidLooks := .later }
def DecodeRowsCardSaid : Prop := Claim7.holds Tryd.pinned (.plain (OpenSpec.ofChange decodeRowsSpec)) decodeRowsCard

/-- THE TIED CARD OF 'headgatelaw12.DecodeSplits'. -/
def decodeSplitsCard : Claim7 := { stood := { row := decodeSplitsRow, standIns := [], harness := (true, "e203cf3cb27c1450356dafcba11977ae0dd95584f8af2acbb7b8a39ab951ce82"), looks := true }, kinds := [], alts := [], laidByText := true, laidKinds := [.data, .data, .data, .sentinel, .sentinel], laidTests := true, laidLooks := .later }
def DecodeSplitsCardSaid : Prop := Claim7.holds Tryd.pinned (.plain (OpenSpec.ofChange decodeSplitsSpec)) decodeSplitsCard

/-- THE SECOND FORM's CARD OF 'headgatelaw12.DecodeCols'. -/
def decodeColsUptoCard : Claim7 := { stood := { row := decodeColsUptoRow, standIns := [], harness := (true, "e203cf3cb27c1450356dafcba11977ae0dd95584f8af2acbb7b8a39ab951ce82"), looks := true }, kinds := [], alts := [], laidByText := true, laidKinds := [.data, .data, .data, .sentinel, .sentinel], laidTests := true, laidLooks := .later }
def DecodeColsUptoCardSaid : Prop := Claim7.holds Tryd.pinned (.plain (OpenSpec.upto decodeColsSpec)) decodeColsUptoCard

/-- THE SECOND FORM's CARD OF 'headgatelaw12.DecodeRows'. -/
def decodeRowsUptoCard : Claim7 := { stood := { row := decodeRowsUptoRow, standIns := [], harness := (true, "e203cf3cb27c1450356dafcba11977ae0dd95584f8af2acbb7b8a39ab951ce82"), looks := true }, kinds := [], alts := [], laidByText := true, laidKinds := [.data, .data, .data, .sentinel, .sentinel], laidTests := true, laidLooks := .later }
def DecodeRowsUptoCardSaid : Prop := Claim7.holds Tryd.pinned (.plain (OpenSpec.upto decodeRowsSpec)) decodeRowsUptoCard

/-- THE SECOND FORM's CARD OF 'headgatelaw12.DecodeSplits'. -/
def decodeSplitsUptoCard : Claim7 := { stood := { row := decodeSplitsUptoRow, standIns := [], harness := (true, "e203cf3cb27c1450356dafcba11977ae0dd95584f8af2acbb7b8a39ab951ce82"), looks := true }, kinds := [], alts := [], laidByText := true, laidKinds := [.data, .data, .data, .sentinel, .sentinel], laidTests := true, laidLooks := .later }
def DecodeSplitsUptoCardSaid : Prop := Claim7.holds Tryd.pinned (.plain (OpenSpec.upto decodeSplitsSpec)) decodeSplitsUptoCard
end Rows
end Go.Proofs.YtnjlgeenhmamjaaDoor
