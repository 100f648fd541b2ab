/-
  DERIVED. GIVEN WITH THE SEED: THE CARDS: each row of YtindffllmlifiaaDoorRows.lean that lists a variable, with what it lists TIED to the program's text (the seventh form; the later family's looks); each row that meets fmt, with fmt's text TOLD by the authors' own Lean function (tested against real Go, not proved from fmt's source: count such statements apart). THE CARD IS WHAT COUNTS. Prove the row's statement (the work); the ties are given (YtindffllmlifiaaDoorTie.lean); close each card by the builder's one call (the guide's Derived/Test/ToyasCard.lean, 'card_holds'). Laid BY PROGRAM, IN A SANDBOX (cutbox-door.mjs). By AI agents, Wed Nov 11 2026. No macro, syntax, notation, axiom, sorry.
-/
import Derived.Test.YtindffllmlifiaaDoorRows
import GoSem.ClaimSeven
namespace Go.Proofs.YtindffllmlifiaaDoor
namespace Rows

/-- THE TIED CARD OF 'headgatelaw03.ValueRight'. -/
def valueRightCard : Claim7 := { stood := { row := valueRightRow, standIns := [], harness := (true, "d2e64551d8d5d18a39ffb09cf032c67d73ebe2315c33703d6b075dac60440257"), looks := false }, kinds := [], alts := [], laidByText := true, laidKinds := [.data, .pinned], laidTests := true, laidLooks := .later }
def ValueRightCardSaid : Prop := Claim7.holds Tryd.pinned (.plain (OpenSpec.ofChange valueRightSpec)) valueRightCard

/-- THE TIED CARD OF 'headgatelaw03.ValueKeys'. -/
def valueKeysCard : Claim7 := { stood := { row := valueKeysRow, standIns := [], harness := (true, "d2e64551d8d5d18a39ffb09cf032c67d73ebe2315c33703d6b075dac60440257"), looks := false }, kinds := [], alts := [], laidByText := true, laidKinds := [.data, .pinned], laidTests := true, laidLooks := .later }
def ValueKeysCardSaid : Prop := Claim7.holds Tryd.pinned (.plain (OpenSpec.ofChange valueKeysSpec)) valueKeysCard

/-- THE TIED CARD OF 'headgatelaw03.ValueAll'. -/
def valueAllCard : Claim7 := { stood := { row := valueAllRow, standIns := [], harness := (true, "d2e64551d8d5d18a39ffb09cf032c67d73ebe2315c33703d6b075dac60440257"), looks := false }, kinds := [], alts := [], laidByText := true, laidKinds := [.data, .pinned], laidTests := true, laidLooks := .later }
def ValueAllCardSaid : Prop := Claim7.holds Tryd.pinned (.plain (OpenSpec.ofChange valueAllSpec)) valueAllCard

/-- THE TIED CARD OF 'headgatelaw03.ValueMade'. -/
def valueMadeCard : Claim7 := { stood := { row := valueMadeRow, standIns := [], harness := (true, "d2e64551d8d5d18a39ffb09cf032c67d73ebe2315c33703d6b075dac60440257"), looks := false }, kinds := [], alts := [], laidByText := true, laidKinds := [.data, .pinned], laidTests := true, laidLooks := .later }
def ValueMadeCardSaid : Prop := Claim7.holds Tryd.pinned (.plain (OpenSpec.ofChange valueMadeSpec)) valueMadeCard

/-- THE TIED CARD OF 'headgatelaw03.ValueOrder'. -/
def valueOrderCard : Claim7 := { stood := { row := valueOrderRow, standIns := [], harness := (true, "d2e64551d8d5d18a39ffb09cf032c67d73ebe2315c33703d6b075dac60440257"), looks := false }, kinds := [], alts := [], laidByText := true, laidKinds := [.data, .pinned], laidTests := true, laidLooks := .later }
def ValueOrderCardSaid : Prop := Claim7.holds Tryd.pinned (.plain (OpenSpec.ofChange valueOrderSpec)) valueOrderCard

/-- THE TIED CARD OF 'headgatelaw03.ValueSorts'. -/
def valueSortsCard : Claim7 := { stood := { row := valueSortsRow, standIns := [], harness := (true, "d2e64551d8d5d18a39ffb09cf032c67d73ebe2315c33703d6b075dac60440257"), looks := false }, kinds := [], alts := [], laidByText := true, laidKinds := [.data, .pinned], laidTests := true, laidLooks := .later }
def ValueSortsCardSaid : Prop := Claim7.holds Tryd.pinned (.plain (OpenSpec.ofChange valueSortsSpec)) valueSortsCard

/-- THE TIED CARD OF 'headgatelaw03.ValueBack'. -/
def valueBackCard : Claim7 := { stood := { row := valueBackRow, standIns := [], harness := (true, "d2e64551d8d5d18a39ffb09cf032c67d73ebe2315c33703d6b075dac60440257"), looks := false }, kinds := [], alts := [], laidByText := true, laidKinds := [.data, .pinned], laidTests := true, laidLooks := .later }
def ValueBackCardSaid : Prop := Claim7.holds Tryd.pinned (.plain (OpenSpec.ofChange valueBackSpec)) valueBackCard

/-- THE SECOND FORM's CARD OF 'headgatelaw03.ValueRight'. -/
def valueRightUptoCard : Claim7 := { stood := { row := valueRightUptoRow, standIns := [], harness := (true, "d2e64551d8d5d18a39ffb09cf032c67d73ebe2315c33703d6b075dac60440257"), looks := false }, kinds := [], alts := [], laidByText := true, laidKinds := [.data, .pinned], laidTests := true, laidLooks := .later }
def ValueRightUptoCardSaid : Prop := Claim7.holds Tryd.pinned (.plain (OpenSpec.upto valueRightSpec)) valueRightUptoCard

/-- THE SECOND FORM's CARD OF 'headgatelaw03.ValueKeys'. -/
def valueKeysUptoCard : Claim7 := { stood := { row := valueKeysUptoRow, standIns := [], harness := (true, "d2e64551d8d5d18a39ffb09cf032c67d73ebe2315c33703d6b075dac60440257"), looks := false }, kinds := [], alts := [], laidByText := true, laidKinds := [.data, .pinned], laidTests := true, laidLooks := .later }
def ValueKeysUptoCardSaid : Prop := Claim7.holds Tryd.pinned (.plain (OpenSpec.upto valueKeysSpec)) valueKeysUptoCard

/-- THE SECOND FORM's CARD OF 'headgatelaw03.ValueAll'. -/
def valueAllUptoCard : Claim7 := { stood := { row := valueAllUptoRow, standIns := [], harness := (true, "d2e64551d8d5d18a39ffb09cf032c67d73ebe2315c33703d6b075dac60440257"), looks := false }, kinds := [], alts := [], laidByText := true, laidKinds := [.data, .pinned], laidTests := true, laidLooks := .later }
def ValueAllUptoCardSaid : Prop := Claim7.holds Tryd.pinned (.plain (OpenSpec.upto valueAllSpec)) valueAllUptoCard

/-- THE SECOND FORM's CARD OF 'headgatelaw03.ValueMade'. -/
def valueMadeUptoCard : Claim7 := { stood := { row := valueMadeUptoRow, standIns := [], harness := (true, "d2e64551d8d5d18a39ffb09cf032c67d73ebe2315c33703d6b075dac60440257"), looks := false }, kinds := [], alts := [], laidByText := true, laidKinds := [.data, .pinned], laidTests := true, laidLooks := .later }
def ValueMadeUptoCardSaid : Prop := Claim7.holds Tryd.pinned (.plain (OpenSpec.upto valueMadeSpec)) valueMadeUptoCard

/-- THE SECOND FORM's CARD OF 'headgatelaw03.ValueOrder'. -/
def valueOrderUptoCard : Claim7 := { stood := { row := valueOrderUptoRow, standIns := [], harness := (true, "d2e64551d8d5d18a39ffb09cf032c67d73ebe2315c33703d6b075dac60440257"), looks := false }, kinds := [], alts := [], laidByText := true, laidKinds := [.data, .pinned], laidTests := true, laidLooks := .later }
def ValueOrderUptoCardSaid : Prop := Claim7.holds Tryd.pinned (.plain (OpenSpec.upto valueOrderSpec)) valueOrderUptoCard

/-- THE SECOND FORM's CARD OF 'headgatelaw03.ValueSorts'. -/
def valueSortsUptoCard : Claim7 := { stood := { row := valueSortsUptoRow, standIns := [], harness := (true, "d2e64551d8d5d18a39ffb09cf032c67d73ebe2315c33703d6b075dac60440257"), looks := false }, kinds := [], alts := [], laidByText := true, laidKinds := [.data, .pinned], laidTests := true, laidLooks := .later }
def ValueSortsUptoCardSaid : Prop := Claim7.holds Tryd.pinned (.plain (OpenSpec.upto valueSortsSpec)) valueSortsUptoCard

/-- THE SECOND FORM's CARD OF 'headgatelaw03.ValueBack'. -/
def valueBackUptoCard : Claim7 := { stood := { row := valueBackUptoRow, standIns := [], harness := (true, "d2e64551d8d5d18a39ffb09cf032c67d73ebe2315c33703d6b075dac60440257"), looks := false }, kinds := [], alts := [], laidByText := true, laidKinds := [.data, .pinned], laidTests := true, laidLooks := .later }
def ValueBackUptoCardSaid : Prop := Claim7.holds Tryd.pinned (.plain (OpenSpec.upto valueBackSpec)) valueBackUptoCard
end Rows
end Go.Proofs.YtindffllmlifiaaDoor
