/-
  No cell of these rows narrows 'for every input' (looked for: loops, veiled, ifaces, maps, wideKeys, modest, calm, conditions, laid).
  DERIVED. THE GIVEN ROWS OF THIS SEAT. 7 by the template 'for every input the law returns true; each argument reads behind the call as it read before'; 0 by the template 'total and deterministic' (their statements: YtapffiacgfdfaaaTotals.lean).
  GIVEN WITH THE SEED: the statements are not yours to turn. If you find one false, say at which input.
  Laid BY PROGRAM, IN A SANDBOX (cutbox-rows.mjs): the forced cells as the released guide's own fill.sh prints them over the translation be0ad1e1c5f6f147… (all of the seat's roots in one cut). By AI agents, Wed Nov 11 2026. No macro, syntax, notation, axiom, sorry.
-/
import Derived.Test.YtapffiacgfdfaaaChecked
import GoSem.Claim
import GoSem.ClaimJoined
import GoSem.ClaimMapViews
import Derived.JoinedTies
import Derived.KernelRfl
namespace Go.Proofs.Ytapffiacgfdfaaa
/- THE CELL 'sum', in the pinned program and in every row, IS THE sha256 OF THE DUMP (.gsa) THAT YtapffiacgfdfaaaProg.lean LOADS. Nothing in Lean hashes anything: it is a label: what it is worth is what the hold of that sum in a sandbox is worth. -/
noncomputable def Try.pinned : Pinned := { name := "ytapffiacgfdfaaa", sum := "be0ad1e1c5f6f147272bae73c3855a99a897e6c9a67a07f4a50920637a4443eb", checked := Try.checked }
namespace Rows
def none {H : Type} : Left H := { results := [], args := [] }

/-- 'headgatelaw01.NumDoes': WHATEVER THE INPUT: true; the input reads as it did. -/
def numDoesSpec : ChangeSpec := { name := "numDoes", fn := fun _ => fun
  | [d1, d2, d3] => { results := [.lit (.bool true)], args := [d1, d2, d3] }
  | _ => none }
def numDoesRow : OpenClaim := { program := "ytapffiacgfdfaaa", sum := "be0ad1e1c5f6f147272bae73c3855a99a897e6c9a67a07f4a50920637a4443eb", func := "headgate/headgatelaw01.NumDoes", spec := "numDoes", inPlace := ["math/bits.Add64"], apart := false }
def NumDoesSaid : Prop := numDoesRow.holds Try.pinned (OpenSpec.ofChange numDoesSpec)

/-- ITS FALSE NEIGHBOUR: 'it returns false'. Refute it at one input. -/
def numDoesWrong : ChangeSpec := { name := "numDoes", fn := fun _ => fun
  | [d1, d2, d3] => { results := [.lit (.bool false)], args := [d1, d2, d3] }
  | _ => none }
def NumDoesWrongFalsely : Prop := numDoesRow.holds Try.pinned (OpenSpec.ofChange numDoesWrong)

/-- 'headgatelaw01.NumFloors': WHATEVER THE INPUT: true; the input reads as it did. -/
def numFloorsSpec : ChangeSpec := { name := "numFloors", fn := fun _ => fun
  | [d1, d2] => { results := [.lit (.bool true)], args := [d1, d2] }
  | _ => none }
def numFloorsRow : OpenClaim := { program := "ytapffiacgfdfaaa", sum := "be0ad1e1c5f6f147272bae73c3855a99a897e6c9a67a07f4a50920637a4443eb", func := "headgate/headgatelaw01.NumFloors", spec := "numFloors", inPlace := ["math/bits.Add64"], apart := false }
def NumFloorsSaid : Prop := numFloorsRow.holds Try.pinned (OpenSpec.ofChange numFloorsSpec)

/-- ITS FALSE NEIGHBOUR: 'it returns false'. Refute it at one input. -/
def numFloorsWrong : ChangeSpec := { name := "numFloors", fn := fun _ => fun
  | [d1, d2] => { results := [.lit (.bool false)], args := [d1, d2] }
  | _ => none }
def NumFloorsWrongFalsely : Prop := numFloorsRow.holds Try.pinned (OpenSpec.ofChange numFloorsWrong)

/-- 'headgatelaw01.NumRest': WHATEVER THE INPUT: true; the input reads as it did. -/
def numRestSpec : ChangeSpec := { name := "numRest", fn := fun _ => fun
  | [d1, d2] => { results := [.lit (.bool true)], args := [d1, d2] }
  | _ => none }
def numRestRow : OpenClaim := { program := "ytapffiacgfdfaaa", sum := "be0ad1e1c5f6f147272bae73c3855a99a897e6c9a67a07f4a50920637a4443eb", func := "headgate/headgatelaw01.NumRest", spec := "numRest", inPlace := ["math/bits.Add64"], apart := false }
def NumRestSaid : Prop := numRestRow.holds Try.pinned (OpenSpec.ofChange numRestSpec)

/-- ITS FALSE NEIGHBOUR: 'it returns false'. Refute it at one input. -/
def numRestWrong : ChangeSpec := { name := "numRest", fn := fun _ => fun
  | [d1, d2] => { results := [.lit (.bool false)], args := [d1, d2] }
  | _ => none }
def NumRestWrongFalsely : Prop := numRestRow.holds Try.pinned (OpenSpec.ofChange numRestWrong)

/-- 'headgatelaw01.NumBack': WHATEVER THE INPUT: true; the input reads as it did. -/
def numBackSpec : ChangeSpec := { name := "numBack", fn := fun _ => fun
  | [d1, d2] => { results := [.lit (.bool true)], args := [d1, d2] }
  | _ => none }
def numBackRow : OpenClaim := { program := "ytapffiacgfdfaaa", sum := "be0ad1e1c5f6f147272bae73c3855a99a897e6c9a67a07f4a50920637a4443eb", func := "headgate/headgatelaw01.NumBack", spec := "numBack", inPlace := ["math/bits.Add64"], apart := false }
def NumBackSaid : Prop := numBackRow.holds Try.pinned (OpenSpec.ofChange numBackSpec)

/-- ITS FALSE NEIGHBOUR: 'it returns false'. Refute it at one input. -/
def numBackWrong : ChangeSpec := { name := "numBack", fn := fun _ => fun
  | [d1, d2] => { results := [.lit (.bool false)], args := [d1, d2] }
  | _ => none }
def NumBackWrongFalsely : Prop := numBackRow.holds Try.pinned (OpenSpec.ofChange numBackWrong)

/-- 'headgatelaw01.NumSums': WHATEVER THE INPUT: true; the input reads as it did. -/
def numSumsSpec : ChangeSpec := { name := "numSums", fn := fun _ => fun
  | [d1, d2, d3] => { results := [.lit (.bool true)], args := [d1, d2, d3] }
  | _ => none }
def numSumsRow : OpenClaim := { program := "ytapffiacgfdfaaa", sum := "be0ad1e1c5f6f147272bae73c3855a99a897e6c9a67a07f4a50920637a4443eb", func := "headgate/headgatelaw01.NumSums", spec := "numSums", inPlace := ["math/bits.Add64"], apart := false }
def NumSumsSaid : Prop := numSumsRow.holds Try.pinned (OpenSpec.ofChange numSumsSpec)

/-- ITS FALSE NEIGHBOUR: 'it returns false'. Refute it at one input. -/
def numSumsWrong : ChangeSpec := { name := "numSums", fn := fun _ => fun
  | [d1, d2, d3] => { results := [.lit (.bool false)], args := [d1, d2, d3] }
  | _ => none }
def NumSumsWrongFalsely : Prop := numSumsRow.holds Try.pinned (OpenSpec.ofChange numSumsWrong)

/-- 'headgatelaw01.NumOrders': WHATEVER THE INPUT: true; the input reads as it did. -/
def numOrdersSpec : ChangeSpec := { name := "numOrders", fn := fun _ => fun
  | [d1, d2] => { results := [.lit (.bool true)], args := [d1, d2] }
  | _ => none }
def numOrdersRow : OpenClaim := { program := "ytapffiacgfdfaaa", sum := "be0ad1e1c5f6f147272bae73c3855a99a897e6c9a67a07f4a50920637a4443eb", func := "headgate/headgatelaw01.NumOrders", spec := "numOrders", inPlace := ["math/bits.Add64"], apart := false }
def NumOrdersSaid : Prop := numOrdersRow.holds Try.pinned (OpenSpec.ofChange numOrdersSpec)

/-- ITS FALSE NEIGHBOUR: 'it returns false'. Refute it at one input. -/
def numOrdersWrong : ChangeSpec := { name := "numOrders", fn := fun _ => fun
  | [d1, d2] => { results := [.lit (.bool false)], args := [d1, d2] }
  | _ => none }
def NumOrdersWrongFalsely : Prop := numOrdersRow.holds Try.pinned (OpenSpec.ofChange numOrdersWrong)

/-- 'headgatelaw01.NumLeast': WHATEVER THE INPUT: true; the input reads as it did. -/
def numLeastSpec : ChangeSpec := { name := "numLeast", fn := fun _ => fun
  | [d1, d2] => { results := [.lit (.bool true)], args := [d1, d2] }
  | _ => none }
def numLeastRow : OpenClaim := { program := "ytapffiacgfdfaaa", sum := "be0ad1e1c5f6f147272bae73c3855a99a897e6c9a67a07f4a50920637a4443eb", func := "headgate/headgatelaw01.NumLeast", spec := "numLeast", inPlace := ["math/bits.Add64"], apart := false }
def NumLeastSaid : Prop := numLeastRow.holds Try.pinned (OpenSpec.ofChange numLeastSpec)

/-- ITS FALSE NEIGHBOUR: 'it returns false'. Refute it at one input. -/
def numLeastWrong : ChangeSpec := { name := "numLeast", fn := fun _ => fun
  | [d1, d2] => { results := [.lit (.bool false)], args := [d1, d2] }
  | _ => none }
def NumLeastWrongFalsely : Prop := numLeastRow.holds Try.pinned (OpenSpec.ofChange numLeastWrong)

/- THE SECOND FORM. 'bulk': how many values and letters a reading holds, each counted each time it is reached (what is shared counts as often as it is met; a slice's spare places count too). A statement '..UptoSaid' is the law's where the arguments, and the package variables that the reading takes, are together of bulk at most 1048576: NARROWER than '..Said'. Prove '..Said' where nothing that the law and all that it calls make is longer than what came in: it says more and counts as full. Else prove '..UptoSaid'. A law counts once. -/
mutual
def uptoBulk {H : Type} : DataW H → Nat
  | .lit (.string bytes) => bytes.length + 1
  | .lit _ => 1
  | .nil => 1
  | .ptr d => uptoBulk d + 1
  | .slice elems spare => uptoBulkAll elems + uptoBulkAll spare + 1
  | .agg parts => uptoBulkAll parts + 1
  | .iface _ d => uptoBulk d + 1
  | .map entries => uptoBulkEntries entries + 1
  | .held _ => 1
def uptoBulkAll {H : Type} : List (DataW H) → Nat
  | [] => 0
  | d :: r => uptoBulk d + uptoBulkAll r
def uptoBulkEntries {H : Type} : List (Lit × DataW H) → Nat
  | [] => 0
  | x :: r => uptoBulkEntry x + uptoBulkEntries r
def uptoBulkEntry {H : Type} : Lit × DataW H → Nat
  | (.string bytes, d) => bytes.length + uptoBulk d + 1
  | (_, d) => uptoBulk d + 1
 end
def uptoSmall : (H : Type) → List (DataW H) → Bool := fun _ ds => decide (uptoBulkAll ds ≤ 1048576)
def OpenSpec.upto (s : _root_.Go.ChangeSpec) : _root_.Go.OpenSpec := { _root_.Go.OpenSpec.ofChange s with cond := some uptoSmall }

/-- 'headgatelaw01.NumDoes', WHERE WHAT IT READS IS OF BULK AT MOST 1048576: true; the input reads as it did. -/
def numDoesUptoRow : OpenClaim := { program := "ytapffiacgfdfaaa", sum := "be0ad1e1c5f6f147272bae73c3855a99a897e6c9a67a07f4a50920637a4443eb", func := "headgate/headgatelaw01.NumDoes", spec := "numDoes", inPlace := ["math/bits.Add64"], apart := false, narrowed := true }
def NumDoesUptoSaid : Prop := numDoesUptoRow.holds Try.pinned (OpenSpec.upto numDoesSpec)

/-- 'headgatelaw01.NumFloors', WHERE WHAT IT READS IS OF BULK AT MOST 1048576: true; the input reads as it did. -/
def numFloorsUptoRow : OpenClaim := { program := "ytapffiacgfdfaaa", sum := "be0ad1e1c5f6f147272bae73c3855a99a897e6c9a67a07f4a50920637a4443eb", func := "headgate/headgatelaw01.NumFloors", spec := "numFloors", inPlace := ["math/bits.Add64"], apart := false, narrowed := true }
def NumFloorsUptoSaid : Prop := numFloorsUptoRow.holds Try.pinned (OpenSpec.upto numFloorsSpec)

/-- 'headgatelaw01.NumRest', WHERE WHAT IT READS IS OF BULK AT MOST 1048576: true; the input reads as it did. -/
def numRestUptoRow : OpenClaim := { program := "ytapffiacgfdfaaa", sum := "be0ad1e1c5f6f147272bae73c3855a99a897e6c9a67a07f4a50920637a4443eb", func := "headgate/headgatelaw01.NumRest", spec := "numRest", inPlace := ["math/bits.Add64"], apart := false, narrowed := true }
def NumRestUptoSaid : Prop := numRestUptoRow.holds Try.pinned (OpenSpec.upto numRestSpec)

/-- 'headgatelaw01.NumBack', WHERE WHAT IT READS IS OF BULK AT MOST 1048576: true; the input reads as it did. -/
def numBackUptoRow : OpenClaim := { program := "ytapffiacgfdfaaa", sum := "be0ad1e1c5f6f147272bae73c3855a99a897e6c9a67a07f4a50920637a4443eb", func := "headgate/headgatelaw01.NumBack", spec := "numBack", inPlace := ["math/bits.Add64"], apart := false, narrowed := true }
def NumBackUptoSaid : Prop := numBackUptoRow.holds Try.pinned (OpenSpec.upto numBackSpec)

/-- 'headgatelaw01.NumSums', WHERE WHAT IT READS IS OF BULK AT MOST 1048576: true; the input reads as it did. -/
def numSumsUptoRow : OpenClaim := { program := "ytapffiacgfdfaaa", sum := "be0ad1e1c5f6f147272bae73c3855a99a897e6c9a67a07f4a50920637a4443eb", func := "headgate/headgatelaw01.NumSums", spec := "numSums", inPlace := ["math/bits.Add64"], apart := false, narrowed := true }
def NumSumsUptoSaid : Prop := numSumsUptoRow.holds Try.pinned (OpenSpec.upto numSumsSpec)

/-- 'headgatelaw01.NumOrders', WHERE WHAT IT READS IS OF BULK AT MOST 1048576: true; the input reads as it did. -/
def numOrdersUptoRow : OpenClaim := { program := "ytapffiacgfdfaaa", sum := "be0ad1e1c5f6f147272bae73c3855a99a897e6c9a67a07f4a50920637a4443eb", func := "headgate/headgatelaw01.NumOrders", spec := "numOrders", inPlace := ["math/bits.Add64"], apart := false, narrowed := true }
def NumOrdersUptoSaid : Prop := numOrdersUptoRow.holds Try.pinned (OpenSpec.upto numOrdersSpec)

/-- 'headgatelaw01.NumLeast', WHERE WHAT IT READS IS OF BULK AT MOST 1048576: true; the input reads as it did. -/
def numLeastUptoRow : OpenClaim := { program := "ytapffiacgfdfaaa", sum := "be0ad1e1c5f6f147272bae73c3855a99a897e6c9a67a07f4a50920637a4443eb", func := "headgate/headgatelaw01.NumLeast", spec := "numLeast", inPlace := ["math/bits.Add64"], apart := false, narrowed := true }
def NumLeastUptoSaid : Prop := numLeastUptoRow.holds Try.pinned (OpenSpec.upto numLeastSpec)

end Rows
end Go.Proofs.Ytapffiacgfdfaaa
