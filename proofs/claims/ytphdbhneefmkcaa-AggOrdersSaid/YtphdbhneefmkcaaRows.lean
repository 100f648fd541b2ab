/-
  No cell of these rows narrows 'for every input' (looked for: loops, veiled, ifaces, maps, wideKeys, modest, calm, conditions, laid).
  DERIVED. THE GIVEN ROWS OF THIS SEAT. 6 by the template 'for every input the law returns true; each argument reads behind the call as it read before'; 0 by the template 'total and deterministic' (their statements: YtphdbhneefmkcaaTotals.lean).
  GIVEN WITH THE SEED: the statements are not yours to turn. If you find one false, say at which input.
  Laid BY PROGRAM, IN A SANDBOX (cutbox-rows.mjs): the forced cells as the released guide's own fill.sh prints them over the translation 1aa29b6a6b79e44d… (all of the seat's roots in one cut). By AI agents, Wed Nov 11 2026. No macro, syntax, notation, axiom, sorry.
-/
import Derived.Test.YtphdbhneefmkcaaChecked
import GoSem.Claim
import GoSem.ClaimJoined
import GoSem.ClaimMapViews
import Derived.JoinedTies
import Derived.KernelRfl
namespace Go.Proofs.Ytphdbhneefmkcaa
/- THE CELL 'sum', in the pinned program and in every row, IS THE sha256 OF THE DUMP (.gsa) THAT YtphdbhneefmkcaaProg.lean LOADS. Nothing in Lean hashes anything: it is a label: what it is worth is what the hold of that sum in a sandbox is worth. -/
noncomputable def Try.pinned : Pinned := { name := "ytphdbhneefmkcaa", sum := "1aa29b6a6b79e44d153647bd998e34abb9b5a09ad16d2fd7cdde7f4cf1fb6362", checked := Try.checked }
namespace Rows
def none {H : Type} : Left H := { results := [], args := [] }

/-- 'headgatelaw15.AggAdds': WHATEVER THE INPUT: true; the input reads as it did. -/
def aggAddsSpec : ChangeSpec := { name := "aggAdds", fn := fun _ => fun
  | [d1, d2, d3] => { results := [.lit (.bool true)], args := [d1, d2, d3] }
  | _ => none }
def aggAddsRow : OpenClaim := { program := "ytphdbhneefmkcaa", sum := "1aa29b6a6b79e44d153647bd998e34abb9b5a09ad16d2fd7cdde7f4cf1fb6362", func := "headgate/headgatelaw15.AggAdds", spec := "aggAdds", inPlace := ["internal/bytealg.abigen_runtime_cmpstring", "math/bits.Add64"], unfollowed := true, recurses := true, apart := false }
def AggAddsSaid : Prop := aggAddsRow.holds Try.pinned (OpenSpec.ofChange aggAddsSpec)

/-- ITS FALSE NEIGHBOUR: 'it returns false'. Refute it at one input. -/
def aggAddsWrong : ChangeSpec := { name := "aggAdds", fn := fun _ => fun
  | [d1, d2, d3] => { results := [.lit (.bool false)], args := [d1, d2, d3] }
  | _ => none }
def AggAddsWrongFalsely : Prop := aggAddsRow.holds Try.pinned (OpenSpec.ofChange aggAddsWrong)

/-- 'headgatelaw15.AggBoth': WHATEVER THE INPUT: true; the input reads as it did. -/
def aggBothSpec : ChangeSpec := { name := "aggBoth", fn := fun _ => fun
  | [d1, d2, d3] => { results := [.lit (.bool true)], args := [d1, d2, d3] }
  | _ => none }
def aggBothRow : OpenClaim := { program := "ytphdbhneefmkcaa", sum := "1aa29b6a6b79e44d153647bd998e34abb9b5a09ad16d2fd7cdde7f4cf1fb6362", func := "headgate/headgatelaw15.AggBoth", spec := "aggBoth", inPlace := ["internal/bytealg.abigen_runtime_cmpstring", "math/bits.Add64"], unfollowed := true, recurses := true, apart := false }
def AggBothSaid : Prop := aggBothRow.holds Try.pinned (OpenSpec.ofChange aggBothSpec)

/-- ITS FALSE NEIGHBOUR: 'it returns false'. Refute it at one input. -/
def aggBothWrong : ChangeSpec := { name := "aggBoth", fn := fun _ => fun
  | [d1, d2, d3] => { results := [.lit (.bool false)], args := [d1, d2, d3] }
  | _ => none }
def AggBothWrongFalsely : Prop := aggBothRow.holds Try.pinned (OpenSpec.ofChange aggBothWrong)

/-- 'headgatelaw15.AggFolds': WHATEVER THE INPUT: true; the input reads as it did. -/
def aggFoldsSpec : ChangeSpec := { name := "aggFolds", fn := fun _ => fun
  | [d1, d2] => { results := [.lit (.bool true)], args := [d1, d2] }
  | _ => none }
def aggFoldsRow : OpenClaim := { program := "ytphdbhneefmkcaa", sum := "1aa29b6a6b79e44d153647bd998e34abb9b5a09ad16d2fd7cdde7f4cf1fb6362", func := "headgate/headgatelaw15.AggFolds", spec := "aggFolds", inPlace := ["internal/bytealg.abigen_runtime_cmpstring", "math/bits.Add64"], unfollowed := true, recurses := true, apart := false }
def AggFoldsSaid : Prop := aggFoldsRow.holds Try.pinned (OpenSpec.ofChange aggFoldsSpec)

/-- ITS FALSE NEIGHBOUR: 'it returns false'. Refute it at one input. -/
def aggFoldsWrong : ChangeSpec := { name := "aggFolds", fn := fun _ => fun
  | [d1, d2] => { results := [.lit (.bool false)], args := [d1, d2] }
  | _ => none }
def AggFoldsWrongFalsely : Prop := aggFoldsRow.holds Try.pinned (OpenSpec.ofChange aggFoldsWrong)

/-- 'headgatelaw15.AggOrders': WHATEVER THE INPUT: true; the input reads as it did. -/
def aggOrdersSpec : ChangeSpec := { name := "aggOrders", fn := fun _ => fun
  | [d1, d2, d3] => { results := [.lit (.bool true)], args := [d1, d2, d3] }
  | _ => none }
def aggOrdersRow : OpenClaim := { program := "ytphdbhneefmkcaa", sum := "1aa29b6a6b79e44d153647bd998e34abb9b5a09ad16d2fd7cdde7f4cf1fb6362", func := "headgate/headgatelaw15.AggOrders", spec := "aggOrders", inPlace := ["internal/bytealg.abigen_runtime_cmpstring", "math/bits.Add64"], unfollowed := true, recurses := true, apart := false }
def AggOrdersSaid : Prop := aggOrdersRow.holds Try.pinned (OpenSpec.ofChange aggOrdersSpec)

/-- ITS FALSE NEIGHBOUR: 'it returns false'. Refute it at one input. -/
def aggOrdersWrong : ChangeSpec := { name := "aggOrders", fn := fun _ => fun
  | [d1, d2, d3] => { results := [.lit (.bool false)], args := [d1, d2, d3] }
  | _ => none }
def AggOrdersWrongFalsely : Prop := aggOrdersRow.holds Try.pinned (OpenSpec.ofChange aggOrdersWrong)

/-- 'headgatelaw15.AggKinds': WHATEVER THE INPUT: true; the input reads as it did. -/
def aggKindsSpec : ChangeSpec := { name := "aggKinds", fn := fun _ => fun
  | [d1, d2] => { results := [.lit (.bool true)], args := [d1, d2] }
  | _ => none }
def aggKindsRow : OpenClaim := { program := "ytphdbhneefmkcaa", sum := "1aa29b6a6b79e44d153647bd998e34abb9b5a09ad16d2fd7cdde7f4cf1fb6362", func := "headgate/headgatelaw15.AggKinds", spec := "aggKinds", inPlace := ["internal/bytealg.abigen_runtime_cmpstring", "math/bits.Add64"], unfollowed := true, recurses := true, apart := false }
def AggKindsSaid : Prop := aggKindsRow.holds Try.pinned (OpenSpec.ofChange aggKindsSpec)

/-- ITS FALSE NEIGHBOUR: 'it returns false'. Refute it at one input. -/
def aggKindsWrong : ChangeSpec := { name := "aggKinds", fn := fun _ => fun
  | [d1, d2] => { results := [.lit (.bool false)], args := [d1, d2] }
  | _ => none }
def AggKindsWrongFalsely : Prop := aggKindsRow.holds Try.pinned (OpenSpec.ofChange aggKindsWrong)

/-- 'headgatelaw15.AggPacks': WHATEVER THE INPUT: true; the input reads as it did. -/
def aggPacksSpec : ChangeSpec := { name := "aggPacks", fn := fun _ => fun
  | [d1, d2] => { results := [.lit (.bool true)], args := [d1, d2] }
  | _ => none }
def aggPacksRow : OpenClaim := { program := "ytphdbhneefmkcaa", sum := "1aa29b6a6b79e44d153647bd998e34abb9b5a09ad16d2fd7cdde7f4cf1fb6362", func := "headgate/headgatelaw15.AggPacks", spec := "aggPacks", inPlace := ["internal/bytealg.abigen_runtime_cmpstring", "math/bits.Add64"], unfollowed := true, recurses := true, apart := false }
def AggPacksSaid : Prop := aggPacksRow.holds Try.pinned (OpenSpec.ofChange aggPacksSpec)

/-- ITS FALSE NEIGHBOUR: 'it returns false'. Refute it at one input. -/
def aggPacksWrong : ChangeSpec := { name := "aggPacks", fn := fun _ => fun
  | [d1, d2] => { results := [.lit (.bool false)], args := [d1, d2] }
  | _ => none }
def AggPacksWrongFalsely : Prop := aggPacksRow.holds Try.pinned (OpenSpec.ofChange aggPacksWrong)

/- THE SECOND FORM. 'bulk': how many values and letters a reading holds, each counted each time it is reached (what is shared counts as often as it is met; a slice's spare places count too). A statement '..UptoSaid' is the law's where the arguments, and the package variables that the reading takes, are together of bulk at most 1048576: NARROWER than '..Said'. Prove '..Said' where nothing that the law and all that it calls make is longer than what came in: it says more and counts as full. Else prove '..UptoSaid'. A law counts once. -/
mutual
def uptoBulk {H : Type} : DataW H → Nat
  | .lit (.string bytes) => bytes.length + 1
  | .lit _ => 1
  | .nil => 1
  | .ptr d => uptoBulk d + 1
  | .slice elems spare => uptoBulkAll elems + uptoBulkAll spare + 1
  | .agg parts => uptoBulkAll parts + 1
  | .iface _ d => uptoBulk d + 1
  | .map entries => uptoBulkEntries entries + 1
  | .held _ => 1
def uptoBulkAll {H : Type} : List (DataW H) → Nat
  | [] => 0
  | d :: r => uptoBulk d + uptoBulkAll r
def uptoBulkEntries {H : Type} : List (Lit × DataW H) → Nat
  | [] => 0
  | x :: r => uptoBulkEntry x + uptoBulkEntries r
def uptoBulkEntry {H : Type} : Lit × DataW H → Nat
  | (.string bytes, d) => bytes.length + uptoBulk d + 1
  | (_, d) => uptoBulk d + 1
 end
def uptoSmall : (H : Type) → List (DataW H) → Bool := fun _ ds => decide (uptoBulkAll ds ≤ 1048576)
def OpenSpec.upto (s : _root_.Go.ChangeSpec) : _root_.Go.OpenSpec := { _root_.Go.OpenSpec.ofChange s with cond := some uptoSmall }

/-- 'headgatelaw15.AggAdds', WHERE WHAT IT READS IS OF BULK AT MOST 1048576: true; the input reads as it did. -/
def aggAddsUptoRow : OpenClaim := { program := "ytphdbhneefmkcaa", sum := "1aa29b6a6b79e44d153647bd998e34abb9b5a09ad16d2fd7cdde7f4cf1fb6362", func := "headgate/headgatelaw15.AggAdds", spec := "aggAdds", inPlace := ["internal/bytealg.abigen_runtime_cmpstring", "math/bits.Add64"], unfollowed := true, recurses := true, apart := false, narrowed := true }
def AggAddsUptoSaid : Prop := aggAddsUptoRow.holds Try.pinned (OpenSpec.upto aggAddsSpec)

/-- 'headgatelaw15.AggBoth', WHERE WHAT IT READS IS OF BULK AT MOST 1048576: true; the input reads as it did. -/
def aggBothUptoRow : OpenClaim := { program := "ytphdbhneefmkcaa", sum := "1aa29b6a6b79e44d153647bd998e34abb9b5a09ad16d2fd7cdde7f4cf1fb6362", func := "headgate/headgatelaw15.AggBoth", spec := "aggBoth", inPlace := ["internal/bytealg.abigen_runtime_cmpstring", "math/bits.Add64"], unfollowed := true, recurses := true, apart := false, narrowed := true }
def AggBothUptoSaid : Prop := aggBothUptoRow.holds Try.pinned (OpenSpec.upto aggBothSpec)

/-- 'headgatelaw15.AggFolds', WHERE WHAT IT READS IS OF BULK AT MOST 1048576: true; the input reads as it did. -/
def aggFoldsUptoRow : OpenClaim := { program := "ytphdbhneefmkcaa", sum := "1aa29b6a6b79e44d153647bd998e34abb9b5a09ad16d2fd7cdde7f4cf1fb6362", func := "headgate/headgatelaw15.AggFolds", spec := "aggFolds", inPlace := ["internal/bytealg.abigen_runtime_cmpstring", "math/bits.Add64"], unfollowed := true, recurses := true, apart := false, narrowed := true }
def AggFoldsUptoSaid : Prop := aggFoldsUptoRow.holds Try.pinned (OpenSpec.upto aggFoldsSpec)

/-- 'headgatelaw15.AggOrders', WHERE WHAT IT READS IS OF BULK AT MOST 1048576: true; the input reads as it did. -/
def aggOrdersUptoRow : OpenClaim := { program := "ytphdbhneefmkcaa", sum := "1aa29b6a6b79e44d153647bd998e34abb9b5a09ad16d2fd7cdde7f4cf1fb6362", func := "headgate/headgatelaw15.AggOrders", spec := "aggOrders", inPlace := ["internal/bytealg.abigen_runtime_cmpstring", "math/bits.Add64"], unfollowed := true, recurses := true, apart := false, narrowed := true }
def AggOrdersUptoSaid : Prop := aggOrdersUptoRow.holds Try.pinned (OpenSpec.upto aggOrdersSpec)

/-- 'headgatelaw15.AggKinds', WHERE WHAT IT READS IS OF BULK AT MOST 1048576: true; the input reads as it did. -/
def aggKindsUptoRow : OpenClaim := { program := "ytphdbhneefmkcaa", sum := "1aa29b6a6b79e44d153647bd998e34abb9b5a09ad16d2fd7cdde7f4cf1fb6362", func := "headgate/headgatelaw15.AggKinds", spec := "aggKinds", inPlace := ["internal/bytealg.abigen_runtime_cmpstring", "math/bits.Add64"], unfollowed := true, recurses := true, apart := false, narrowed := true }
def AggKindsUptoSaid : Prop := aggKindsUptoRow.holds Try.pinned (OpenSpec.upto aggKindsSpec)

/-- 'headgatelaw15.AggPacks', WHERE WHAT IT READS IS OF BULK AT MOST 1048576: true; the input reads as it did. -/
def aggPacksUptoRow : OpenClaim := { program := "ytphdbhneefmkcaa", sum := "1aa29b6a6b79e44d153647bd998e34abb9b5a09ad16d2fd7cdde7f4cf1fb6362", func := "headgate/headgatelaw15.AggPacks", spec := "aggPacks", inPlace := ["internal/bytealg.abigen_runtime_cmpstring", "math/bits.Add64"], unfollowed := true, recurses := true, apart := false, narrowed := true }
def AggPacksUptoSaid : Prop := aggPacksUptoRow.holds Try.pinned (OpenSpec.upto aggPacksSpec)

end Rows
end Go.Proofs.Ytphdbhneefmkcaa
