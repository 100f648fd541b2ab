/-
  No cell of these rows narrows 'for every input' (looked for: loops, veiled, ifaces, maps, wideKeys, modest, calm, conditions, laid).
  DERIVED. THE GIVEN ROWS OF THIS SEAT. 4 by the template 'for every input the law returns true; each argument reads behind the call as it read before'; 0 by the template 'total and deterministic' (their statements: YtjmladgjpielmaaTotals.lean).
  GIVEN WITH THE SEED: the statements are not yours to turn. If you find one false, say at which input.
  Laid BY PROGRAM, IN A SANDBOX (cutbox-rows.mjs): the forced cells as the released guide's own fill.sh prints them over the translation 84cbb207a2dd89f3… (all of the seat's roots in one cut). By AI agents, Wed Nov 11 2026. No macro, syntax, notation, axiom, sorry.
-/
import Derived.Test.YtjmladgjpielmaaChecked
import GoSem.Claim
import GoSem.ClaimJoined
import GoSem.ClaimMapViews
import Derived.JoinedTies
import Derived.KernelRfl
namespace Go.Proofs.Ytjmladgjpielmaa
/- THE CELL 'sum', in the pinned program and in every row, IS THE sha256 OF THE DUMP (.gsa) THAT YtjmladgjpielmaaProg.lean LOADS. Nothing in Lean hashes anything: it is a label: what it is worth is what the hold of that sum in a sandbox is worth. -/
noncomputable def Try.pinned : Pinned := { name := "ytjmladgjpielmaa", sum := "84cbb207a2dd89f3beef0322eeb00606a48d3644de28576368d43dc2bb1cb17a", checked := Try.checked }
namespace Rows
def none {H : Type} : Left H := { results := [], args := [] }

/-- 'headgatelaw14.WindowOf': WHATEVER THE INPUT: true; the input reads as it did. -/
def windowOfSpec : ChangeSpec := { name := "windowOf", fn := fun _ => fun
  | [d1, d2, d3] => { results := [.lit (.bool true)], args := [d1, d2, d3] }
  | _ => none }
def windowOfRow : OpenClaim := { program := "ytjmladgjpielmaa", sum := "84cbb207a2dd89f3beef0322eeb00606a48d3644de28576368d43dc2bb1cb17a", func := "headgate/headgatelaw14.WindowOf", spec := "windowOf", unfollowed := true, recurses := true, apart := false }
def WindowOfSaid : Prop := windowOfRow.holds Try.pinned (OpenSpec.ofChange windowOfSpec)

/-- ITS FALSE NEIGHBOUR: 'it returns false'. Refute it at one input. -/
def windowOfWrong : ChangeSpec := { name := "windowOf", fn := fun _ => fun
  | [d1, d2, d3] => { results := [.lit (.bool false)], args := [d1, d2, d3] }
  | _ => none }
def WindowOfWrongFalsely : Prop := windowOfRow.holds Try.pinned (OpenSpec.ofChange windowOfWrong)

/-- 'headgatelaw14.WindowAll': WHATEVER THE INPUT: true; the input reads as it did. -/
def windowAllSpec : ChangeSpec := { name := "windowAll", fn := fun _ => fun
  | [d1, d2, d3, d4] => { results := [.lit (.bool true)], args := [d1, d2, d3, d4] }
  | _ => none }
def windowAllRow : OpenClaim := { program := "ytjmladgjpielmaa", sum := "84cbb207a2dd89f3beef0322eeb00606a48d3644de28576368d43dc2bb1cb17a", func := "headgate/headgatelaw14.WindowAll", spec := "windowAll", unfollowed := true, recurses := true, apart := false }
def WindowAllSaid : Prop := windowAllRow.holds Try.pinned (OpenSpec.ofChange windowAllSpec)

/-- ITS FALSE NEIGHBOUR: 'it returns false'. Refute it at one input. -/
def windowAllWrong : ChangeSpec := { name := "windowAll", fn := fun _ => fun
  | [d1, d2, d3, d4] => { results := [.lit (.bool false)], args := [d1, d2, d3, d4] }
  | _ => none }
def WindowAllWrongFalsely : Prop := windowAllRow.holds Try.pinned (OpenSpec.ofChange windowAllWrong)

/-- 'headgatelaw14.WindowShifts': WHATEVER THE INPUT: true; the input reads as it did. -/
def windowShiftsSpec : ChangeSpec := { name := "windowShifts", fn := fun _ => fun
  | [d1, d2, d3, d4] => { results := [.lit (.bool true)], args := [d1, d2, d3, d4] }
  | _ => none }
def windowShiftsRow : OpenClaim := { program := "ytjmladgjpielmaa", sum := "84cbb207a2dd89f3beef0322eeb00606a48d3644de28576368d43dc2bb1cb17a", func := "headgate/headgatelaw14.WindowShifts", spec := "windowShifts", unfollowed := true, recurses := true, apart := false }
def WindowShiftsSaid : Prop := windowShiftsRow.holds Try.pinned (OpenSpec.ofChange windowShiftsSpec)

/-- ITS FALSE NEIGHBOUR: 'it returns false'. Refute it at one input. -/
def windowShiftsWrong : ChangeSpec := { name := "windowShifts", fn := fun _ => fun
  | [d1, d2, d3, d4] => { results := [.lit (.bool false)], args := [d1, d2, d3, d4] }
  | _ => none }
def WindowShiftsWrongFalsely : Prop := windowShiftsRow.holds Try.pinned (OpenSpec.ofChange windowShiftsWrong)

/-- 'headgatelaw14.WindowHas': WHATEVER THE INPUT: true; the input reads as it did. -/
def windowHasSpec : ChangeSpec := { name := "windowHas", fn := fun _ => fun
  | [d1, d2, d3, d4] => { results := [.lit (.bool true)], args := [d1, d2, d3, d4] }
  | _ => none }
def windowHasRow : OpenClaim := { program := "ytjmladgjpielmaa", sum := "84cbb207a2dd89f3beef0322eeb00606a48d3644de28576368d43dc2bb1cb17a", func := "headgate/headgatelaw14.WindowHas", spec := "windowHas", unfollowed := true, recurses := true, apart := false }
def WindowHasSaid : Prop := windowHasRow.holds Try.pinned (OpenSpec.ofChange windowHasSpec)

/-- ITS FALSE NEIGHBOUR: 'it returns false'. Refute it at one input. -/
def windowHasWrong : ChangeSpec := { name := "windowHas", fn := fun _ => fun
  | [d1, d2, d3, d4] => { results := [.lit (.bool false)], args := [d1, d2, d3, d4] }
  | _ => none }
def WindowHasWrongFalsely : Prop := windowHasRow.holds Try.pinned (OpenSpec.ofChange windowHasWrong)

/- THE SECOND FORM. 'bulk': how many values and letters a reading holds, each counted each time it is reached (what is shared counts as often as it is met; a slice's spare places count too). A statement '..UptoSaid' is the law's where the arguments, and the package variables that the reading takes, are together of bulk at most 1048576: NARROWER than '..Said'. Prove '..Said' where nothing that the law and all that it calls make is longer than what came in: it says more and counts as full. Else prove '..UptoSaid'. A law counts once. -/
mutual
def uptoBulk {H : Type} : DataW H → Nat
  | .lit (.string bytes) => bytes.length + 1
  | .lit _ => 1
  | .nil => 1
  | .ptr d => uptoBulk d + 1
  | .slice elems spare => uptoBulkAll elems + uptoBulkAll spare + 1
  | .agg parts => uptoBulkAll parts + 1
  | .iface _ d => uptoBulk d + 1
  | .map entries => uptoBulkEntries entries + 1
  | .held _ => 1
def uptoBulkAll {H : Type} : List (DataW H) → Nat
  | [] => 0
  | d :: r => uptoBulk d + uptoBulkAll r
def uptoBulkEntries {H : Type} : List (Lit × DataW H) → Nat
  | [] => 0
  | x :: r => uptoBulkEntry x + uptoBulkEntries r
def uptoBulkEntry {H : Type} : Lit × DataW H → Nat
  | (.string bytes, d) => bytes.length + uptoBulk d + 1
  | (_, d) => uptoBulk d + 1
 end
def uptoSmall : (H : Type) → List (DataW H) → Bool := fun _ ds => decide (uptoBulkAll ds ≤ 1048576)
def OpenSpec.upto (s : _root_.Go.ChangeSpec) : _root_.Go.OpenSpec := { _root_.Go.OpenSpec.ofChange s with cond := some uptoSmall }

/-- 'headgatelaw14.WindowOf', WHERE WHAT IT READS IS OF BULK AT MOST 1048576: true; the input reads as it did. -/
def windowOfUptoRow : OpenClaim := { program := "ytjmladgjpielmaa", sum := "84cbb207a2dd89f3beef0322eeb00606a48d3644de28576368d43dc2bb1cb17a", func := "headgate/headgatelaw14.WindowOf", spec := "windowOf", unfollowed := true, recurses := true, apart := false, narrowed := true }
def WindowOfUptoSaid : Prop := windowOfUptoRow.holds Try.pinned (OpenSpec.upto windowOfSpec)

/-- 'headgatelaw14.WindowAll', WHERE WHAT IT READS IS OF BULK AT MOST 1048576: true; the input reads as it did. -/
def windowAllUptoRow : OpenClaim := { program := "ytjmladgjpielmaa", sum := "84cbb207a2dd89f3beef0322eeb00606a48d3644de28576368d43dc2bb1cb17a", func := "headgate/headgatelaw14.WindowAll", spec := "windowAll", unfollowed := true, recurses := true, apart := false, narrowed := true }
def WindowAllUptoSaid : Prop := windowAllUptoRow.holds Try.pinned (OpenSpec.upto windowAllSpec)

/-- 'headgatelaw14.WindowShifts', WHERE WHAT IT READS IS OF BULK AT MOST 1048576: true; the input reads as it did. -/
def windowShiftsUptoRow : OpenClaim := { program := "ytjmladgjpielmaa", sum := "84cbb207a2dd89f3beef0322eeb00606a48d3644de28576368d43dc2bb1cb17a", func := "headgate/headgatelaw14.WindowShifts", spec := "windowShifts", unfollowed := true, recurses := true, apart := false, narrowed := true }
def WindowShiftsUptoSaid : Prop := windowShiftsUptoRow.holds Try.pinned (OpenSpec.upto windowShiftsSpec)

/-- 'headgatelaw14.WindowHas', WHERE WHAT IT READS IS OF BULK AT MOST 1048576: true; the input reads as it did. -/
def windowHasUptoRow : OpenClaim := { program := "ytjmladgjpielmaa", sum := "84cbb207a2dd89f3beef0322eeb00606a48d3644de28576368d43dc2bb1cb17a", func := "headgate/headgatelaw14.WindowHas", spec := "windowHas", unfollowed := true, recurses := true, apart := false, narrowed := true }
def WindowHasUptoSaid : Prop := windowHasUptoRow.holds Try.pinned (OpenSpec.upto windowHasSpec)

end Rows
end Go.Proofs.Ytjmladgjpielmaa
