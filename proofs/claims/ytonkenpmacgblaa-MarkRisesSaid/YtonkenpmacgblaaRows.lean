/-
  No cell of these rows narrows 'for every input' (looked for: loops, veiled, ifaces, maps, wideKeys, modest, calm, conditions, laid).
  DERIVED. THE GIVEN ROWS OF THIS SEAT. 4 by the template 'for every input the law returns true; each argument reads behind the call as it read before'; 0 by the template 'total and deterministic' (their statements: YtonkenpmacgblaaTotals.lean).
  GIVEN WITH THE SEED: the statements are not yours to turn. If you find one false, say at which input.
  Laid BY PROGRAM, IN A SANDBOX (cutbox-rows.mjs): the forced cells as the released guide's own fill.sh prints them over the translation 0970e1dff1cb287a… (all of the seat's roots in one cut). By AI agents, Wed Nov 11 2026. No macro, syntax, notation, axiom, sorry.
-/
import Derived.Test.YtonkenpmacgblaaChecked
import GoSem.Claim
import GoSem.ClaimJoined
import GoSem.ClaimMapViews
import Derived.JoinedTies
import Derived.KernelRfl
namespace Go.Proofs.Ytonkenpmacgblaa
/- THE CELL 'sum', in the pinned program and in every row, IS THE sha256 OF THE DUMP (.gsa) THAT YtonkenpmacgblaaProg.lean LOADS. Nothing in Lean hashes anything: it is a label: what it is worth is what the hold of that sum in a sandbox is worth. -/
noncomputable def Try.pinned : Pinned := { name := "ytonkenpmacgblaa", sum := "0970e1dff1cb287a95c6cd6f3251c93596e60a032d0924c5f0cc91087f979466", checked := Try.checked }
namespace Rows
def none {H : Type} : Left H := { results := [], args := [] }

/-- 'headgatelaw19.MarkSees': WHATEVER THE INPUT: true; the input reads as it did. -/
def markSeesSpec : ChangeSpec := { name := "markSees", fn := fun _ => fun
  | [d1, d2, d3] => { results := [.lit (.bool true)], args := [d1, d2, d3] }
  | _ => none }
def markSeesRow : OpenClaim := { program := "ytonkenpmacgblaa", sum := "0970e1dff1cb287a95c6cd6f3251c93596e60a032d0924c5f0cc91087f979466", func := "headgate/headgatelaw19.MarkSees", spec := "markSees", apart := false }
def MarkSeesSaid : Prop := markSeesRow.holds Try.pinned (OpenSpec.ofChange markSeesSpec)

/-- ITS FALSE NEIGHBOUR: 'it returns false'. Refute it at one input. -/
def markSeesWrong : ChangeSpec := { name := "markSees", fn := fun _ => fun
  | [d1, d2, d3] => { results := [.lit (.bool false)], args := [d1, d2, d3] }
  | _ => none }
def MarkSeesWrongFalsely : Prop := markSeesRow.holds Try.pinned (OpenSpec.ofChange markSeesWrong)

/-- 'headgatelaw19.MarkRises': WHATEVER THE INPUT: true; the input reads as it did. -/
def markRisesSpec : ChangeSpec := { name := "markRises", fn := fun _ => fun
  | [d1, d2] => { results := [.lit (.bool true)], args := [d1, d2] }
  | _ => none }
def markRisesRow : OpenClaim := { program := "ytonkenpmacgblaa", sum := "0970e1dff1cb287a95c6cd6f3251c93596e60a032d0924c5f0cc91087f979466", func := "headgate/headgatelaw19.MarkRises", spec := "markRises", apart := false }
def MarkRisesSaid : Prop := markRisesRow.holds Try.pinned (OpenSpec.ofChange markRisesSpec)

/-- ITS FALSE NEIGHBOUR: 'it returns false'. Refute it at one input. -/
def markRisesWrong : ChangeSpec := { name := "markRises", fn := fun _ => fun
  | [d1, d2] => { results := [.lit (.bool false)], args := [d1, d2] }
  | _ => none }
def MarkRisesWrongFalsely : Prop := markRisesRow.holds Try.pinned (OpenSpec.ofChange markRisesWrong)

/-- 'headgatelaw19.MarkMerges': WHATEVER THE INPUT: true; the input reads as it did. -/
def markMergesSpec : ChangeSpec := { name := "markMerges", fn := fun _ => fun
  | [d1, d2] => { results := [.lit (.bool true)], args := [d1, d2] }
  | _ => none }
def markMergesRow : OpenClaim := { program := "ytonkenpmacgblaa", sum := "0970e1dff1cb287a95c6cd6f3251c93596e60a032d0924c5f0cc91087f979466", func := "headgate/headgatelaw19.MarkMerges", spec := "markMerges", apart := false }
def MarkMergesSaid : Prop := markMergesRow.holds Try.pinned (OpenSpec.ofChange markMergesSpec)

/-- ITS FALSE NEIGHBOUR: 'it returns false'. Refute it at one input. -/
def markMergesWrong : ChangeSpec := { name := "markMerges", fn := fun _ => fun
  | [d1, d2] => { results := [.lit (.bool false)], args := [d1, d2] }
  | _ => none }
def MarkMergesWrongFalsely : Prop := markMergesRow.holds Try.pinned (OpenSpec.ofChange markMergesWrong)

/-- 'headgatelaw19.MarkPacks': WHATEVER THE INPUT: true; the input reads as it did. -/
def markPacksSpec : ChangeSpec := { name := "markPacks", fn := fun _ => fun
  | [d1, d2, d3] => { results := [.lit (.bool true)], args := [d1, d2, d3] }
  | _ => none }
def markPacksRow : OpenClaim := { program := "ytonkenpmacgblaa", sum := "0970e1dff1cb287a95c6cd6f3251c93596e60a032d0924c5f0cc91087f979466", func := "headgate/headgatelaw19.MarkPacks", spec := "markPacks", unfollowed := true, recurses := true, apart := false }
def MarkPacksSaid : Prop := markPacksRow.holds Try.pinned (OpenSpec.ofChange markPacksSpec)

/-- ITS FALSE NEIGHBOUR: 'it returns false'. Refute it at one input. -/
def markPacksWrong : ChangeSpec := { name := "markPacks", fn := fun _ => fun
  | [d1, d2, d3] => { results := [.lit (.bool false)], args := [d1, d2, d3] }
  | _ => none }
def MarkPacksWrongFalsely : Prop := markPacksRow.holds Try.pinned (OpenSpec.ofChange markPacksWrong)

/- THE SECOND FORM. 'bulk': how many values and letters a reading holds, each counted each time it is reached (what is shared counts as often as it is met; a slice's spare places count too). A statement '..UptoSaid' is the law's where the arguments, and the package variables that the reading takes, are together of bulk at most 1048576: NARROWER than '..Said'. Prove '..Said' where nothing that the law and all that it calls make is longer than what came in: it says more and counts as full. Else prove '..UptoSaid'. A law counts once. -/
mutual
def uptoBulk {H : Type} : DataW H → Nat
  | .lit (.string bytes) => bytes.length + 1
  | .lit _ => 1
  | .nil => 1
  | .ptr d => uptoBulk d + 1
  | .slice elems spare => uptoBulkAll elems + uptoBulkAll spare + 1
  | .agg parts => uptoBulkAll parts + 1
  | .iface _ d => uptoBulk d + 1
  | .map entries => uptoBulkEntries entries + 1
  | .held _ => 1
def uptoBulkAll {H : Type} : List (DataW H) → Nat
  | [] => 0
  | d :: r => uptoBulk d + uptoBulkAll r
def uptoBulkEntries {H : Type} : List (Lit × DataW H) → Nat
  | [] => 0
  | x :: r => uptoBulkEntry x + uptoBulkEntries r
def uptoBulkEntry {H : Type} : Lit × DataW H → Nat
  | (.string bytes, d) => bytes.length + uptoBulk d + 1
  | (_, d) => uptoBulk d + 1
 end
def uptoSmall : (H : Type) → List (DataW H) → Bool := fun _ ds => decide (uptoBulkAll ds ≤ 1048576)
def OpenSpec.upto (s : _root_.Go.ChangeSpec) : _root_.Go.OpenSpec := { _root_.Go.OpenSpec.ofChange s with cond := some uptoSmall }

/-- 'headgatelaw19.MarkSees', WHERE WHAT IT READS IS OF BULK AT MOST 1048576: true; the input reads as it did. -/
def markSeesUptoRow : OpenClaim := { program := "ytonkenpmacgblaa", sum := "0970e1dff1cb287a95c6cd6f3251c93596e60a032d0924c5f0cc91087f979466", func := "headgate/headgatelaw19.MarkSees", spec := "markSees", apart := false, narrowed := true }
def MarkSeesUptoSaid : Prop := markSeesUptoRow.holds Try.pinned (OpenSpec.upto markSeesSpec)

/-- 'headgatelaw19.MarkRises', WHERE WHAT IT READS IS OF BULK AT MOST 1048576: true; the input reads as it did. -/
def markRisesUptoRow : OpenClaim := { program := "ytonkenpmacgblaa", sum := "0970e1dff1cb287a95c6cd6f3251c93596e60a032d0924c5f0cc91087f979466", func := "headgate/headgatelaw19.MarkRises", spec := "markRises", apart := false, narrowed := true }
def MarkRisesUptoSaid : Prop := markRisesUptoRow.holds Try.pinned (OpenSpec.upto markRisesSpec)

/-- 'headgatelaw19.MarkMerges', WHERE WHAT IT READS IS OF BULK AT MOST 1048576: true; the input reads as it did. -/
def markMergesUptoRow : OpenClaim := { program := "ytonkenpmacgblaa", sum := "0970e1dff1cb287a95c6cd6f3251c93596e60a032d0924c5f0cc91087f979466", func := "headgate/headgatelaw19.MarkMerges", spec := "markMerges", apart := false, narrowed := true }
def MarkMergesUptoSaid : Prop := markMergesUptoRow.holds Try.pinned (OpenSpec.upto markMergesSpec)

/-- 'headgatelaw19.MarkPacks', WHERE WHAT IT READS IS OF BULK AT MOST 1048576: true; the input reads as it did. -/
def markPacksUptoRow : OpenClaim := { program := "ytonkenpmacgblaa", sum := "0970e1dff1cb287a95c6cd6f3251c93596e60a032d0924c5f0cc91087f979466", func := "headgate/headgatelaw19.MarkPacks", spec := "markPacks", unfollowed := true, recurses := true, apart := false, narrowed := true }
def MarkPacksUptoSaid : Prop := markPacksUptoRow.holds Try.pinned (OpenSpec.upto markPacksSpec)

end Rows
end Go.Proofs.Ytonkenpmacgblaa
