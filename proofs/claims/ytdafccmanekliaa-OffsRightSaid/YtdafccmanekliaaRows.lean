/-
  No cell of these rows narrows 'for every input' (looked for: loops, veiled, ifaces, maps, wideKeys, modest, calm, conditions, laid).
  DERIVED. THE GIVEN ROWS OF THIS SEAT. 4 by the template 'for every input the law returns true; each argument reads behind the call as it read before'; 0 by the template 'total and deterministic' (their statements: YtdafccmanekliaaTotals.lean).
  GIVEN WITH THE SEED: the statements are not yours to turn. If you find one false, say at which input.
  Laid BY PROGRAM, IN A SANDBOX (cutbox-rows.mjs): the forced cells as the released guide's own fill.sh prints them over the translation 3fb3ce7b9001b6df… (all of the seat's roots in one cut). By AI agents, Wed Nov 11 2026. No macro, syntax, notation, axiom, sorry.
-/
import Derived.Test.YtdafccmanekliaaChecked
import GoSem.Claim
import GoSem.ClaimJoined
import GoSem.ClaimMapViews
import Derived.JoinedTies
import Derived.KernelRfl
namespace Go.Proofs.Ytdafccmanekliaa
/- THE CELL 'sum', in the pinned program and in every row, IS THE sha256 OF THE DUMP (.gsa) THAT YtdafccmanekliaaProg.lean LOADS. Nothing in Lean hashes anything: it is a label: what it is worth is what the hold of that sum in a sandbox is worth. -/
noncomputable def Try.pinned : Pinned := { name := "ytdafccmanekliaa", sum := "3fb3ce7b9001b6df27131b93d6942f36aca4047271ee824588181c006787f24e", checked := Try.checked }
namespace Rows
def none {H : Type} : Left H := { results := [], args := [] }

/-- 'headgatelaw08.OffsFollows': WHATEVER THE INPUT: true; the input reads as it did. -/
def offsFollowsSpec : ChangeSpec := { name := "offsFollows", fn := fun _ => fun
  | [d] => { results := [.lit (.bool true)], args := [d] }
  | _ => none }
def offsFollowsRow : OpenClaim := { program := "ytdafccmanekliaa", sum := "3fb3ce7b9001b6df27131b93d6942f36aca4047271ee824588181c006787f24e", func := "headgate/headgatelaw08.OffsFollows", spec := "offsFollows", unfollowed := true, recurses := true, apart := false }
def OffsFollowsSaid : Prop := offsFollowsRow.holds Try.pinned (OpenSpec.ofChange offsFollowsSpec)

/-- ITS FALSE NEIGHBOUR: 'it returns false'. Refute it at one input. -/
def offsFollowsWrong : ChangeSpec := { name := "offsFollows", fn := fun _ => fun
  | [d] => { results := [.lit (.bool false)], args := [d] }
  | _ => none }
def OffsFollowsWrongFalsely : Prop := offsFollowsRow.holds Try.pinned (OpenSpec.ofChange offsFollowsWrong)

/-- 'headgatelaw08.OffsOnce': WHATEVER THE INPUT: true; the input reads as it did. -/
def offsOnceSpec : ChangeSpec := { name := "offsOnce", fn := fun _ => fun
  | [d] => { results := [.lit (.bool true)], args := [d] }
  | _ => none }
def offsOnceRow : OpenClaim := { program := "ytdafccmanekliaa", sum := "3fb3ce7b9001b6df27131b93d6942f36aca4047271ee824588181c006787f24e", func := "headgate/headgatelaw08.OffsOnce", spec := "offsOnce", unfollowed := true, recurses := true, apart := false }
def OffsOnceSaid : Prop := offsOnceRow.holds Try.pinned (OpenSpec.ofChange offsOnceSpec)

/-- ITS FALSE NEIGHBOUR: 'it returns false'. Refute it at one input. -/
def offsOnceWrong : ChangeSpec := { name := "offsOnce", fn := fun _ => fun
  | [d] => { results := [.lit (.bool false)], args := [d] }
  | _ => none }
def OffsOnceWrongFalsely : Prop := offsOnceRow.holds Try.pinned (OpenSpec.ofChange offsOnceWrong)

/-- 'headgatelaw08.OffsRight': WHATEVER THE INPUT: true; the input reads as it did. -/
def offsRightSpec : ChangeSpec := { name := "offsRight", fn := fun _ => fun
  | [d1, d2] => { results := [.lit (.bool true)], args := [d1, d2] }
  | _ => none }
def offsRightRow : OpenClaim := { program := "ytdafccmanekliaa", sum := "3fb3ce7b9001b6df27131b93d6942f36aca4047271ee824588181c006787f24e", func := "headgate/headgatelaw08.OffsRight", spec := "offsRight", unfollowed := true, recurses := true, apart := false }
def OffsRightSaid : Prop := offsRightRow.holds Try.pinned (OpenSpec.ofChange offsRightSpec)

/-- ITS FALSE NEIGHBOUR: 'it returns false'. Refute it at one input. -/
def offsRightWrong : ChangeSpec := { name := "offsRight", fn := fun _ => fun
  | [d1, d2] => { results := [.lit (.bool false)], args := [d1, d2] }
  | _ => none }
def OffsRightWrongFalsely : Prop := offsRightRow.holds Try.pinned (OpenSpec.ofChange offsRightWrong)

/-- 'headgatelaw08.OffsPacks': WHATEVER THE INPUT: true; the input reads as it did. -/
def offsPacksSpec : ChangeSpec := { name := "offsPacks", fn := fun _ => fun
  | [d1, d2] => { results := [.lit (.bool true)], args := [d1, d2] }
  | _ => none }
def offsPacksRow : OpenClaim := { program := "ytdafccmanekliaa", sum := "3fb3ce7b9001b6df27131b93d6942f36aca4047271ee824588181c006787f24e", func := "headgate/headgatelaw08.OffsPacks", spec := "offsPacks", unfollowed := true, recurses := true, apart := false }
def OffsPacksSaid : Prop := offsPacksRow.holds Try.pinned (OpenSpec.ofChange offsPacksSpec)

/-- ITS FALSE NEIGHBOUR: 'it returns false'. Refute it at one input. -/
def offsPacksWrong : ChangeSpec := { name := "offsPacks", fn := fun _ => fun
  | [d1, d2] => { results := [.lit (.bool false)], args := [d1, d2] }
  | _ => none }
def OffsPacksWrongFalsely : Prop := offsPacksRow.holds Try.pinned (OpenSpec.ofChange offsPacksWrong)

/- THE SECOND FORM. 'bulk': how many values and letters a reading holds, each counted each time it is reached (what is shared counts as often as it is met; a slice's spare places count too). A statement '..UptoSaid' is the law's where the arguments, and the package variables that the reading takes, are together of bulk at most 1048576: NARROWER than '..Said'. Prove '..Said' where nothing that the law and all that it calls make is longer than what came in: it says more and counts as full. Else prove '..UptoSaid'. A law counts once. -/
mutual
def uptoBulk {H : Type} : DataW H → Nat
  | .lit (.string bytes) => bytes.length + 1
  | .lit _ => 1
  | .nil => 1
  | .ptr d => uptoBulk d + 1
  | .slice elems spare => uptoBulkAll elems + uptoBulkAll spare + 1
  | .agg parts => uptoBulkAll parts + 1
  | .iface _ d => uptoBulk d + 1
  | .map entries => uptoBulkEntries entries + 1
  | .held _ => 1
def uptoBulkAll {H : Type} : List (DataW H) → Nat
  | [] => 0
  | d :: r => uptoBulk d + uptoBulkAll r
def uptoBulkEntries {H : Type} : List (Lit × DataW H) → Nat
  | [] => 0
  | x :: r => uptoBulkEntry x + uptoBulkEntries r
def uptoBulkEntry {H : Type} : Lit × DataW H → Nat
  | (.string bytes, d) => bytes.length + uptoBulk d + 1
  | (_, d) => uptoBulk d + 1
 end
def uptoSmall : (H : Type) → List (DataW H) → Bool := fun _ ds => decide (uptoBulkAll ds ≤ 1048576)
def OpenSpec.upto (s : _root_.Go.ChangeSpec) : _root_.Go.OpenSpec := { _root_.Go.OpenSpec.ofChange s with cond := some uptoSmall }

/-- 'headgatelaw08.OffsFollows', WHERE WHAT IT READS IS OF BULK AT MOST 1048576: true; the input reads as it did. -/
def offsFollowsUptoRow : OpenClaim := { program := "ytdafccmanekliaa", sum := "3fb3ce7b9001b6df27131b93d6942f36aca4047271ee824588181c006787f24e", func := "headgate/headgatelaw08.OffsFollows", spec := "offsFollows", unfollowed := true, recurses := true, apart := false, narrowed := true }
def OffsFollowsUptoSaid : Prop := offsFollowsUptoRow.holds Try.pinned (OpenSpec.upto offsFollowsSpec)

/-- 'headgatelaw08.OffsOnce', WHERE WHAT IT READS IS OF BULK AT MOST 1048576: true; the input reads as it did. -/
def offsOnceUptoRow : OpenClaim := { program := "ytdafccmanekliaa", sum := "3fb3ce7b9001b6df27131b93d6942f36aca4047271ee824588181c006787f24e", func := "headgate/headgatelaw08.OffsOnce", spec := "offsOnce", unfollowed := true, recurses := true, apart := false, narrowed := true }
def OffsOnceUptoSaid : Prop := offsOnceUptoRow.holds Try.pinned (OpenSpec.upto offsOnceSpec)

/-- 'headgatelaw08.OffsRight', WHERE WHAT IT READS IS OF BULK AT MOST 1048576: true; the input reads as it did. -/
def offsRightUptoRow : OpenClaim := { program := "ytdafccmanekliaa", sum := "3fb3ce7b9001b6df27131b93d6942f36aca4047271ee824588181c006787f24e", func := "headgate/headgatelaw08.OffsRight", spec := "offsRight", unfollowed := true, recurses := true, apart := false, narrowed := true }
def OffsRightUptoSaid : Prop := offsRightUptoRow.holds Try.pinned (OpenSpec.upto offsRightSpec)

/-- 'headgatelaw08.OffsPacks', WHERE WHAT IT READS IS OF BULK AT MOST 1048576: true; the input reads as it did. -/
def offsPacksUptoRow : OpenClaim := { program := "ytdafccmanekliaa", sum := "3fb3ce7b9001b6df27131b93d6942f36aca4047271ee824588181c006787f24e", func := "headgate/headgatelaw08.OffsPacks", spec := "offsPacks", unfollowed := true, recurses := true, apart := false, narrowed := true }
def OffsPacksUptoSaid : Prop := offsPacksUptoRow.holds Try.pinned (OpenSpec.upto offsPacksSpec)

end Rows
end Go.Proofs.Ytdafccmanekliaa
