/-
  No cell of these rows narrows 'for every input' (looked for: loops, veiled, ifaces, maps, wideKeys, modest, calm, conditions, laid).
  DERIVED. THE GIVEN ROWS OF THIS SEAT. 9 by the template 'for every input the law returns true; each argument reads behind the call as it read before'; 0 by the template 'total and deterministic' (their statements: YtgihecpobichbaaTotals.lean).
  GIVEN WITH THE SEED: the statements are not yours to turn. If you find one false, say at which input.
  Laid BY PROGRAM, IN A SANDBOX (cutbox-rows.mjs): the forced cells as the released guide's own fill.sh prints them over the translation 8f6503aee32b20df… (all of the seat's roots in one cut). By AI agents, Wed Nov 11 2026. No macro, syntax, notation, axiom, sorry.
-/
import Derived.Test.YtgihecpobichbaaChecked
import GoSem.Claim
import GoSem.ClaimJoined
import GoSem.ClaimMapViews
import Derived.JoinedTies
import Derived.KernelRfl
namespace Go.Proofs.Ytgihecpobichbaa
/- THE CELL 'sum', in the pinned program and in every row, IS THE sha256 OF THE DUMP (.gsa) THAT YtgihecpobichbaaProg.lean LOADS. Nothing in Lean hashes anything: it is a label: what it is worth is what the hold of that sum in a sandbox is worth. -/
noncomputable def Try.pinned : Pinned := { name := "ytgihecpobichbaa", sum := "8f6503aee32b20dfcfae8510a60fecc6c455225eaaf7cc56056e95da8db2324b", checked := Try.checked }
namespace Rows
def none {H : Type} : Left H := { results := [], args := [] }

/-- 'headgatelaw04.CodeNums': WHATEVER THE INPUT: true; the input reads as it did. -/
def codeNumsSpec : ChangeSpec := { name := "codeNums", fn := fun _ => fun
  | [d1, d2] => { results := [.lit (.bool true)], args := [d1, d2] }
  | _ => none }
def codeNumsRow : OpenClaim := { program := "ytgihecpobichbaa", sum := "8f6503aee32b20dfcfae8510a60fecc6c455225eaaf7cc56056e95da8db2324b", func := "headgate/headgatelaw04.CodeNums", spec := "codeNums", unfollowed := true, recurses := true, apart := false }
def CodeNumsSaid : Prop := codeNumsRow.holds Try.pinned (OpenSpec.ofChange codeNumsSpec)

/-- ITS FALSE NEIGHBOUR: 'it returns false'. Refute it at one input. -/
def codeNumsWrong : ChangeSpec := { name := "codeNums", fn := fun _ => fun
  | [d1, d2] => { results := [.lit (.bool false)], args := [d1, d2] }
  | _ => none }
def CodeNumsWrongFalsely : Prop := codeNumsRow.holds Try.pinned (OpenSpec.ofChange codeNumsWrong)

/-- 'headgatelaw04.CodeLists': WHATEVER THE INPUT: true; the input reads as it did. -/
def codeListsSpec : ChangeSpec := { name := "codeLists", fn := fun _ => fun
  | [d] => { results := [.lit (.bool true)], args := [d] }
  | _ => none }
def codeListsRow : OpenClaim := { program := "ytgihecpobichbaa", sum := "8f6503aee32b20dfcfae8510a60fecc6c455225eaaf7cc56056e95da8db2324b", func := "headgate/headgatelaw04.CodeLists", spec := "codeLists", unfollowed := true, recurses := true, apart := false }
def CodeListsSaid : Prop := codeListsRow.holds Try.pinned (OpenSpec.ofChange codeListsSpec)

/-- ITS FALSE NEIGHBOUR: 'it returns false'. Refute it at one input. -/
def codeListsWrong : ChangeSpec := { name := "codeLists", fn := fun _ => fun
  | [d] => { results := [.lit (.bool false)], args := [d] }
  | _ => none }
def CodeListsWrongFalsely : Prop := codeListsRow.holds Try.pinned (OpenSpec.ofChange codeListsWrong)

/-- 'headgatelaw04.CodeTells': WHATEVER THE INPUT: true; the input reads as it did. -/
def codeTellsSpec : ChangeSpec := { name := "codeTells", fn := fun _ => fun
  | [d1, d2, d3, d4] => { results := [.lit (.bool true)], args := [d1, d2, d3, d4] }
  | _ => none }
def codeTellsRow : OpenClaim := { program := "ytgihecpobichbaa", sum := "8f6503aee32b20dfcfae8510a60fecc6c455225eaaf7cc56056e95da8db2324b", func := "headgate/headgatelaw04.CodeTells", spec := "codeTells", unfollowed := true, recurses := true, apart := false }
def CodeTellsSaid : Prop := codeTellsRow.holds Try.pinned (OpenSpec.ofChange codeTellsSpec)

/-- ITS FALSE NEIGHBOUR: 'it returns false'. Refute it at one input. -/
def codeTellsWrong : ChangeSpec := { name := "codeTells", fn := fun _ => fun
  | [d1, d2, d3, d4] => { results := [.lit (.bool false)], args := [d1, d2, d3, d4] }
  | _ => none }
def CodeTellsWrongFalsely : Prop := codeTellsRow.holds Try.pinned (OpenSpec.ofChange codeTellsWrong)

/-- 'headgatelaw04.CodeReads': WHATEVER THE INPUT: true; the input reads as it did. -/
def codeReadsSpec : ChangeSpec := { name := "codeReads", fn := fun _ => fun
  | [d] => { results := [.lit (.bool true)], args := [d] }
  | _ => none }
def codeReadsRow : OpenClaim := { program := "ytgihecpobichbaa", sum := "8f6503aee32b20dfcfae8510a60fecc6c455225eaaf7cc56056e95da8db2324b", func := "headgate/headgatelaw04.CodeReads", spec := "codeReads", unfollowed := true, recurses := true, apart := false }
def CodeReadsSaid : Prop := codeReadsRow.holds Try.pinned (OpenSpec.ofChange codeReadsSpec)

/-- ITS FALSE NEIGHBOUR: 'it returns false'. Refute it at one input. -/
def codeReadsWrong : ChangeSpec := { name := "codeReads", fn := fun _ => fun
  | [d] => { results := [.lit (.bool false)], args := [d] }
  | _ => none }
def CodeReadsWrongFalsely : Prop := codeReadsRow.holds Try.pinned (OpenSpec.ofChange codeReadsWrong)

/-- 'headgatelaw04.CodeBack': WHATEVER THE INPUT: true; the input reads as it did. -/
def codeBackSpec : ChangeSpec := { name := "codeBack", fn := fun _ => fun
  | [d1, d2, d3] => { results := [.lit (.bool true)], args := [d1, d2, d3] }
  | _ => none }
def codeBackRow : OpenClaim := { program := "ytgihecpobichbaa", sum := "8f6503aee32b20dfcfae8510a60fecc6c455225eaaf7cc56056e95da8db2324b", func := "headgate/headgatelaw04.CodeBack", spec := "codeBack", unfollowed := true, recurses := true, apart := false }
def CodeBackSaid : Prop := codeBackRow.holds Try.pinned (OpenSpec.ofChange codeBackSpec)

/-- ITS FALSE NEIGHBOUR: 'it returns false'. Refute it at one input. -/
def codeBackWrong : ChangeSpec := { name := "codeBack", fn := fun _ => fun
  | [d1, d2, d3] => { results := [.lit (.bool false)], args := [d1, d2, d3] }
  | _ => none }
def CodeBackWrongFalsely : Prop := codeBackRow.holds Try.pinned (OpenSpec.ofChange codeBackWrong)

/-- 'headgatelaw04.CodeOnly': WHATEVER THE INPUT: true; the input reads as it did. -/
def codeOnlySpec : ChangeSpec := { name := "codeOnly", fn := fun _ => fun
  | [d] => { results := [.lit (.bool true)], args := [d] }
  | _ => none }
def codeOnlyRow : OpenClaim := { program := "ytgihecpobichbaa", sum := "8f6503aee32b20dfcfae8510a60fecc6c455225eaaf7cc56056e95da8db2324b", func := "headgate/headgatelaw04.CodeOnly", spec := "codeOnly", unfollowed := true, recurses := true, apart := false }
def CodeOnlySaid : Prop := codeOnlyRow.holds Try.pinned (OpenSpec.ofChange codeOnlySpec)

/-- ITS FALSE NEIGHBOUR: 'it returns false'. Refute it at one input. -/
def codeOnlyWrong : ChangeSpec := { name := "codeOnly", fn := fun _ => fun
  | [d] => { results := [.lit (.bool false)], args := [d] }
  | _ => none }
def CodeOnlyWrongFalsely : Prop := codeOnlyRow.holds Try.pinned (OpenSpec.ofChange codeOnlyWrong)

/-- 'headgatelaw08.OffsOnce': WHATEVER THE INPUT: true; the input reads as it did. -/
def offsOnceSpec : ChangeSpec := { name := "offsOnce", fn := fun _ => fun
  | [d] => { results := [.lit (.bool true)], args := [d] }
  | _ => none }
def offsOnceRow : OpenClaim := { program := "ytgihecpobichbaa", sum := "8f6503aee32b20dfcfae8510a60fecc6c455225eaaf7cc56056e95da8db2324b", func := "headgate/headgatelaw08.OffsOnce", spec := "offsOnce", unfollowed := true, recurses := true, apart := false }
def OffsOnceSaid : Prop := offsOnceRow.holds Try.pinned (OpenSpec.ofChange offsOnceSpec)

/-- ITS FALSE NEIGHBOUR: 'it returns false'. Refute it at one input. -/
def offsOnceWrong : ChangeSpec := { name := "offsOnce", fn := fun _ => fun
  | [d] => { results := [.lit (.bool false)], args := [d] }
  | _ => none }
def OffsOnceWrongFalsely : Prop := offsOnceRow.holds Try.pinned (OpenSpec.ofChange offsOnceWrong)

/-- 'headgatelaw08.OffsPacks': WHATEVER THE INPUT: true; the input reads as it did. -/
def offsPacksSpec : ChangeSpec := { name := "offsPacks", fn := fun _ => fun
  | [d1, d2] => { results := [.lit (.bool true)], args := [d1, d2] }
  | _ => none }
def offsPacksRow : OpenClaim := { program := "ytgihecpobichbaa", sum := "8f6503aee32b20dfcfae8510a60fecc6c455225eaaf7cc56056e95da8db2324b", func := "headgate/headgatelaw08.OffsPacks", spec := "offsPacks", unfollowed := true, recurses := true, apart := false }
def OffsPacksSaid : Prop := offsPacksRow.holds Try.pinned (OpenSpec.ofChange offsPacksSpec)

/-- ITS FALSE NEIGHBOUR: 'it returns false'. Refute it at one input. -/
def offsPacksWrong : ChangeSpec := { name := "offsPacks", fn := fun _ => fun
  | [d1, d2] => { results := [.lit (.bool false)], args := [d1, d2] }
  | _ => none }
def OffsPacksWrongFalsely : Prop := offsPacksRow.holds Try.pinned (OpenSpec.ofChange offsPacksWrong)

/-- 'headgatelaw19.MarkPacks': WHATEVER THE INPUT: true; the input reads as it did. -/
def markPacksSpec : ChangeSpec := { name := "markPacks", fn := fun _ => fun
  | [d1, d2, d3] => { results := [.lit (.bool true)], args := [d1, d2, d3] }
  | _ => none }
def markPacksRow : OpenClaim := { program := "ytgihecpobichbaa", sum := "8f6503aee32b20dfcfae8510a60fecc6c455225eaaf7cc56056e95da8db2324b", func := "headgate/headgatelaw19.MarkPacks", spec := "markPacks", unfollowed := true, recurses := true, apart := false }
def MarkPacksSaid : Prop := markPacksRow.holds Try.pinned (OpenSpec.ofChange markPacksSpec)

/-- ITS FALSE NEIGHBOUR: 'it returns false'. Refute it at one input. -/
def markPacksWrong : ChangeSpec := { name := "markPacks", fn := fun _ => fun
  | [d1, d2, d3] => { results := [.lit (.bool false)], args := [d1, d2, d3] }
  | _ => none }
def MarkPacksWrongFalsely : Prop := markPacksRow.holds Try.pinned (OpenSpec.ofChange markPacksWrong)

/- THE SECOND FORM. 'bulk': how many values and letters a reading holds, each counted each time it is reached (what is shared counts as often as it is met; a slice's spare places count too). A statement '..UptoSaid' is the law's where the arguments, and the package variables that the reading takes, are together of bulk at most 1048576: NARROWER than '..Said'. Prove '..Said' where nothing that the law and all that it calls make is longer than what came in: it says more and counts as full. Else prove '..UptoSaid'. A law counts once. -/
mutual
def uptoBulk {H : Type} : DataW H → Nat
  | .lit (.string bytes) => bytes.length + 1
  | .lit _ => 1
  | .nil => 1
  | .ptr d => uptoBulk d + 1
  | .slice elems spare => uptoBulkAll elems + uptoBulkAll spare + 1
  | .agg parts => uptoBulkAll parts + 1
  | .iface _ d => uptoBulk d + 1
  | .map entries => uptoBulkEntries entries + 1
  | .held _ => 1
def uptoBulkAll {H : Type} : List (DataW H) → Nat
  | [] => 0
  | d :: r => uptoBulk d + uptoBulkAll r
def uptoBulkEntries {H : Type} : List (Lit × DataW H) → Nat
  | [] => 0
  | x :: r => uptoBulkEntry x + uptoBulkEntries r
def uptoBulkEntry {H : Type} : Lit × DataW H → Nat
  | (.string bytes, d) => bytes.length + uptoBulk d + 1
  | (_, d) => uptoBulk d + 1
 end
def uptoSmall : (H : Type) → List (DataW H) → Bool := fun _ ds => decide (uptoBulkAll ds ≤ 1048576)
def OpenSpec.upto (s : _root_.Go.ChangeSpec) : _root_.Go.OpenSpec := { _root_.Go.OpenSpec.ofChange s with cond := some uptoSmall }

/-- 'headgatelaw04.CodeNums', WHERE WHAT IT READS IS OF BULK AT MOST 1048576: true; the input reads as it did. -/
def codeNumsUptoRow : OpenClaim := { program := "ytgihecpobichbaa", sum := "8f6503aee32b20dfcfae8510a60fecc6c455225eaaf7cc56056e95da8db2324b", func := "headgate/headgatelaw04.CodeNums", spec := "codeNums", unfollowed := true, recurses := true, apart := false, narrowed := true }
def CodeNumsUptoSaid : Prop := codeNumsUptoRow.holds Try.pinned (OpenSpec.upto codeNumsSpec)

/-- 'headgatelaw04.CodeLists', WHERE WHAT IT READS IS OF BULK AT MOST 1048576: true; the input reads as it did. -/
def codeListsUptoRow : OpenClaim := { program := "ytgihecpobichbaa", sum := "8f6503aee32b20dfcfae8510a60fecc6c455225eaaf7cc56056e95da8db2324b", func := "headgate/headgatelaw04.CodeLists", spec := "codeLists", unfollowed := true, recurses := true, apart := false, narrowed := true }
def CodeListsUptoSaid : Prop := codeListsUptoRow.holds Try.pinned (OpenSpec.upto codeListsSpec)

/-- 'headgatelaw04.CodeTells', WHERE WHAT IT READS IS OF BULK AT MOST 1048576: true; the input reads as it did. -/
def codeTellsUptoRow : OpenClaim := { program := "ytgihecpobichbaa", sum := "8f6503aee32b20dfcfae8510a60fecc6c455225eaaf7cc56056e95da8db2324b", func := "headgate/headgatelaw04.CodeTells", spec := "codeTells", unfollowed := true, recurses := true, apart := false, narrowed := true }
def CodeTellsUptoSaid : Prop := codeTellsUptoRow.holds Try.pinned (OpenSpec.upto codeTellsSpec)

/-- 'headgatelaw04.CodeReads', WHERE WHAT IT READS IS OF BULK AT MOST 1048576: true; the input reads as it did. -/
def codeReadsUptoRow : OpenClaim := { program := "ytgihecpobichbaa", sum := "8f6503aee32b20dfcfae8510a60fecc6c455225eaaf7cc56056e95da8db2324b", func := "headgate/headgatelaw04.CodeReads", spec := "codeReads", unfollowed := true, recurses := true, apart := false, narrowed := true }
def CodeReadsUptoSaid : Prop := codeReadsUptoRow.holds Try.pinned (OpenSpec.upto codeReadsSpec)

/-- 'headgatelaw04.CodeBack', WHERE WHAT IT READS IS OF BULK AT MOST 1048576: true; the input reads as it did. -/
def codeBackUptoRow : OpenClaim := { program := "ytgihecpobichbaa", sum := "8f6503aee32b20dfcfae8510a60fecc6c455225eaaf7cc56056e95da8db2324b", func := "headgate/headgatelaw04.CodeBack", spec := "codeBack", unfollowed := true, recurses := true, apart := false, narrowed := true }
def CodeBackUptoSaid : Prop := codeBackUptoRow.holds Try.pinned (OpenSpec.upto codeBackSpec)

/-- 'headgatelaw04.CodeOnly', WHERE WHAT IT READS IS OF BULK AT MOST 1048576: true; the input reads as it did. -/
def codeOnlyUptoRow : OpenClaim := { program := "ytgihecpobichbaa", sum := "8f6503aee32b20dfcfae8510a60fecc6c455225eaaf7cc56056e95da8db2324b", func := "headgate/headgatelaw04.CodeOnly", spec := "codeOnly", unfollowed := true, recurses := true, apart := false, narrowed := true }
def CodeOnlyUptoSaid : Prop := codeOnlyUptoRow.holds Try.pinned (OpenSpec.upto codeOnlySpec)

/-- 'headgatelaw08.OffsOnce', WHERE WHAT IT READS IS OF BULK AT MOST 1048576: true; the input reads as it did. -/
def offsOnceUptoRow : OpenClaim := { program := "ytgihecpobichbaa", sum := "8f6503aee32b20dfcfae8510a60fecc6c455225eaaf7cc56056e95da8db2324b", func := "headgate/headgatelaw08.OffsOnce", spec := "offsOnce", unfollowed := true, recurses := true, apart := false, narrowed := true }
def OffsOnceUptoSaid : Prop := offsOnceUptoRow.holds Try.pinned (OpenSpec.upto offsOnceSpec)

/-- 'headgatelaw08.OffsPacks', WHERE WHAT IT READS IS OF BULK AT MOST 1048576: true; the input reads as it did. -/
def offsPacksUptoRow : OpenClaim := { program := "ytgihecpobichbaa", sum := "8f6503aee32b20dfcfae8510a60fecc6c455225eaaf7cc56056e95da8db2324b", func := "headgate/headgatelaw08.OffsPacks", spec := "offsPacks", unfollowed := true, recurses := true, apart := false, narrowed := true }
def OffsPacksUptoSaid : Prop := offsPacksUptoRow.holds Try.pinned (OpenSpec.upto offsPacksSpec)

/-- 'headgatelaw19.MarkPacks', WHERE WHAT IT READS IS OF BULK AT MOST 1048576: true; the input reads as it did. -/
def markPacksUptoRow : OpenClaim := { program := "ytgihecpobichbaa", sum := "8f6503aee32b20dfcfae8510a60fecc6c455225eaaf7cc56056e95da8db2324b", func := "headgate/headgatelaw19.MarkPacks", spec := "markPacks", unfollowed := true, recurses := true, apart := false, narrowed := true }
def MarkPacksUptoSaid : Prop := markPacksUptoRow.holds Try.pinned (OpenSpec.upto markPacksSpec)

end Rows
end Go.Proofs.Ytgihecpobichbaa
