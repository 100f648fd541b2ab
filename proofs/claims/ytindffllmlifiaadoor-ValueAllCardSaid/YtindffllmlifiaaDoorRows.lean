/-
  NARROWER THAN 'FOR EVERY INPUT', by the rows' own cells (each row's printed sentence says how): ValueRight: laid · ValueKeys: laid · ValueAll: laid · ValueMade: laid · ValueOrder: laid · ValueSorts: laid · ValueBack: laid.
  DERIVED. THE GIVEN ROWS OF THIS SEAT. 7 by the template 'for every input the law returns true; each argument reads behind the call as it read before'; 0 by the template 'total and deterministic' (their statements: YtindffllmlifiaaDoorTotals.lean).
  GIVEN WITH THE SEED: the statements are not yours to turn. If you find one false, say at which input.
  Laid BY PROGRAM, IN A SANDBOX (cutbox-rows.mjs): the forced cells as the released guide's own fill.sh prints them over the translation 18c46cc6fd315dac… (all of the seat's roots in one cut). By AI agents, Wed Nov 11 2026. No macro, syntax, notation, axiom, sorry.
-/
import Derived.Test.YtindffllmlifiaaDoorChecked
import GoSem.PinnedTables
import GoSem.Claim
import GoSem.ClaimJoined
import GoSem.ClaimMapViews
import Derived.JoinedTies
import Derived.KernelRfl
namespace Go.Proofs.YtindffllmlifiaaDoor
/- THE CELL 'sum', in the pinned program and in every row, IS THE sha256 OF THE DUMP (.gsa) THAT YtindffllmlifiaaDoorProg.lean LOADS. Nothing in Lean hashes anything: it is a label: what it is worth is what the hold of that sum in a sandbox is worth. -/
noncomputable def Tryd.pinned : Pinned := { name := "ytindffllmlifiaadoor", sum := "18c46cc6fd315dac65b54873f7ef30cb073a7aa93929748ffec312331a4158ef", checked := Tryd.checked }
namespace Rows
def none {H : Type} : Left H := { results := [], args := [] }

/- WHAT THE LISTED PACKAGE-LEVEL VARIABLES READ AS WHEN THE CALL BEGINS. Each datum BY PROGRAM (the guide's laid-datum.mjs) off the statement by which the dump's own 'gosem.cut.vars' lays the variable. In a bare row this is a premise. The card (YtindffllmlifiaaDoorCards.lean) ties it to the program's text. -/
def laid_unicode_utf8_acceptRanges {H : Type} : DataW H := .agg [.agg [.lit (.int .u8 128), .lit (.int .u8 191)], .agg [.lit (.int .u8 160), .lit (.int .u8 191)], .agg [.lit (.int .u8 128), .lit (.int .u8 159)], .agg [.lit (.int .u8 144), .lit (.int .u8 191)], .agg [.lit (.int .u8 128), .lit (.int .u8 143)], .agg [.lit (.int .u8 0), .lit (.int .u8 0)], .agg [.lit (.int .u8 0), .lit (.int .u8 0)], .agg [.lit (.int .u8 0), .lit (.int .u8 0)], .agg [.lit (.int .u8 0), .lit (.int .u8 0)], .agg [.lit (.int .u8 0), .lit (.int .u8 0)], .agg [.lit (.int .u8 0), .lit (.int .u8 0)], .agg [.lit (.int .u8 0), .lit (.int .u8 0)], .agg [.lit (.int .u8 0), .lit (.int .u8 0)], .agg [.lit (.int .u8 0), .lit (.int .u8 0)], .agg [.lit (.int .u8 0), .lit (.int .u8 0)], .agg [.lit (.int .u8 0), .lit (.int .u8 0)]]
/-- One of Go's own tables, pinned by name: the form's constant. -/
def laid_unicode_utf8_first : DataW Unit := Go.Pinned.utf8First

/-- 'headgatelaw03.ValueRight': WHATEVER THE INPUT: true; the input reads as it did. -/
def valueRightSpec : ChangeSpec := { name := "valueRight", fn := fun _ => fun
  | [d1, d2] => { results := [.lit (.bool true)], args := [d1, d2] }
  | _ => none }
def valueRightRow : OpenClaim := { program := "ytindffllmlifiaadoor", sum := "18c46cc6fd315dac65b54873f7ef30cb073a7aa93929748ffec312331a4158ef", func := "headgate/headgatelaw03.ValueRight", spec := "valueRight", inPlace := ["internal/bytealg.CountString", "internal/bytealg.IndexByteString", "internal/bytealg.IndexString", "internal/abi.NoEscape", "internal/bytealg.MakeNoZero"], unfollowed := true, recurses := true, named := ["internal/bytealg.MaxLen", "unicode/utf8.first", "unicode/utf8.acceptRanges"], apart := false, laid := [("unicode/utf8.acceptRanges", laid_unicode_utf8_acceptRanges), ("unicode/utf8.first", laid_unicode_utf8_first)] }
def ValueRightSaid : Prop := valueRightRow.holds Tryd.pinned (OpenSpec.ofChange valueRightSpec)

/-- ITS FALSE NEIGHBOUR: 'it returns false'. Refute it at one input. -/
def valueRightWrong : ChangeSpec := { name := "valueRight", fn := fun _ => fun
  | [d1, d2] => { results := [.lit (.bool false)], args := [d1, d2] }
  | _ => none }
def ValueRightWrongFalsely : Prop := valueRightRow.holds Tryd.pinned (OpenSpec.ofChange valueRightWrong)

/-- 'headgatelaw03.ValueKeys': WHATEVER THE INPUT: true; the input reads as it did. -/
def valueKeysSpec : ChangeSpec := { name := "valueKeys", fn := fun _ => fun
  | [d1, d2] => { results := [.lit (.bool true)], args := [d1, d2] }
  | _ => none }
def valueKeysRow : OpenClaim := { program := "ytindffllmlifiaadoor", sum := "18c46cc6fd315dac65b54873f7ef30cb073a7aa93929748ffec312331a4158ef", func := "headgate/headgatelaw03.ValueKeys", spec := "valueKeys", inPlace := ["internal/bytealg.CountString", "internal/bytealg.IndexByteString", "internal/bytealg.IndexString", "internal/abi.NoEscape", "internal/bytealg.MakeNoZero"], unfollowed := true, recurses := true, named := ["internal/bytealg.MaxLen", "unicode/utf8.first", "unicode/utf8.acceptRanges"], apart := false, laid := [("unicode/utf8.acceptRanges", laid_unicode_utf8_acceptRanges), ("unicode/utf8.first", laid_unicode_utf8_first)] }
def ValueKeysSaid : Prop := valueKeysRow.holds Tryd.pinned (OpenSpec.ofChange valueKeysSpec)

/-- ITS FALSE NEIGHBOUR: 'it returns false'. Refute it at one input. -/
def valueKeysWrong : ChangeSpec := { name := "valueKeys", fn := fun _ => fun
  | [d1, d2] => { results := [.lit (.bool false)], args := [d1, d2] }
  | _ => none }
def ValueKeysWrongFalsely : Prop := valueKeysRow.holds Tryd.pinned (OpenSpec.ofChange valueKeysWrong)

/-- 'headgatelaw03.ValueAll': WHATEVER THE INPUT: true; the input reads as it did. -/
def valueAllSpec : ChangeSpec := { name := "valueAll", fn := fun _ => fun
  | [d1, d2] => { results := [.lit (.bool true)], args := [d1, d2] }
  | _ => none }
def valueAllRow : OpenClaim := { program := "ytindffllmlifiaadoor", sum := "18c46cc6fd315dac65b54873f7ef30cb073a7aa93929748ffec312331a4158ef", func := "headgate/headgatelaw03.ValueAll", spec := "valueAll", inPlace := ["internal/bytealg.CountString", "internal/bytealg.IndexByteString", "internal/bytealg.IndexString", "internal/abi.NoEscape", "internal/bytealg.MakeNoZero"], unfollowed := true, recurses := true, named := ["internal/bytealg.MaxLen", "unicode/utf8.first", "unicode/utf8.acceptRanges"], apart := false, laid := [("unicode/utf8.acceptRanges", laid_unicode_utf8_acceptRanges), ("unicode/utf8.first", laid_unicode_utf8_first)] }
def ValueAllSaid : Prop := valueAllRow.holds Tryd.pinned (OpenSpec.ofChange valueAllSpec)

/-- ITS FALSE NEIGHBOUR: 'it returns false'. Refute it at one input. -/
def valueAllWrong : ChangeSpec := { name := "valueAll", fn := fun _ => fun
  | [d1, d2] => { results := [.lit (.bool false)], args := [d1, d2] }
  | _ => none }
def ValueAllWrongFalsely : Prop := valueAllRow.holds Tryd.pinned (OpenSpec.ofChange valueAllWrong)

/-- 'headgatelaw03.ValueMade': WHATEVER THE INPUT: true; the input reads as it did. -/
def valueMadeSpec : ChangeSpec := { name := "valueMade", fn := fun _ => fun
  | [d1, d2, d3] => { results := [.lit (.bool true)], args := [d1, d2, d3] }
  | _ => none }
def valueMadeRow : OpenClaim := { program := "ytindffllmlifiaadoor", sum := "18c46cc6fd315dac65b54873f7ef30cb073a7aa93929748ffec312331a4158ef", func := "headgate/headgatelaw03.ValueMade", spec := "valueMade", inPlace := ["internal/bytealg.CountString", "internal/bytealg.IndexByteString", "internal/bytealg.IndexString", "internal/abi.NoEscape", "internal/bytealg.MakeNoZero"], unfollowed := true, recurses := true, named := ["internal/bytealg.MaxLen", "unicode/utf8.first", "unicode/utf8.acceptRanges"], apart := false, laid := [("unicode/utf8.acceptRanges", laid_unicode_utf8_acceptRanges), ("unicode/utf8.first", laid_unicode_utf8_first)] }
def ValueMadeSaid : Prop := valueMadeRow.holds Tryd.pinned (OpenSpec.ofChange valueMadeSpec)

/-- ITS FALSE NEIGHBOUR: 'it returns false'. Refute it at one input. -/
def valueMadeWrong : ChangeSpec := { name := "valueMade", fn := fun _ => fun
  | [d1, d2, d3] => { results := [.lit (.bool false)], args := [d1, d2, d3] }
  | _ => none }
def ValueMadeWrongFalsely : Prop := valueMadeRow.holds Tryd.pinned (OpenSpec.ofChange valueMadeWrong)

/-- 'headgatelaw03.ValueOrder': WHATEVER THE INPUT: true; the input reads as it did. -/
def valueOrderSpec : ChangeSpec := { name := "valueOrder", fn := fun _ => fun
  | [d1, d2, d3, d4] => { results := [.lit (.bool true)], args := [d1, d2, d3, d4] }
  | _ => none }
def valueOrderRow : OpenClaim := { program := "ytindffllmlifiaadoor", sum := "18c46cc6fd315dac65b54873f7ef30cb073a7aa93929748ffec312331a4158ef", func := "headgate/headgatelaw03.ValueOrder", spec := "valueOrder", inPlace := ["internal/bytealg.CountString", "internal/bytealg.IndexByteString", "internal/bytealg.IndexString", "internal/abi.NoEscape", "internal/bytealg.MakeNoZero", "internal/bytealg.abigen_runtime_cmpstring"], unfollowed := true, recurses := true, named := ["internal/bytealg.MaxLen", "unicode/utf8.first", "unicode/utf8.acceptRanges"], apart := false, laid := [("unicode/utf8.acceptRanges", laid_unicode_utf8_acceptRanges), ("unicode/utf8.first", laid_unicode_utf8_first)] }
def ValueOrderSaid : Prop := valueOrderRow.holds Tryd.pinned (OpenSpec.ofChange valueOrderSpec)

/-- ITS FALSE NEIGHBOUR: 'it returns false'. Refute it at one input. -/
def valueOrderWrong : ChangeSpec := { name := "valueOrder", fn := fun _ => fun
  | [d1, d2, d3, d4] => { results := [.lit (.bool false)], args := [d1, d2, d3, d4] }
  | _ => none }
def ValueOrderWrongFalsely : Prop := valueOrderRow.holds Tryd.pinned (OpenSpec.ofChange valueOrderWrong)

/-- 'headgatelaw03.ValueSorts': WHATEVER THE INPUT: true; the input reads as it did. -/
def valueSortsSpec : ChangeSpec := { name := "valueSorts", fn := fun _ => fun
  | [d1, d2] => { results := [.lit (.bool true)], args := [d1, d2] }
  | _ => none }
def valueSortsRow : OpenClaim := { program := "ytindffllmlifiaadoor", sum := "18c46cc6fd315dac65b54873f7ef30cb073a7aa93929748ffec312331a4158ef", func := "headgate/headgatelaw03.ValueSorts", spec := "valueSorts", inPlace := ["internal/bytealg.CountString", "internal/bytealg.IndexByteString", "internal/bytealg.IndexString", "internal/abi.NoEscape", "internal/bytealg.MakeNoZero", "internal/bytealg.abigen_runtime_cmpstring"], unfollowed := true, recurses := true, named := ["internal/bytealg.MaxLen", "unicode/utf8.first", "unicode/utf8.acceptRanges"], apart := false, laid := [("unicode/utf8.acceptRanges", laid_unicode_utf8_acceptRanges), ("unicode/utf8.first", laid_unicode_utf8_first)] }
def ValueSortsSaid : Prop := valueSortsRow.holds Tryd.pinned (OpenSpec.ofChange valueSortsSpec)

/-- ITS FALSE NEIGHBOUR: 'it returns false'. Refute it at one input. -/
def valueSortsWrong : ChangeSpec := { name := "valueSorts", fn := fun _ => fun
  | [d1, d2] => { results := [.lit (.bool false)], args := [d1, d2] }
  | _ => none }
def ValueSortsWrongFalsely : Prop := valueSortsRow.holds Tryd.pinned (OpenSpec.ofChange valueSortsWrong)

/-- 'headgatelaw03.ValueBack': WHATEVER THE INPUT: true; the input reads as it did. -/
def valueBackSpec : ChangeSpec := { name := "valueBack", fn := fun _ => fun
  | [d1, d2] => { results := [.lit (.bool true)], args := [d1, d2] }
  | _ => none }
def valueBackRow : OpenClaim := { program := "ytindffllmlifiaadoor", sum := "18c46cc6fd315dac65b54873f7ef30cb073a7aa93929748ffec312331a4158ef", func := "headgate/headgatelaw03.ValueBack", spec := "valueBack", inPlace := ["internal/bytealg.CountString", "internal/bytealg.IndexByteString", "internal/bytealg.IndexString", "internal/abi.NoEscape", "internal/bytealg.MakeNoZero", "internal/bytealg.abigen_runtime_cmpstring"], unfollowed := true, recurses := true, named := ["internal/bytealg.MaxLen", "unicode/utf8.first", "unicode/utf8.acceptRanges"], apart := false, laid := [("unicode/utf8.acceptRanges", laid_unicode_utf8_acceptRanges), ("unicode/utf8.first", laid_unicode_utf8_first)] }
def ValueBackSaid : Prop := valueBackRow.holds Tryd.pinned (OpenSpec.ofChange valueBackSpec)

/-- ITS FALSE NEIGHBOUR: 'it returns false'. Refute it at one input. -/
def valueBackWrong : ChangeSpec := { name := "valueBack", fn := fun _ => fun
  | [d1, d2] => { results := [.lit (.bool false)], args := [d1, d2] }
  | _ => none }
def ValueBackWrongFalsely : Prop := valueBackRow.holds Tryd.pinned (OpenSpec.ofChange valueBackWrong)

/- THE SECOND FORM. 'bulk': how many values and letters a reading holds, each counted each time it is reached (what is shared counts as often as it is met; a slice's spare places count too). A statement '..UptoSaid' is the law's where the arguments, and the package variables that the reading takes, are together of bulk at most 1048576: NARROWER than '..Said'. Prove '..Said' where nothing that the law and all that it calls make is longer than what came in: it says more and counts as full. Else prove '..UptoSaid'. A law counts once. -/
mutual
def uptoBulk {H : Type} : DataW H → Nat
  | .lit (.string bytes) => bytes.length + 1
  | .lit _ => 1
  | .nil => 1
  | .ptr d => uptoBulk d + 1
  | .slice elems spare => uptoBulkAll elems + uptoBulkAll spare + 1
  | .agg parts => uptoBulkAll parts + 1
  | .iface _ d => uptoBulk d + 1
  | .map entries => uptoBulkEntries entries + 1
  | .held _ => 1
def uptoBulkAll {H : Type} : List (DataW H) → Nat
  | [] => 0
  | d :: r => uptoBulk d + uptoBulkAll r
def uptoBulkEntries {H : Type} : List (Lit × DataW H) → Nat
  | [] => 0
  | x :: r => uptoBulkEntry x + uptoBulkEntries r
def uptoBulkEntry {H : Type} : Lit × DataW H → Nat
  | (.string bytes, d) => bytes.length + uptoBulk d + 1
  | (_, d) => uptoBulk d + 1
 end
def uptoSmall : (H : Type) → List (DataW H) → Bool := fun _ ds => decide (uptoBulkAll ds ≤ 1048576)
def OpenSpec.upto (s : _root_.Go.ChangeSpec) : _root_.Go.OpenSpec := { _root_.Go.OpenSpec.ofChange s with cond := some uptoSmall }

/-- 'headgatelaw03.ValueRight', WHERE WHAT IT READS IS OF BULK AT MOST 1048576: true; the input reads as it did. -/
def valueRightUptoRow : OpenClaim := { program := "ytindffllmlifiaadoor", sum := "18c46cc6fd315dac65b54873f7ef30cb073a7aa93929748ffec312331a4158ef", func := "headgate/headgatelaw03.ValueRight", spec := "valueRight", inPlace := ["internal/bytealg.CountString", "internal/bytealg.IndexByteString", "internal/bytealg.IndexString", "internal/abi.NoEscape", "internal/bytealg.MakeNoZero"], unfollowed := true, recurses := true, named := ["internal/bytealg.MaxLen", "unicode/utf8.first", "unicode/utf8.acceptRanges"], apart := false, laid := [("unicode/utf8.acceptRanges", laid_unicode_utf8_acceptRanges), ("unicode/utf8.first", laid_unicode_utf8_first)], narrowed := true }
def ValueRightUptoSaid : Prop := valueRightUptoRow.holds Tryd.pinned (OpenSpec.upto valueRightSpec)

/-- 'headgatelaw03.ValueKeys', WHERE WHAT IT READS IS OF BULK AT MOST 1048576: true; the input reads as it did. -/
def valueKeysUptoRow : OpenClaim := { program := "ytindffllmlifiaadoor", sum := "18c46cc6fd315dac65b54873f7ef30cb073a7aa93929748ffec312331a4158ef", func := "headgate/headgatelaw03.ValueKeys", spec := "valueKeys", inPlace := ["internal/bytealg.CountString", "internal/bytealg.IndexByteString", "internal/bytealg.IndexString", "internal/abi.NoEscape", "internal/bytealg.MakeNoZero"], unfollowed := true, recurses := true, named := ["internal/bytealg.MaxLen", "unicode/utf8.first", "unicode/utf8.acceptRanges"], apart := false, laid := [("unicode/utf8.acceptRanges", laid_unicode_utf8_acceptRanges), ("unicode/utf8.first", laid_unicode_utf8_first)], narrowed := true }
def ValueKeysUptoSaid : Prop := valueKeysUptoRow.holds Tryd.pinned (OpenSpec.upto valueKeysSpec)

/-- 'headgatelaw03.ValueAll', WHERE WHAT IT READS IS OF BULK AT MOST 1048576: true; the input reads as it did. -/
def valueAllUptoRow : OpenClaim := { program := "ytindffllmlifiaadoor", sum := "18c46cc6fd315dac65b54873f7ef30cb073a7aa93929748ffec312331a4158ef", func := "headgate/headgatelaw03.ValueAll", spec := "valueAll", inPlace := ["internal/bytealg.CountString", "internal/bytealg.IndexByteString", "internal/bytealg.IndexString", "internal/abi.NoEscape", "internal/bytealg.MakeNoZero"], unfollowed := true, recurses := true, named := ["internal/bytealg.MaxLen", "unicode/utf8.first", "unicode/utf8.acceptRanges"], apart := false, laid := [("unicode/utf8.acceptRanges", laid_unicode_utf8_acceptRanges), ("unicode/utf8.first", laid_unicode_utf8_first)], narrowed := true }
def ValueAllUptoSaid : Prop := valueAllUptoRow.holds Tryd.pinned (OpenSpec.upto valueAllSpec)

/-- 'headgatelaw03.ValueMade', WHERE WHAT IT READS IS OF BULK AT MOST 1048576: true; the input reads as it did. -/
def valueMadeUptoRow : OpenClaim := { program := "ytindffllmlifiaadoor", sum := "18c46cc6fd315dac65b54873f7ef30cb073a7aa93929748ffec312331a4158ef", func := "headgate/headgatelaw03.ValueMade", spec := "valueMade", inPlace := ["internal/bytealg.CountString", "internal/bytealg.IndexByteString", "internal/bytealg.IndexString", "internal/abi.NoEscape", "internal/bytealg.MakeNoZero"], unfollowed := true, recurses := true, named := ["internal/bytealg.MaxLen", "unicode/utf8.first", "unicode/utf8.acceptRanges"], apart := false, laid := [("unicode/utf8.acceptRanges", laid_unicode_utf8_acceptRanges), ("unicode/utf8.first", laid_unicode_utf8_first)], narrowed := true }
def ValueMadeUptoSaid : Prop := valueMadeUptoRow.holds Tryd.pinned (OpenSpec.upto valueMadeSpec)

/-- 'headgatelaw03.ValueOrder', WHERE WHAT IT READS IS OF BULK AT MOST 1048576: true; the input reads as it did. -/
def valueOrderUptoRow : OpenClaim := { program := "ytindffllmlifiaadoor", sum := "18c46cc6fd315dac65b54873f7ef30cb073a7aa93929748ffec312331a4158ef", func := "headgate/headgatelaw03.ValueOrder", spec := "valueOrder", inPlace := ["internal/bytealg.CountString", "internal/bytealg.IndexByteString", "internal/bytealg.IndexString", "internal/abi.NoEscape", "internal/bytealg.MakeNoZero", "internal/bytealg.abigen_runtime_cmpstring"], unfollowed := true, recurses := true, named := ["internal/bytealg.MaxLen", "unicode/utf8.first", "unicode/utf8.acceptRanges"], apart := false, laid := [("unicode/utf8.acceptRanges", laid_unicode_utf8_acceptRanges), ("unicode/utf8.first", laid_unicode_utf8_first)], narrowed := true }
def ValueOrderUptoSaid : Prop := valueOrderUptoRow.holds Tryd.pinned (OpenSpec.upto valueOrderSpec)

/-- 'headgatelaw03.ValueSorts', WHERE WHAT IT READS IS OF BULK AT MOST 1048576: true; the input reads as it did. -/
def valueSortsUptoRow : OpenClaim := { program := "ytindffllmlifiaadoor", sum := "18c46cc6fd315dac65b54873f7ef30cb073a7aa93929748ffec312331a4158ef", func := "headgate/headgatelaw03.ValueSorts", spec := "valueSorts", inPlace := ["internal/bytealg.CountString", "internal/bytealg.IndexByteString", "internal/bytealg.IndexString", "internal/abi.NoEscape", "internal/bytealg.MakeNoZero", "internal/bytealg.abigen_runtime_cmpstring"], unfollowed := true, recurses := true, named := ["internal/bytealg.MaxLen", "unicode/utf8.first", "unicode/utf8.acceptRanges"], apart := false, laid := [("unicode/utf8.acceptRanges", laid_unicode_utf8_acceptRanges), ("unicode/utf8.first", laid_unicode_utf8_first)], narrowed := true }
def ValueSortsUptoSaid : Prop := valueSortsUptoRow.holds Tryd.pinned (OpenSpec.upto valueSortsSpec)

/-- 'headgatelaw03.ValueBack', WHERE WHAT IT READS IS OF BULK AT MOST 1048576: true; the input reads as it did. -/
def valueBackUptoRow : OpenClaim := { program := "ytindffllmlifiaadoor", sum := "18c46cc6fd315dac65b54873f7ef30cb073a7aa93929748ffec312331a4158ef", func := "headgate/headgatelaw03.ValueBack", spec := "valueBack", inPlace := ["internal/bytealg.CountString", "internal/bytealg.IndexByteString", "internal/bytealg.IndexString", "internal/abi.NoEscape", "internal/bytealg.MakeNoZero", "internal/bytealg.abigen_runtime_cmpstring"], unfollowed := true, recurses := true, named := ["internal/bytealg.MaxLen", "unicode/utf8.first", "unicode/utf8.acceptRanges"], apart := false, laid := [("unicode/utf8.acceptRanges", laid_unicode_utf8_acceptRanges), ("unicode/utf8.first", laid_unicode_utf8_first)], narrowed := true }
def ValueBackUptoSaid : Prop := valueBackUptoRow.holds Tryd.pinned (OpenSpec.upto valueBackSpec)

end Rows
end Go.Proofs.YtindffllmlifiaaDoor
