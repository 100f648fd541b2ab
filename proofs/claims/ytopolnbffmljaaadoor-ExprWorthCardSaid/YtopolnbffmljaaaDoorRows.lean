/-
  NARROWER THAN 'FOR EVERY INPUT', by the rows' own cells (each row's printed sentence says how): ExprKinds: loops, laid · ExprWorth: loops, laid · ExprHolds: loops, laid · ExprTurns: loops, laid · ExprForms: loops, laid · ExprWalks: loops, laid · ExprFixed: loops, laid.
  DERIVED. THE GIVEN ROWS OF THIS SEAT. 7 by the template 'for every input the law returns true; each argument reads behind the call as it read before'; 0 by the template 'total and deterministic' (their statements: YtopolnbffmljaaaDoorTotals.lean).
  GIVEN WITH THE SEED: the statements are not yours to turn. If you find one false, say at which input.
  Laid BY PROGRAM, IN A SANDBOX (cutbox-rows.mjs): the forced cells as the released guide's own fill.sh prints them over the translation ad3c434f4338bc88… (all of the seat's roots in one cut). By AI agents, Wed Nov 11 2026. No macro, syntax, notation, axiom, sorry.
-/
import Derived.Test.YtopolnbffmljaaaDoorChecked
import GoSem.Claim
import GoSem.ClaimJoined
import GoSem.ClaimMapViews
import Derived.JoinedTies
import Derived.KernelRfl
namespace Go.Proofs.YtopolnbffmljaaaDoor
/- THE CELL 'sum', in the pinned program and in every row, IS THE sha256 OF THE DUMP (.gsa) THAT YtopolnbffmljaaaDoorProg.lean LOADS. Nothing in Lean hashes anything: it is a label: what it is worth is what the hold of that sum in a sandbox is worth. -/
noncomputable def Tryd.pinned : Pinned := { name := "ytopolnbffmljaaadoor", sum := "ad3c434f4338bc88f709804d1bb22c38a9e95ac0b6350e7a3dbe9c02c8ec6af4", checked := Tryd.checked }
namespace Rows
def none {H : Type} : Left H := { results := [], args := [] }

/- WHAT THE LISTED PACKAGE-LEVEL VARIABLES READ AS WHEN THE CALL BEGINS. Each datum BY PROGRAM (the guide's laid-datum.mjs) off the statement by which the dump's own 'gosem.cut.vars' lays the variable. In a bare row this is a premise. The card (YtopolnbffmljaaaDoorCards.lean) ties it to the program's text. -/
def laid_headgate_expr_words {H : Type} : DataW H := .agg [.lit (.string []), .lit (.string [105, 110, 116]), .lit (.string [98, 111, 111, 108]), .lit (.string [116, 101, 120, 116])]
def laid_headgate_expr_arity {H : Type} : DataW H := .agg [.lit (.int .i64 (-1)), .lit (.int .i64 0), .lit (.int .i64 0), .lit (.int .i64 0), .lit (.int .i64 2), .lit (.int .i64 2), .lit (.int .i64 2), .lit (.int .i64 2), .lit (.int .i64 2), .lit (.int .i64 1), .lit (.int .i64 2), .lit (.int .i64 2), .lit (.int .i64 2), .lit (.int .i64 2), .lit (.int .i64 2), .lit (.int .i64 2), .lit (.int .i64 1), .lit (.int .i64 1), .lit (.int .i64 3), .lit (.int .i64 2), .lit (.int .i64 1)]
def laid_headgate_expr_null {H : Type} : DataW H := .agg [.lit (.int .i64 0), .lit (.int .i64 0), .lit (.string [])]

/-- 'headgatelaw13.ExprKinds': WHATEVER THE INPUT: true; the input reads as it did. -/
def exprKindsSpec : ChangeSpec := { name := "exprKinds", fn := fun _ => fun
  | [d1, d2] => { results := [.lit (.bool true)], args := [d1, d2] }
  | _ => none }
def exprKindsRow : OpenClaim := { program := "ytopolnbffmljaaadoor", sum := "ad3c434f4338bc88f709804d1bb22c38a9e95ac0b6350e7a3dbe9c02c8ec6af4", func := "headgate/headgatelaw13.ExprKinds", spec := "exprKinds", inPlace := ["internal/bytealg.abigen_runtime_cmpstring"], unfollowed := true, recurses := true, named := ["headgate/expr.null", "headgate/expr.arity", "headgate/expr.words"], loops := true, apart := false, laid := [("headgate/expr.words", laid_headgate_expr_words), ("headgate/expr.arity", laid_headgate_expr_arity), ("headgate/expr.null", laid_headgate_expr_null)] }
def ExprKindsSaid : Prop := exprKindsRow.holds Tryd.pinned (OpenSpec.ofChange exprKindsSpec)

/-- ITS FALSE NEIGHBOUR: 'it returns false'. Refute it at one input. -/
def exprKindsWrong : ChangeSpec := { name := "exprKinds", fn := fun _ => fun
  | [d1, d2] => { results := [.lit (.bool false)], args := [d1, d2] }
  | _ => none }
def ExprKindsWrongFalsely : Prop := exprKindsRow.holds Tryd.pinned (OpenSpec.ofChange exprKindsWrong)

/-- 'headgatelaw13.ExprWorth': WHATEVER THE INPUT: true; the input reads as it did. -/
def exprWorthSpec : ChangeSpec := { name := "exprWorth", fn := fun _ => fun
  | [d1, d2, d3] => { results := [.lit (.bool true)], args := [d1, d2, d3] }
  | _ => none }
def exprWorthRow : OpenClaim := { program := "ytopolnbffmljaaadoor", sum := "ad3c434f4338bc88f709804d1bb22c38a9e95ac0b6350e7a3dbe9c02c8ec6af4", func := "headgate/headgatelaw13.ExprWorth", spec := "exprWorth", inPlace := ["internal/bytealg.abigen_runtime_cmpstring"], unfollowed := true, recurses := true, named := ["headgate/expr.null", "headgate/expr.arity", "headgate/expr.words"], loops := true, apart := false, laid := [("headgate/expr.words", laid_headgate_expr_words), ("headgate/expr.arity", laid_headgate_expr_arity), ("headgate/expr.null", laid_headgate_expr_null)] }
def ExprWorthSaid : Prop := exprWorthRow.holds Tryd.pinned (OpenSpec.ofChange exprWorthSpec)

/-- ITS FALSE NEIGHBOUR: 'it returns false'. Refute it at one input. -/
def exprWorthWrong : ChangeSpec := { name := "exprWorth", fn := fun _ => fun
  | [d1, d2, d3] => { results := [.lit (.bool false)], args := [d1, d2, d3] }
  | _ => none }
def ExprWorthWrongFalsely : Prop := exprWorthRow.holds Tryd.pinned (OpenSpec.ofChange exprWorthWrong)

/-- 'headgatelaw13.ExprHolds': WHATEVER THE INPUT: true; the input reads as it did. -/
def exprHoldsSpec : ChangeSpec := { name := "exprHolds", fn := fun _ => fun
  | [d1, d2, d3] => { results := [.lit (.bool true)], args := [d1, d2, d3] }
  | _ => none }
def exprHoldsRow : OpenClaim := { program := "ytopolnbffmljaaadoor", sum := "ad3c434f4338bc88f709804d1bb22c38a9e95ac0b6350e7a3dbe9c02c8ec6af4", func := "headgate/headgatelaw13.ExprHolds", spec := "exprHolds", inPlace := ["internal/bytealg.abigen_runtime_cmpstring"], unfollowed := true, recurses := true, named := ["headgate/expr.null", "headgate/expr.arity", "headgate/expr.words"], loops := true, apart := false, laid := [("headgate/expr.words", laid_headgate_expr_words), ("headgate/expr.arity", laid_headgate_expr_arity), ("headgate/expr.null", laid_headgate_expr_null)] }
def ExprHoldsSaid : Prop := exprHoldsRow.holds Tryd.pinned (OpenSpec.ofChange exprHoldsSpec)

/-- ITS FALSE NEIGHBOUR: 'it returns false'. Refute it at one input. -/
def exprHoldsWrong : ChangeSpec := { name := "exprHolds", fn := fun _ => fun
  | [d1, d2, d3] => { results := [.lit (.bool false)], args := [d1, d2, d3] }
  | _ => none }
def ExprHoldsWrongFalsely : Prop := exprHoldsRow.holds Tryd.pinned (OpenSpec.ofChange exprHoldsWrong)

/-- 'headgatelaw13.ExprTurns': WHATEVER THE INPUT: true; the input reads as it did. -/
def exprTurnsSpec : ChangeSpec := { name := "exprTurns", fn := fun _ => fun
  | [d1, d2, d3, d4] => { results := [.lit (.bool true)], args := [d1, d2, d3, d4] }
  | _ => none }
def exprTurnsRow : OpenClaim := { program := "ytopolnbffmljaaadoor", sum := "ad3c434f4338bc88f709804d1bb22c38a9e95ac0b6350e7a3dbe9c02c8ec6af4", func := "headgate/headgatelaw13.ExprTurns", spec := "exprTurns", inPlace := ["internal/bytealg.abigen_runtime_cmpstring"], unfollowed := true, recurses := true, named := ["headgate/expr.null", "headgate/expr.arity", "headgate/expr.words"], loops := true, apart := false, laid := [("headgate/expr.words", laid_headgate_expr_words), ("headgate/expr.arity", laid_headgate_expr_arity), ("headgate/expr.null", laid_headgate_expr_null)] }
def ExprTurnsSaid : Prop := exprTurnsRow.holds Tryd.pinned (OpenSpec.ofChange exprTurnsSpec)

/-- ITS FALSE NEIGHBOUR: 'it returns false'. Refute it at one input. -/
def exprTurnsWrong : ChangeSpec := { name := "exprTurns", fn := fun _ => fun
  | [d1, d2, d3, d4] => { results := [.lit (.bool false)], args := [d1, d2, d3, d4] }
  | _ => none }
def ExprTurnsWrongFalsely : Prop := exprTurnsRow.holds Tryd.pinned (OpenSpec.ofChange exprTurnsWrong)

/-- 'headgatelaw13.ExprForms': WHATEVER THE INPUT: true; the input reads as it did. -/
def exprFormsSpec : ChangeSpec := { name := "exprForms", fn := fun _ => fun
  | [d] => { results := [.lit (.bool true)], args := [d] }
  | _ => none }
def exprFormsRow : OpenClaim := { program := "ytopolnbffmljaaadoor", sum := "ad3c434f4338bc88f709804d1bb22c38a9e95ac0b6350e7a3dbe9c02c8ec6af4", func := "headgate/headgatelaw13.ExprForms", spec := "exprForms", inPlace := ["internal/bytealg.abigen_runtime_cmpstring"], unfollowed := true, recurses := true, named := ["headgate/expr.null", "headgate/expr.arity", "headgate/expr.words"], loops := true, apart := false, laid := [("headgate/expr.words", laid_headgate_expr_words), ("headgate/expr.arity", laid_headgate_expr_arity), ("headgate/expr.null", laid_headgate_expr_null)] }
def ExprFormsSaid : Prop := exprFormsRow.holds Tryd.pinned (OpenSpec.ofChange exprFormsSpec)

/-- ITS FALSE NEIGHBOUR: 'it returns false'. Refute it at one input. -/
def exprFormsWrong : ChangeSpec := { name := "exprForms", fn := fun _ => fun
  | [d] => { results := [.lit (.bool false)], args := [d] }
  | _ => none }
def ExprFormsWrongFalsely : Prop := exprFormsRow.holds Tryd.pinned (OpenSpec.ofChange exprFormsWrong)

/-- 'headgatelaw13.ExprWalks': WHATEVER THE INPUT: true; the input reads as it did. -/
def exprWalksSpec : ChangeSpec := { name := "exprWalks", fn := fun _ => fun
  | [d1, d2] => { results := [.lit (.bool true)], args := [d1, d2] }
  | _ => none }
def exprWalksRow : OpenClaim := { program := "ytopolnbffmljaaadoor", sum := "ad3c434f4338bc88f709804d1bb22c38a9e95ac0b6350e7a3dbe9c02c8ec6af4", func := "headgate/headgatelaw13.ExprWalks", spec := "exprWalks", inPlace := ["internal/bytealg.abigen_runtime_cmpstring"], unfollowed := true, recurses := true, named := ["headgate/expr.null", "headgate/expr.arity", "headgate/expr.words"], loops := true, apart := false, laid := [("headgate/expr.words", laid_headgate_expr_words), ("headgate/expr.arity", laid_headgate_expr_arity), ("headgate/expr.null", laid_headgate_expr_null)] }
def ExprWalksSaid : Prop := exprWalksRow.holds Tryd.pinned (OpenSpec.ofChange exprWalksSpec)

/-- ITS FALSE NEIGHBOUR: 'it returns false'. Refute it at one input. -/
def exprWalksWrong : ChangeSpec := { name := "exprWalks", fn := fun _ => fun
  | [d1, d2] => { results := [.lit (.bool false)], args := [d1, d2] }
  | _ => none }
def ExprWalksWrongFalsely : Prop := exprWalksRow.holds Tryd.pinned (OpenSpec.ofChange exprWalksWrong)

/-- 'headgatelaw13.ExprFixed': WHATEVER THE INPUT: true; the input reads as it did. -/
def exprFixedSpec : ChangeSpec := { name := "exprFixed", fn := fun _ => fun
  | [d1, d2, d3, d4] => { results := [.lit (.bool true)], args := [d1, d2, d3, d4] }
  | _ => none }
def exprFixedRow : OpenClaim := { program := "ytopolnbffmljaaadoor", sum := "ad3c434f4338bc88f709804d1bb22c38a9e95ac0b6350e7a3dbe9c02c8ec6af4", func := "headgate/headgatelaw13.ExprFixed", spec := "exprFixed", inPlace := ["internal/bytealg.abigen_runtime_cmpstring"], unfollowed := true, recurses := true, named := ["headgate/expr.null", "headgate/expr.arity", "headgate/expr.words"], loops := true, apart := false, laid := [("headgate/expr.words", laid_headgate_expr_words), ("headgate/expr.arity", laid_headgate_expr_arity), ("headgate/expr.null", laid_headgate_expr_null)] }
def ExprFixedSaid : Prop := exprFixedRow.holds Tryd.pinned (OpenSpec.ofChange exprFixedSpec)

/-- ITS FALSE NEIGHBOUR: 'it returns false'. Refute it at one input. -/
def exprFixedWrong : ChangeSpec := { name := "exprFixed", fn := fun _ => fun
  | [d1, d2, d3, d4] => { results := [.lit (.bool false)], args := [d1, d2, d3, d4] }
  | _ => none }
def ExprFixedWrongFalsely : Prop := exprFixedRow.holds Tryd.pinned (OpenSpec.ofChange exprFixedWrong)

/- THE SECOND FORM. 'bulk': how many values and letters a reading holds, each counted each time it is reached (what is shared counts as often as it is met; a slice's spare places count too). A statement '..UptoSaid' is the law's where the arguments, and the package variables that the reading takes, are together of bulk at most 1048576: NARROWER than '..Said'. Prove '..Said' where nothing that the law and all that it calls make is longer than what came in: it says more and counts as full. Else prove '..UptoSaid'. A law counts once. -/
mutual
def uptoBulk {H : Type} : DataW H → Nat
  | .lit (.string bytes) => bytes.length + 1
  | .lit _ => 1
  | .nil => 1
  | .ptr d => uptoBulk d + 1
  | .slice elems spare => uptoBulkAll elems + uptoBulkAll spare + 1
  | .agg parts => uptoBulkAll parts + 1
  | .iface _ d => uptoBulk d + 1
  | .map entries => uptoBulkEntries entries + 1
  | .held _ => 1
def uptoBulkAll {H : Type} : List (DataW H) → Nat
  | [] => 0
  | d :: r => uptoBulk d + uptoBulkAll r
def uptoBulkEntries {H : Type} : List (Lit × DataW H) → Nat
  | [] => 0
  | x :: r => uptoBulkEntry x + uptoBulkEntries r
def uptoBulkEntry {H : Type} : Lit × DataW H → Nat
  | (.string bytes, d) => bytes.length + uptoBulk d + 1
  | (_, d) => uptoBulk d + 1
 end
def uptoSmall : (H : Type) → List (DataW H) → Bool := fun _ ds => decide (uptoBulkAll ds ≤ 1048576)
def OpenSpec.upto (s : _root_.Go.ChangeSpec) : _root_.Go.OpenSpec := { _root_.Go.OpenSpec.ofChange s with cond := some uptoSmall }

/-- 'headgatelaw13.ExprKinds', WHERE WHAT IT READS IS OF BULK AT MOST 1048576: true; the input reads as it did. -/
def exprKindsUptoRow : OpenClaim := { program := "ytopolnbffmljaaadoor", sum := "ad3c434f4338bc88f709804d1bb22c38a9e95ac0b6350e7a3dbe9c02c8ec6af4", func := "headgate/headgatelaw13.ExprKinds", spec := "exprKinds", inPlace := ["internal/bytealg.abigen_runtime_cmpstring"], unfollowed := true, recurses := true, named := ["headgate/expr.null", "headgate/expr.arity", "headgate/expr.words"], loops := true, apart := false, laid := [("headgate/expr.words", laid_headgate_expr_words), ("headgate/expr.arity", laid_headgate_expr_arity), ("headgate/expr.null", laid_headgate_expr_null)], narrowed := true }
def ExprKindsUptoSaid : Prop := exprKindsUptoRow.holds Tryd.pinned (OpenSpec.upto exprKindsSpec)

/-- 'headgatelaw13.ExprWorth', WHERE WHAT IT READS IS OF BULK AT MOST 1048576: true; the input reads as it did. -/
def exprWorthUptoRow : OpenClaim := { program := "ytopolnbffmljaaadoor", sum := "ad3c434f4338bc88f709804d1bb22c38a9e95ac0b6350e7a3dbe9c02c8ec6af4", func := "headgate/headgatelaw13.ExprWorth", spec := "exprWorth", inPlace := ["internal/bytealg.abigen_runtime_cmpstring"], unfollowed := true, recurses := true, named := ["headgate/expr.null", "headgate/expr.arity", "headgate/expr.words"], loops := true, apart := false, laid := [("headgate/expr.words", laid_headgate_expr_words), ("headgate/expr.arity", laid_headgate_expr_arity), ("headgate/expr.null", laid_headgate_expr_null)], narrowed := true }
def ExprWorthUptoSaid : Prop := exprWorthUptoRow.holds Tryd.pinned (OpenSpec.upto exprWorthSpec)

/-- 'headgatelaw13.ExprHolds', WHERE WHAT IT READS IS OF BULK AT MOST 1048576: true; the input reads as it did. -/
def exprHoldsUptoRow : OpenClaim := { program := "ytopolnbffmljaaadoor", sum := "ad3c434f4338bc88f709804d1bb22c38a9e95ac0b6350e7a3dbe9c02c8ec6af4", func := "headgate/headgatelaw13.ExprHolds", spec := "exprHolds", inPlace := ["internal/bytealg.abigen_runtime_cmpstring"], unfollowed := true, recurses := true, named := ["headgate/expr.null", "headgate/expr.arity", "headgate/expr.words"], loops := true, apart := false, laid := [("headgate/expr.words", laid_headgate_expr_words), ("headgate/expr.arity", laid_headgate_expr_arity), ("headgate/expr.null", laid_headgate_expr_null)], narrowed := true }
def ExprHoldsUptoSaid : Prop := exprHoldsUptoRow.holds Tryd.pinned (OpenSpec.upto exprHoldsSpec)

/-- 'headgatelaw13.ExprTurns', WHERE WHAT IT READS IS OF BULK AT MOST 1048576: true; the input reads as it did. -/
def exprTurnsUptoRow : OpenClaim := { program := "ytopolnbffmljaaadoor", sum := "ad3c434f4338bc88f709804d1bb22c38a9e95ac0b6350e7a3dbe9c02c8ec6af4", func := "headgate/headgatelaw13.ExprTurns", spec := "exprTurns", inPlace := ["internal/bytealg.abigen_runtime_cmpstring"], unfollowed := true, recurses := true, named := ["headgate/expr.null", "headgate/expr.arity", "headgate/expr.words"], loops := true, apart := false, laid := [("headgate/expr.words", laid_headgate_expr_words), ("headgate/expr.arity", laid_headgate_expr_arity), ("headgate/expr.null", laid_headgate_expr_null)], narrowed := true }
def ExprTurnsUptoSaid : Prop := exprTurnsUptoRow.holds Tryd.pinned (OpenSpec.upto exprTurnsSpec)

/-- 'headgatelaw13.ExprForms', WHERE WHAT IT READS IS OF BULK AT MOST 1048576: true; the input reads as it did. -/
def exprFormsUptoRow : OpenClaim := { program := "ytopolnbffmljaaadoor", sum := "ad3c434f4338bc88f709804d1bb22c38a9e95ac0b6350e7a3dbe9c02c8ec6af4", func := "headgate/headgatelaw13.ExprForms", spec := "exprForms", inPlace := ["internal/bytealg.abigen_runtime_cmpstring"], unfollowed := true, recurses := true, named := ["headgate/expr.null", "headgate/expr.arity", "headgate/expr.words"], loops := true, apart := false, laid := [("headgate/expr.words", laid_headgate_expr_words), ("headgate/expr.arity", laid_headgate_expr_arity), ("headgate/expr.null", laid_headgate_expr_null)], narrowed := true }
def ExprFormsUptoSaid : Prop := exprFormsUptoRow.holds Tryd.pinned (OpenSpec.upto exprFormsSpec)

/-- 'headgatelaw13.ExprWalks', WHERE WHAT IT READS IS OF BULK AT MOST 1048576: true; the input reads as it did. -/
def exprWalksUptoRow : OpenClaim := { program := "ytopolnbffmljaaadoor", sum := "ad3c434f4338bc88f709804d1bb22c38a9e95ac0b6350e7a3dbe9c02c8ec6af4", func := "headgate/headgatelaw13.ExprWalks", spec := "exprWalks", inPlace := ["internal/bytealg.abigen_runtime_cmpstring"], unfollowed := true, recurses := true, named := ["headgate/expr.null", "headgate/expr.arity", "headgate/expr.words"], loops := true, apart := false, laid := [("headgate/expr.words", laid_headgate_expr_words), ("headgate/expr.arity", laid_headgate_expr_arity), ("headgate/expr.null", laid_headgate_expr_null)], narrowed := true }
def ExprWalksUptoSaid : Prop := exprWalksUptoRow.holds Tryd.pinned (OpenSpec.upto exprWalksSpec)

/-- 'headgatelaw13.ExprFixed', WHERE WHAT IT READS IS OF BULK AT MOST 1048576: true; the input reads as it did. -/
def exprFixedUptoRow : OpenClaim := { program := "ytopolnbffmljaaadoor", sum := "ad3c434f4338bc88f709804d1bb22c38a9e95ac0b6350e7a3dbe9c02c8ec6af4", func := "headgate/headgatelaw13.ExprFixed", spec := "exprFixed", inPlace := ["internal/bytealg.abigen_runtime_cmpstring"], unfollowed := true, recurses := true, named := ["headgate/expr.null", "headgate/expr.arity", "headgate/expr.words"], loops := true, apart := false, laid := [("headgate/expr.words", laid_headgate_expr_words), ("headgate/expr.arity", laid_headgate_expr_arity), ("headgate/expr.null", laid_headgate_expr_null)], narrowed := true }
def ExprFixedUptoSaid : Prop := exprFixedUptoRow.holds Tryd.pinned (OpenSpec.upto exprFixedSpec)

end Rows
end Go.Proofs.YtopolnbffmljaaaDoor
