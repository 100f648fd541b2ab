/- Whole numbers of 64 bits, quotients and rests, in plain words: no program in it. -/
import Derived.Test.YtnjlgeenhmamjaaGreatDoorWMore
namespace Go.Proofs.YtnjlgeenhmamjaaGreatDoor.Q
open Go.RowKit Go.Proofs.YtnjlgeenhmamjaaGreatDoorW.PrintWords Go.Proofs.YtnjlgeenhmamjaaGreatDoorW.PrintLast Go.Proofs.YtnjlgeenhmamjaaGreatDoorW.PrintMore
set_option linter.unusedVariables false
set_option linter.unusedSimpArgs false

def in64 (x : Int) : Prop := -9223372036854775808 ≤ x ∧ x ≤ 9223372036854775807
instance (x : Int) : Decidable (in64 x) := by unfold in64; infer_instance
theorem wf64 {x : Int} (h : (Lit.int .i64 x).wf = true) : in64 x := by
  have hmin : IntKind.i64.min = -9223372036854775808 := rfl
  have hmax : IntKind.i64.max = 9223372036854775807 := rfl
  simp only [Lit.wf, Bool.and_eq_true, decide_eq_true_eq] at h
  unfold in64
  omega
theorem wrap_in {x : Int} (h : in64 x) : wrap64 x = x := by
  unfold in64 at h
  unfold wrap64
  omega
end Go.Proofs.YtnjlgeenhmamjaaGreatDoor.Q
