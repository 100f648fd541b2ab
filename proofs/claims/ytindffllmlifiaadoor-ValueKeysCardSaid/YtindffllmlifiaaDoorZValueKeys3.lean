/- Whole numbers of 64 bits, quotients and rests, in plain words: no program in it. -/
import Derived.Test.YtindffllmlifiaaDoorWMore
namespace Go.Proofs.YtindffllmlifiaaDoor.Q
open Go.RowKit Go.Proofs.YtindffllmlifiaaDoorW.PrintWords Go.Proofs.YtindffllmlifiaaDoorW.PrintLast Go.Proofs.YtindffllmlifiaaDoorW.PrintMore
set_option linter.unusedVariables false
set_option linter.unusedSimpArgs false

def in64 (x : Int) : Prop := -9223372036854775808 ≤ x ∧ x ≤ 9223372036854775807
instance (x : Int) : Decidable (in64 x) := by unfold in64; infer_instance
theorem wrapu (x : Int) : IntKind.u64.wrap x = x % 18446744073709551616 := rfl
theorem wf64 {x : Int} (h : (Lit.int .i64 x).wf = true) : in64 x := by
  have hmin : IntKind.i64.min = -9223372036854775808 := rfl
  have hmax : IntKind.i64.max = 9223372036854775807 := rfl
  simp only [Lit.wf, Bool.and_eq_true, decide_eq_true_eq] at h
  unfold in64
  omega
theorem wrap_in {x : Int} (h : in64 x) : wrap64 x = x := by
  unfold in64 at h
  unfold wrap64
  omega
theorem rd_drop (l : List Int) (j : Int) (h0 : 0 ≤ j) (h1 : j < (l.length : Int)) : l.drop j.toNat = rd l j :: l.drop (j + 1).toNat := by
  have e : (j + 1).toNat = j.toNat + 1 := by omega
  have hl : j.toNat < l.length := by omega
  rw [e, List.drop_eq_getElem_cons hl]
  unfold rd
  rw [List.getD_eq_getElem?_getD, List.getElem?_eq_getElem hl]
  rfl
end Go.Proofs.YtindffllmlifiaaDoor.Q
