/- AggKinds in plain words. -/
import Derived.Test.YtphdbhneefmkcaaAggP
import Derived.Test.YtphdbhneefmkcaaEx
namespace Go.Proofs.Ytphdbhneefmkcaa.Q
open Go.RowKit Go.Proofs.YtphdbhneefmkcaaW.PrintWords Go.Proofs.YtphdbhneefmkcaaW.PrintLast Go.Proofs.YtphdbhneefmkcaaW.PrintMore
set_option linter.unusedVariables false
set_option linter.unusedSimpArgs false

theorem refOf_eq (a0 a1 : Int) : headgateref15_Of.f 3 a0 a1 = some (kindS a0 a1) := by
  unfold headgateref15_Of.f kindS
  simp only [headgateref15_Of.j0, headgateref15_Of.j1]
  by_cases h1 : a0 < 1
  · simp [h1]
  by_cases h2 : a0 > 5
  · simp [h1, h2]
  by_cases h3 : a1 < 1
  · simp [h1, h2, h3]
  by_cases h4 : a1 > 3
  · simp [h1, h2, h3, h4]
  by_cases h5 : a0 = 3
  · by_cases h6 : a1 = 1
    · simp [h5, h6]
    · simp [h5, h6, h3, h4]
  · by_cases h6 : a0 ≤ 3
    · have : ¬ (4 ≤ a0) := by omega
      simp [h1, h2, h3, h4, h5, h6, this]
    · have : 4 ≤ a0 := by omega
      simp [h1, h2, h3, h4, h5, h6, this]
theorem AggKinds_pure (a0 a1 : Int) (w0 : (Lit.int .i64 a0).wf = true) (w1 : (Lit.int .i64 a1).wf = true) : ∃ k, headgatelaw15_AggKinds.f k a0 a1 = some true := by
  refine ⟨3, ?_⟩
  unfold headgatelaw15_AggKinds.f agg_Kind.f
  rw [alive_eq]
  simp only [Option.bind_some, if_true]
  rw [refOf_eq]
  simp
end Go.Proofs.Ytphdbhneefmkcaa.Q
