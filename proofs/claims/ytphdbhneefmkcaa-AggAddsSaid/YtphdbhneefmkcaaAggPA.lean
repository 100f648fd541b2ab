/- AggAdds in plain words. -/
import Derived.Test.YtphdbhneefmkcaaAggP
import Derived.Test.YtphdbhneefmkcaaCx2
import Derived.Test.YtphdbhneefmkcaaFx
namespace Go.Proofs.Ytphdbhneefmkcaa.Q
open Go.RowKit Go.Proofs.YtphdbhneefmkcaaW.PrintWords Go.Proofs.YtphdbhneefmkcaaW.PrintLast Go.Proofs.YtphdbhneefmkcaaW.PrintMore
set_option linter.unusedVariables false
set_option linter.unusedSimpArgs false

theorem refWide_eq (n : Int) : headgateref01_Wide.f n = some (ws n, IntKind.u64.wrap n) := by
  unfold headgateref01_Wide.f ws
  split <;> rfl
theorem refAdd_eq (g : Nat) (a0 x0 x1 x2 x3 x4 : Int) (x5 : ByteArray) (v0 v1 : Int) (v2 : ByteArray) (hv : in64 v1) :
    headgateref15_Add.f (g + 5) a0 x0 x1 x2 x3 x4 x5 v0 v1 v2 = agg_Add.f a0 x0 x1 x2 x3 x4 x5 v0 v1 v2 := by
  by_cases h0 : a0 < 1
  · simp [headgateref15_Add.f, agg_Add.f, headgateref15_Add.j0, h0]
  by_cases h5 : a0 > 5
  · simp [headgateref15_Add.f, agg_Add.f, headgateref15_Add.j0, h0, h5]
  have ho : ¬ (a0 < 1 ∨ a0 > 5) := by omega
  by_cases hc : checkV v0 v1 v2 = 0
  · have hk := checkV_0 hc
    have hcm := neg_lt (cmpV_in v0 v1 v2 x3 x4 x5)
    rcases (show a0 = 1 ∨ a0 = 2 ∨ a0 = 3 ∨ a0 = 4 ∨ a0 = 5 by omega) with rfl | rfl | rfl | rfl | rfl
    · rcases (show v0 = 0 ∨ v0 = 1 ∨ v0 = 2 ∨ v0 = 3 by omega) with rfl | rfl | rfl | rfl <;> simp [headgateref15_Add.f, agg_Add.f, headgateref15_Add.j0, headgateref15_Add.j1, headgateref15_Add.j2, refCheck_eq, hc, agg_Both.f]
    · rcases (show v0 = 0 ∨ v0 = 1 ∨ v0 = 2 ∨ v0 = 3 by omega) with rfl | rfl | rfl | rfl <;> simp [headgateref15_Add.f, agg_Add.f, headgateref15_Add.j0, headgateref15_Add.j1, headgateref15_Add.j2, refCheck_eq, hc, agg_Both.f]
    · rcases (show v0 = 0 ∨ v0 = 1 ∨ v0 = 2 ∨ v0 = 3 by omega) with rfl | rfl | rfl | rfl <;> simp [headgateref15_Add.f, agg_Add.f, headgateref15_Add.j0, headgateref15_Add.j1, headgateref15_Add.j2, refCheck_eq, hc, agg_Both.f, add0_eq hv, refWide_eq, headgateref01_Both.f]
    · have e1 : takes 1 x0 1 (cmpV v0 v1 v2 x3 x4 x5) = true ↔ x0 = 0 ∨ cmpV v0 v1 v2 x3 x4 x5 < 0 := by
        unfold takes
        simp only [Bool.and_eq_true, Bool.or_eq_true, decide_eq_true_eq, beq_iff_eq, hcm.1]
        simp
      rcases (show v0 = 0 ∨ v0 ≠ 0 by omega) with rfl | hv0
      · simp [headgateref15_Add.f, agg_Add.f, headgateref15_Add.j0, headgateref15_Add.j1, headgateref15_Add.j2, refCheck_eq, hc]
      · by_cases hx : x0 = 0
        · subst hx
          simp only [true_or, iff_true] at e1
          simp [headgateref15_Add.f, agg_Add.f, headgateref15_Add.j0, headgateref15_Add.j1, headgateref15_Add.j2, refCheck_eq, hc, agg_Both.f, hv0, e1]
        · by_cases hl : cmpV v0 v1 v2 x3 x4 x5 < 0 <;> simp [headgateref15_Add.f, agg_Add.f, headgateref15_Add.j0, headgateref15_Add.j1, headgateref15_Add.j2, refCheck_eq, refCmp_eq, hc, agg_Both.f, hv0, hx, hl, e1]
    · have e1 : takes (-1) x0 1 (cmpV v0 v1 v2 x3 x4 x5) = true ↔ x0 = 0 ∨ cmpV v0 v1 v2 x3 x4 x5 > 0 := by
        unfold takes
        simp only [Bool.and_eq_true, Bool.or_eq_true, decide_eq_true_eq, beq_iff_eq, hcm.2]
        simp
      rcases (show v0 = 0 ∨ v0 ≠ 0 by omega) with rfl | hv0
      · simp [headgateref15_Add.f, agg_Add.f, headgateref15_Add.j0, headgateref15_Add.j1, headgateref15_Add.j2, refCheck_eq, hc]
      · by_cases hx : x0 = 0
        · subst hx
          simp only [true_or, iff_true] at e1
          simp [headgateref15_Add.f, agg_Add.f, headgateref15_Add.j0, headgateref15_Add.j1, headgateref15_Add.j2, refCheck_eq, hc, agg_Both.f, hv0, e1]
        · by_cases hl : 0 < cmpV v0 v1 v2 x3 x4 x5 <;> simp [headgateref15_Add.f, agg_Add.f, headgateref15_Add.j0, headgateref15_Add.j1, headgateref15_Add.j2, refCheck_eq, refCmp_eq, hc, agg_Both.f, hv0, hx, hl, e1]
  · have h51 : ¬ 5 < a0 := h5
    by_cases h3 : a0 = 3 <;> simp [headgateref15_Add.f, agg_Add.f, headgateref15_Add.j0, headgateref15_Add.j1, refCheck_eq, hc, h0, h51, h3]
theorem AggAdds_pure (a0 : Int) (x1 : S28) (x2 : S26) (w0 : (Lit.int .i64 a0).wf = true) (hg1 : ((Lit.int .i64 x1.f0).wf = true) ∧ (((Lit.int .i64 x1.f1.f0).wf = true) ∧ ((Lit.int .u64 x1.f1.f1).wf = true)) ∧ (((Lit.int .i64 x1.f2.f0).wf = true) ∧ ((Lit.int .i64 x1.f2.f1).wf = true) ∧ (x1.f2.f2.size ≤ 140737488351232)))
    (hg2 : ((Lit.int .i64 x2.f0).wf = true) ∧ ((Lit.int .i64 x2.f1).wf = true) ∧ (x2.f2.size ≤ 140737488351232)) :
    ∃ k, headgatelaw15_AggAdds.f k a0 x1.f0 x1.f1.f0 x1.f1.f1 x1.f2.f0 x1.f2.f1 x1.f2.f2 x2.f0 x2.f1 x2.f2 = some true := by
  refine ⟨5, ?_⟩
  unfold headgatelaw15_AggAdds.f
  rw [alive_eq]
  simp only [Option.bind_some, if_true]
  rw [refAdd_eq 0 _ _ _ _ _ _ _ _ _ _ (wf64 hg2.2.1)]
  obtain ⟨r, hr⟩ : ∃ r, agg_Add.f a0 x1.f0 x1.f1.f0 x1.f1.f1 x1.f2.f0 x1.f2.f1 x1.f2.f2 x2.f0 x2.f1 x2.f2 = some r := by
    have hp := parts_of hg1.2.1.1 hg1.2.1.2
    have hb : ∀ b0 b1 b2 b3 b4 b5, (a0 = 3 → Parts b1 b2) → ∃ r, agg_Both.f a0 x1.f0 x1.f1.f0 x1.f1.f1 x1.f2.f0 x1.f2.f1 x1.f2.f2 b0 b1 b2 b3 b4 b5 = some r := by
      intro b0 b1 b2 b3 b4 b5 h
      unfold agg_Both.f num_Both.f
      split
      · exact ⟨_, rfl⟩
      split
      · exact ⟨_, rfl⟩
      split
      · rename_i h3
        rw [if_pos ⟨hp, h h3⟩]
        exact ⟨_, rfl⟩
      generalize (if a0 = 4 then (1 : Int) else -1) = s
      split <;> exact ⟨_, rfl⟩
    unfold agg_Add.f
    rw [add0_eq (wf64 hg2.2.1)]
    simp only [Option.bind_some]
    split
    · exact ⟨_, rfl⟩
    split
    · exact ⟨_, rfl⟩
    split
    · exact ⟨_, rfl⟩
    split
    · exact hb _ _ _ _ _ _ (fun _ => ws_parts _)
    · rename_i h3
      exact hb _ _ _ _ _ _ (fun h => absurd h h3)
  rw [hr]
  simp
end Go.Proofs.Ytphdbhneefmkcaa.Q
