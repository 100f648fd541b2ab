/- AggBoth in plain words. -/
import Derived.Test.YtphdbhneefmkcaaAggP
import Derived.Test.YtphdbhneefmkcaaHRefI
import Derived.Test.YtphdbhneefmkcaaCx3
import Derived.Test.YtphdbhneefmkcaaCx4
import Derived.Test.YtphdbhneefmkcaaGx
namespace Go.Proofs.Ytphdbhneefmkcaa.Q
open Go.RowKit Go.Proofs.YtphdbhneefmkcaaW.PrintWords Go.Proofs.YtphdbhneefmkcaaW.PrintLast Go.Proofs.YtphdbhneefmkcaaW.PrintMore
set_option linter.unusedVariables false
set_option linter.unusedSimpArgs false

theorem refBoth_eq (g : Nat) (a0 x0 x1 x2 x3 x4 : Int) (x5 : ByteArray) (v0 v1 v2 v3 v4 : Int) (v5 : ByteArray) :
    headgateref15_Both.f (g + 6) a0 x0 x1 x2 x3 x4 x5 v0 v1 v2 v3 v4 v5 = agg_Both.f a0 x0 x1 x2 x3 x4 x5 v0 v1 v2 v3 v4 v5 := by
  by_cases h0 : a0 < 1
  · simp [headgateref15_Both.f, agg_Both.f, headgateref15_Both.j0, h0]
  by_cases h5 : a0 > 5
  · simp [headgateref15_Both.f, agg_Both.f, headgateref15_Both.j0, h0, h5]
  have hcm := neg_lt (cmpV_in v3 v4 v5 x3 x4 x5)
  rcases (show a0 = 1 ∨ a0 = 2 ∨ a0 = 3 ∨ a0 = 4 ∨ a0 = 5 by omega) with rfl | rfl | rfl | rfl | rfl
  · simp [headgateref15_Both.f, agg_Both.f, headgateref15_Both.j0, headgateref15_Both.j1, headgateref15_Both.j2]
  · simp [headgateref15_Both.f, agg_Both.f, headgateref15_Both.j0, headgateref15_Both.j1, headgateref15_Both.j2]
  · simp [headgateref15_Both.f, agg_Both.f, headgateref15_Both.j0, headgateref15_Both.j1, headgateref15_Both.j2, headgateref01_Both.f]
  · have e1 : takes 1 x0 v0 (cmpV v3 v4 v5 x3 x4 x5) = true ↔ v0 ≠ 0 ∧ (x0 = 0 ∨ cmpV v3 v4 v5 x3 x4 x5 < 0) := by
      unfold takes
      simp only [Bool.and_eq_true, Bool.or_eq_true, decide_eq_true_eq, beq_iff_eq, hcm.1, bne_iff_ne]
    by_cases hv0 : v0 = 0
    · simp [headgateref15_Both.f, agg_Both.f, headgateref15_Both.j0, headgateref15_Both.j1, headgateref15_Both.j2, hv0, e1, takes]
    · by_cases hx : x0 = 0
      · subst hx
        simp only [true_or, and_true] at e1
        simp [headgateref15_Both.f, agg_Both.f, headgateref15_Both.j0, headgateref15_Both.j1, headgateref15_Both.j2, headgateref15_Both.j3, refCmp_eq, hv0, e1]
      · by_cases hl : cmpV v3 v4 v5 x3 x4 x5 < 0 <;> simp [headgateref15_Both.f, agg_Both.f, headgateref15_Both.j0, headgateref15_Both.j1, headgateref15_Both.j2, headgateref15_Both.j3, refCmp_eq, hv0, hx, hl, e1]
  · have e1 : takes (-1) x0 v0 (cmpV v3 v4 v5 x3 x4 x5) = true ↔ v0 ≠ 0 ∧ (x0 = 0 ∨ cmpV v3 v4 v5 x3 x4 x5 > 0) := by
      unfold takes
      simp only [Bool.and_eq_true, Bool.or_eq_true, decide_eq_true_eq, beq_iff_eq, hcm.2, bne_iff_ne]
    by_cases hv0 : v0 = 0
    · simp [headgateref15_Both.f, agg_Both.f, headgateref15_Both.j0, headgateref15_Both.j1, headgateref15_Both.j2, hv0, e1, takes]
    · by_cases hx : x0 = 0
      · subst hx
        simp only [true_or, and_true] at e1
        simp [headgateref15_Both.f, agg_Both.f, headgateref15_Both.j0, headgateref15_Both.j1, headgateref15_Both.j2, headgateref15_Both.j3, refCmp_eq, hv0, e1]
      · by_cases hl : 0 < cmpV v3 v4 v5 x3 x4 x5 <;> simp [headgateref15_Both.f, agg_Both.f, headgateref15_Both.j0, headgateref15_Both.j1, headgateref15_Both.j2, headgateref15_Both.j3, refCmp_eq, hv0, hx, hl, e1]
theorem int_eq {a b : Int} (h : Parts a b) : num_Int.f a b = headgateref01_Int.f a b := by
  have hw : in64 (wrap64 b) := by unfold in64 wrap64; omega
  unfold num_Int.f headgateref01_Int.f
  rw [wide_eq hw, if_pos h]
  simp only [Option.bind_some]
  have hb : IntKind.u64.wrap (wrap64 b) = b := by
    show wrap64 b % 18446744073709551616 = b
    unfold Parts at h
    unfold wrap64
    omega
  have hs : ws (wrap64 b) = signOf b := by
    unfold Parts at h
    unfold ws signOf wrap64
    split <;> split <;> omega
  rw [hb, hs]
  by_cases e : a = signOf b
  · rw [if_pos e, if_pos (by simp [e])]
  · rw [if_neg e, if_neg (by simp; exact fun h => e h.symm)]
theorem refWorth_eq (g : Nat) (a0 x0 x1 x2 x3 x4 : Int) (x5 : ByteArray) (hp : Parts x1 x2) :
    headgateref15_Worth.f (g + 3) a0 x0 x1 x2 x3 x4 x5 = agg_Worth.f a0 x0 x1 x2 x3 x4 x5 := by
  have hi := int_eq hp
  have hs : headgateref01_Int.f x1 x2 = some (if x1 = signOf x2 then (wrap64 x2, true) else (0, false)) := by
    unfold headgateref01_Int.f
    rw [if_pos hp]
  by_cases h0 : a0 < 1 ∨ a0 > 5
  · have n1 : ¬ a0 = 1 := by omega
    have n2 : ¬ a0 = 2 := by omega
    have n3 : ¬ a0 = 3 := by omega
    have n4 : ¬ a0 = 4 := by omega
    have n5 : ¬ a0 = 5 := by omega
    unfold agg_Worth.f
    rw [if_pos h0]
    simp [headgateref15_Worth.f, headgateref15_Worth.j0, headgateref15_Worth.j1, n1, n2, n3, n4, n5]
  rcases (show a0 = 1 ∨ a0 = 2 ∨ a0 = 3 ∨ a0 = 4 ∨ a0 = 5 by omega) with rfl | rfl | rfl | rfl | rfl
  · simp [headgateref15_Worth.f, agg_Worth.f, headgateref15_Worth.j0]
  · simp [headgateref15_Worth.f, agg_Worth.f, headgateref15_Worth.j0]
  · by_cases hx : x0 = 0 <;> simp [headgateref15_Worth.f, agg_Worth.f, headgateref15_Worth.j0, hi, hs, hx]
  · by_cases hx : x0 = 0 <;> simp [headgateref15_Worth.f, agg_Worth.f, headgateref15_Worth.j0, headgateref15_Worth.j1, hx]
  · by_cases hx : x0 = 0 <;> simp [headgateref15_Worth.f, agg_Worth.f, headgateref15_Worth.j0, headgateref15_Worth.j1, hx]
theorem worth_some (a0 x0 x1 x2 x3 x4 : Int) (x5 : ByteArray) (hp : Parts x1 x2) : ∃ r, agg_Worth.f a0 x0 x1 x2 x3 x4 x5 = some r := by
  unfold agg_Worth.f
  rw [int_eq hp]
  unfold headgateref01_Int.f
  rw [if_pos hp]
  simp only [Option.bind_some]
  split
  · exact ⟨_, rfl⟩
  split
  · exact ⟨_, rfl⟩
  split
  · exact ⟨_, rfl⟩
  split
  · exact ⟨_, rfl⟩
  generalize (if x1 = signOf x2 then (wrap64 x2, true) else ((0 : Int), false)) = p
  split <;> exact ⟨_, rfl⟩
theorem both_some (a0 x0 x1 x2 x3 x4 : Int) (x5 : ByteArray) (b0 b1 b2 b3 b4 : Int) (b5 : ByteArray) (hp : Parts x1 x2) (hq : Parts b1 b2) : ∃ r, agg_Both.f a0 x0 x1 x2 x3 x4 x5 b0 b1 b2 b3 b4 b5 = some r := by
  unfold agg_Both.f num_Both.f
  split
  · exact ⟨_, rfl⟩
  split
  · exact ⟨_, rfl⟩
  split
  · rw [if_pos ⟨hp, hq⟩]
    exact ⟨_, rfl⟩
  generalize (if a0 = 4 then (1 : Int) else -1) = s
  split <;> exact ⟨_, rfl⟩
theorem AggBoth_pure (a0 : Int) (x1 x2 : S28) (w0 : (Lit.int .i64 a0).wf = true) (hg1 : ((Lit.int .i64 x1.f0).wf = true) ∧ (((Lit.int .i64 x1.f1.f0).wf = true) ∧ ((Lit.int .u64 x1.f1.f1).wf = true)) ∧ (((Lit.int .i64 x1.f2.f0).wf = true) ∧ ((Lit.int .i64 x1.f2.f1).wf = true) ∧ (x1.f2.f2.size ≤ 140737488351232)))
    (hg2 : ((Lit.int .i64 x2.f0).wf = true) ∧ (((Lit.int .i64 x2.f1.f0).wf = true) ∧ ((Lit.int .u64 x2.f1.f1).wf = true)) ∧ (((Lit.int .i64 x2.f2.f0).wf = true) ∧ ((Lit.int .i64 x2.f2.f1).wf = true) ∧ (x2.f2.f2.size ≤ 140737488351232))) :
    ∃ k, headgatelaw15_AggBoth.f k a0 x1.f0 x1.f1.f0 x1.f1.f1 x1.f2.f0 x1.f2.f1 x1.f2.f2 x2.f0 x2.f1.f0 x2.f1.f1 x2.f2.f0 x2.f2.f1 x2.f2.f2 = some true := by
  refine ⟨6, ?_⟩
  have hp := parts_of hg1.2.1.1 hg1.2.1.2
  have hq := parts_of hg2.2.1.1 hg2.2.1.2
  unfold headgatelaw15_AggBoth.f
  rw [alive_eq]
  simp only [Option.bind_some, if_true]
  rw [refBoth_eq 0, refWorth_eq 3 _ _ _ _ _ _ _ hp]
  obtain ⟨r, hr⟩ := both_some a0 x1.f0 x1.f1.f0 x1.f1.f1 x1.f2.f0 x1.f2.f1 x1.f2.f2 x2.f0 x2.f1.f0 x2.f1.f1 x2.f2.f0 x2.f2.f1 x2.f2.f2 hp hq
  obtain ⟨q, hq⟩ := worth_some a0 x1.f0 x1.f1.f0 x1.f1.f1 x1.f2.f0 x1.f2.f1 x1.f2.f2 hp
  rw [hr, hq]
  simp
end Go.Proofs.Ytphdbhneefmkcaa.Q
