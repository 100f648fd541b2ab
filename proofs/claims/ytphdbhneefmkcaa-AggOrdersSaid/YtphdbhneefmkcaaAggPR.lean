/- Of the chapter's answers: those of Add and Int in plain words. -/
import Derived.Test.YtphdbhneefmkcaaAggP
import Derived.Test.YtphdbhneefmkcaaCx2
import Derived.Test.YtphdbhneefmkcaaHRefI
namespace Go.Proofs.Ytphdbhneefmkcaa.Q
open Go.RowKit Go.Proofs.YtphdbhneefmkcaaW.PrintWords Go.Proofs.YtphdbhneefmkcaaW.PrintLast Go.Proofs.YtphdbhneefmkcaaW.PrintMore
set_option linter.unusedVariables false
set_option linter.unusedSimpArgs false

theorem refWide_eq (n : Int) : headgateref01_Wide.f n = some (ws n, IntKind.u64.wrap n) := by
  unfold headgateref01_Wide.f ws
  split <;> rfl
theorem refAdd_eq (g : Nat) (a0 x0 x1 x2 x3 x4 : Int) (x5 : ByteArray) (v0 v1 : Int) (v2 : ByteArray) (hv : in64 v1) :
    headgateref15_Add.f (g + 5) a0 x0 x1 x2 x3 x4 x5 v0 v1 v2 = agg_Add.f a0 x0 x1 x2 x3 x4 x5 v0 v1 v2 := by
  by_cases h0 : a0 < 1
  · simp [headgateref15_Add.f, agg_Add.f, headgateref15_Add.j0, h0]
  by_cases h5 : a0 > 5
  · simp [headgateref15_Add.f, agg_Add.f, headgateref15_Add.j0, h0, h5]
  have ho : ¬ (a0 < 1 ∨ a0 > 5) := by omega
  by_cases hc : checkV v0 v1 v2 = 0
  · have hk := checkV_0 hc
    have hcm := neg_lt (cmpV_in v0 v1 v2 x3 x4 x5)
    rcases (show a0 = 1 ∨ a0 = 2 ∨ a0 = 3 ∨ a0 = 4 ∨ a0 = 5 by omega) with rfl | rfl | rfl | rfl | rfl
    · rcases (show v0 = 0 ∨ v0 = 1 ∨ v0 = 2 ∨ v0 = 3 by omega) with rfl | rfl | rfl | rfl <;> simp [headgateref15_Add.f, agg_Add.f, headgateref15_Add.j0, headgateref15_Add.j1, headgateref15_Add.j2, refCheck_eq, hc, agg_Both.f]
    · rcases (show v0 = 0 ∨ v0 = 1 ∨ v0 = 2 ∨ v0 = 3 by omega) with rfl | rfl | rfl | rfl <;> simp [headgateref15_Add.f, agg_Add.f, headgateref15_Add.j0, headgateref15_Add.j1, headgateref15_Add.j2, refCheck_eq, hc, agg_Both.f]
    · rcases (show v0 = 0 ∨ v0 = 1 ∨ v0 = 2 ∨ v0 = 3 by omega) with rfl | rfl | rfl | rfl <;> simp [headgateref15_Add.f, agg_Add.f, headgateref15_Add.j0, headgateref15_Add.j1, headgateref15_Add.j2, refCheck_eq, hc, agg_Both.f, add0_eq hv, refWide_eq, headgateref01_Both.f]
    · have e1 : takes 1 x0 1 (cmpV v0 v1 v2 x3 x4 x5) = true ↔ x0 = 0 ∨ cmpV v0 v1 v2 x3 x4 x5 < 0 := by
        unfold takes
        simp only [Bool.and_eq_true, Bool.or_eq_true, decide_eq_true_eq, beq_iff_eq, hcm.1]
        simp
      rcases (show v0 = 0 ∨ v0 ≠ 0 by omega) with rfl | hv0
      · simp [headgateref15_Add.f, agg_Add.f, headgateref15_Add.j0, headgateref15_Add.j1, headgateref15_Add.j2, refCheck_eq, hc]
      · by_cases hx : x0 = 0
        · subst hx
          simp only [true_or, iff_true] at e1
          simp [headgateref15_Add.f, agg_Add.f, headgateref15_Add.j0, headgateref15_Add.j1, headgateref15_Add.j2, refCheck_eq, hc, agg_Both.f, hv0, e1]
        · by_cases hl : cmpV v0 v1 v2 x3 x4 x5 < 0 <;> simp [headgateref15_Add.f, agg_Add.f, headgateref15_Add.j0, headgateref15_Add.j1, headgateref15_Add.j2, refCheck_eq, refCmp_eq, hc, agg_Both.f, hv0, hx, hl, e1]
    · have e1 : takes (-1) x0 1 (cmpV v0 v1 v2 x3 x4 x5) = true ↔ x0 = 0 ∨ cmpV v0 v1 v2 x3 x4 x5 > 0 := by
        unfold takes
        simp only [Bool.and_eq_true, Bool.or_eq_true, decide_eq_true_eq, beq_iff_eq, hcm.2]
        simp
      rcases (show v0 = 0 ∨ v0 ≠ 0 by omega) with rfl | hv0
      · simp [headgateref15_Add.f, agg_Add.f, headgateref15_Add.j0, headgateref15_Add.j1, headgateref15_Add.j2, refCheck_eq, hc]
      · by_cases hx : x0 = 0
        · subst hx
          simp only [true_or, iff_true] at e1
          simp [headgateref15_Add.f, agg_Add.f, headgateref15_Add.j0, headgateref15_Add.j1, headgateref15_Add.j2, refCheck_eq, hc, agg_Both.f, hv0, e1]
        · by_cases hl : 0 < cmpV v0 v1 v2 x3 x4 x5 <;> simp [headgateref15_Add.f, agg_Add.f, headgateref15_Add.j0, headgateref15_Add.j1, headgateref15_Add.j2, refCheck_eq, refCmp_eq, hc, agg_Both.f, hv0, hx, hl, e1]
  · have h51 : ¬ 5 < a0 := h5
    by_cases h3 : a0 = 3 <;> simp [headgateref15_Add.f, agg_Add.f, headgateref15_Add.j0, headgateref15_Add.j1, refCheck_eq, hc, h0, h51, h3]
theorem int_eq {a b : Int} (h : Parts a b) : num_Int.f a b = headgateref01_Int.f a b := by
  have hw : in64 (wrap64 b) := by unfold in64 wrap64; omega
  unfold num_Int.f headgateref01_Int.f
  rw [wide_eq hw, if_pos h]
  simp only [Option.bind_some]
  have hb : IntKind.u64.wrap (wrap64 b) = b := by
    show wrap64 b % 18446744073709551616 = b
    unfold Parts at h
    unfold wrap64
    omega
  have hs : ws (wrap64 b) = signOf b := by
    unfold Parts at h
    unfold ws signOf wrap64
    split <;> split <;> omega
  rw [hb, hs]
  by_cases e : a = signOf b
  · rw [if_pos e, if_pos (by simp [e])]
  · rw [if_neg e, if_neg (by simp; exact fun h => e h.symm)]
end Go.Proofs.Ytphdbhneefmkcaa.Q
