/- AggPacks in plain words. -/
import Derived.Test.YtphdbhneefmkcaaAggP
import Derived.Test.YtphdbhneefmkcaaHx
namespace Go.Proofs.Ytphdbhneefmkcaa.Q
open Go.RowKit Go.Proofs.YtphdbhneefmkcaaW.PrintWords Go.Proofs.YtphdbhneefmkcaaW.PrintLast Go.Proofs.YtphdbhneefmkcaaW.PrintMore
set_option linter.unusedVariables false
set_option linter.unusedSimpArgs false

theorem value_Check_eq' (g : Nat) (k n : Int) (s : ByteArray) : value_Check.f (g + 3) k n s = some (checkV k n s) := by
  induction g with
  | zero => exact value_Check_eq k n s
  | succ g ih => exact value_Check.mono _ _ _ (g + 3) _ ih
theorem cmpV_self (a b : Int) (s : ByteArray) : cmpV a b s a b s = 0 := by
  have e : ∀ x, c2 x x = 0 := fun x => by unfold c2; rw [if_neg (by omega), if_neg (by omega)]
  unfold cmpV
  simp [e]
  exact ((bl_cmp s.data.toList s.data.toList).2.1).1 rfl
theorem big_loop (l : List S26) (hl : l.length ≤ 40) : ∀ (m : Nat) (i : Int), 0 ≤ i → (l.length : Int) - i ≤ m → i ≤ 40 → ∀ g, ∃ r, headgateref03_Big.l0 (m + 1 + g) l i = some r
  | 0, i, h0, hm, h4, g => by
    rw [show (0 + 1 + g) = g + 1 by omega]
    simp only [headgateref03_Big.l0]
    rw [if_neg (by omega)]
    exact ⟨_, rfl⟩
  | m + 1, i, h0, hm, h4, g => by
    rw [show (m + 1 + 1 + g) = (m + 1 + g) + 1 by omega]
    simp only [headgateref03_Big.l0]
    by_cases hi : i < (l.length : Int)
    · rw [if_pos hi, if_pos h0]
      split
      · exact ⟨_, rfl⟩
      · have e : wrap64 (i + 1) = i + 1 := by unfold wrap64; omega
        rw [e]
        exact big_loop l hl m (i + 1) (by omega) (by omega) (by omega) g
    · rw [if_neg hi]
      exact ⟨_, rfl⟩
theorem big_some (l : List S26) : ∃ r, headgateref03_Big.f 60 l = some r := by
  unfold headgateref03_Big.f
  by_cases h : (l.length : Int) > 40
  · rw [if_pos h]
    exact ⟨_, rfl⟩
  · rw [if_neg h]
    exact big_loop l (by omega) 40 0 (by omega) (by omega) (by omega) 19
theorem w1 : wrap64 (0 + 1) = 1 := by unfold wrap64; omega
theorem w2 : wrap64 (1 + 1) = 2 := by unfold wrap64; omega
theorem w3 : wrap64 (2 + 1) = 3 := by unfold wrap64; omega
theorem w4 : wrap64 (3 + 1) = 4 := by unfold wrap64; omega
theorem u1 : wrap64 1 = 1 := by unfold wrap64; omega
theorem u2 : wrap64 2 = 2 := by unfold wrap64; omega
theorem u3 : wrap64 3 = 3 := by unfold wrap64; omega
theorem u4 : wrap64 4 = 4 := by unfold wrap64; omega
theorem row_loop (l : List S26) (hl : l.length ≤ 40) : ∀ (m : Nat) (i : Int), 0 ≤ i → (l.length : Int) - i ≤ m → i ≤ 40 → headgateref03_CmpRow.l0 (m + 2) l l i = some 0
  | 0, i, h0, hm, h4 => by
    rw [show (0 + 2) = 1 + 1 by omega]
    simp only [headgateref03_CmpRow.l0]
    rw [if_neg (by omega), if_neg (by omega)]
  | m + 1, i, h0, hm, h4 => by
    rw [show (m + 1 + 2) = (m + 1 + 1) + 1 by omega]
    unfold headgateref03_CmpRow.l0
    by_cases hi : i < (l.length : Int)
    · rw [if_pos hi, if_neg (by omega), if_pos h0, if_pos hi, refCmp_eq, cmpV_self]
      have e : wrap64 (i + 1) = i + 1 := by unfold wrap64; omega
      simp only [Option.bind_some, if_true, e]
      exact row_loop l hl m (i + 1) (by omega) (by omega) (by omega)
    · rw [if_neg hi, if_neg (by omega)]
theorem same_4 (x0 x1 x2 x3 : S26) : headgateref03_Same.f 60 [x0, x1, x2, x3] [x0, x1, x2, x3] = some true := by
  unfold headgateref03_Same.f headgateref03_CmpRow.f
  rw [if_pos rfl, row_loop _ (by simp) 58 0 (by omega) (by simp) (by omega)]
  rfl
def okI (x : S26) : Bool := decide (x.f0 = 1) && decide (x.f2.toList = [])
def unP (x0 x1 x2 x3 : S26) : Bool := decide (checkV x3.f0 x3.f1 x3.f2 = 0) && okI x0 && okI x1 && okI x2
theorem emp : (⟨#[]⟩ : ByteArray).toList = [] := (Lib.toList_data ⟨#[]⟩).trans rfl
theorem aggUn (g : Nat) (x0 x1 x2 x3 : S26) : agg_Unpack.f (g + 8) [x0, x1, x2, x3] = some (if unP x0 x1 x2 x3 = true then (x0.f1, x1.f1, IntKind.u64.wrap x2.f1, x3.f0, x3.f1, x3.f2, 0) else (0, 0, 0, 0, 0, ⟨#[]⟩, 151)) := by
  unfold agg_Unpack.f
  rw [if_pos (show (([x0, x1, x2, x3] : List S26).length : Int) = 4 from rfl), if_pos (show 3 < (([x0, x1, x2, x3] : List S26).length : Int) by simp)]
  show Option.bind (value_Check.f (g + 8) x3.f0 x3.f1 x3.f2) _ = _
  rw [value_Check_eq' (g + 5)]
  simp only [Option.bind_some]
  by_cases hc : checkV x3.f0 x3.f1 x3.f2 = 0
  · rw [hc]
    have e0 : ∀ (i : Int) (l : List S26), rd_T26 l i = l.getD i.toNat z26 := fun _ _ => rfl
    by_cases h0 : okI x0 = true
    · by_cases h1 : okI x1 = true
      · by_cases h2 : okI x2 = true
        · have d0 := h0
          have d1 := h1
          have d2 := h2
          unfold okI at d0 d1 d2
          simp only [Bool.and_eq_true, decide_eq_true_eq] at d0 d1 d2
          simp (config := {decide := true}) [unP, hc, h0, h1, h2, d0, d1, d2, agg_Unpack.j0, agg_Unpack.l0, e0, value_Int.f, emp, u1, u2, u3]
        · have d0 := h0
          have d1 := h1
          have d2 := h2
          unfold okI at d0 d1 d2
          simp only [Bool.and_eq_true, decide_eq_true_eq, not_and] at d0 d1 d2
          by_cases q : x2.f0 = 1
          · simp (config := {decide := true}) [unP, hc, h0, h1, h2, d0, d1, q, d2 q, agg_Unpack.j0, agg_Unpack.l0, e0, value_Int.f, emp, u1, u2, u3]
          · simp (config := {decide := true}) [unP, hc, h0, h1, h2, d0, d1, q, agg_Unpack.j0, agg_Unpack.l0, e0, value_Int.f, emp, u1, u2, u3]
      · have d0 := h0
        have d1 := h1
        unfold okI at d0 d1
        simp only [Bool.and_eq_true, decide_eq_true_eq, not_and] at d0 d1
        by_cases q : x1.f0 = 1
        · simp (config := {decide := true}) [unP, hc, h0, h1, d0, q, d1 q, agg_Unpack.j0, agg_Unpack.l0, e0, value_Int.f, emp, u1, u2, u3]
        · simp (config := {decide := true}) [unP, hc, h0, h1, d0, q, agg_Unpack.j0, agg_Unpack.l0, e0, value_Int.f, emp, u1, u2, u3]
    · have d0 := h0
      unfold okI at d0
      simp only [Bool.and_eq_true, decide_eq_true_eq, not_and] at d0
      by_cases q : x0.f0 = 1
      · simp (config := {decide := true}) [unP, hc, h0, q, d0 q, agg_Unpack.j0, agg_Unpack.l0, e0, value_Int.f, emp, u1, u2, u3]
      · simp (config := {decide := true}) [unP, hc, h0, q, agg_Unpack.j0, agg_Unpack.l0, e0, value_Int.f, emp, u1, u2, u3]
  · simp [unP, hc, agg_Unpack.j0]
theorem refUn (g : Nat) (x0 x1 x2 x3 : S26) : headgateref15_Unpack.f (g + 8) [x0, x1, x2, x3] = some (if unP x0 x1 x2 x3 = true then (x0.f1, x1.f1, IntKind.u64.wrap x2.f1, x3.f0, x3.f1, x3.f2, true) else (0, 0, 0, 0, 0, ⟨#[]⟩, false)) := by
  unfold headgateref15_Unpack.f
  rw [if_pos (show (([x0, x1, x2, x3] : List S26).length : Int) = 4 from rfl), if_pos (show 3 < (([x0, x1, x2, x3] : List S26).length : Int) by simp)]
  show Option.bind (headgateref03_Check.f (g + 8) x3.f0 x3.f1 x3.f2) _ = _
  rw [refCheck_eq (g + 6)]
  simp only [Option.bind_some]
  by_cases hc : checkV x3.f0 x3.f1 x3.f2 = 0
  · rw [hc]
    have e0 : ∀ (i : Int) (l : List S26), rd_T26 l i = l.getD i.toNat z26 := fun _ _ => rfl
    by_cases h0 : okI x0 = true
    · by_cases h1 : okI x1 = true
      · by_cases h2 : okI x2 = true
        · have d0 := h0
          have d1 := h1
          have d2 := h2
          unfold okI at d0 d1 d2
          simp only [Bool.and_eq_true, decide_eq_true_eq] at d0 d1 d2
          simp (config := {decide := true}) [unP, hc, h0, h1, h2, d0, d1, d2, headgateref15_Unpack.j0, headgateref15_Unpack.l0, e0, emp, u1, u2, u3]
        · have d0 := h0
          have d1 := h1
          have d2 := h2
          unfold okI at d0 d1 d2
          simp only [Bool.and_eq_true, decide_eq_true_eq, not_and] at d0 d1 d2
          by_cases q : x2.f0 = 1
          · simp (config := {decide := true}) [unP, hc, h0, h1, h2, d0, d1, q, d2 q, headgateref15_Unpack.j0, headgateref15_Unpack.l0, e0, emp, u1, u2, u3]
          · simp (config := {decide := true}) [unP, hc, h0, h1, h2, d0, d1, q, headgateref15_Unpack.j0, headgateref15_Unpack.l0, e0, emp, u1, u2, u3]
      · have d0 := h0
        have d1 := h1
        unfold okI at d0 d1
        simp only [Bool.and_eq_true, decide_eq_true_eq, not_and] at d0 d1
        by_cases q : x1.f0 = 1
        · simp (config := {decide := true}) [unP, hc, h0, h1, d0, q, d1 q, headgateref15_Unpack.j0, headgateref15_Unpack.l0, e0, emp, u1, u2, u3]
        · simp (config := {decide := true}) [unP, hc, h0, h1, d0, q, headgateref15_Unpack.j0, headgateref15_Unpack.l0, e0, emp, u1, u2, u3]
    · have d0 := h0
      unfold okI at d0
      simp only [Bool.and_eq_true, decide_eq_true_eq, not_and] at d0
      by_cases q : x0.f0 = 1
      · simp (config := {decide := true}) [unP, hc, h0, q, d0 q, headgateref15_Unpack.j0, headgateref15_Unpack.l0, e0, emp, u1, u2, u3]
      · simp (config := {decide := true}) [unP, hc, h0, q, headgateref15_Unpack.j0, headgateref15_Unpack.l0, e0, emp, u1, u2, u3]
  · simp [unP, hc, headgateref15_Unpack.j0]
theorem both_un (l : List S26) : ∃ a b c d e f, ∃ ok : Bool, agg_Unpack.f 60 l = some (a, b, c, d, e, f, if ok then 0 else 151) ∧ headgateref15_Unpack.f 60 l = some (a, b, c, d, e, f, ok) := by
  by_cases h : l.length = 4
  · obtain ⟨x0, x1, x2, x3, rfl⟩ : ∃ x0 x1 x2 x3, l = [x0, x1, x2, x3] := by
      match l, h with
      | [x0, x1, x2, x3], _ => exact ⟨x0, x1, x2, x3, rfl⟩
    rw [aggUn 52, refUn 52]
    by_cases hu : unP x0 x1 x2 x3 = true
    · rw [if_pos hu, if_pos hu]
      exact ⟨_, _, _, _, _, _, true, rfl, rfl⟩
    · rw [if_neg hu, if_neg hu]
      exact ⟨_, _, _, _, _, _, false, rfl, rfl⟩
  · refine ⟨0, 0, 0, 0, 0, ⟨#[]⟩, false, ?_, ?_⟩
    · unfold agg_Unpack.f
      rw [if_neg (by omega)]
      simp [agg_Unpack.j0]
    · unfold headgateref15_Unpack.f
      rw [if_neg (by omega)]
      simp [headgateref15_Unpack.j0]
theorem law_j0 (l : List S26) : headgatelaw15_AggPacks.j0 61 l false = some true := by
  obtain ⟨a, b, c, d, e, f, ok, h1, h2⟩ := both_un l
  simp only [headgatelaw15_AggPacks.j0, h1, h2, Option.bind_some]
  cases ok <;> simp
theorem AggPacks_pure' (n hi lo k m : Int) (s : ByteArray) (l : List S26) (hlo : 0 ≤ lo ∧ lo ≤ 18446744073709551615) : headgatelaw15_AggPacks.f 61 n hi lo k m s l = some true := by
  unfold headgatelaw15_AggPacks.f
  rw [alive_eq]
  simp only [Option.bind_some, if_true]
  obtain ⟨r, hr⟩ := big_some l
  rw [show headgateref03_Big.f 61 l = some r from headgateref03_Big.mono _ _ _ hr]
  simp only [Option.bind_some]
  split
  · rfl
  simp only [agg_Pack.f, headgateref15_Pack.f, value_Int.f, Option.bind_some]
  rw [headgateref03_Same.mono _ _ _ _ (same_4 _ _ _ _)]
  simp only [Option.bind_some, if_true]
  rw [agg_Unpack.mono _ _ _ (aggUn 52 _ _ _ _), refCheck_eq 59]
  have hw : IntKind.u64.wrap (wrap64 lo) = lo := by
    show wrap64 lo % 18446744073709551616 = lo
    unfold wrap64
    omega
  simp only [Option.bind_some]
  by_cases hc : checkV k m s = 0
  · simp [unP, okI, emp, hc, hw, law_j0]
  · simp [unP, okI, emp, hc, law_j0]
theorem AggPacks_pure (x1 : S28) (l2 : List S26) (hg1 : ((Lit.int .i64 x1.f0).wf = true) ∧ (((Lit.int .i64 x1.f1.f0).wf = true) ∧ ((Lit.int .u64 x1.f1.f1).wf = true)) ∧ (((Lit.int .i64 x1.f2.f0).wf = true) ∧ ((Lit.int .i64 x1.f2.f1).wf = true) ∧ (x1.f2.f2.size ≤ 140737488351232)))
    (hg2 : l2.length * 32 ≤ 140737488351232 ∧ ∀ y ∈ l2, ((Lit.int .i64 y.f0).wf = true) ∧ ((Lit.int .i64 y.f1).wf = true) ∧ (y.f2.size ≤ 140737488351232)) :
    ∃ k, headgatelaw15_AggPacks.f k x1.f0 x1.f1.f0 x1.f1.f1 x1.f2.f0 x1.f2.f1 x1.f2.f2 l2 = some true :=
  ⟨61, AggPacks_pure' _ _ _ _ _ _ _ (wfu64 hg1.2.1.2)⟩
end Go.Proofs.Ytphdbhneefmkcaa.Q
