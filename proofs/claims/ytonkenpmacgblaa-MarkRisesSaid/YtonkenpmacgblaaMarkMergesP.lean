/- Marks: in however many batches times come, the mark behind them is the same: of the printed functions alone; no machine in it. -/
import Derived.Test.YtonkenpmacgblaaQx7
import Derived.Test.YtonkenpmacgblaaMarkA
namespace Go.Proofs.Ytonkenpmacgblaa.Mark
open Go.RowKit Go.Proofs.Ytonkenpmacgblaa.Q Go.Proofs.YtonkenpmacgblaaW.PrintWords Go.Proofs.YtonkenpmacgblaaW.PrintLast Go.Proofs.YtonkenpmacgblaaW.PrintMore

theorem fold_fst : ∀ (l : List Int) (s : St), (l.foldl see s).1 = s.1
  | [], _ => rfl
  | t :: l, s => by
    rw [List.foldl_cons, fold_fst l]
    unfold see
    split <;> rfl
theorem fold_snd : ∀ (l : List Int) (a b : Int) (p : Int × Bool), (l.foldl see (a, p)).2 = (l.foldl see (b, p)).2
  | [], _, _, _ => rfl
  | t :: l, a, b, p => by
    rw [List.foldl_cons, List.foldl_cons]
    by_cases h : -72057594037927936 ≤ t ∧ t ≤ 72057594037927936
    · simp only [see, if_pos h]
      exact fold_snd l _ _ _
    · simp only [see, if_neg h]
      exact fold_snd l _ _ _
theorem fold_up : ∀ (l : List Int) (s : St), s.2.2 = true → (l.foldl see s).2.2 = true ∧ s.2.1 ≤ (l.foldl see s).2.1
  | [], _, h => ⟨h, Int.le_refl _⟩
  | t :: l, s, h => by
    rw [List.foldl_cons]
    have h1 : (see s t).2.2 = true ∧ s.2.1 ≤ (see s t).2.1 := by
      unfold see
      split
      · refine ⟨rfl, ?_⟩
        dsimp only
        split <;> omega
      · exact ⟨h, Int.le_refl _⟩
    have h2 := fold_up l (see s t) h1.1
    exact ⟨h2.1, by omega⟩
theorem next_snd (d : Int) (s : St) : (next d s).2 = s.2 := by
  unfold next
  split <;> rfl
theorem merge (d : Int) (q : St) (hq : q.1 = -72057594037927937) (l : List Int) : row d (next d q) l = next d (l.foldl see q) := by
  obtain ⟨c, p⟩ := q
  dsimp only at hq
  subst hq
  have e0 : next d (-72057594037927937, p) = ((next d (-72057594037927937, p)).1, p) := by
    unfold next
    split <;> rfl
  have e1 : l.foldl see (next d (-72057594037927937, p)) = ((next d (-72057594037927937, p)).1, (l.foldl see (-72057594037927937, p)).2) := by
    refine Prod.ext (fold_fst l _) ?_
    rw [e0]
    exact fold_snd l _ _ _
  have e2 : l.foldl see (-72057594037927937, p) = (-72057594037927937, (l.foldl see (-72057594037927937, p)).2) := Prod.ext (fold_fst l _) rfl
  have hu := fold_up l (-72057594037927937, p)
  unfold row
  rw [e1, e2]
  generalize (l.foldl see (-72057594037927937, p)).2 = p' at hu
  obtain ⟨m, b⟩ := p
  obtain ⟨m', b'⟩ := p'
  unfold next
  dsimp only at hu ⊢
  cases b <;> cases b' <;> simp at hu ⊢
  split <;> split <;> omega

theorem getD_drop (l : List Int) (j : Int) (h0 : 0 ≤ j) (h1 : j < (l.length : Int)) : l.drop j.toNat = rd l j :: l.drop (j + 1).toNat := by
  have e : (j + 1).toNat = j.toNat + 1 := by omega
  have hl : j.toNat < l.length := by omega
  rw [e, List.drop_eq_getElem_cons hl]
  unfold rd
  rw [List.getD_eq_getElem?_getD, List.getElem?_eq_getElem hl]
  rfl

theorem merges_row (x : List (List Int)) (d i : Int) (hx : x.length ≤ 9223372036854775806) (hi : 0 ≤ i) (hi2 : i < (x.length : Int)) (hl : (rd_L1 x i).length ≤ 9223372036854775806) {r : Bool} : ∀ (n : Nat) (j : Int) (s q : St), 0 ≤ j → j + n = ((rd_L1 x i).length : Int) → Inv d s →
    Ev (fun k => headgatelaw19_MarkMerges.l0 k x (i + 1) (row d s ((rd_L1 x i).drop j.toNat)).1 (row d s ((rd_L1 x i).drop j.toNat)).2.1 (row d s ((rd_L1 x i).drop j.toNat)).2.2 d (((rd_L1 x i).drop j.toNat).foldl see q).1 (((rd_L1 x i).drop j.toNat).foldl see q).2.1 (((rd_L1 x i).drop j.toNat).foldl see q).2.2 d) r →
    Ev (fun k => headgatelaw19_MarkMerges.l1 k x i j s.1 s.2.1 s.2.2 d q.1 q.2.1 q.2.2 d) r := by
  intro n
  induction n with
  | zero =>
    intro j s q h0 h1 hs h
    have e : (rd_L1 x i).drop j.toNat = [] := List.drop_of_length_le (by omega)
    rw [e] at h
    refine Ev.step (fun k => ?_) h
    simp only [headgatelaw19_MarkMerges.l1]
    rw [if_pos hi, if_pos hi2, if_neg (by omega), next_eq hs, wrap_id (x := i + 1) (by omega) (by omega)]
    rfl
  | succ n ih =>
    intro j s q h0 h1 hs h
    rw [getD_drop _ j h0 (by omega)] at h
    refine Ev.step (fun k => ?_) (ih (j + 1) (see s (rd (rd_L1 x i) j)) (see q (rd (rd_L1 x i) j)) (by omega) (by omega) (inv_see hs _) h)
    simp only [headgatelaw19_MarkMerges.l1]
    rw [if_pos hi, if_pos hi2, if_pos (by omega), if_pos h0, see_eq, Option.bind_some, see_eq, Option.bind_some, wrap_id (x := j + 1) (by omega) (by omega)]

theorem merges_all (x : List (List Int)) (d : Int) (hx : x.length ≤ 9223372036854775806) (hl : ∀ i, (rd_L1 x i).length ≤ 9223372036854775806) : ∀ (n : Nat) (i : Int) (q : St), 0 ≤ i → i + n = (x.length : Int) → Inv d q → q.1 = -72057594037927937 →
    Ev (fun k => headgatelaw19_MarkMerges.l0 k x i (next d q).1 (next d q).2.1 (next d q).2.2 d q.1 q.2.1 q.2.2 d) true := by
  intro n
  induction n with
  | zero =>
    intro i q h0 h1 hs hq
    refine Ev.step (f := fun _ => some true) (fun k => ?_) (Ev.now _)
    simp only [headgatelaw19_MarkMerges.l0]
    rw [if_neg (by omega), next_eq hs, Option.bind_some, if_pos (by simp)]
    simp [mark_Mark_Last.f, next_snd]
  | succ n ih =>
    intro i q h0 h1 hs hq
    have h2 := ih (i + 1) ((rd_L1 x i).foldl see q) (by omega) (by omega) (inv_fold _ hs) (by rw [fold_fst]; exact hq)
    rw [← merge d q hq] at h2
    refine Ev.step (fun k => ?_) (merges_row x d i hx h0 (by omega) (hl i) (rd_L1 x i).length 0 (next d q) q (by omega) (by omega) (inv_next hs) (by rw [show (0 : Int).toNat = 0 from rfl, List.drop_zero]; exact h2))
    simp only [headgatelaw19_MarkMerges.l0]
    rw [if_pos (by omega)]

theorem new_eq (d : Int) : mark_New.f d = some (if 0 ≤ d ∧ d ≤ 72057594037927936 then (-72057594037927937, 0, false, d, 0) else (0, 0, false, 0, 2)) := by
  unfold mark_New.f
  by_cases h1 : d < 0
  · rw [if_pos h1, if_neg (by omega)]
  · by_cases h2 : d > 72057594037927936
    · rw [if_neg h1, if_pos h2, if_neg (by omega)]
    · rw [if_neg h1, if_neg h2, if_pos (by omega)]

theorem merges_true (d : Int) (x : List (List Int)) (hx : x.length ≤ 9223372036854775806) (hl : ∀ i, (rd_L1 x i).length ≤ 9223372036854775806) : Ev (fun k => headgatelaw19_MarkMerges.f k d x) true := by
  obtain ⟨b, hb⟩ := few_some x hx
  refine Ev.congr (f := fun k => (headgatelaw19_few.f k x).bind fun t => if t = true then ((mark_New.f d).bind fun z => if z.2.2.2.2 = 0 then headgatelaw19_MarkMerges.l0 k x 0 z.1 z.2.1 z.2.2.1 z.2.2.2.1 z.1 z.2.1 z.2.2.1 z.2.2.2.1 else some true) else some true)
    (fun k => by unfold headgatelaw19_MarkMerges.f; rw [alive_eq]; rfl) ?_
  refine Ev.bind hb ?_
  cases b with
  | false => exact Ev.now _
  | true =>
    simp only [if_true, new_eq, Option.bind_some]
    by_cases h : 0 ≤ d ∧ d ≤ 72057594037927936
    · simp only [if_pos h, if_true]
      exact merges_all x d hx hl x.length 0 (-72057594037927937, 0, false) (by omega) (by omega) ⟨h.1, h.2, by decide, by decide⟩ rfl
    · simp only [if_neg h]
      exact Ev.now _
theorem rd_len (x : List (List Int)) (h : ∀ y ∈ x, y.length * 8 ≤ 140737488351232 ∧ ∀ z ∈ y, (Lit.int .i64 z).wf = true) (i : Int) : (rd_L1 x i).length ≤ 9223372036854775806 := by
  unfold rd_L1
  rw [List.getD_eq_getElem?_getD]
  cases e : x[i.toNat]? with
  | none => simp
  | some y =>
    have := (h y (List.mem_of_getElem? e)).1
    simp only [Option.getD_some]
    omega
theorem MarkMerges_pure (d : Int) (x : List (List Int)) (_ : (Lit.int .i64 d).wf = true) (h : x.length * 24 ≤ 140737488351232 ∧ ∀ y ∈ x, y.length * 8 ≤ 140737488351232 ∧ ∀ z ∈ y, (Lit.int .i64 z).wf = true) : ∃ k, headgatelaw19_MarkMerges.f k d x = some true :=
  (merges_true d x (by omega) (rd_len x h.2)).rounds
end Go.Proofs.Ytonkenpmacgblaa.Mark
