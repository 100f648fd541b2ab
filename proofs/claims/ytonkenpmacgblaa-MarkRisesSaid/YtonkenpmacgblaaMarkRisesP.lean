/- Marks: the watermark never falls, and the order of times within a batch counts for nothing: of the printed functions alone; no machine in it. -/
import Derived.Test.YtonkenpmacgblaaQx6
import Derived.Test.YtonkenpmacgblaaMarkMergesP
namespace Go.Proofs.Ytonkenpmacgblaa.Mark
open Go.RowKit Go.Proofs.Ytonkenpmacgblaa.Q Go.Proofs.YtonkenpmacgblaaW.PrintWords Go.Proofs.YtonkenpmacgblaaW.PrintLast Go.Proofs.YtonkenpmacgblaaW.PrintMore
set_option linter.unusedVariables false
set_option linter.unusedSimpArgs false

theorem see_comm (s : St) (t u : Int) : see (see s t) u = see (see s u) t := by
  obtain ⟨a, m, b⟩ := s
  unfold see
  by_cases ht : -72057594037927936 ≤ t ∧ t ≤ 72057594037927936 <;> by_cases hu : -72057594037927936 ≤ u ∧ u ≤ 72057594037927936 <;> simp only [ht, hu, if_true, if_false, and_self, true_and, and_true] <;> try rfl
  all_goals
    refine Prod.ext rfl (Prod.ext ?_ rfl)
    dsimp only
    cases b <;> simp only [if_true, if_false, Bool.false_eq_true] <;> (repeat' split) <;> omega
theorem fold_comm : ∀ (l : List Int) (s : St) (t : Int), l.foldl see (see s t) = see (l.foldl see s) t
  | [], _, _ => rfl
  | u :: l, s, t => by rw [List.foldl_cons, List.foldl_cons, see_comm, fold_comm l]
theorem fold_rev : ∀ (l : List Int) (s : St), l.reverse.foldl see s = l.foldl see s
  | [], _ => rfl
  | u :: l, s => by
    rw [List.reverse_cons, List.foldl_append, List.foldl_cons, List.foldl_nil, fold_rev l, List.foldl_cons, fold_comm]

/-- What holds of a mark between batches. -/
def Ok (d : Int) (s : St) : Prop := Inv d s ∧ -72057594037927937 ≤ s.1 ∧ s.1 ≤ 72057594037927936 ∧ (s.2.2 = true → s.1 ≤ s.2.1) ∧ (s.2.2 = false → s.1 = -72057594037927937)
theorem ok_see {d : Int} {s : St} (h : Ok d s) (t : Int) : Ok d (see s t) := by
  refine ⟨inv_see h.1 t, ?_⟩
  obtain ⟨hi, h1, h2, h3, h4⟩ := h
  unfold Inv at hi
  obtain ⟨a, m, b⟩ := s
  unfold see
  dsimp only at *
  split
  · dsimp only
    refine ⟨h1, h2, fun _ => ?_, fun h => by cases h⟩
    cases b with
    | true =>
      have := h3 rfl
      simp only [if_true]
      split <;> omega
    | false =>
      have := h4 rfl
      simp only [Bool.false_eq_true, if_false]
      omega
  · exact ⟨h1, h2, h3, h4⟩
theorem ok_fold {d : Int} : ∀ (l : List Int) {s : St}, Ok d s → Ok d (l.foldl see s)
  | [], _, h => h
  | t :: l, _, h => ok_fold l (ok_see h t)
theorem ok_next {d : Int} {s : St} (h : Ok d s) : Ok d (next d s) := by
  refine ⟨inv_next h.1, ?_⟩
  obtain ⟨hi, h1, h2, h3, h4⟩ := h
  unfold Inv at hi
  obtain ⟨a, m, b⟩ := s
  unfold next
  dsimp only at *
  split
  · rename_i hb
    have := h3 hb
    dsimp only
    refine ⟨?_, ?_, fun _ => ?_, fun h => by rw [h] at hb; cases hb⟩ <;> split <;> omega
  · exact ⟨h1, h2, h3, h4⟩
theorem next_next (d : Int) (s : St) : next d (next d s) = next d s := by
  obtain ⟨a, m, b⟩ := s
  unfold next
  dsimp only
  cases b
  · rfl
  · simp only [if_true]
    refine Prod.ext ?_ rfl
    dsimp only
    (repeat' split) <;> omega
theorem next_ge (d : Int) (s : St) : s.1 ≤ (next d s).1 := by
  unfold next
  split
  · dsimp only
    split <;> omega
  · exact Int.le_refl _
theorem getD_take (l : List Int) (j : Int) (h0 : 0 ≤ j) (h1 : j < (l.length : Int)) : l.reverse.drop j.toNat = rd l ((l.length : Int) - 1 - j) :: l.reverse.drop (j + 1).toNat := by
  have e : (j + 1).toNat = j.toNat + 1 := by omega
  have hl : j.toNat < l.reverse.length := by simp; omega
  rw [e, List.drop_eq_getElem_cons hl]
  unfold rd
  rw [List.getD_eq_getElem?_getD, List.getElem_reverse, List.getElem?_eq_getElem (show ((l.length : Int) - 1 - j).toNat < l.length by omega)]
  simp only [Option.getD_some]
  congr 1
  congr 1
  omega

theorem rises_row (x : List (List Int)) (d i : Int) (hi2 : i ≤ 9223372036854775806) (hi0 : 0 ≤ i) (l : List Int) (hl : l.length ≤ 9223372036854775806) (m : St) (_hm : Ok d m) : ∀ (n : Nat) (j : Int) (s q : St), 0 ≤ j → j + n = (l.length : Int) → Ok d s → s.1 = m.1 →
    (l.drop j.toNat).foldl see s = l.foldl see m → (l.reverse.drop j.toNat).foldl see q = l.foldl see m →
    Ev (fun k => headgatelaw19_MarkRises.l0 k x (i + 1) (row d m l).1 (row d m l).2.1 (row d m l).2.2 d) true →
    Ev (fun k => headgatelaw19_MarkRises.l1 k x i l j m.1 m.2.1 m.2.2 d s.1 s.2.1 s.2.2 d q.1 q.2.1 q.2.2 d) true := by
  intro n
  induction n with
  | zero =>
    intro j s q h0 h1 hs hsm e1 e2 h
    rw [List.drop_of_length_le (by omega), List.foldl_nil] at e1
    rw [List.drop_of_length_le (by simp; omega), List.foldl_nil] at e2
    have hr : row d m l = next d s := by unfold row; rw [e1]
    have hq : q = s := by rw [e1, e2]
    subst hq
    rw [hr] at h
    have hn := ok_next hs
    have hle : (next d q).1 ≥ m.1 := by rw [← hsm]; exact next_ge d q
    refine Ev.step (f := fun k => headgatelaw19_MarkRises.j3 k x i false q.1 q.2.1 q.2.2 d) (fun k => ?_) (Ev.step (fun k => ?_) h)
    · simp only [headgatelaw19_MarkRises.l1]
      rw [if_neg (by omega), if_neg (by simp), next_eq hs.1, Option.bind_some, if_neg (by omega)]
      simp only [mark_Mark_Last.f, Option.bind_some]
      have h5 : ¬ (1152921504606846976 : Int) < (next d q).1 := by have := hn.2.2.1; omega
      simp [h5]
    · simp only [headgatelaw19_MarkRises.j3]
      rw [if_neg (by simp), next_eq hs.1, Option.bind_some, wrap_id (x := i + 1) (by omega) (by omega)]
      simp only [mark_Mark_Late.f, Option.bind_some]
      cases hb : (next d q).2.2 with
      | false => simp
      | true =>
        have h5 : ¬ (next d q).2.1 < (next d q).1 := by have := hn.2.2.2.1 hb; omega
        simp [h5]
  | succ n ih =>
    intro j s q h0 h1 hs hsm e1 e2 h
    rw [getD_drop _ j h0 (by omega), List.foldl_cons] at e1
    rw [getD_take _ j h0 (by omega), List.foldl_cons] at e2
    have h6 := ih (j + 1) (see s (rd l j)) (see q (rd l ((l.length : Int) - 1 - j))) (by omega) (by omega) (ok_see hs _) (by rw [← hsm]; exact fold_fst [rd l j] s) e1 e2 h
    have e3 : wrap64 (wrap64 ((l.length : Int) - 1) - j) = (l.length : Int) - 1 - j := by rw [wrap_id (x := (l.length : Int) - 1) (by omega) (by omega), wrap_id (by omega) (by omega)]
    have h7 : ¬ (next d (see s (rd l j))).1 < (see s (rd l j)).1 := by have := next_ge d (see s (rd l j)); omega
    have h8 : (see s (rd l j)).1 = m.1 := by rw [← hsm]; exact fold_fst [rd l j] s
    refine Ev.step (f := fun k => headgatelaw19_MarkRises.j2 k x i l j false m.1 m.2.1 m.2.2 d (see s (rd l j)).1 (see s (rd l j)).2.1 (see s (rd l j)).2.2 d (see q (rd l ((l.length : Int) - 1 - j))).1 (see q (rd l ((l.length : Int) - 1 - j))).2.1 (see q (rd l ((l.length : Int) - 1 - j))).2.2 d) (fun k => ?_) (Ev.step (fun k => ?_) h6)
    · simp only [headgatelaw19_MarkRises.l1]
      rw [if_pos (by omega), if_pos h0, see_eq, Option.bind_some, e3, if_pos (by omega), if_pos (by omega), see_eq, Option.bind_some, if_pos h8]
      cases hb : (see s (rd l j)).2.2 with
      | false => simp
      | true =>
        have h9 := next_eq (ok_see hs (rd l j)).1
        rw [hb] at h9
        simp [h9, h7]
    · simp only [headgatelaw19_MarkRises.j2]
      rw [if_neg (by simp), wrap_id (x := j + 1) (by omega) (by omega)]

theorem rises_all (x : List (List Int)) (d : Int) (hx : x.length ≤ 9223372036854775806) (hl : ∀ i, (rd_L1 x i).length ≤ 9223372036854775806) : ∀ (n : Nat) (i : Int) (m : St), 0 ≤ i → i + n = (x.length : Int) → Ok d m → next d m = m →
    Ev (fun k => headgatelaw19_MarkRises.l0 k x i m.1 m.2.1 m.2.2 d) true := by
  intro n
  induction n with
  | zero =>
    intro i m h0 h1 hm hn
    refine Ev.step (f := fun _ => some true) (fun k => ?_) (Ev.now _)
    simp only [headgatelaw19_MarkRises.l0]
    rw [if_neg (by omega), next_eq hm.1, Option.bind_some, hn]
    simp
  | succ n ih =>
    intro i m h0 h1 hm hn
    have h2 := ih (i + 1) (row d m (rd_L1 x i)) (by omega) (by omega) (ok_next (ok_fold _ hm)) (next_next d _)
    refine Ev.step (fun k => ?_) (rises_row x d i (by omega) h0 (rd_L1 x i) (hl i) m hm (rd_L1 x i).length 0 m m (by omega) (by omega) hm rfl (by simp) (by rw [show (0 : Int).toNat = 0 from rfl, List.drop_zero, fold_rev]) h2)
    simp only [headgatelaw19_MarkRises.l0]
    rw [if_pos (by omega), if_pos h0]

theorem rises_true (d : Int) (x : List (List Int)) (hx : x.length ≤ 9223372036854775806) (hl : ∀ i, (rd_L1 x i).length ≤ 9223372036854775806) : Ev (fun k => headgatelaw19_MarkRises.f k d x) true := by
  obtain ⟨b, hb⟩ := few_some x hx
  refine Ev.congr (f := fun k => (headgatelaw19_few.f k x).bind fun t => if t = true then ((mark_New.f d).bind fun z => if z.2.2.2.2 = 0 then headgatelaw19_MarkRises.l0 k x 0 z.1 z.2.1 z.2.2.1 z.2.2.2.1 else if d < 0 then some true else some (decide (d > 72057594037927936))) else some true)
    (fun k => by unfold headgatelaw19_MarkRises.f; rw [alive_eq]; rfl) ?_
  refine Ev.bind hb ?_
  cases b with
  | false => exact Ev.now _
  | true =>
    simp only [if_true, new_eq, Option.bind_some]
    by_cases h : 0 ≤ d ∧ d ≤ 72057594037927936
    · simp only [if_pos h, if_true]
      exact rises_all x d hx hl x.length 0 (-72057594037927937, 0, false) (by omega) (by omega) ⟨⟨h.1, h.2, by decide, by decide⟩, by decide, by decide, fun h => (by cases h), fun _ => rfl⟩ rfl
    · simp only [if_neg h]
      by_cases h1 : d < 0
      · simp only [if_pos h1]
        exact Ev.now _
      · have h2 : d > 72057594037927936 := by omega
        simp only [if_neg h1, decide_eq_true h2]
        exact Ev.now _
theorem MarkRises_pure (d : Int) (x : List (List Int)) (_ : (Lit.int .i64 d).wf = true) (h : x.length * 24 ≤ 140737488351232 ∧ ∀ y ∈ x, y.length * 8 ≤ 140737488351232 ∧ ∀ z ∈ y, (Lit.int .i64 z).wf = true) : ∃ k, headgatelaw19_MarkRises.f k d x = some true :=
  (rises_true d x (by omega) (rd_len x h.2)).rounds
end Go.Proofs.Ytonkenpmacgblaa.Mark
