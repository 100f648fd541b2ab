/- Marks: the mark behind any batches is the document's: of the printed functions alone; no machine in it. -/
import Derived.Test.YtonkenpmacgblaaQx5
import Derived.Test.YtonkenpmacgblaaMarkMergesP
namespace Go.Proofs.Ytonkenpmacgblaa.Mark
open Go.RowKit Go.Proofs.Ytonkenpmacgblaa.Q Go.Proofs.YtonkenpmacgblaaW.PrintWords Go.Proofs.YtonkenpmacgblaaW.PrintLast Go.Proofs.YtonkenpmacgblaaW.PrintMore
set_option linter.unusedVariables false
set_option linter.unusedSimpArgs false

theorem ref_see (s : St) (d t : Int) : Ev (fun k => headgateref19_See.f k s.1 s.2.1 s.2.2 d t) ((see s t).1, (see s t).2.1, (see s t).2.2, d) := by
  obtain ⟨a, m, b⟩ := s
  unfold headgateref19_See.f see
  dsimp only
  by_cases h1 : t < -72057594037927936
  · simp only [if_pos h1]
    rw [if_neg (by omega)]
    exact Ev.step (f := fun _ => some (a, m, b, d)) (fun k => by simp only [headgateref19_See.j0]; rfl) (Ev.now _)
  · simp only [if_neg h1]
    by_cases h2 : t > 72057594037927936
    · rw [if_neg (by omega)]
      refine Ev.step (f := fun _ => some (a, m, b, d)) (fun k => ?_) (Ev.now _)
      simp only [headgateref19_See.j0, decide_eq_true h2, if_true]
    · rw [if_pos (by omega)]
      refine Ev.step (f := fun _ => some (a, if b = true then if m < t then t else m else t, true, d)) (fun k => ?_) (Ev.now _)
      simp only [headgateref19_See.j0, decide_eq_false h2]
      rw [if_neg (by simp)]
      cases b
      · simp
      · simp only [if_true]
        by_cases h3 : m < t
        · rw [if_pos h3, if_pos h3]
        · rw [if_neg h3, if_neg h3]
theorem ref_next {d : Int} {s : St} (h : Inv d s) : headgateref19_Next.f s.1 s.2.1 s.2.2 d = some ((next d s).1, (next d s).2.1, (next d s).2.2, d) := by
  obtain ⟨a, m, b⟩ := s
  unfold Inv at h
  dsimp only at h
  unfold headgateref19_Next.f next
  dsimp only
  rw [wrap_id (by omega) (by omega)]
  cases b
  · simp
  · simp only [if_true]
    by_cases h3 : a < m - d
    · rw [if_pos h3, if_pos h3]
    · rw [if_neg h3, if_neg h3]

theorem getD_dropL (x : List (List Int)) (i : Int) (h0 : 0 ≤ i) (h1 : i < (x.length : Int)) : x.drop i.toNat = rd_L1 x i :: x.drop (i + 1).toNat := by
  have e : (i + 1).toNat = i.toNat + 1 := by omega
  have hl : i.toNat < x.length := by omega
  rw [e, List.drop_eq_getElem_cons hl]
  unfold rd_L1
  rw [List.getD_eq_getElem?_getD, List.getElem?_eq_getElem hl]
  rfl

theorem of_row (x : List (List Int)) (d i : Int) (hx : x.length ≤ 9223372036854775806) (hi : 0 ≤ i) (hi2 : i < (x.length : Int)) (hl : (rd_L1 x i).length ≤ 9223372036854775806) {r : Int × Int × Bool × Int} : ∀ (n : Nat) (j : Int) (s : St), 0 ≤ j → j + n = ((rd_L1 x i).length : Int) → Inv d s →
    Ev (fun k => headgateref19_Of.l0 k x (i + 1) (row d s ((rd_L1 x i).drop j.toNat)).1 (row d s ((rd_L1 x i).drop j.toNat)).2.1 (row d s ((rd_L1 x i).drop j.toNat)).2.2 d) r →
    Ev (fun k => headgateref19_Of.l1 k x i j s.1 s.2.1 s.2.2 d) r := by
  intro n
  induction n with
  | zero =>
    intro j s h0 h1 hs h
    rw [List.drop_of_length_le (by omega)] at h
    refine Ev.step (fun k => ?_) h
    simp only [headgateref19_Of.l1]
    rw [if_pos hi, if_pos hi2, if_neg (by omega), ref_next hs, wrap_id (x := i + 1) (by omega) (by omega)]
    rfl
  | succ n ih =>
    intro j s h0 h1 hs h
    rw [getD_drop _ j h0 (by omega)] at h
    have h2 := ih (j + 1) (see s (rd (rd_L1 x i) j)) (by omega) (by omega) (inv_see hs _) h
    refine Ev.step (fun k => ?_) (Ev.bind (ref_see s d (rd (rd_L1 x i) j)) (f := fun k z => headgateref19_Of.l1 k x i (j + 1) z.1 z.2.1 z.2.2.1 z.2.2.2) h2)
    simp only [headgateref19_Of.l1]
    rw [if_pos hi, if_pos hi2, if_pos (by omega), if_pos h0, wrap_id (x := j + 1) (by omega) (by omega)]
theorem of_all (x : List (List Int)) (d : Int) (hx : x.length ≤ 9223372036854775806) (hl : ∀ i, (rd_L1 x i).length ≤ 9223372036854775806) : ∀ (n : Nat) (i : Int) (s : St), 0 ≤ i → i + n = (x.length : Int) → Inv d s →
    Ev (fun k => headgateref19_Of.l0 k x i s.1 s.2.1 s.2.2 d) ((all d s (x.drop i.toNat)).1, (all d s (x.drop i.toNat)).2.1, (all d s (x.drop i.toNat)).2.2, d) := by
  intro n
  induction n with
  | zero =>
    intro i s h0 h1 hs
    rw [List.drop_of_length_le (by omega)]
    refine Ev.step (f := fun _ => some (s.1, s.2.1, s.2.2, d)) (fun k => ?_) (Ev.now _)
    simp only [headgateref19_Of.l0]
    rw [if_neg (by omega)]
  | succ n ih =>
    intro i s h0 h1 hs
    have h2 := ih (i + 1) (row d s (rd_L1 x i)) (by omega) (by omega) (inv_row hs _)
    rw [getD_dropL x i h0 (by omega)]
    refine Ev.step (fun k => ?_) (of_row x d i hx h0 (by omega) (hl i) (rd_L1 x i).length 0 s (by omega) (by omega) hs (by rw [show (0 : Int).toNat = 0 from rfl, List.drop_zero]; exact h2))
    simp only [headgateref19_Of.l0]
    rw [if_pos (by omega)]

theorem sees_row (x : List (List Int)) (d i u : Int) (hx : x.length ≤ 9223372036854775806) (hi : 0 ≤ i) (hi2 : i < (x.length : Int)) (hl : (rd_L1 x i).length ≤ 9223372036854775806) : ∀ (n : Nat) (j : Int) (s : St), 0 ≤ j → j + n = ((rd_L1 x i).length : Int) → Inv d s →
    Ev (fun k => headgatelaw19_MarkSees.l0 k d x u (i + 1) (row d s ((rd_L1 x i).drop j.toNat)).1 (row d s ((rd_L1 x i).drop j.toNat)).2.1 (row d s ((rd_L1 x i).drop j.toNat)).2.2 d) true →
    Ev (fun k => headgatelaw19_MarkSees.l1 k d x u i j s.1 s.2.1 s.2.2 d) true := by
  intro n
  induction n with
  | zero =>
    intro j s h0 h1 hs h
    rw [List.drop_of_length_le (by omega)] at h
    refine Ev.step (fun k => ?_) h
    simp only [headgatelaw19_MarkSees.l1]
    rw [if_pos hi, if_pos hi2, if_neg (by omega), next_eq hs, wrap_id (x := i + 1) (by omega) (by omega)]
    rfl
  | succ n ih =>
    intro j s h0 h1 hs h
    rw [getD_drop _ j h0 (by omega)] at h
    refine Ev.step (fun k => ?_) (ih (j + 1) (see s (rd (rd_L1 x i) j)) (by omega) (by omega) (inv_see hs _) h)
    simp only [headgatelaw19_MarkSees.l1]
    rw [if_pos hi, if_pos hi2, if_pos (by omega), if_pos h0, see_eq, Option.bind_some, wrap_id (x := j + 1) (by omega) (by omega)]
theorem sees_all (x : List (List Int)) (d u : Int) (hx : x.length ≤ 9223372036854775806) (hl : ∀ i, (rd_L1 x i).length ≤ 9223372036854775806) (hd : Inv d (-72057594037927937, 0, false)) : ∀ (n : Nat) (i : Int) (s : St), 0 ≤ i → i + n = (x.length : Int) → Inv d s →
    all d s (x.drop i.toNat) = all d (-72057594037927937, 0, false) x →
    Ev (fun k => headgatelaw19_MarkSees.l0 k d x u i s.1 s.2.1 s.2.2 d) true := by
  intro n
  induction n with
  | zero =>
    intro i s h0 h1 hs he
    rw [List.drop_of_length_le (by omega)] at he
    have hof := of_all x d hx hl x.length 0 (-72057594037927937, 0, false) (by omega) (by omega) hd
    rw [show (0 : Int).toNat = 0 from rfl, List.drop_zero, ← he] at hof
    refine Ev.step (fun k => ?_) (Ev.bind (g := fun k => headgateref19_Of.f k d x) hof (f := fun k z => (mark_Mark_Last.f s.1 s.2.1 s.2.2 d).bind fun bt173 => if (s.1 == z.1 && (s.2.1 == z.2.1 && (s.2.2 == z.2.2.1 && (d == z.2.2.2)))) = true then ((mark_Mark_Late.f s.1 s.2.1 s.2.2 d u).bind fun t178 => if (t178 == (decide (u < z.1))) = true then (if bt173.1 = 1152921504606846976 then (if bt173.2.1 = s.2.1 then some (bt173.2.2.1 == s.2.2) else some false) else some false) else some false) else some false) ?_)
    · simp only [headgatelaw19_MarkSees.l0]
      rw [if_neg (by omega)]
    · refine Ev.congr (f := fun _ => some true) (fun k => ?_) (Ev.now _)
      simp [all, mark_Mark_Last.f, mark_Mark_Late.f]
      rfl
  | succ n ih =>
    intro i s h0 h1 hs he
    rw [getD_dropL x i h0 (by omega)] at he
    have h2 := ih (i + 1) (row d s (rd_L1 x i)) (by omega) (by omega) (inv_row hs _) he
    refine Ev.step (fun k => ?_) (sees_row x d i u hx h0 (by omega) (hl i) (rd_L1 x i).length 0 s (by omega) (by omega) hs (by rw [show (0 : Int).toNat = 0 from rfl, List.drop_zero]; exact h2))
    simp only [headgatelaw19_MarkSees.l0]
    rw [if_pos (by omega)]
theorem right_eq (d : Int) : headgateref19_Right.f d = some (decide (0 ≤ d ∧ d ≤ 72057594037927936)) := by
  unfold headgateref19_Right.f
  by_cases h1 : d ≥ 0
  · rw [if_pos h1]
    congr 1
    rw [decide_eq_decide]
    omega
  · rw [if_neg h1, decide_eq_false (by omega)]
theorem sees_true (d u : Int) (x : List (List Int)) (hx : x.length ≤ 9223372036854775806) (hl : ∀ i, (rd_L1 x i).length ≤ 9223372036854775806) : Ev (fun k => headgatelaw19_MarkSees.f k d x u) true := by
  obtain ⟨b, hb⟩ := few_some x hx
  refine Ev.congr (f := fun k => (headgatelaw19_few.f k x).bind fun t => if t = true then ((mark_New.f d).bind fun bt150 => ((headgateref19_Right.f d).bind fun t156 => (if t156 = true then (if bt150.2.2.2.2 = 0 then (headgatelaw19_MarkSees.l0 k d x u 0 bt150.1 bt150.2.1 bt150.2.2.1 bt150.2.2.2.1) else (some false)) else (if bt150.2.2.2.2 = 2 then (some (bt150.1 == 0 && (bt150.2.1 == 0 && (!bt150.2.2.1 && (bt150.2.2.2.1 == 0))))) else (some false))))) else some true)
    (fun k => by unfold headgatelaw19_MarkSees.f; rw [alive_eq]; rfl) ?_
  refine Ev.bind hb ?_
  cases b with
  | false => exact Ev.now _
  | true =>
    simp only [if_true, new_eq, right_eq, Option.bind_some]
    by_cases h : 0 ≤ d ∧ d ≤ 72057594037927936
    · simp only [if_pos h, decide_eq_true h, if_true]
      have hi : Inv d (-72057594037927937, 0, false) := ⟨h.1, h.2, by decide, by decide⟩
      exact sees_all x d u hx hl hi x.length 0 (-72057594037927937, 0, false) (by omega) (by omega) hi rfl
    · simp only [if_neg h, decide_eq_false h]
      exact Ev.now _
theorem MarkSees_pure (d : Int) (x : List (List Int)) (u : Int) (_ : (Lit.int .i64 d).wf = true) (h : x.length * 24 ≤ 140737488351232 ∧ ∀ y ∈ x, y.length * 8 ≤ 140737488351232 ∧ ∀ z ∈ y, (Lit.int .i64 z).wf = true) (_ : (Lit.int .i64 u).wf = true) : ∃ k, headgatelaw19_MarkSees.f k d x u = some true :=
  (sees_true d u x (by omega) (rd_len x h.2)).rounds
end Go.Proofs.Ytonkenpmacgblaa.Mark
