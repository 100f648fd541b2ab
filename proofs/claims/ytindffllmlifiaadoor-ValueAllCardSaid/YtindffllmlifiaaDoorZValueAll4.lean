/- Values and rows in plain words: which are right. -/
import Derived.Test.YtindffllmlifiaaDoorZValueAll2
import Derived.Test.YtindffllmlifiaaDoorZValueAll1
import Derived.Lib.Strings
namespace Go.Proofs.YtindffllmlifiaaDoor.Q
open Go.RowKit Go.Proofs.YtindffllmlifiaaDoorW.PrintWords Go.Proofs.YtindffllmlifiaaDoorW.PrintLast Go.Proofs.YtindffllmlifiaaDoorW.PrintMore
set_option linter.unusedVariables false
set_option linter.unusedSimpArgs false
/-- What is wrong with a value. -/
def chkV (v : S23) : Int :=
  if v.f0 = 0 then (if v.f1 = 0 ∧ v.f2.toList = [] then 0 else 31)
  else if v.f0 = 1 then (if v.f2.toList = [] then 0 else 31)
  else if v.f0 = 2 then (if (v.f1 = 0 ∨ v.f1 = 1) ∧ v.f2.toList = [] then 0 else 31)
  else if v.f0 = 3 then (if v.f1 = 0 ∧ v.f2.size ≤ 200 then 0 else 31) else 30
theorem chk_ev (v : S23) : Ev (fun k => value_Check.f k v.f0 v.f1 v.f2) (chkV v) := by
  obtain ⟨k0, n, s⟩ := v
  unfold value_Check.f chkV
  simp only
  have hj1 : ∀ b : Bool, Ev (fun k => value_Check.j1 k b) (if b = true then 31 else 0) := by
    intro b
    refine Ev.step (f := fun _ => some (if b = true then 31 else 0)) (fun k => ?_) (Ev.now _)
    simp only [value_Check.j1]
    split <;> rfl
  have hj0 : ∀ (g : Bool), Ev (fun k => value_Check.j0 k g k0 n s) (if g = true then (if k0 = 3 then 0 else (if s.toList = [] then 0 else 31)) else 31) := by
    intro g
    cases g with
    | false =>
      refine Ev.step (fun k => ?_) (hj1 true)
      simp only [value_Check.j0]
      rw [if_neg (by simp)]
    | true =>
      by_cases h3 : k0 = 3
      · simp only [if_true, if_pos h3]
        refine Ev.step (fun k => ?_) (hj1 false)
        simp only [value_Check.j0]
        rw [if_pos trivial, if_pos h3]
      · simp only [if_true, if_neg h3]
        have h := hj1 (s.toList != [])
        have e : (if (s.toList != []) = true then (31 : Int) else 0) = (if s.toList = [] then 0 else 31) := by
          by_cases hs : s.toList = []
          · rw [if_neg (by simp [hs]), if_pos hs]
          · rw [if_pos (by simp [hs]), if_neg hs]
        rw [e] at h
        refine Ev.step (fun k => ?_) h
        simp only [value_Check.j0]
        rw [if_pos trivial, if_neg h3]
  by_cases h0 : k0 = 0
  · rw [if_pos h0]
    refine Ev.congr (fun k => if_pos h0) ?_
    have h := hj0 (n == 0)
    rw [if_neg (show ¬ k0 = 3 by omega)] at h
    by_cases hn : n = 0
    · rw [if_pos (by simp [hn])] at h
      have e : (if n = 0 ∧ s.toList = [] then (0 : Int) else 31) = (if s.toList = [] then 0 else 31) := by simp [hn]
      rw [e]
      exact h
    · rw [if_neg (by simp [hn])] at h
      rw [if_neg (fun z => hn z.1)]
      exact h
  · rw [if_neg h0]
    refine Ev.congr (fun k => if_neg h0) ?_
    by_cases h1 : k0 = 1
    · rw [if_pos h1]
      refine Ev.congr (fun k => if_pos h1) ?_
      have h := hj0 true
      rw [if_pos rfl, if_neg (show ¬ k0 = 3 by omega)] at h
      exact h
    · rw [if_neg h1]
      refine Ev.congr (fun k => if_neg h1) ?_
      by_cases h2 : k0 = 2
      · rw [if_pos h2]
        refine Ev.congr (fun k => if_pos h2) ?_
        by_cases hn : n = 0
        · refine Ev.congr (fun k => if_pos hn) ?_
          have h := hj0 true
          rw [if_pos rfl, if_neg (show ¬ k0 = 3 by omega)] at h
          have e : (if (n = 0 ∨ n = 1) ∧ s.toList = [] then (0 : Int) else 31) = (if s.toList = [] then 0 else 31) := by simp [hn]
          rw [e]
          exact h
        · refine Ev.congr (fun k => if_neg hn) ?_
          have h := hj0 (n == 1)
          rw [if_neg (show ¬ k0 = 3 by omega)] at h
          by_cases hn1 : n = 1
          · rw [if_pos (by simp [hn1])] at h
            have e : (if (n = 0 ∨ n = 1) ∧ s.toList = [] then (0 : Int) else 31) = (if s.toList = [] then 0 else 31) := by simp [hn1]
            rw [e]
            exact h
          · rw [if_neg (by simp [hn1])] at h
            rw [if_neg (fun z => by omega)]
            exact h
      · rw [if_neg h2]
        refine Ev.congr (fun k => if_neg h2) ?_
        by_cases h3 : k0 = 3
        · rw [if_pos h3]
          refine Ev.congr (fun k => if_pos h3) ?_
          by_cases hn : n = 0
          · refine Ev.congr (fun k => if_pos hn) ?_
            have h := hj0 (decide ((s.size : Int) ≤ 200))
            rw [if_pos h3] at h
            by_cases hs : s.size ≤ 200
            · rw [if_pos (by simp; omega)] at h
              rw [if_pos ⟨hn, hs⟩]
              exact h
            · rw [if_neg (by simp; omega)] at h
              rw [if_neg (fun z => hs z.2)]
              exact h
          · refine Ev.congr (fun k => if_neg hn) ?_
            have h := hj0 false
            rw [if_neg (by simp)] at h
            rw [if_neg (fun z => hn z.1)]
            exact h
        · rw [if_neg h3]
          exact Ev.congr (fun k => if_neg h3) (Ev.now _)
/-- Is a row right? -/
def rowOk (xs : List S23) : Bool := decide (xs.length ≤ 12) && xs.all (fun v => chkV v == 0)
theorem rdV_drop (l : List S23) (j : Int) (h0 : 0 ≤ j) (h1 : j < (l.length : Int)) : l.drop j.toNat = rd_T23 l j :: l.drop (j + 1).toNat := by
  have e : (j + 1).toNat = j.toNat + 1 := by omega
  have hl : j.toNat < l.length := by omega
  rw [e, List.drop_eq_getElem_cons hl]
  unfold rd_T23
  rw [List.getD_eq_getElem?_getD, List.getElem?_eq_getElem hl]
  rfl
theorem row_loop (l : List S23) (hl : l.length ≤ 9223372036854775806) : ∀ (d : Nat) (i : Int), 0 ≤ i → i ≤ 12 → i + d = l.length → Ev (fun k => value_Row.l0 k l (l.length : Int) i) (decide (l.length ≤ 12) && (l.drop i.toNat).all (fun v => chkV v == 0)) := by
  intro d
  induction d with
  | zero =>
    intro i h0 h12 h1
    rw [List.drop_of_length_le (by omega), decide_eq_true (by omega)]
    exact Ev.step (f := fun _ => some true) (fun k => by simp only [value_Row.l0]; rw [if_neg (by omega)]) (Ev.now _)
  | succ d ih =>
    intro i h0 h12 h1
    have e2 : wrap64 (i + 1) = i + 1 := wrap_in (by unfold in64; omega)
    rw [rdV_drop l i h0 (by omega), List.all_cons]
    obtain ⟨y, hy⟩ : ∃ y, rd_T23 l i = y := ⟨_, rfl⟩
    by_cases h : i = 12
    · rw [decide_eq_false (by omega), Bool.false_and]
      refine Ev.step (f := fun _ => some false) (fun k => ?_) (Ev.now _)
      simp only [value_Row.l0]
      rw [if_pos (by omega), if_pos h0, if_pos (by omega), if_pos h]
    · rw [hy]
      by_cases hc : chkV y = 0
      · have hb : (chkV y == 0) = true := by simp [hc]
        rw [hb, Bool.true_and]
        refine Ev.step (fun k => ?_) (Ev.bind (f := fun k t168 => (if t168 = 0 then (value_Row.l0 k l (l.length : Int) (wrap64 (i + 1))) else (some false))) (chk_ev y) (Ev.congr (fun k => if_pos hc) (by rw [e2]; exact ih (i + 1) (by omega) (by omega) (by omega))))
        simp only [value_Row.l0]
        rw [if_pos (by omega), if_pos h0, if_pos (by omega), if_neg h, hy]
      · have hb : (chkV y == 0) = false := by simpa using hc
        rw [hb, Bool.false_and, Bool.and_false]
        refine Ev.step (fun k => ?_) (Ev.bind (f := fun k t168 => (if t168 = 0 then (value_Row.l0 k l (l.length : Int) (wrap64 (i + 1))) else (some false))) (chk_ev y) (Ev.congr (fun k => if_neg hc) (Ev.now _)))
        simp only [value_Row.l0]
        rw [if_pos (by omega), if_pos h0, if_pos (by omega), if_neg h, hy]
theorem row_ev (l : List S23) (hl : l.length ≤ 9223372036854775806) : Ev (fun k => value_Row.f k l) (rowOk l) := row_loop l hl l.length 0 (by omega) (by omega) (by omega)
theorem chk_parts {v : S23} (h : chkV v = 0) : (v.f0 = 0 ∧ v.f1 = 0 ∧ v.f2.toList = []) ∨ (v.f0 = 1 ∧ v.f2.toList = []) ∨ (v.f0 = 2 ∧ (v.f1 = 0 ∨ v.f1 = 1) ∧ v.f2.toList = []) ∨ (v.f0 = 3 ∧ v.f1 = 0 ∧ v.f2.size ≤ 200) := by
  unfold chkV at h
  by_cases h0 : v.f0 = 0
  · rw [if_pos h0] at h
    split at h
    · rename_i hc
      exact .inl ⟨h0, hc.1, hc.2⟩
    · omega
  · rw [if_neg h0] at h
    by_cases h1 : v.f0 = 1
    · rw [if_pos h1] at h
      split at h
      · rename_i hc
        exact .inr (.inl ⟨h1, hc⟩)
      · omega
    · rw [if_neg h1] at h
      by_cases h2 : v.f0 = 2
      · rw [if_pos h2] at h
        split at h
        · rename_i hc
          exact .inr (.inr (.inl ⟨h2, hc.1, hc.2⟩))
        · omega
      · rw [if_neg h2] at h
        by_cases h3 : v.f0 = 3
        · rw [if_pos h3] at h
          split at h
          · rename_i hc
            exact .inr (.inr (.inr ⟨h3, hc.1, hc.2⟩))
          · omega
        · rw [if_neg h3] at h
          omega
theorem toList_nil {s : ByteArray} (h : s.toList = []) : s = ⟨#[]⟩ := by
  apply ByteArray.ext
  have h2 : s.data.toList = [] := by
    rw [← Lib.toList_data]
    exact h
  apply Array.ext'
  rw [h2]
end Go.Proofs.YtindffllmlifiaaDoor.Q
