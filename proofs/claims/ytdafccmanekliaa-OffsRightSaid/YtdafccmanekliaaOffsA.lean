/- Ranges, in plain words: which are right, which go on, which tile; that the printed functions of the program and of the document come to that; no machine in it. -/
import Derived.Test.YtdafccmanekliaaIntA
import Derived.Test.YtdafccmanekliaaAx6
namespace Go.Proofs.Ytdafccmanekliaa.Q
open Go.RowKit Go.Proofs.YtdafccmanekliaaW.PrintWords Go.Proofs.YtdafccmanekliaaW.PrintLast Go.Proofs.YtdafccmanekliaaW.PrintMore
set_option linter.unusedVariables false
set_option linter.unusedSimpArgs false

abbrev Rg := S31
theorem rg_drop (l : List Rg) (j : Int) (h0 : 0 ≤ j) (h1 : j < (l.length : Int)) : l.drop j.toNat = rd_T31 l j :: l.drop (j + 1).toNat := by
  have e : (j + 1).toNat = j.toNat + 1 := by omega
  have hl : j.toNat < l.length := by omega
  rw [e, List.drop_eq_getElem_cons hl]
  unfold rd_T31
  rw [List.getD_eq_getElem?_getD, List.getElem?_eq_getElem hl]
  rfl
theorem rl_drop (l : List (List Rg)) (j : Int) (h0 : 0 ≤ j) (h1 : j < (l.length : Int)) : l.drop j.toNat = rd_L10 l j :: l.drop (j + 1).toNat := by
  have e : (j + 1).toNat = j.toNat + 1 := by omega
  have hl : j.toNat < l.length := by omega
  rw [e, List.drop_eq_getElem_cons hl]
  unfold rd_L10
  rw [List.getD_eq_getElem?_getD, List.getElem?_eq_getElem hl]
  rfl
def okR (y : Rg) : Bool := decide (0 ≤ y.f0 ∧ y.f0 ≤ y.f1 ∧ y.f1 ≤ 1099511627776)
def rightR (l : List Rg) : Bool := decide (1 ≤ l.length ∧ l.length ≤ 4) && l.all okR
def goes : List Rg → List Rg → Bool
  | a :: xs, b :: ys => (a.f1 == b.f0) && goes xs ys
  | _, _ => true
def follows (a b : List Rg) : Bool := rightR a && rightR b && decide (a.length = b.length) && goes a b
def chain : List Rg → List (List Rg) → Bool
  | _, [] => true
  | was, x :: xs => follows was x && chain x xs

theorem check_loop (l : List Rg) (hl : l.length ≤ 9223372036854775806) : ∀ (d : Nat) (i : Int), 0 ≤ i → i + d = l.length → Ev (fun k => offs_Check.l0 k l (l.length : Int) i) (if (l.drop i.toNat).all okR = true then 0 else 80) := by
  intro d
  induction d with
  | zero =>
    intro i h0 h1
    rw [List.drop_of_length_le (by omega)]
    exact Ev.step (f := fun _ => some 0) (fun k => by simp only [offs_Check.l0]; rw [if_neg (by omega)]) (Ev.now _)
  | succ d ih =>
    intro i h0 h1
    have e2 : wrap64 (i + 1) = i + 1 := wrap_in (by unfold in64; omega)
    rw [rg_drop l i h0 (by omega), List.all_cons]
    obtain ⟨y, hy⟩ : ∃ y, rd_T31 l i = y := ⟨_, rfl⟩
    have key : ∀ b : Bool, b = !(okR y) → Ev (fun k => offs_Check.j2 k l (l.length : Int) i b) (if (okR y && (l.drop (i + 1).toNat).all okR) = true then 0 else 80) := by
      intro b hb
      cases hv : okR y with
      | false =>
        rw [hv] at hb
        subst hb
        exact Ev.step (f := fun _ => some 80) (fun k => by simp only [offs_Check.j2]; rw [if_pos (by simp)]) (by simpa using Ev.now (80 : Int))
      | true =>
        rw [hv] at hb
        subst hb
        exact Ev.step (fun k => by simp only [offs_Check.j2]; rw [if_neg (by simp), e2]) (by simpa using ih (i + 1) (by omega) (by omega))
    rw [hy]
    refine Ev.step (fun k => ?_) (key (!(okR y)) rfl)
    simp only [offs_Check.l0]
    rw [if_pos (by omega), if_pos h0, if_pos (by omega), hy]
    unfold okR
    by_cases q1 : y.f0 < 0
    · rw [if_pos q1, show (!decide (0 ≤ y.f0 ∧ y.f0 ≤ y.f1 ∧ y.f1 ≤ 1099511627776)) = true by simp; omega]
    rw [if_neg q1]
    by_cases q2 : y.f1 < y.f0
    · rw [if_pos q2, show (!decide (0 ≤ y.f0 ∧ y.f0 ≤ y.f1 ∧ y.f1 ≤ 1099511627776)) = true by simp; omega]
    rw [if_neg q2]
    congr 1
    rw [← decide_not, decide_eq_decide]
    omega
theorem Check_ev (l : List Rg) (hl : l.length ≤ 9223372036854775806) : Ev (fun k => offs_Check.f k l) (if rightR l = true then 0 else 80) := by
  unfold offs_Check.f rightR
  by_cases h1 : (l.length : Int) < 1
  · refine Ev.congr (fun k => if_pos h1) ?_
    rw [if_neg (by simp; omega)]
    exact Ev.step (f := fun _ => some 80) (fun k => by simp only [offs_Check.j0]; rw [if_pos trivial]) (Ev.now _)
  refine Ev.congr (fun k => if_neg h1) ?_
  by_cases h2 : (l.length : Int) > 4
  · rw [if_neg (by simp; omega)]
    exact Ev.step (f := fun _ => some 80) (fun k => by simp only [offs_Check.j0]; rw [if_pos (by simpa using h2)]) (Ev.now _)
  · have e : decide (1 ≤ l.length ∧ l.length ≤ 4) = true := by simp; omega
    rw [e, Bool.true_and]
    refine Ev.step (fun k => ?_) (check_loop l hl l.length 0 (by omega) (by omega))
    simp only [offs_Check.j0]
    rw [if_neg (by simpa using h2)]
theorem right_loop (l : List Rg) (hl : l.length ≤ 9223372036854775806) : ∀ (d : Nat) (i : Int), 0 ≤ i → i + d = l.length → Ev (fun k => headgateref08_Right.l0 k l i) ((l.drop i.toNat).all okR) := by
  intro d
  induction d with
  | zero =>
    intro i h0 h1
    rw [List.drop_of_length_le (by omega)]
    exact Ev.step (f := fun _ => some true) (fun k => by simp only [headgateref08_Right.l0]; rw [if_neg (by omega)]) (Ev.now _)
  | succ d ih =>
    intro i h0 h1
    have e2 : wrap64 (i + 1) = i + 1 := wrap_in (by unfold in64; omega)
    rw [rg_drop l i h0 (by omega), List.all_cons]
    obtain ⟨y, hy⟩ : ∃ y, rd_T31 l i = y := ⟨_, rfl⟩
    have key : ∀ b : Bool, b = !(okR y) → Ev (fun k => headgateref08_Right.j2 k l i b) (okR y && (l.drop (i + 1).toNat).all okR) := by
      intro b hb
      cases hv : okR y with
      | false =>
        rw [hv] at hb
        subst hb
        exact Ev.step (f := fun _ => some false) (fun k => by simp only [headgateref08_Right.j2]; rw [if_pos (by simp)]) (by simpa using Ev.now false)
      | true =>
        rw [hv] at hb
        subst hb
        exact Ev.step (fun k => by simp only [headgateref08_Right.j2]; rw [if_neg (by simp), e2]) (by simpa using ih (i + 1) (by omega) (by omega))
    rw [hy]
    refine Ev.step (fun k => ?_) (key (!(okR y)) rfl)
    simp only [headgateref08_Right.l0]
    rw [if_pos (by omega), if_pos h0, hy]
    unfold okR
    by_cases q1 : y.f0 < 0
    · rw [if_pos q1, show (!decide (0 ≤ y.f0 ∧ y.f0 ≤ y.f1 ∧ y.f1 ≤ 1099511627776)) = true by simp; omega]
    rw [if_neg q1]
    by_cases q3 : y.f1 < 0
    · rw [if_pos q3, show (!decide (0 ≤ y.f0 ∧ y.f0 ≤ y.f1 ∧ y.f1 ≤ 1099511627776)) = true by simp; omega]
    rw [if_neg q3]
    by_cases q2 : y.f0 > y.f1
    · rw [if_pos q2, show (!decide (0 ≤ y.f0 ∧ y.f0 ≤ y.f1 ∧ y.f1 ≤ 1099511627776)) = true by simp; omega]
    rw [if_neg q2]
    congr 1
    rw [← decide_not, decide_eq_decide]
    omega
theorem Right_ev (l : List Rg) (hl : l.length ≤ 9223372036854775806) : Ev (fun k => headgateref08_Right.f k l) (rightR l) := by
  unfold headgateref08_Right.f rightR
  by_cases h1 : (l.length : Int) = 0
  · refine Ev.congr (fun k => if_pos h1) ?_
    rw [show decide (1 ≤ l.length ∧ l.length ≤ 4) = false by simp; omega, Bool.false_and]
    exact Ev.step (f := fun _ => some false) (fun k => by simp only [headgateref08_Right.j0]; rw [if_pos trivial]) (Ev.now _)
  refine Ev.congr (fun k => if_neg h1) ?_
  by_cases h2 : (l.length : Int) > 4
  · rw [show decide (1 ≤ l.length ∧ l.length ≤ 4) = false by simp; omega, Bool.false_and]
    exact Ev.step (f := fun _ => some false) (fun k => by simp only [headgateref08_Right.j0]; rw [if_pos (by simpa using h2)]) (Ev.now _)
  · have e : decide (1 ≤ l.length ∧ l.length ≤ 4) = true := by simp; omega
    rw [e, Bool.true_and]
    refine Ev.step (fun k => ?_) (right_loop l hl l.length 0 (by omega) (by omega))
    simp only [headgateref08_Right.j0]
    rw [if_neg (by simpa using h2)]
end Go.Proofs.Ytdafccmanekliaa.Q
