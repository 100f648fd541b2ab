/- Ranges: the law of which are right, and of how many places: of the printed functions alone; no machine in it. -/
import Derived.Test.YtdafccmanekliaaOffsP
import Derived.Test.YtdafccmanekliaaBx
namespace Go.Proofs.Ytdafccmanekliaa.Q
open Go.RowKit Go.Proofs.YtdafccmanekliaaW.PrintWords Go.Proofs.YtdafccmanekliaaW.PrintLast Go.Proofs.YtdafccmanekliaaW.PrintMore
set_option linter.unusedVariables false
set_option linter.unusedSimpArgs false

def sumR : List Rg → Int
  | [] => 0
  | y :: ys => (y.f1 - y.f0) + sumR ys
theorem okR_nums {y : Rg} (h : okR y = true) : 0 ≤ y.f0 ∧ y.f0 ≤ y.f1 ∧ y.f1 ≤ 1099511627776 := of_decide_eq_true h
theorem rows_loop (l : List Rg) (hl : l.length ≤ 4) : ∀ (d : Nat) (i acc : Int), 0 ≤ i → i + d = l.length → (l.drop i.toNat).all okR = true → 0 ≤ acc → acc ≤ i * 1099511627776 → Ev (fun k => offs_Rows.l0 k acc l (l.length : Int) i) (acc + sumR (l.drop i.toNat)) := by
  intro d
  induction d with
  | zero =>
    intro i acc h0 h1 ho b0 b1
    rw [List.drop_of_length_le (by omega)]
    refine Ev.step (f := fun _ => some (acc + sumR [])) (fun k => ?_) (Ev.now _)
    simp only [offs_Rows.l0]
    rw [if_neg (by omega)]
    unfold sumR
    rw [Int.add_zero]
  | succ d ih =>
    intro i acc h0 h1 ho b0 b1
    rw [rg_drop l i h0 (by omega), List.all_cons, Bool.and_eq_true] at ho
    obtain ⟨o1, o2⟩ := ho
    have o := okR_nums o1
    rw [rg_drop l i h0 (by omega)]
    obtain ⟨y, hy⟩ : ∃ y, rd_T31 l i = y := ⟨_, rfl⟩
    rw [hy] at o ⊢
    have hs : acc + sumR (y :: l.drop (i + 1).toNat) = acc + (y.f1 - y.f0) + sumR (l.drop (i + 1).toNat) := by
      show acc + (y.f1 - y.f0 + sumR _) = _
      omega
    rw [hs]
    refine Ev.step (fun k => ?_) (ih (i + 1) (acc + (y.f1 - y.f0)) (by omega) (by omega) o2 (by omega) (by omega))
    simp only [offs_Rows.l0]
    rw [if_pos (by omega), if_pos h0, if_pos (by omega), hy, wrap_in (x := y.f1 - y.f0) (by unfold in64; omega), wrap_in (x := acc + (y.f1 - y.f0)) (by unfold in64; omega), wrap_in (x := i + 1) (by unfold in64; omega)]
theorem right_parts {l : List Rg} (h : rightR l = true) : 1 ≤ l.length ∧ l.length ≤ 4 ∧ l.all okR = true := by
  unfold rightR at h
  rw [Bool.and_eq_true] at h
  have := of_decide_eq_true h.1
  exact ⟨this.1, this.2, h.2⟩
def places (l : List Rg) : Int := if rightR l = true then sumR l else 0
theorem Rows_ev (l : List Rg) (hl : l.length ≤ 9223372036854775806) : Ev (fun k => offs_Rows.f k l) (places l) := by
  unfold offs_Rows.f places
  refine Ev.bind (Check_ev l hl) ?_
  by_cases hr : rightR l = true
  · rw [if_pos hr, if_pos hr]
    obtain ⟨r1, r2, r3⟩ := right_parts hr
    refine Ev.congr (fun k => if_pos rfl) ?_
    have := rows_loop l r2 l.length 0 0 (by omega) (by omega) (by simpa using r3) (by omega) (by omega)
    simpa using this
  · rw [if_neg hr, if_neg hr]
    exact Ev.congr (fun k => if_neg (by decide)) (Ev.now _)
theorem law_loop (l : List Rg) (p : Int) (hl : l.length ≤ 4) {r : Bool} : ∀ (d : Nat) (i acc : Int), 0 ≤ i → i + d = l.length → (l.drop i.toNat).all okR = true → 0 ≤ acc → acc ≤ i * 1099511627776 →
    Ev (fun k => headgatelaw08_OffsRight.j1 k l p true (acc + sumR (l.drop i.toNat))) r → Ev (fun k => headgatelaw08_OffsRight.l0 k l p true acc i) r := by
  intro d
  induction d with
  | zero =>
    intro i acc h0 h1 ho b0 b1 hj
    rw [List.drop_of_length_le (by omega)] at hj
    refine Ev.step (fun k => ?_) hj
    simp only [headgatelaw08_OffsRight.l0]
    rw [if_neg (by omega)]
    unfold sumR
    rw [Int.add_zero]
  | succ d ih =>
    intro i acc h0 h1 ho b0 b1 hj
    rw [rg_drop l i h0 (by omega), List.all_cons, Bool.and_eq_true] at ho
    obtain ⟨o1, o2⟩ := ho
    have o := okR_nums o1
    rw [rg_drop l i h0 (by omega)] at hj
    obtain ⟨y, hy⟩ : ∃ y, rd_T31 l i = y := ⟨_, rfl⟩
    rw [hy] at o hj
    have hs : acc + sumR (y :: l.drop (i + 1).toNat) = acc + y.f1 - y.f0 + sumR (l.drop (i + 1).toNat) := by
      show acc + (y.f1 - y.f0 + sumR _) = _
      omega
    rw [hs] at hj
    refine Ev.step (fun k => ?_) (ih (i + 1) (acc + y.f1 - y.f0) (by omega) (by omega) o2 (by omega) (by omega) hj)
    simp only [headgatelaw08_OffsRight.l0]
    rw [if_pos (by omega), if_pos trivial, if_pos h0, hy, wrap_in (x := acc + y.f1) (by unfold in64; omega), wrap_in (x := acc + y.f1 - y.f0) (by unfold in64; omega), wrap_in (x := i + 1) (by unfold in64; omega)]
theorem same_loop (x : List Rg) (hl : x.length ≤ 9223372036854775806) : ∀ (d : Nat) (i : Int), 0 ≤ i → i + d = x.length → Ev (fun k => headgateref08_Same.l0 k x x i) true := by
  intro d
  induction d with
  | zero =>
    intro i h0 h1
    exact Ev.step (f := fun _ => some true) (fun k => by simp only [headgateref08_Same.l0]; rw [if_neg (by omega)]) (Ev.now _)
  | succ d ih =>
    intro i h0 h1
    refine Ev.step (fun k => ?_) (ih (i + 1) (by omega) (by omega))
    simp only [headgateref08_Same.l0]
    rw [if_pos (by omega), if_pos h0, if_pos (by omega), if_neg (by simp), wrap_in (x := i + 1) (by unfold in64; omega)]
theorem Same_ev (x : List Rg) (hl : x.length ≤ 9223372036854775806) : Ev (fun k => headgateref08_Same.f k x x) true := by
  unfold headgateref08_Same.f
  exact Ev.congr (fun k => if_pos rfl) (same_loop x hl x.length 0 (by omega) (by omega))
theorem j2_ev (p : Int) : Ev (fun k => headgatelaw08_OffsRight.j2 k p false) true := by
  refine Ev.step (f := fun k => (offs_Start.f p).bind fun bt233 => (if p < 1 then (headgatelaw08_OffsRight.j3 k p bt233.1 bt233.2 true) else (headgatelaw08_OffsRight.j3 k p bt233.1 bt233.2 (decide (p > 4))))) (fun k => by simp only [headgatelaw08_OffsRight.j2]; rw [if_neg (by simp)]) ?_
  unfold offs_Start.f
  have hbad : Ev (fun k => headgatelaw08_OffsRight.j3 k p ([] : List Rg) 80 true) true := Ev.step (f := fun _ => some true) (fun k => by simp only [headgatelaw08_OffsRight.j3]; rw [if_pos trivial, if_pos trivial]; rfl) (Ev.now _)
  by_cases h1 : p < 1
  · rw [if_pos h1]
    exact Ev.congr (fun k => (Option.bind_some _ _).trans (if_pos h1)) hbad
  rw [if_neg h1]
  by_cases h2 : p > 4
  · rw [if_pos h2]
    refine Ev.congr (fun k => (Option.bind_some _ _).trans (if_neg h1)) ?_
    rw [decide_eq_true h2]
    exact hbad
  rw [if_neg h2, if_pos (by omega), if_pos (by omega)]
  refine Ev.congr (fun k => (Option.bind_some _ _).trans (if_neg h1)) ?_
  obtain ⟨n, rfl⟩ := Int.eq_ofNat_of_zero_le (show 0 ≤ p by omega)
  have hb : begins n = List.replicate n z31 := by unfold begins; rw [if_pos (by omega)]
  have hS := Start_ev n (by omega)
  have hSame := Same_ev (begins n) (by rw [hb, List.length_replicate]; omega)
  refine Ev.step (f := fun k => (headgateref08_Start.f k (n : Int)).bind fun t237 => ((headgateref08_Same.f k (begins n) t237).bind fun t240 => (some t240))) (fun k => ?_) ?_
  · simp only [headgatelaw08_OffsRight.j3]
    rw [if_neg (by simp; omega), if_pos trivial, hb]
    rfl
  · exact Ev.bind hS (Ev.bind hSame (Ev.now _))
theorem j1_ev (l : List Rg) (p : Int) (hl : l.length ≤ 9223372036854775806) : Ev (fun k => headgatelaw08_OffsRight.j1 k l p (rightR l) (places l)) true := by
  have hc := Check_ev l hl
  have hR := Rows_ev l hl
  refine Ev.step (f := fun k => (offs_Check.f k l).bind fun t110 => (if ((t110 == 0) != rightR l) = true then (headgatelaw08_OffsRight.j2 k p true) else (if rightR l = true then ((offs_Rows.f k l).bind fun t111 => (headgatelaw08_OffsRight.j2 k p (t111 != places l))) else (if t110 = 80 then ((offs_Rows.f k l).bind fun t112 => (headgatelaw08_OffsRight.j2 k p (t112 != places l))) else (headgatelaw08_OffsRight.j2 k p true))))) (fun k => by simp only [headgatelaw08_OffsRight.j1]) ?_
  refine Ev.bind hc ?_
  have hend : Ev (fun k => (offs_Rows.f k l).bind fun t111 => (headgatelaw08_OffsRight.j2 k p (t111 != places l))) true := by
    refine Ev.bind hR ?_
    rw [show (places l != places l) = false by simp]
    exact j2_ev p
  by_cases hr : rightR l = true
  · rw [hr]
    refine Ev.congr (fun k => ?_) hend
    simp
  · rw [if_neg hr]
    have hr' : rightR l = false := by simpa using hr
    rw [hr']
    refine Ev.congr (fun k => ?_) hend
    simp
theorem OffsRight_pure' (l : List Rg) (p : Int) (hl : l.length ≤ 9223372036854775806) : ∃ k, headgatelaw08_OffsRight.f k l p = some true := by
  refine Ev.rounds ?_
  unfold headgatelaw08_OffsRight.f
  refine Ev.bind alive_ev ?_
  refine Ev.congr (fun k => if_pos rfl) ?_
  refine Ev.bind (Right_ev l hl) ?_
  have hj := j1_ev l p hl
  by_cases hr : rightR l = true
  · obtain ⟨r1, r2, r3⟩ := right_parts hr
    have hp : places l = sumR l := if_pos hr
    rw [hr, hp] at hj
    rw [hr]
    refine law_loop l p r2 l.length 0 0 (by omega) (by omega) (by simpa using r3) (by omega) (by omega) ?_
    have e : (0 : Int) + sumR (l.drop (0 : Int).toNat) = sumR l := by simp
    rw [e]
    exact hj
  · have hp : places l = 0 := if_neg hr
    have hr' : rightR l = false := by simpa using hr
    rw [hr', hp] at hj
    rw [hr']
    refine Ev.step (fun k => ?_) hj
    simp only [headgatelaw08_OffsRight.l0]
    by_cases h0 : (0 : Int) < (l.length : Int)
    · rw [if_pos h0, if_neg (by simp)]
    · rw [if_neg h0]
theorem OffsRight_pure (l : List Rg) (p : Int) (h : l.length * 16 ≤ 140737488351232 ∧ ∀ z ∈ l, (Lit.int .i64 z.f0).wf = true ∧ (Lit.int .i64 z.f1).wf = true) (w1 : (Lit.int .i64 p).wf = true) : ∃ k, headgatelaw08_OffsRight.f k l p = some true := OffsRight_pure' l p (by omega)
end Go.Proofs.Ytdafccmanekliaa.Q
