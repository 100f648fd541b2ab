/- The number at the beginning of some bytes, in plain words: what code.Unnum's printed function comes to; no machine in it. -/
import Derived.Test.YtgihecpobichbaaIntA
import Derived.Test.YtgihecpobichbaaAx1
namespace Go.Proofs.Ytgihecpobichbaa.Q
open Go.RowKit Go.Proofs.YtgihecpobichbaaW.PrintWords Go.Proofs.YtgihecpobichbaaW.PrintLast Go.Proofs.YtgihecpobichbaaW.PrintMore
set_option linter.unusedVariables false
set_option linter.unusedSimpArgs false

/-- What Unnum makes of a byte c at place i. -/
def unAdd (i : Nat) (n c : Int) : Int := bits .or .u64 n (shl .u64 (IntKind.u64.wrap (bits .and .u8 c 127)) (7 * (i : Int)))
def unBad (i : Nat) (c : Int) : Bool := (i == 9 && decide (c > 1)) || (decide (i > 0) && c == 0)
def unS : Nat → Int → List Int → Int × Int × Int
  | _, _, [] => (0, 0, 41)
  | i, n, c :: l => if unBad i c = true then (0, 0, 41) else if c < 128 then (unAdd i n c, (i : Int) + 1, 0) else unS (i + 1) (unAdd i n c) l
def un (l : List Int) : Int × Int × Int := unS 0 0 l
theorem unS_le : ∀ (l : List Int) (i : Nat) (n : Int), 0 ≤ (unS i n l).2.1 ∧ (unS i n l).2.1 ≤ (i : Int) + l.length
  | [], i, n => by
    show 0 ≤ (0 : Int) ∧ (0 : Int) ≤ (i : Int) + ([] : List Int).length
    simp
  | c :: l, i, n => by
    unfold unS
    split
    · simp; omega
    · split
      · simp; omega
      · have := unS_le l (i + 1) (unAdd i n c)
        simp at this ⊢
        omega
theorem unS_ev (l : List Int) (hl : l.length ≤ 1000000000000000000) : ∀ (d i : Nat) (n : Int), i + d = l.length → Ev (fun k => code_Unnum.l0 k n l (l.length : Int) (i : Int)) (unS i n (l.drop i)) := by
  intro d
  induction d with
  | zero =>
    intro i n h
    rw [List.drop_of_length_le (by omega)]
    exact Ev.step (f := fun _ => some (0, 0, 41)) (fun k => by simp only [code_Unnum.l0]; rw [if_neg (by omega)]) (Ev.now _)
  | succ d ih =>
    intro i n h
    have hd := rd_drop l (i : Int) (by omega) (by omega)
    rw [show ((i : Int) + 1).toNat = i + 1 by omega, Int.toNat_natCast] at hd
    rw [hd]
    obtain ⟨c, hc⟩ : ∃ c, rd l (i : Int) = c := ⟨_, rfl⟩
    rw [hc]
    have e7 : wrap64 (7 * (i : Int)) = 7 * (i : Int) := wrap_in (by unfold in64; omega)
    have e1 : wrap64 ((i : Int) + 1) = (i : Int) + 1 := wrap_in (by unfold in64; omega)
    have hj2 : ∀ b : Bool, b = unBad i c → Ev (fun k => code_Unnum.j2 k n (i : Int) c l (l.length : Int) (i : Int) b) (unS i n (c :: l.drop (i + 1))) := by
      intro b hb
      unfold unS
      cases hv : unBad i c with
      | true =>
        rw [hv] at hb
        subst hb
        rw [if_pos rfl]
        exact Ev.step (f := fun _ => some (0, 0, 41)) (fun k => by simp only [code_Unnum.j2]; rw [if_pos trivial]) (Ev.now _)
      | false =>
        rw [hv] at hb
        subst hb
        rw [if_neg (by simp)]
        by_cases h1 : c < 128
        · rw [if_pos h1]
          refine Ev.step (f := fun _ => some (unAdd i n c, (i : Int) + 1, 0)) (fun k => ?_) (Ev.now _)
          simp only [code_Unnum.j2]
          rw [if_neg (by simp), e7, if_pos (by omega), if_pos h1, e1]
          rfl
        · rw [if_neg h1]
          refine Ev.step (fun k => ?_) (ih (i + 1) (unAdd i n c) (by omega))
          simp only [code_Unnum.j2]
          rw [if_neg (by simp), e7, if_pos (by omega), if_neg h1, e1]
          rfl
    have hj1 : ∀ b : Bool, b = (i == 9 && decide (c > 1)) → Ev (fun k => code_Unnum.j1 k n (i : Int) c l (l.length : Int) (i : Int) b) (unS i n (c :: l.drop (i + 1))) := by
      intro b hb
      cases b with
      | true => exact Ev.step (fun k => by simp only [code_Unnum.j1]; rw [if_pos trivial]) (hj2 true (by unfold unBad; rw [← hb]; rfl))
      | false =>
        by_cases h0 : (i : Int) > 0
        · exact Ev.step (fun k => by simp only [code_Unnum.j1]; rw [if_neg (by simp), if_pos h0]) (hj2 (c == 0) (by unfold unBad; rw [← hb, decide_eq_true (show i > 0 by omega)]; simp))
        · exact Ev.step (fun k => by simp only [code_Unnum.j1]; rw [if_neg (by simp), if_neg h0]) (hj2 false (by unfold unBad; rw [← hb, decide_eq_false (show ¬ i > 0 by omega)]; simp))
    by_cases h9 : (i : Int) = 9
    · have h9' : (i == 9) = true := by simp; omega
      refine Ev.step (fun k => ?_) (hj1 (decide (c > 1)) (by rw [h9', Bool.true_and]))
      simp only [code_Unnum.l0]
      rw [if_pos (by omega), if_pos (by omega), if_pos (by omega), if_pos h9, hc]
    · have h9' : (i == 9) = false := by simp; omega
      refine Ev.step (fun k => ?_) (hj1 false (by rw [h9', Bool.false_and]))
      simp only [code_Unnum.l0]
      rw [if_pos (by omega), if_pos (by omega), if_pos (by omega), if_neg h9, hc]
theorem un_ev (l : List Int) (hl : l.length ≤ 1000000000000000000) : Ev (fun k => code_Unnum.f k l) (un l) := unS_ev l hl l.length 0 0 (by omega)
/-- So many items, one behind the other: what they are, and what is left; or none. -/
def readN {α : Type} (item : List Int → Option (α × List Int)) : Nat → List Int → Option (List α × List Int)
  | 0, l => some ([], l)
  | m + 1, l => (item l).bind fun p => (readN item m p.2).map fun q => (p.1 :: q.1, q.2)
def readItems {α : Type} (item : List Int → Option (α × List Int)) (l : List Int) : Option (List α × List Int) :=
  if (un l).2.2 = 0 then (if (un l).1 > ((l.drop (un l).2.1.toNat).length : Int) then none else readN item (un l).1.toNat (l.drop (un l).2.1.toNat)) else none
def unz (n : Int) : Int := bits .xor .i64 (wrap64 (n / 2)) (wrap64 (-wrap64 (bits .and .u64 n 1)))
def itemI (l : List Int) : Option (Int × List Int) := if (un l).2.2 = 0 then some (unz (un l).1, l.drop (un l).2.1.toNat) else none
end Go.Proofs.Ytgihecpobichbaa.Q
