/- Windows, in plain words: which there are, and that the checks of the program come to that; no machine in it. -/
import Derived.Test.YtjmladgjpielmaaIntA
import Derived.Test.YtjmladgjpielmaaAx1
namespace Go.Proofs.Ytjmladgjpielmaa.Q
open Go.RowKit Go.Proofs.YtjmladgjpielmaaW.PrintWords Go.Proofs.YtjmladgjpielmaaW.PrintLast Go.Proofs.YtjmladgjpielmaaW.PrintMore
set_option linter.unusedVariables false
set_option linter.unusedSimpArgs false

theorem num_Floor_eq (a b : Int) (ha : in64 a) (hb : in64 b) : num_Floor.f a b = some (floorS a b) := by
  unfold num_Floor.f floorS
  by_cases h : b < 1
  · rw [if_pos h, if_pos h]
  rw [if_neg h, if_neg h, if_neg (by omega)]
  obtain ⟨e1, e2⟩ := tdiv_pos (a := a) (show 1 ≤ b by omega)
  obtain ⟨m, r, f1, f2, f3, f4, f5, f6, f7⟩ := floor_parts ha (show 1 ≤ b by omega)
  rw [e1, e2]
  unfold in64 at ha
  by_cases c : a < 0 ∧ a % b ≠ 0
  · rw [if_pos c, if_pos c, if_pos (by omega)]
    have := f7 c.1
    rw [wrap_in (x := a / b + 1) (by unfold in64; omega), show a / b + 1 - 1 = a / b by omega, wrap_in (by unfold in64; omega)]
  · rw [if_neg c, if_neg c, if_neg (by omega), wrap_in (by unfold in64; omega)]
theorem ref_Floor_eq (a b : Int) (ha : in64 a) (hb : in64 b) : headgateref01_Floor.f a b = some (floorS a b) := by
  unfold headgateref01_Floor.f floorS
  by_cases h : b < 1
  · rw [if_pos h, if_pos h]
  rw [if_neg h, if_neg h, if_neg (by omega)]
  obtain ⟨e1, e2⟩ := tdiv_pos (a := a) (show 1 ≤ b by omega)
  obtain ⟨m, r, f1, f2, f3, f4, f5, f6, f7⟩ := floor_parts ha (show 1 ≤ b by omega)
  obtain ⟨n, g1, g2, g3, g4⟩ := quo_rem (a := a) (show b ≠ 0 by omega)
  rw [e1] at g1 ⊢
  rw [e2] at g2
  unfold in64 at ha
  by_cases c : a < 0 ∧ a % b ≠ 0
  · rw [if_pos c] at g1 g2 ⊢
    have := f7 c.1
    rw [wrap_in (x := a / b + 1) (by unfold in64; omega), g1, wrap_in (x := n) (by unfold in64; omega), if_pos (by omega), show a / b + 1 - 1 = a / b by omega, wrap_in (by unfold in64; omega)]
  · rw [if_neg c] at g1 g2 ⊢
    rw [wrap_in (x := a / b) (by unfold in64; omega), g1, wrap_in (x := n) (by unfold in64; omega), if_neg (by omega)]

def winRight (size slide : Int) : Prop := 1 ≤ slide ∧ slide ≤ size ∧ size ≤ 72057594037927936 ∧ (size - 1) / slide < 64
instance (size slide : Int) : Decidable (winRight size slide) := by unfold winRight; infer_instance
def timeOk (t : Int) : Prop := -72057594037927936 ≤ t ∧ t ≤ 72057594037927936
instance (t : Int) : Decidable (timeOk t) := by unfold timeOk; infer_instance
def winErr (t size slide : Int) : Int := if winRight size slide then (if timeOk t then 0 else 2) else 140
/-- Where the windows begin that have a time. -/
def wins (t size slide : Int) : List Int := (List.range (t / slide - (t - size) / slide).toNat).map fun i : Nat => ((t - size) / slide + 1 + (i : Int)) * slide

theorem Check_eq (k : Nat) (size slide : Int) (hs : in64 size) (hl : in64 slide) : window_Check.f (k + 1) size slide = some (if winRight size slide then 0 else 140) := by
  unfold window_Check.f
  simp only [window_Check.j0]
  unfold in64 at hs hl
  by_cases h1 : slide < 1
  · rw [if_pos h1, if_pos trivial, if_neg (fun z : winRight size slide => by unfold winRight at z; omega)]
  rw [if_neg h1]
  by_cases h2 : size < slide
  · rw [if_pos h2, if_pos trivial, if_neg (fun z : winRight size slide => by unfold winRight at z; omega)]
  rw [if_neg h2]
  by_cases h3 : size > 72057594037927936
  · rw [if_pos h3, if_pos trivial, if_neg (fun z : winRight size slide => by unfold winRight at z; omega)]
  rw [if_neg h3, if_neg (by omega)]
  have e1 : wrap64 (size - 1) = size - 1 := wrap_in (by unfold in64; omega)
  have e2 : Int.tdiv (size - 1) slide = (size - 1) / slide := Int.tdiv_eq_ediv_of_nonneg (by omega)
  have h4 : 0 ≤ (size - 1) / slide := Int.ediv_nonneg (by omega) (by omega)
  have h5 : (size - 1) / slide ≤ size - 1 := Int.ediv_le_self _ (by omega)
  rw [e1, e2, wrap_in (x := (size - 1) / slide) (by unfold in64; omega)]
  by_cases h6 : (size - 1) / slide ≥ 64
  · rw [if_pos (decide_eq_true h6), if_neg (fun z : winRight size slide => by unfold winRight at z; omega)]
  · rw [if_neg (by simpa using h6), if_pos (show winRight size slide from ⟨by omega, by omega, by omega, by omega⟩)]
theorem check_eq (k : Nat) (t size slide : Int) (hs : in64 size) (hl : in64 slide) : window_check.f (k + 1) t size slide = some (winErr t size slide) := by
  unfold window_check.f winErr
  rw [Check_eq k size slide hs hl]
  simp only [Option.bind_some]
  by_cases h : winRight size slide
  · rw [if_pos h, if_pos rfl, if_pos h]
    by_cases h1 : t < -72057594037927936
    · rw [if_pos h1, if_neg (fun z : timeOk t => by unfold timeOk at z; omega)]
    · rw [if_neg h1]
      by_cases h2 : t > 72057594037927936
      · rw [if_pos h2, if_neg (fun z : timeOk t => by unfold timeOk at z; omega)]
      · rw [if_neg h2, if_pos (show timeOk t from ⟨by omega, by omega⟩)]
  · rw [if_neg h, if_neg (by decide), if_neg h]
/-- What is known of the windows' numbers. -/
theorem win_nums {t size slide : Int} (hr : winRight size slide) (ht : timeOk t) : -144115188075855872 ≤ (t - size) / slide ∧ (t - size) / slide ≤ t / slide ∧ t / slide ≤ 72057594037927936 ∧ t / slide - (t - size) / slide ≤ 64 ∧
    t - size < ((t - size) / slide + 1) * slide ∧ t / slide * slide ≤ t ∧ t < (t / slide + 1) * slide ∧ (t - size) / slide * slide ≤ t - size ∧ 1 ≤ t / slide - (t - size) / slide := by
  unfold winRight at hr
  unfold timeOk at ht
  obtain ⟨h1, h2, h3, h4⟩ := hr
  have a1 := Int.lt_mul_of_ediv_lt (show 0 < slide by omega) (show (t - size) / slide < (t - size) / slide + 1 by omega)
  have a2 := Int.lt_mul_of_ediv_lt (show 0 < slide by omega) (show t / slide < t / slide + 1 by omega)
  have b1 := Int.ediv_mul_le (t - size) (show slide ≠ 0 by omega)
  have b2 := Int.ediv_mul_le t (show slide ≠ 0 by omega)
  have c1 := Int.lt_mul_of_ediv_lt (show 0 < slide by omega) h4
  have d1 : -144115188075855872 ≤ (t - size) / slide := by
    rw [Int.le_ediv_iff_mul_le (by omega)]
    have : (-144115188075855872) * slide ≤ (-144115188075855872) * 1 := Int.mul_le_mul_of_nonpos_left (by omega) (by omega)
    omega
  have d2 : t / slide ≤ 72057594037927936 := by
    by_cases q : 0 ≤ t
    · have := Int.ediv_le_self slide q; omega
    · have := Int.ediv_neg_of_neg_of_pos (show t < 0 by omega) (show 0 < slide by omega); omega
  have d3 : (t - size) / slide ≤ t / slide := Int.ediv_le_ediv (by omega) (by omega)
  refine ⟨d1, d3, d2, ?_, by omega, by omega, by omega, by omega, ?_⟩
  · have : (t / slide - (t - size) / slide - 1) * slide < 64 * slide := by
      have e : (t / slide - (t - size) / slide - 1) * slide = t / slide * slide - ((t - size) / slide + 1) * slide := by
        rw [← Int.sub_mul]
        congr 1
        omega
      rw [e]
      omega
    have := Int.lt_of_mul_lt_mul_right this (by omega)
    omega
  · have : (t - size) / slide + 1 ≤ t / slide := by
      rw [Int.le_ediv_iff_mul_le (by omega), Int.add_mul]
      omega
    omega
end Go.Proofs.Ytjmladgjpielmaa.Q
