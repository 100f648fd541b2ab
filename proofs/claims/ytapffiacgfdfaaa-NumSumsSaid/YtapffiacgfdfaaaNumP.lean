/- Numbers: the statements of layer 1 but for sums of lists, of the printed functions alone; no machine in it. -/
import Derived.Test.YtapffiacgfdfaaaNumA
import Derived.Test.YtapffiacgfdfaaaBx
namespace Go.Proofs.Ytapffiacgfdfaaa.Q
open Go.RowKit Go.Proofs.YtapffiacgfdfaaaW.PrintWords Go.Proofs.YtapffiacgfdfaaaW.PrintLast Go.Proofs.YtapffiacgfdfaaaW.PrintMore
set_option linter.unusedVariables false
set_option linter.unusedSimpArgs false

theorem num_alive (k : Nat) : headgatelaw01_alive.f (k + 2) = some true := by
  unfold headgatelaw01_alive.f
  rw [num_Do_eq k 7 (-7) 2 (by decide) (by decide)]
  have h1 : num_Floor.f (-7) 2 = some (-4, 0) := by kernel_rfl
  have h2 : num_Add.f 0 9223372036854775807 1 = some (0, 9223372036854775808) := by kernel_rfl
  have h3 : num_Int.f 0 9223372036854775808 = some (0, false) := by kernel_rfl
  have h4 : doS 7 (-7) 2 = (-3, 0) := by decide
  rw [h1, h2, h4]
  simp only [Option.bind_some]
  rw [h3]
  simp
theorem NumDoes_pure (op a b : Int) (_ : (Lit.int .i64 op).wf = true) (ha : (Lit.int .i64 a).wf = true) (hb : (Lit.int .i64 b).wf = true) : ∃ k, headgatelaw01_NumDoes.f k op a b = some true := by
  refine ⟨2, ?_⟩
  unfold headgatelaw01_NumDoes.f
  rw [num_alive 0, num_Do_eq 0 op a b (wf64 ha) (wf64 hb), ref_Do_eq op a b (wf64 ha) (wf64 hb)]
  simp

theorem tdiv_pos {a b : Int} (hb : 1 ≤ b) : Int.tdiv a b = (if a < 0 ∧ a % b ≠ 0 then a / b + 1 else a / b) ∧ Int.tmod a b = (if a < 0 ∧ a % b ≠ 0 then a % b - b else a % b) := by
  have h1 := Int.tdiv_eq_ediv (a := a) (b := b)
  have h2 := Int.tmod_eq_emod (a := a) (b := b)
  have hd : (b ∣ a) ↔ a % b = 0 := Int.dvd_iff_emod_eq_zero
  have hs : Int.sign b = 1 := Int.sign_eq_one_of_pos (by omega)
  rw [hs] at h1
  by_cases h : a < 0 ∧ a % b ≠ 0
  · rw [if_neg (fun z => z.elim (fun q => by omega) (fun q => h.2 (hd.1 q)))] at h1 h2
    rw [if_pos h, if_pos h]
    omega
  · rw [if_pos (show 0 ≤ a ∨ b ∣ a from by
      by_cases q : a < 0
      · exact .inr (hd.2 (by by_cases r : a % b = 0; exact r; exact absurd ⟨q, r⟩ h))
      · exact .inl (by omega))] at h1 h2
    rw [if_neg h, if_neg h]
    omega
/-- Rounded down. -/
def floorS (a b : Int) : Int × Int := if b < 1 then (0, 2) else (a / b, 0)
theorem floor_parts {a b : Int} (ha : in64 a) (hb : 1 ≤ b) : ∃ m r : Int, a / b * b = m ∧ a % b = r ∧ a = m + r ∧ 0 ≤ r ∧ r < b ∧ (0 ≤ a → 0 ≤ a / b ∧ a / b ≤ a) ∧ (a < 0 → a ≤ a / b ∧ a / b < 0) := by
  have e := Int.mul_ediv_add_emod a b
  have h0 := Int.emod_nonneg a (show b ≠ 0 by omega)
  have h1 := Int.emod_lt_of_pos a (show 0 < b by omega)
  rw [Int.mul_comm] at e
  refine ⟨_, _, rfl, rfl, e.symm, h0, h1, fun h => ⟨Int.ediv_nonneg h (by omega), Int.ediv_le_self _ h⟩, fun h => ⟨?_, Int.ediv_neg_of_neg_of_pos h (by omega)⟩⟩
  rw [Int.le_ediv_iff_mul_le (by omega)]
  have : a * b ≤ a * 1 := Int.mul_le_mul_of_nonpos_left (by omega) (by omega)
  omega
theorem num_Floor_eq (a b : Int) (ha : in64 a) (hb : in64 b) : num_Floor.f a b = some (floorS a b) := by
  unfold num_Floor.f floorS
  by_cases h : b < 1
  · rw [if_pos h, if_pos h]
  rw [if_neg h, if_neg h, if_neg (by omega)]
  obtain ⟨e1, e2⟩ := tdiv_pos (a := a) (show 1 ≤ b by omega)
  obtain ⟨m, r, f1, f2, f3, f4, f5, f6, f7⟩ := floor_parts ha (show 1 ≤ b by omega)
  rw [e1, e2]
  unfold in64 at ha
  by_cases c : a < 0 ∧ a % b ≠ 0
  · rw [if_pos c, if_pos c, if_pos (by omega)]
    have := f7 c.1
    rw [wrap_in (x := a / b + 1) (by unfold in64; omega), show a / b + 1 - 1 = a / b by omega, wrap_in (by unfold in64; omega)]
  · rw [if_neg c, if_neg c, if_neg (by omega), wrap_in (by unfold in64; omega)]
theorem ref_Floor_eq (a b : Int) (ha : in64 a) (hb : in64 b) : headgateref01_Floor.f a b = some (floorS a b) := by
  unfold headgateref01_Floor.f floorS
  by_cases h : b < 1
  · rw [if_pos h, if_pos h]
  rw [if_neg h, if_neg h, if_neg (by omega)]
  obtain ⟨e1, e2⟩ := tdiv_pos (a := a) (show 1 ≤ b by omega)
  obtain ⟨m, r, f1, f2, f3, f4, f5, f6, f7⟩ := floor_parts ha (show 1 ≤ b by omega)
  obtain ⟨n, g1, g2, g3, g4⟩ := quo_rem (a := a) (show b ≠ 0 by omega)
  rw [e1] at g1 ⊢
  rw [e2] at g2
  unfold in64 at ha
  by_cases c : a < 0 ∧ a % b ≠ 0
  · rw [if_pos c] at g1 g2 ⊢
    have := f7 c.1
    rw [wrap_in (x := a / b + 1) (by unfold in64; omega), g1, wrap_in (x := n) (by unfold in64; omega), if_pos (by omega), show a / b + 1 - 1 = a / b by omega, wrap_in (by unfold in64; omega)]
  · rw [if_neg c] at g1 g2 ⊢
    rw [wrap_in (x := a / b) (by unfold in64; omega), g1, wrap_in (x := n) (by unfold in64; omega), if_neg (by omega)]
theorem NumFloors_pure (a b : Int) (ha : (Lit.int .i64 a).wf = true) (hb : (Lit.int .i64 b).wf = true) : ∃ k, headgatelaw01_NumFloors.f k a b = some true := by
  refine ⟨2, ?_⟩
  unfold headgatelaw01_NumFloors.f
  rw [num_alive 0, num_Floor_eq a b (wf64 ha) (wf64 hb), ref_Floor_eq a b (wf64 ha) (wf64 hb)]
  simp
theorem NumRest_pure (a b : Int) (ha : (Lit.int .i64 a).wf = true) (hb : (Lit.int .i64 b).wf = true) : ∃ k, headgatelaw01_NumRest.f k a b = some true := by
  refine ⟨2, ?_⟩
  unfold headgatelaw01_NumRest.f
  rw [num_alive 0, num_Floor_eq a b (wf64 ha) (wf64 hb)]
  simp only [Option.bind_some, if_true]
  unfold floorS
  by_cases h : b < 1
  · rw [if_pos h]
    simp only
    rw [if_neg (by decide), if_pos h]
    rfl
  · rw [if_neg h]
    simp only
    rw [if_pos trivial]
    obtain ⟨m, r, f1, f2, f3, f4, f5, f6, f7⟩ := floor_parts (wf64 ha) (show 1 ≤ b by omega)
    have hb1 := wf64 hb
    unfold in64 at hb1
    have e : IntKind.u64.wrap ((IntKind.u64.wrap a) - (IntKind.u64.wrap ((IntKind.u64.wrap (a / b)) * (IntKind.u64.wrap b)))) = r := by
      simp only [wrapu]
      rw [← Int.mul_emod, f1]
      omega
    have e2 : IntKind.u64.wrap b = b := by rw [wrapu]; omega
    rw [e, e2, decide_eq_true f5]
theorem NumBack_pure (a b : Int) (ha' : (Lit.int .i64 a).wf = true) (hb' : (Lit.int .i64 b).wf = true) : ∃ k, headgatelaw01_NumBack.f k a b = some true := by
  have ha := wf64 ha'
  have hb := wf64 hb'
  have key : headgatelaw01_NumBack.j0 6 a b = some true := by
    simp only [headgatelaw01_NumBack.j0, headgatelaw01_NumBack.j1]
    rw [num_Do_eq 3 7 a b ha hb, num_Do_eq 3 8 a b ha hb]
    simp only [Option.bind_some]
    by_cases b0 : b = 0
    · have e7 : doS 7 a b = (0, 11) := by unfold doS; rw [if_neg (by decide), if_neg (by decide), if_neg (by decide), if_pos rfl, if_pos b0]
      have e8 : doS 8 a b = (0, 11) := by unfold doS; rw [if_neg (by decide), if_neg (by decide), if_neg (by decide), if_neg (by decide), if_pos rfl, if_pos b0]
      rw [e7, e8]
      simp [b0]
    have e8 : doS 8 a b = (Int.tmod a b, 0) := by unfold doS; rw [if_neg (by decide), if_neg (by decide), if_neg (by decide), if_neg (by decide), if_pos rfl, if_neg b0]
    by_cases hm : a = -9223372036854775808 ∧ b = -1
    · have e7 : doS 7 a b = (0, 10) := by unfold doS; rw [if_neg (by decide), if_neg (by decide), if_neg (by decide), if_pos rfl, if_neg b0, if_pos hm]
      rw [e7, e8, hm.1, hm.2]
      simp
    · have e7 : doS 7 a b = (Int.tdiv a b, 0) := by unfold doS; rw [if_neg (by decide), if_neg (by decide), if_neg (by decide), if_pos rfl, if_neg b0, if_neg hm]
      rw [e7, e8]
      have hq := tdiv_in ha b0 hm
      obtain ⟨m, g1, g2, g3, g4⟩ := quo_rem (a := a) b0
      have hm2 : in64 m := by unfold in64 at *; omega
      have e6 : doS 6 (Int.tdiv a b) b = (m, 0) := by unfold doS; rw [if_neg (by decide), if_neg (by decide), if_pos rfl, g1]; unfold fit; rw [if_pos hm2]
      have hr : in64 (Int.tmod a b) := by have := tmod_abs (a := a) b0; unfold in64 at *; omega
      have e4 : doS 4 m (Int.tmod a b) = (a, 0) := by unfold doS; rw [if_pos rfl, ← g2]; unfold fit; rw [if_pos ha]
      have h6 := num_Do_eq 2 6 (Int.tdiv a b) b hq hb
      rw [e6] at h6
      have h4 := num_Do_eq 2 4 m (Int.tmod a b) hm2 hr
      rw [e4] at h4
      have hs := tmod_sign a b
      simp only [if_true]
      rw [if_neg (by simp), h6]
      simp only [Option.bind_some]
      rw [h4]
      simp only [Option.bind_some, if_true]
      by_cases r0 : Int.tmod a b = 0
      · rw [if_pos r0]
      · rw [if_neg r0]
        congr 1
        simp only [beq_iff_eq, decide_eq_decide]
        omega
  refine ⟨6, ?_⟩
  unfold headgatelaw01_NumBack.f
  rw [num_alive 4, num_Do_eq 4 4 a b ha hb]
  simp only [Option.bind_some, if_true]
  have e4 : doS 4 a b = fit (a + b) := by unfold doS; rw [if_pos rfl]
  rw [e4]
  by_cases hi : in64 (a + b)
  · have ef : fit (a + b) = (a + b, 0) := by unfold fit; rw [if_pos hi]
    rw [ef]
    simp only [if_true]
    have h5 := num_Do_eq 4 5 (a + b) b hi hb
    have e5 : doS 5 (a + b) b = (a, 0) := by unfold doS; rw [if_neg (by decide), if_pos rfl, show a + b - b = a by omega]; unfold fit; rw [if_pos ha]
    rw [e5] at h5
    rw [h5]
    simp only [Option.bind_some, if_true]
    exact key
  · have ef : fit (a + b) = (0, 10) := by unfold fit; rw [if_neg hi]
    rw [ef]
    simp only
    rw [if_neg (by decide)]
    exact key

theorem int_eq (a b : Int) (ha : in64 a) (hb : 0 ≤ b ∧ b ≤ 18446744073709551615) : num_Int.f a b = headgateref01_Int.f a b := by
  unfold num_Int.f num_wide.f headgateref01_Int.f
  rw [if_pos (show Parts a b from ⟨ha.1, ha.2, hb.1, hb.2⟩)]
  simp only [Option.bind_some]
  have e1 : IntKind.u64.wrap (wrap64 b) = b := by rw [wrapu]; unfold wrap64; omega
  have e2 : wrap64 b / 9223372036854775808 = signOf b := by
    unfold signOf wrap64
    split <;> omega
  rw [e1, e2]
  by_cases h : a = signOf b
  · rw [if_pos h, if_pos (by simp [h])]
  · rw [if_neg h, if_neg (by simp; intro z; exact absurd z.symm h)]
theorem wide_eq (n : Int) (hn : in64 n) : num_wide.f n = headgateref01_Wide.f n := by
  unfold num_wide.f headgateref01_Wide.f
  unfold in64 at hn
  by_cases h : n < 0
  · rw [if_pos h, show n / 9223372036854775808 = -1 by omega]
  · rw [if_neg h, show n / 9223372036854775808 = 0 by omega]
theorem both_some {a b c d : Int} (h1 : Parts a b) (h2 : Parts c d) : num_Both.f a b c d = some (bothS a b c d) := by
  unfold num_Both.f
  rw [if_pos ⟨h1, h2⟩]
theorem wide_parts (n : Int) (hn : in64 n) : ∃ x y, num_wide.f n = some (x, y) ∧ Parts x y := by
  refine ⟨_, _, rfl, ?_⟩
  unfold in64 at hn
  unfold Parts
  rw [wrapu]
  omega
theorem sums_core (a b c d n : Int) (ha : in64 a) (hb : 0 ≤ b ∧ b ≤ 18446744073709551615) (hc : in64 c) (hd : 0 ≤ d ∧ d ≤ 18446744073709551615) (hn : in64 n) : headgatelaw01_NumSums.f 2 a b c d n = some true := by
  unfold headgatelaw01_NumSums.f
  have p1 : Parts a b := ⟨ha.1, ha.2, hb.1, hb.2⟩
  have p2 : Parts c d := ⟨hc.1, hc.2, hd.1, hd.2⟩
  obtain ⟨x, y, hw, p3⟩ := wide_parts n hn
  rw [num_alive 0, int_eq a b ha hb, both_some p1 p2]
  have e1 : headgateref01_Both.f a b c d = some (bothS a b c d) := both_some p1 p2
  have e2 : num_Add.f a b n = some (bothS a b x y) := by
    unfold num_Add.f
    rw [hw]
    simp only [Option.bind_some]
    rw [both_some p1 p3]
    rfl
  have e3 : headgateref01_Both.f a b x y = some (bothS a b x y) := both_some p1 p3
  have e4 : headgateref01_Int.f a b = some (if a = signOf b then (wrap64 b, true) else (0, false)) := by
    unfold headgateref01_Int.f
    rw [if_pos p1]
  rw [e1, e2, ← wide_eq n hn, hw, e4]
  simp only [Option.bind_some, if_true]
  rw [e3]
  simp
theorem NumSums_pure (s t : S34) (n : Int) (hs : (Lit.int .i64 s.f0).wf = true ∧ (Lit.int .u64 s.f1).wf = true) (ht : (Lit.int .i64 t.f0).wf = true ∧ (Lit.int .u64 t.f1).wf = true) (hn : (Lit.int .i64 n).wf = true) : ∃ k, headgatelaw01_NumSums.f k s.f0 s.f1 t.f0 t.f1 n = some true :=
  ⟨2, sums_core _ _ _ _ _ (wf64 hs.1) (wfu64 hs.2) (wf64 ht.1) (wfu64 ht.2) (wf64 hn)⟩
end Go.Proofs.Ytapffiacgfdfaaa.Q
