/- Numbers, in plain words: what Do, Floor and sums make, and that the functions of the program and of the document make just that; no machine in it. -/
import Derived.Test.YtapffiacgfdfaaaHRefDo2
import Derived.Test.YtapffiacgfdfaaaBx1
namespace Go.Proofs.Ytapffiacgfdfaaa.Q
open Go.RowKit Go.Proofs.YtapffiacgfdfaaaW.PrintWords Go.Proofs.YtapffiacgfdfaaaW.PrintLast Go.Proofs.YtapffiacgfdfaaaW.PrintMore
set_option linter.unusedVariables false
set_option linter.unusedSimpArgs false

theorem wf64 {x : Int} (h : (Lit.int .i64 x).wf = true) : in64 x := by
  have hmin : IntKind.i64.min = -9223372036854775808 := rfl
  have hmax : IntKind.i64.max = 9223372036854775807 := rfl
  simp only [Lit.wf, Bool.and_eq_true, decide_eq_true_eq] at h
  unfold in64
  omega
theorem wfu64 {x : Int} (h : (Lit.int .u64 x).wf = true) : 0 ≤ x ∧ x ≤ 18446744073709551615 := by
  have hmin : IntKind.u64.min = 0 := rfl
  have hmax : IntKind.u64.max = 18446744073709551615 := rfl
  simp only [Lit.wf, Bool.and_eq_true, decide_eq_true_eq] at h
  omega
theorem wrap_in {x : Int} (h : in64 x) : wrap64 x = x := by
  unfold in64 at h
  unfold wrap64
  omega
theorem wrap_is (x : Int) : in64 (wrap64 x) := by
  unfold in64 wrap64
  omega
theorem tdiv_abs (a b : Int) : -(if 0 ≤ a then a else -a) ≤ Int.tdiv a b ∧ Int.tdiv a b ≤ (if 0 ≤ a then a else -a) := by
  have h := Int.natAbs_tdiv_le_natAbs a b
  split <;> omega
/-- A quotient is a number, but for the least by -1. -/
theorem tdiv_in {a b : Int} (ha : in64 a) (hb : b ≠ 0) (h : ¬ (a = -9223372036854775808 ∧ b = -1)) : in64 (Int.tdiv a b) := by
  have h1 := tdiv_abs a b
  unfold in64 at *
  by_cases hm : a = -9223372036854775808
  · subst hm
    have hb1 : b ≠ -1 := fun z => h ⟨rfl, z⟩
    have h2 : Int.tdiv (-9223372036854775808) b ≠ 9223372036854775808 := by
      intro e
      have h3 := Int.mul_tdiv_add_tmod (-9223372036854775808) b
      rw [e] at h3
      have h4 : (Int.tmod (-9223372036854775808) b).natAbs < b.natAbs := by
        rw [Int.natAbs_tmod]
        exact Nat.mod_lt _ (by omega)
      omega
    rw [if_neg (by decide)] at h1
    omega
  · split at h1 <;> omega
theorem tmod_abs {a b : Int} (hb : b ≠ 0) : (Int.tmod a b).natAbs < b.natAbs := by
  rw [Int.natAbs_tmod]
  exact Nat.mod_lt _ (by omega)
theorem tmod_sign (a b : Int) : (0 ≤ a → 0 ≤ Int.tmod a b) ∧ (a ≤ 0 → Int.tmod a b ≤ 0) := by
  refine ⟨fun h => Int.tmod_nonneg b h, fun h => ?_⟩
  have h1 := Int.tmod_nonneg b (show 0 ≤ -a by omega)
  rw [Int.neg_tmod] at h1
  omega
/-- The quotient's product, and the rest. -/
theorem quo_rem {a b : Int} (hb : b ≠ 0) : ∃ m : Int, Int.tdiv a b * b = m ∧ a = m + Int.tmod a b ∧ (0 ≤ a → 0 ≤ m ∧ m ≤ a) ∧ (a ≤ 0 → a ≤ m ∧ m ≤ 0) := by
  refine ⟨Int.tdiv a b * b, rfl, ?_, ?_, ?_⟩
  · have := Int.mul_tdiv_add_tmod a b
    rw [Int.mul_comm] at this
    exact this.symm
  all_goals
    intro h
    have e := Int.mul_tdiv_add_tmod a b
    rw [Int.mul_comm] at e
    have s := tmod_sign a b
    have hz : (Int.tmod a b).natAbs ≤ a.natAbs := by
      rw [Int.natAbs_tmod]
      exact Nat.mod_le _ _
    omega

/-- What is made of two numbers. -/
def doS (op a b : Int) : Int × Int :=
  if op = 4 then fit (a + b) else if op = 5 then fit (a - b) else if op = 6 then fit (a * b)
  else if op = 7 then (if b = 0 then (0, 11) else if a = -9223372036854775808 ∧ b = -1 then (0, 10) else (Int.tdiv a b, 0))
  else if op = 8 then (if b = 0 then (0, 11) else (Int.tmod a b, 0)) else (0, 2)

theorem num_product_eq (k : Nat) (a b : Int) (ha : in64 a) (hb : in64 b) : num_product.f (k + 1) a b = some (fit (a * b)) := by
  unfold num_product.f
  simp only [num_product.j0]
  by_cases h0 : a = 0
  · subst h0
    rw [if_pos rfl, if_neg (by simp)]
    have e : (0 : Int) * b = 0 := Int.zero_mul b
    rw [e, show wrap64 0 = 0 from wrap_in (by unfold in64; omega), show fit 0 = (0, 0) from by decide]
  rw [if_neg h0]
  by_cases hin : in64 (a * b)
  · have e1 : wrap64 (a * b) = a * b := wrap_in hin
    have e2 : Int.tdiv (a * b) a = b := Int.mul_tdiv_cancel_left b h0
    rw [e1, e2, wrap_in hb, if_pos rfl]
    have hx : ¬ (a = -1 ∧ b = -9223372036854775808) := by
      rintro ⟨rfl, rfl⟩
      exact absurd hin (by decide)
    have ef : fit (a * b) = (a * b, 0) := by unfold fit; rw [if_pos hin]
    rw [ef]
    by_cases h1 : a = -1
    · have h2 : ¬ b = -9223372036854775808 := fun z => hx ⟨h1, z⟩
      rw [if_pos h1, if_neg (by simpa using h2)]
    · rw [if_neg h1, if_neg (by simp)]
  · have ef : fit (a * b) = (0, 10) := by unfold fit; rw [if_neg hin]
    rw [ef]
    by_cases h1 : wrap64 (Int.tdiv (wrap64 (a * b)) a) = b
    · rw [if_pos h1]
      have hc := wrap_is (a * b)
      have key : a = -1 ∧ b = -9223372036854775808 := by
        by_cases hm : wrap64 (a * b) = -9223372036854775808 ∧ a = -1
        · rw [hm.1, hm.2] at h1
          exact ⟨hm.2, by rw [← h1]; kernel_rfl⟩
        · exfalso
          have hq := tdiv_in hc h0 hm
          rw [wrap_in hq] at h1
          have e := Int.mul_tdiv_add_tmod (wrap64 (a * b)) a
          have hr := tmod_abs (a := wrap64 (a * b)) h0
          rw [h1] at e
          generalize a * b = p at *
          generalize Int.tmod (wrap64 p) a = r at *
          unfold in64 at *
          unfold wrap64 at *
          omega
      rw [if_pos key.1, key.2, if_pos (by decide)]
    · rw [if_neg h1, if_pos (by simp)]

theorem num_Do_eq (k : Nat) (op a b : Int) (ha : in64 a) (hb : in64 b) : num_Do.f (k + 2) op a b = some (doS op a b) := by
  unfold num_Do.f doS
  by_cases h4 : op = 4
  · rw [if_pos h4, if_pos h4]
    have e : ((decide (wrap64 (a + b) > a)) == decide (b > 0)) = decide (in64 (a + b)) := by
      rw [Bool.eq_iff_iff]
      simp only [beq_iff_eq, decide_eq_decide, decide_eq_true_eq]
      unfold in64 wrap64 at *
      omega
    rw [e]
    unfold fit
    by_cases hi : in64 (a + b)
    · rw [if_pos (decide_eq_true hi), if_pos hi, wrap_in hi]
    · rw [if_neg (by simpa using hi), if_neg hi]
  rw [if_neg h4, if_neg h4]
  by_cases h5 : op = 5
  · rw [if_pos h5, if_pos h5]
    have e : ((decide (wrap64 (a - b) < a)) == decide (b > 0)) = decide (in64 (a - b)) := by
      rw [Bool.eq_iff_iff]
      simp only [beq_iff_eq, decide_eq_decide, decide_eq_true_eq]
      unfold in64 wrap64 at *
      omega
    rw [e]
    unfold fit
    by_cases hi : in64 (a - b)
    · rw [if_pos (decide_eq_true hi), if_pos hi, wrap_in hi]
    · rw [if_neg (by simpa using hi), if_neg hi]
  rw [if_neg h5, if_neg h5]
  by_cases h6 : op = 6
  · rw [if_pos h6, if_pos h6, num_product_eq (k + 1) a b ha hb]
    rfl
  rw [if_neg h6, if_neg h6]
  by_cases h7 : op = 7
  · subst h7
    rw [if_pos rfl, if_pos rfl]
    simp only [num_Do.j0, num_Do.j1]
    rw [if_pos (by decide)]
    by_cases b0 : b = 0
    · simp only [if_pos b0]
    have c8 : ¬ (7 : Int) = 8 := by decide
    by_cases am : a = -9223372036854775808
    · by_cases b1 : b = -1
      · simp only [if_neg b0, if_neg c8, if_pos am, if_pos b1, if_pos (And.intro am b1), Bool.false_eq_true, if_false]
      · simp only [if_neg b0, if_neg c8, if_pos am, if_neg b1, if_neg (fun z : a = -9223372036854775808 ∧ b = -1 => b1 z.2), Bool.false_eq_true, if_false, wrap_in (tdiv_in ha b0 (fun z => b1 z.2))]
    · simp only [if_neg b0, if_neg c8, if_neg am, if_neg (fun z : a = -9223372036854775808 ∧ b = -1 => am z.1), Bool.false_eq_true, if_false, wrap_in (tdiv_in ha b0 (fun z => am z.1))]
  rw [if_neg h7, if_neg h7]
  by_cases h8 : op = 8
  · subst h8
    rw [if_pos rfl]
    simp only [num_Do.j0, num_Do.j1]
    rw [if_pos (by decide)]
    by_cases b0 : b = 0
    · simp only [if_pos b0]
    by_cases b1 : b = -1
    · subst b1
      rw [Int.tmod_neg, Int.tmod_one]
      simp
    · have b1' : (b == -1) = false := by simpa using b1
      simp only [if_neg b0, b1', if_true, Bool.false_eq_true, if_false]
  · rw [if_neg h8]
    simp only [num_Do.j0]
    rw [if_neg (by simpa using h8)]

theorem wrapu (x : Int) : IntKind.u64.wrap x = x % 18446744073709551616 := rfl
theorem ref_product_eq (a b : Int) (ha : in64 a) (hb : in64 b) : (headgateref01_product.f 9 a b).bind (fun t => some (if t.2 = true then (t.1, (0 : Int)) else (0, 10))) = some (fit (a * b)) := by
  unfold headgateref01_product.f
  simp only [headgateref01_product.j0, headgateref01_product.j1, headgateref01_product.j2]
  by_cases h0 : a = 0
  · subst h0
    simp only [if_true, Option.bind_some]
    rw [Int.zero_mul, show fit 0 = (0, 0) from by decide]
  rw [if_neg h0]
  by_cases b0 : b = 0
  · subst b0
    rw [if_pos (by decide), Int.mul_zero, show fit 0 = (0, 0) from by decide]
    rfl
  rw [if_neg (by simpa using b0)]
  -- of their sizes
  have go : ∀ x y : Int, 0 < x → x ≤ 9223372036854775808 → 0 < y → y ≤ 9223372036854775808 → ∀ neg : Bool, (if neg = true then a * b = -(x * y) else a * b = x * y) →
      (if x = 0 then none else if y > IntKind.u64.wrap (Int.tdiv (18446744073709551615 : Int) x) then some ((0 : Int), false) else if neg = true then some (wrap64 (-(wrap64 (IntKind.u64.wrap (x * y)))), decide (IntKind.u64.wrap (x * y) ≤ 9223372036854775808)) else some (wrap64 (IntKind.u64.wrap (x * y)), decide (IntKind.u64.wrap (x * y) < 9223372036854775808))).bind (fun t => some (if t.2 = true then (t.1, (0 : Int)) else (0, 10))) = some (fit (a * b)) := by
    intro x y x0 x1 y0 y1 neg hp
    rw [if_neg (by omega)]
    have ed : Int.tdiv 18446744073709551615 x = 18446744073709551615 / x := Int.tdiv_eq_ediv_of_nonneg (by decide)
    have hd0 : 0 ≤ 18446744073709551615 / x := Int.ediv_nonneg (by decide) (by omega)
    have hd1 : 18446744073709551615 / x ≤ 18446744073709551615 := Int.ediv_le_self _ (by decide)
    rw [ed, wrapu (18446744073709551615 / x), Int.emod_eq_of_lt hd0 (by omega)]
    have hpos : 0 < x * y := Int.mul_pos x0 y0
    have hle : y ≤ 18446744073709551615 / x ↔ x * y ≤ 18446744073709551615 := by
      rw [Int.le_ediv_iff_mul_le x0, Int.mul_comm]
    by_cases hy : y > 18446744073709551615 / x
    · rw [if_pos hy]
      have : ¬ x * y ≤ 18446744073709551615 := fun z => by have := hle.2 z; omega
      have hn : ¬ in64 (a * b) := by
        unfold in64
        cases neg <;> simp at hp <;> omega
      unfold fit
      rw [if_neg hn]
      rfl
    · rw [if_neg hy]
      have hxy := hle.1 (by omega)
      rw [wrapu (x * y), Int.emod_eq_of_lt (by omega) (by omega)]
      generalize x * y = p at *
      unfold fit
      cases neg
      · simp only [Bool.false_eq_true, if_false] at hp ⊢
        rw [hp]
        simp only [Option.bind_some]
        by_cases hq : p < 9223372036854775808
        · have hi : in64 p := ⟨by omega, by omega⟩
          rw [if_pos (decide_eq_true hq), if_pos hi, wrap_in hi]
        · rw [if_neg (by simpa using hq), if_neg (fun z : in64 p => by unfold in64 at z; omega)]
      · simp only [if_true] at hp ⊢
        rw [hp]
        simp only [Option.bind_some]
        by_cases hq : p ≤ 9223372036854775808
        · have hi : in64 (-p) := ⟨by omega, by omega⟩
          have e : wrap64 (-(wrap64 p)) = -p := by unfold wrap64; omega
          rw [if_pos (decide_eq_true hq), if_pos hi, e]
        · rw [if_neg (by simpa using hq), if_neg (fun z : in64 (-p) => by unfold in64 at z; omega)]
  unfold in64 at ha hb
  by_cases an : a < 0
  · rw [if_pos an]
    have ex : IntKind.u64.wrap (-(IntKind.u64.wrap a)) = -a := by rw [wrapu, wrapu]; omega
    rw [ex]
    by_cases bn : b < 0
    · rw [if_pos bn]
      have ey : IntKind.u64.wrap (-(IntKind.u64.wrap b)) = -b := by rw [wrapu, wrapu]; omega
      rw [ey]
      have := go (-a) (-b) (by omega) (by omega) (by omega) (by omega) false (by simp [Int.neg_mul_neg])
      simp only [decide_eq_true an, decide_eq_true bn, bne_self_eq_false]
      exact this
    · rw [if_neg bn]
      have ey : IntKind.u64.wrap b = b := by rw [wrapu]; omega
      rw [ey]
      have := go (-a) b (by omega) (by omega) (by omega) (by omega) true (by simp [Int.neg_mul])
      simp only [decide_eq_true an, decide_eq_false bn]
      exact this
  · rw [if_neg an]
    have ex : IntKind.u64.wrap a = a := by rw [wrapu]; omega
    rw [ex]
    by_cases bn : b < 0
    · rw [if_pos bn]
      have ey : IntKind.u64.wrap (-(IntKind.u64.wrap b)) = -b := by rw [wrapu, wrapu]; omega
      rw [ey]
      have := go a (-b) (by omega) (by omega) (by omega) (by omega) true (by simp [Int.mul_neg])
      simp only [decide_eq_false an, decide_eq_true bn]
      exact this
    · rw [if_neg bn]
      have ey : IntKind.u64.wrap b = b := by rw [wrapu]; omega
      rw [ey]
      have := go a b (by omega) (by omega) (by omega) (by omega) false (by simp)
      simp only [decide_eq_false an, decide_eq_false bn, bne_self_eq_false]
      exact this
theorem ref_Do_eq (op a b : Int) (ha : in64 a) (hb : in64 b) : headgateref01_Do.f op a b = some (doS op a b) := by
  unfold headgateref01_Do.f doS
  rw [if_pos ⟨ha, hb⟩]
  by_cases h4 : op = 4
  · rw [if_pos h4, if_pos h4]
  rw [if_neg h4, if_neg h4]
  by_cases h5 : op = 5
  · rw [if_pos h5, if_pos h5]
  rw [if_neg h5, if_neg h5]
  by_cases h6 : op = 6
  · rw [if_pos h6, if_pos h6]
    exact ref_product_eq a b ha hb
  rw [if_neg h6, if_neg h6]
  by_cases h7 : op = 7
  · subst h7
    rw [if_pos (.inl rfl), if_pos rfl]
    unfold divS
    by_cases b0 : b = 0
    · rw [if_pos b0, if_pos b0]
    rw [if_neg b0, if_neg b0]
    by_cases b1 : b = -1
    · rw [if_pos b1, if_neg (by decide)]
      by_cases am : a = -9223372036854775808
      · rw [if_pos am, if_pos ⟨am, b1⟩]
      · subst b1
        rw [if_neg am, if_neg (fun z => am z.1), Int.tdiv_neg, Int.tdiv_one, wrap_in (show in64 (-a) by unfold in64 at *; omega)]
    · rw [if_neg b1, if_pos rfl, if_neg (fun z => b1 z.2), wrap_in (tdiv_in ha b0 (fun z => b1 z.2))]
  rw [if_neg h7]
  by_cases h8 : op = 8
  · subst h8
    rw [if_pos (.inr rfl), if_pos rfl]
    unfold divS
    by_cases b0 : b = 0
    · rw [if_pos b0, if_pos b0]
    rw [if_neg b0, if_neg b0]
    by_cases b1 : b = -1
    · subst b1
      rw [if_pos rfl, if_pos rfl, Int.tmod_neg, Int.tmod_one]
    · obtain ⟨m, em, ea, h1, h2⟩ := quo_rem (a := a) b0
      have er : wrap64 (a - wrap64 (wrap64 (Int.tdiv a b) * b)) = Int.tmod a b := by
        rw [wrap_in (tdiv_in ha b0 (fun z => b1 z.2)), em]
        unfold in64 at ha
        rw [wrap_in (show in64 m by unfold in64; omega)]
        generalize Int.tmod a b = r at *
        have hs := h1
        unfold wrap64
        omega
      rw [if_neg b1, if_neg (by decide), er]
  · rw [if_neg h8, if_neg (fun z => z.elim h7 h8)]
end Go.Proofs.Ytapffiacgfdfaaa.Q
