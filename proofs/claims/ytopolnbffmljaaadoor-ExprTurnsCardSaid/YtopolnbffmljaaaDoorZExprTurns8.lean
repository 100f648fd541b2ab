/- Texts of the claim, put together. -/
import Derived.Test.YtopolnbffmljaaaDoorZExprTurns6
import Derived.Laws.Externs
import Derived.Test.YtopolnbffmljaaaDoorZExprTurns4
open Go.RowKit Go.Proofs.YtopolnbffmljaaaDoorW.PrintWords Go.Proofs.YtopolnbffmljaaaDoorW.PrintLast Go.Proofs.YtopolnbffmljaaaDoorW.PrintMore
set_option linter.unusedVariables false
set_option linter.unusedSimpArgs false
namespace Go.Proofs.YtopolnbffmljaaaDoor.Q
def Parts (a b : Int) : Prop := -9223372036854775808 ≤ a ∧ a ≤ 9223372036854775807 ∧ 0 ≤ b ∧ b ≤ 18446744073709551615
instance (a b : Int) : Decidable (Parts a b) := by unfold Parts; infer_instance
end Go.Proofs.YtopolnbffmljaaaDoor.Q
namespace Go.Proofs.YtopolnbffmljaaaDoor.Q
def limbs (a b : Int) : Value := .agg #[.int .u32 (b % 65536), .int .u32 (b / 65536 % 65536), .int .u32 (b / 4294967296 % 65536), .int .u32 (b / 281474976710656 % 65536), .int .u32 (a % 65536), .int .u32 (a / 65536 % 65536), .int .u32 (a / 4294967296 % 65536), .int .u32 (a / 281474976710656 % 65536)]
def sh (z x : Int) : Int := bits .or .u64 (IntKind.u64.wrap (z * 65536)) (IntKind.u64.wrap x)
def top (x : Int) : Int := bits .or .u64 0 (IntKind.u64.wrap x)
def four (x0 x1 x2 x3 : Int) : Int := sh (sh (sh (top x3) x2) x1) x0
end Go.Proofs.YtopolnbffmljaaaDoor.Q
namespace Go.Proofs.YtopolnbffmljaaaDoor.Q
end Go.Proofs.YtopolnbffmljaaaDoor.Q
namespace Go.Proofs.YtopolnbffmljaaaDoor.Q
def fit (x : Int) : Int × Int := if in64 x then (x, 0) else (0, 10)
end Go.Proofs.YtopolnbffmljaaaDoor.Q
namespace Go.Proofs.YtopolnbffmljaaaDoor.Q
end Go.Proofs.YtopolnbffmljaaaDoor.Q
namespace Go.Proofs.YtopolnbffmljaaaDoor.Q
def doS (op a b : Int) : Int × Int :=
 if op = 4 then fit (a + b) else if op = 5 then fit (a - b) else if op = 6 then fit (a * b)
 else if op = 7 then (if b = 0 then (0, 11) else if a = -9223372036854775808 ∧ b = -1 then (0, 10) else (Int.tdiv a b, 0))
 else if op = 8 then (if b = 0 then (0, 11) else (Int.tmod a b, 0)) else (0, 2)
theorem num_product_eq (k : Nat) (a b : Int) (ha : in64 a) (hb : in64 b) : num_product.f (k + 1) a b = some (fit (a * b)) := by
 unfold num_product.f
 simp only [num_product.j0]
 by_cases h0 : a = 0
 ·subst h0
  rw [if_pos rfl, if_neg (by simp)]
  have e : (0 : Int) * b = 0 := Int.zero_mul b
  rw [e, show wrap64 0 = 0 from wrap_in (by unfold in64; omega), show fit 0 = (0, 0) from by decide]
 rw [if_neg h0]
 by_cases hin : in64 (a * b)
 ·have e1 : wrap64 (a * b) = a * b := wrap_in hin
  have e2 : Int.tdiv (a * b) a = b := Int.mul_tdiv_cancel_left b h0
  rw [e1, e2, wrap_in hb, if_pos rfl]
  have hx : ¬ (a = -1 ∧ b = -9223372036854775808) := by
   rintro ⟨rfl, rfl⟩
   exact absurd hin (by decide)
  have ef : fit (a * b) = (a * b, 0) := by unfold fit; rw [if_pos hin]
  rw [ef]
  by_cases h1 : a = -1
  ·have h2 : ¬ b = -9223372036854775808 := fun z => hx ⟨h1, z⟩
   rw [if_pos h1, if_neg (by simpa using h2)]
  ·rw [if_neg h1, if_neg (by simp)]
 ·have ef : fit (a * b) = (0, 10) := by unfold fit; rw [if_neg hin]
  rw [ef]
  by_cases h1 : wrap64 (Int.tdiv (wrap64 (a * b)) a) = b
  ·rw [if_pos h1]
   have hc := wrap_is (a * b)
   have key : a = -1 ∧ b = -9223372036854775808 := by
    by_cases hm : wrap64 (a * b) = -9223372036854775808 ∧ a = -1
    ·rw [hm.1, hm.2] at h1
     exact ⟨hm.2, by rw [← h1]; kernel_rfl⟩
    ·exfalso
     have hq := tdiv_in hc h0 hm
     rw [wrap_in hq] at h1
     have e := Int.mul_tdiv_add_tmod (wrap64 (a * b)) a
     have hr := tmod_abs (a := wrap64 (a * b)) h0
     rw [h1] at e
     generalize a * b = p at *
     generalize Int.tmod (wrap64 p) a = r at *
     unfold in64 at *
     unfold wrap64 at *
     omega
   rw [if_pos key.1, key.2, if_pos (by decide)]
  ·rw [if_neg h1, if_pos (by simp)]
theorem num_Do_eq (k : Nat) (op a b : Int) (ha : in64 a) (hb : in64 b) : num_Do.f (k + 2) op a b = some (doS op a b) := by
 unfold num_Do.f doS
 by_cases h4 : op = 4
 ·rw [if_pos h4, if_pos h4]
  have e : ((decide (wrap64 (a + b) > a)) == decide (b > 0)) = decide (in64 (a + b)) := by
   rw [Bool.eq_iff_iff]
   simp only [beq_iff_eq, decide_eq_decide, decide_eq_true_eq]
   unfold in64 wrap64 at *
   omega
  rw [e]
  unfold fit
  by_cases hi : in64 (a + b)
  ·rw [if_pos (decide_eq_true hi), if_pos hi, wrap_in hi]
  ·rw [if_neg (by simpa using hi), if_neg hi]
 rw [if_neg h4, if_neg h4]
 by_cases h5 : op = 5
 ·rw [if_pos h5, if_pos h5]
  have e : ((decide (wrap64 (a - b) < a)) == decide (b > 0)) = decide (in64 (a - b)) := by
   rw [Bool.eq_iff_iff]
   simp only [beq_iff_eq, decide_eq_decide, decide_eq_true_eq]
   unfold in64 wrap64 at *
   omega
  rw [e]
  unfold fit
  by_cases hi : in64 (a - b)
  ·rw [if_pos (decide_eq_true hi), if_pos hi, wrap_in hi]
  ·rw [if_neg (by simpa using hi), if_neg hi]
 rw [if_neg h5, if_neg h5]
 by_cases h6 : op = 6
 ·rw [if_pos h6, if_pos h6, num_product_eq (k + 1) a b ha hb]
  rfl
 rw [if_neg h6, if_neg h6]
 by_cases h7 : op = 7
 ·subst h7
  rw [if_pos rfl, if_pos rfl]
  simp only [num_Do.j0, num_Do.j1]
  rw [if_pos (by decide)]
  by_cases b0 : b = 0
  ·simp only [if_pos b0]
  have c8 : ¬ (7 : Int) = 8 := by decide
  by_cases am : a = -9223372036854775808
  ·by_cases b1 : b = -1
   ·simp only [if_neg b0, if_neg c8, if_pos am, if_pos b1, if_pos (And.intro am b1), Bool.false_eq_true, if_false]
   ·simp only [if_neg b0, if_neg c8, if_pos am, if_neg b1, if_neg (fun z : a = -9223372036854775808 ∧ b = -1 => b1 z.2), Bool.false_eq_true, if_false, wrap_in (tdiv_in ha b0 (fun z => b1 z.2))]
  ·simp only [if_neg b0, if_neg c8, if_neg am, if_neg (fun z : a = -9223372036854775808 ∧ b = -1 => am z.1), Bool.false_eq_true, if_false, wrap_in (tdiv_in ha b0 (fun z => am z.1))]
 rw [if_neg h7, if_neg h7]
 by_cases h8 : op = 8
 ·subst h8
  rw [if_pos rfl]
  simp only [num_Do.j0, num_Do.j1]
  rw [if_pos (by decide)]
  by_cases b0 : b = 0
  ·simp only [if_pos b0]
  by_cases b1 : b = -1
  ·subst b1
   rw [Int.tmod_neg, Int.tmod_one]
   simp
  ·have b1' : (b == -1) = false := by simpa using b1
   simp only [if_neg b0, b1', if_true, Bool.false_eq_true, if_false]
 ·rw [if_neg h8]
  simp only [num_Do.j0]
  rw [if_neg (by simpa using h8)]
end Go.Proofs.YtopolnbffmljaaaDoor.Q
namespace Go.Proofs.YtopolnbffmljaaaDoor.Q
attribute [local go_sem] max2_int min2_int max_two min_two max_three min_three max_four min_four   -- for this text's walks alone
attribute [local go_sem high] eqA23
end Go.Proofs.YtopolnbffmljaaaDoor.Q
