/- value.Cmp in plain words. -/
import Derived.Test.YtphdbhneefmkcaaBx
namespace Go.Proofs.Ytphdbhneefmkcaa.Q
open Go.RowKit Go.Proofs.YtphdbhneefmkcaaW.PrintWords Go.Proofs.YtphdbhneefmkcaaW.PrintLast Go.Proofs.YtphdbhneefmkcaaW.PrintMore
set_option linter.unusedVariables false
set_option linter.unusedSimpArgs false

def c2 (x y : Int) : Int := if x < y then -1 else if x > y then 1 else 0
/-- Which of two values comes first. -/
def cmpV (a0 a1 : Int) (a2 : ByteArray) (b0 b1 : Int) (b2 : ByteArray) : Int :=
  if c2 a0 b0 = 0 then (if c2 a1 b1 = 0 then Lib.compareBytes a2.data.toList b2.data.toList else c2 a1 b1) else c2 a0 b0
theorem rd3 (x y z : Int) : rd [x, y, z] 0 = x ∧ rd [x, y, z] 1 = y ∧ rd [x, y, z] 2 = z := ⟨rfl, rfl, rfl⟩
theorem value_Cmp_eq (a0 a1 : Int) (a2 : ByteArray) (b0 b1 : Int) (b2 : ByteArray) : value_Cmp.f 5 a0 a1 a2 b0 b1 b2 = some (cmpV a0 a1 a2 b0 b1 b2) := by
  have h1 : ∀ x y, cmp_Compare_int.f x y = some (c2 x y) := fun x y => by
    unfold cmp_Compare_int.f cmp_isNaN_int.f c2
    simp only [bne_self_eq_false, Option.bind_some]
    rw [if_neg (by simp), if_neg (by simp)]
    split
    · rfl
    · split <;> rfl
  have h2 : ∀ x y, cmp_Compare_int64.f x y = some (c2 x y) := fun x y => by
    unfold cmp_Compare_int64.f cmp_isNaN_int64.f c2
    simp only [bne_self_eq_false, Option.bind_some]
    rw [if_neg (by simp), if_neg (by simp)]
    split
    · rfl
    · split <;> rfl
  have h3 : ∀ x y z : Int, cmp_Or_int.f 5 [x, y, z] = some (if x = 0 then (if y = 0 then z else y) else x) := fun x y z => by
    have e0 : wrap64 (0 + 1) = 1 := by unfold wrap64; omega
    have e1 : wrap64 (1 + 1) = 2 := by unfold wrap64; omega
    have e2 : wrap64 (2 + 1) = 3 := by unfold wrap64; omega
    unfold cmp_Or_int.f
    simp only [cmp_Or_int.l0, (rd3 x y z).1, (rd3 x y z).2.1, (rd3 x y z).2.2, List.length_cons, List.length_nil, e0, e1, e2]
    by_cases hx : x = 0
    · by_cases hy : y = 0
      · by_cases hz : z = 0 <;> simp [hx, hy, hz]
      · simp [hx, hy]
    · simp [hx]
  unfold value_Cmp.f strings_Compare.f cmpV
  rw [h1, h2]
  simp only [Option.bind_some]
  rw [h3]
  rfl
theorem cmp_calls (a0 a1 : Int) (a2 : ByteArray) (b0 b1 : Int) (b2 : ByteArray) (w : World) :
    Calls Try.prog 41 #[.agg #[.int .i64 a0, .int .i64 a1, .string a2], .agg #[.int .i64 b0, .int .i64 b1, .string b2]] w fun e w' => e = .returned (.int .i64 (cmpV a0 a1 a2 b0 b1 b2)) ∧ Below w.heap.size w w' :=
  value_Cmp.calls 5 a0 a1 a2 b0 b1 b2 _ w (value_Cmp_eq a0 a1 a2 b0 b1 b2)
end Go.Proofs.Ytphdbhneefmkcaa.Q
