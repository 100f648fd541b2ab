/- Whole numbers of 64 bits, quotients and rests, in plain words: no program in it. -/
import Derived.Test.YtgihecpobichbaaWMore
namespace Go.Proofs.Ytgihecpobichbaa.Q
open Go.RowKit Go.Proofs.YtgihecpobichbaaW.PrintWords Go.Proofs.YtgihecpobichbaaW.PrintLast Go.Proofs.YtgihecpobichbaaW.PrintMore
set_option linter.unusedVariables false
set_option linter.unusedSimpArgs false

def in64 (x : Int) : Prop := -9223372036854775808 ≤ x ∧ x ≤ 9223372036854775807
instance (x : Int) : Decidable (in64 x) := by unfold in64; infer_instance
theorem wrapu (x : Int) : IntKind.u64.wrap x = x % 18446744073709551616 := rfl
theorem wf64 {x : Int} (h : (Lit.int .i64 x).wf = true) : in64 x := by
  have hmin : IntKind.i64.min = -9223372036854775808 := rfl
  have hmax : IntKind.i64.max = 9223372036854775807 := rfl
  simp only [Lit.wf, Bool.and_eq_true, decide_eq_true_eq] at h
  unfold in64
  omega
theorem wfu64 {x : Int} (h : (Lit.int .u64 x).wf = true) : 0 ≤ x ∧ x ≤ 18446744073709551615 := by
  have hmin : IntKind.u64.min = 0 := rfl
  have hmax : IntKind.u64.max = 18446744073709551615 := rfl
  simp only [Lit.wf, Bool.and_eq_true, decide_eq_true_eq] at h
  omega
theorem wrap_in {x : Int} (h : in64 x) : wrap64 x = x := by
  unfold in64 at h
  unfold wrap64
  omega
theorem wrap_is (x : Int) : in64 (wrap64 x) := by
  unfold in64 wrap64
  omega
theorem tdiv_abs (a b : Int) : -(if 0 ≤ a then a else -a) ≤ Int.tdiv a b ∧ Int.tdiv a b ≤ (if 0 ≤ a then a else -a) := by
  have h := Int.natAbs_tdiv_le_natAbs a b
  split <;> omega
/-- A quotient is a number, but for the least by -1. -/
theorem tdiv_in {a b : Int} (ha : in64 a) (hb : b ≠ 0) (h : ¬ (a = -9223372036854775808 ∧ b = -1)) : in64 (Int.tdiv a b) := by
  have h1 := tdiv_abs a b
  unfold in64 at *
  by_cases hm : a = -9223372036854775808
  · subst hm
    have hb1 : b ≠ -1 := fun z => h ⟨rfl, z⟩
    have h2 : Int.tdiv (-9223372036854775808) b ≠ 9223372036854775808 := by
      intro e
      have h3 := Int.mul_tdiv_add_tmod (-9223372036854775808) b
      rw [e] at h3
      have h4 : (Int.tmod (-9223372036854775808) b).natAbs < b.natAbs := by
        rw [Int.natAbs_tmod]
        exact Nat.mod_lt _ (by omega)
      omega
    rw [if_neg (by decide)] at h1
    omega
  · split at h1 <;> omega
theorem tmod_abs {a b : Int} (hb : b ≠ 0) : (Int.tmod a b).natAbs < b.natAbs := by
  rw [Int.natAbs_tmod]
  exact Nat.mod_lt _ (by omega)
theorem tmod_sign (a b : Int) : (0 ≤ a → 0 ≤ Int.tmod a b) ∧ (a ≤ 0 → Int.tmod a b ≤ 0) := by
  refine ⟨fun h => Int.tmod_nonneg b h, fun h => ?_⟩
  have h1 := Int.tmod_nonneg b (show 0 ≤ -a by omega)
  rw [Int.neg_tmod] at h1
  omega
/-- The quotient's product, and the rest. -/
theorem quo_rem {a b : Int} (hb : b ≠ 0) : ∃ m : Int, Int.tdiv a b * b = m ∧ a = m + Int.tmod a b ∧ (0 ≤ a → 0 ≤ m ∧ m ≤ a) ∧ (a ≤ 0 → a ≤ m ∧ m ≤ 0) := by
  refine ⟨Int.tdiv a b * b, rfl, ?_, ?_, ?_⟩
  · have := Int.mul_tdiv_add_tmod a b
    rw [Int.mul_comm] at this
    exact this.symm
  all_goals
    intro h
    have e := Int.mul_tdiv_add_tmod a b
    rw [Int.mul_comm] at e
    have s := tmod_sign a b
    have hz : (Int.tmod a b).natAbs ≤ a.natAbs := by
      rw [Int.natAbs_tmod]
      exact Nat.mod_le _ _
    omega

theorem tdiv_pos {a b : Int} (hb : 1 ≤ b) : Int.tdiv a b = (if a < 0 ∧ a % b ≠ 0 then a / b + 1 else a / b) ∧ Int.tmod a b = (if a < 0 ∧ a % b ≠ 0 then a % b - b else a % b) := by
  have h1 := Int.tdiv_eq_ediv (a := a) (b := b)
  have h2 := Int.tmod_eq_emod (a := a) (b := b)
  have hd : (b ∣ a) ↔ a % b = 0 := Int.dvd_iff_emod_eq_zero
  have hs : Int.sign b = 1 := Int.sign_eq_one_of_pos (by omega)
  rw [hs] at h1
  by_cases h : a < 0 ∧ a % b ≠ 0
  · rw [if_neg (fun z => z.elim (fun q => by omega) (fun q => h.2 (hd.1 q)))] at h1 h2
    rw [if_pos h, if_pos h]
    omega
  · rw [if_pos (show 0 ≤ a ∨ b ∣ a from by
      by_cases q : a < 0
      · exact .inr (hd.2 (by by_cases r : a % b = 0; exact r; exact absurd ⟨q, r⟩ h))
      · exact .inl (by omega))] at h1 h2
    rw [if_neg h, if_neg h]
    omega
/-- Rounded down. -/
def floorS (a b : Int) : Int × Int := if b < 1 then (0, 2) else (a / b, 0)
theorem floor_parts {a b : Int} (ha : in64 a) (hb : 1 ≤ b) : ∃ m r : Int, a / b * b = m ∧ a % b = r ∧ a = m + r ∧ 0 ≤ r ∧ r < b ∧ (0 ≤ a → 0 ≤ a / b ∧ a / b ≤ a) ∧ (a < 0 → a ≤ a / b ∧ a / b < 0) := by
  have e := Int.mul_ediv_add_emod a b
  have h0 := Int.emod_nonneg a (show b ≠ 0 by omega)
  have h1 := Int.emod_lt_of_pos a (show 0 < b by omega)
  rw [Int.mul_comm] at e
  refine ⟨_, _, rfl, rfl, e.symm, h0, h1, fun h => ⟨Int.ediv_nonneg h (by omega), Int.ediv_le_self _ h⟩, fun h => ⟨?_, Int.ediv_neg_of_neg_of_pos h (by omega)⟩⟩
  rw [Int.le_ediv_iff_mul_le (by omega)]
  have : a * b ≤ a * 1 := Int.mul_le_mul_of_nonpos_left (by omega) (by omega)
  omega
theorem rd_drop (l : List Int) (j : Int) (h0 : 0 ≤ j) (h1 : j < (l.length : Int)) : l.drop j.toNat = rd l j :: l.drop (j + 1).toNat := by
  have e : (j + 1).toNat = j.toNat + 1 := by omega
  have hl : j.toNat < l.length := by omega
  rw [e, List.drop_eq_getElem_cons hl]
  unfold rd
  rw [List.getD_eq_getElem?_getD, List.getElem?_eq_getElem hl]
  rfl
theorem rd_mem (l : List Int) (j : Int) (h0 : 0 ≤ j) (h1 : j < (l.length : Int)) : rd l j ∈ l := by
  have hl : j.toNat < l.length := by omega
  unfold rd
  rw [List.getD_eq_getElem?_getD, List.getElem?_eq_getElem hl]
  exact List.getElem_mem hl
end Go.Proofs.Ytgihecpobichbaa.Q
