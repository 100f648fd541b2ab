/- Chapter 15 (agg) in plain words: what all of its laws use; no machine in it. -/
import Derived.Test.YtphdbhneefmkcaaDx
import Derived.Test.YtphdbhneefmkcaaHRefI
import Derived.Test.YtphdbhneefmkcaaAx
import Derived.Test.YtphdbhneefmkcaaHAggG
namespace Go.Proofs.Ytphdbhneefmkcaa.Q
open Go.RowKit Go.Proofs.YtphdbhneefmkcaaW.PrintWords Go.Proofs.YtphdbhneefmkcaaW.PrintLast Go.Proofs.YtphdbhneefmkcaaW.PrintMore
set_option linter.unusedVariables false
set_option linter.unusedSimpArgs false

theorem wf64 {x : Int} (h : (Lit.int .i64 x).wf = true) : in64 x := by
  have hmin : IntKind.i64.min = -9223372036854775808 := rfl
  have hmax : IntKind.i64.max = 9223372036854775807 := rfl
  simp only [Lit.wf, Bool.and_eq_true, decide_eq_true_eq] at h
  unfold in64
  omega
theorem wfu64 {x : Int} (h : (Lit.int .u64 x).wf = true) : 0 ≤ x ∧ x ≤ 18446744073709551615 := by
  have hmin : IntKind.u64.min = 0 := rfl
  have hmax : IntKind.u64.max = 18446744073709551615 := rfl
  simp only [Lit.wf, Bool.and_eq_true, decide_eq_true_eq] at h
  omega
theorem parts_of {a b : Int} (ha : (Lit.int .i64 a).wf = true) (hb : (Lit.int .u64 b).wf = true) : Parts a b := by
  have h1 := wf64 ha
  have h2 := wfu64 hb
  unfold in64 at h1
  unfold Parts
  omega
theorem alive_eq : headgatelaw15_alive.f = some true := by kernel_rfl
theorem refCheck_eq (g : Nat) (k n : Int) (s : ByteArray) : headgateref03_Check.f (g + 2) k n s = some (checkV k n s) := by
  unfold headgateref03_Check.f checkV
  simp only [headgateref03_Check.j0, headgateref03_Check.j1]
  by_cases k0 : k < 0
  · simp [k0]
  by_cases k4 : k > 3
  · simp [k0, k4]
  by_cases k3 : k = 3
  · subst k3
    by_cases hn : n = 0
    · by_cases hs : s.size ≤ 200
      · have : ¬ ((s.size : Int) > 200) := by omega
        simp [hn, hs] <;> omega
      · have : (s.size : Int) > 200 := by omega
        simp [hn, hs] <;> omega
    · simp [hn]
  by_cases hs : s.toList = []
  · by_cases h0 : k = 0
    · subst h0
      by_cases hn : n = 0 <;> simp [hs, hn]
    · by_cases h2 : k = 2
      · subst h2
        by_cases hn : n = 0
        · simp [hs, hn]
        · by_cases h1 : n = 1 <;> simp [hs, hn, h1]
      · simp [hs, h0, h2, k3, k4, k0]
  · simp [hs, k3, k4, k0]
theorem bl_cmp : ∀ a b : List UInt8, (Op.bytesLess a b = true ↔ Lib.compareBytes a b = -1) ∧ (a = b ↔ Lib.compareBytes a b = 0) ∧ (Lib.compareBytes a b = -1 ∨ Lib.compareBytes a b = 0 ∨ Lib.compareBytes a b = 1)
  | [], [] => by simp [Op.bytesLess, Lib.compareBytes]
  | [], _ :: _ => by simp [Op.bytesLess, Lib.compareBytes]
  | _ :: _, [] => by simp [Op.bytesLess, Lib.compareBytes]
  | x :: a, y :: b => by
    obtain ⟨h1, h2, h3⟩ := bl_cmp a b
    unfold Op.bytesLess Lib.compareBytes
    by_cases hl : x < y
    · have hne : x ≠ y := by rintro rfl; exact absurd hl (by simp)
      simp [hl, hne]
    · by_cases hg : y < x
      · have hne : x ≠ y := by rintro rfl; exact absurd hg (by simp)
        simp [hl, hg, hne]
      · have heq : x = y := by
          have a1 : x.toNat = y.toNat := by
            simp only [UInt8.lt_iff_toNat_lt] at hl hg
            omega
          exact UInt8.toNat_inj.1 a1
        subst heq
        simp [hl, h1, h2, h3]
theorem cmpV_in (a0 a1 : Int) (a2 : ByteArray) (b0 b1 : Int) (b2 : ByteArray) : cmpV a0 a1 a2 b0 b1 b2 = -1 ∨ cmpV a0 a1 a2 b0 b1 b2 = 0 ∨ cmpV a0 a1 a2 b0 b1 b2 = 1 := by
  unfold cmpV
  have h : ∀ x y, c2 x y = -1 ∨ c2 x y = 0 ∨ c2 x y = 1 := fun x y => by unfold c2; split; exact .inl rfl; split; exact .inr (.inr rfl); exact .inr (.inl rfl)
  split
  · split
    · exact (bl_cmp _ _).2.2
    · exact h _ _
  · exact h _ _
theorem refCmp_eq (g : Nat) (a0 a1 : Int) (a2 : ByteArray) (b0 b1 : Int) (b2 : ByteArray) : headgateref03_Cmp.f (g + 1) a0 a1 a2 b0 b1 b2 = some (cmpV a0 a1 a2 b0 b1 b2) := by
  obtain ⟨h1, h2, h3⟩ := bl_cmp a2.data.toList b2.data.toList
  unfold headgateref03_Cmp.f cmpV
  simp only [headgateref03_Cmp.j0, Lib.toList_data]
  by_cases k0 : a0 < b0
  · have : c2 a0 b0 = -1 := by unfold c2; rw [if_pos k0]
    simp [k0, this]
  by_cases k1 : a0 = b0
  · subst k1
    have e0 : c2 a0 a0 = 0 := by unfold c2; rw [if_neg (by omega), if_neg (by omega)]
    by_cases k2 : a1 < b1
    · have : c2 a1 b1 = -1 := by unfold c2; rw [if_pos k2]
      simp [k2, e0, this]
    by_cases k3 : a1 = b1
    · subst k3
      have e1 : c2 a1 a1 = 0 := by unfold c2; rw [if_neg (by omega), if_neg (by omega)]
      simp only [e0, e1, if_true, beq_self_eq_true, Bool.true_and]
      rw [if_neg (by omega), if_neg (by omega)]
      cases hb : Op.bytesLess a2.data.toList b2.data.toList with
      | true => simp [h1.1 hb]
      | false =>
        by_cases he : a2.data.toList = b2.data.toList
        · have := h2.1 he
          simp [he, this]
          rw [← he] at this ⊢
          simpa [he] using this.symm
        · have hn : ¬ Lib.compareBytes a2.data.toList b2.data.toList = 0 := fun e => he (h2.2 e)
          have hm : ¬ Lib.compareBytes a2.data.toList b2.data.toList = -1 := fun e => by rw [h1.2 e] at hb; cases hb
          have : Lib.compareBytes a2.data.toList b2.data.toList = 1 := by omega
          rw [this, beq_eq_false_iff_ne.2 he]
          rfl
    · have : c2 a1 b1 = 1 := by unfold c2; rw [if_neg k2, if_pos (by omega)]
      simp [k2, k3, e0, this]
  · have : c2 a0 b0 = 1 := by unfold c2; rw [if_neg k0, if_pos (by omega)]
    simp [k0, k1, this]
def ws (n : Int) : Int := if n < 0 then -1 else 0
theorem wide_eq {n : Int} (h : in64 n) : num_wide.f n = some (ws n, IntKind.u64.wrap n) := by
  unfold num_wide.f ws
  unfold in64 at h
  congr 2
  split <;> omega
theorem ws_parts (n : Int) : Parts (ws n) (IntKind.u64.wrap n) := by
  have : IntKind.u64.wrap n = n % 18446744073709551616 := rfl
  unfold Parts ws
  rw [this]
  split <;> omega
theorem add0_eq {n : Int} (h : in64 n) : num_Add.f 0 0 n = some (ws n, IntKind.u64.wrap n) := by
  have hp := ws_parts n
  unfold num_Add.f
  rw [wide_eq h]
  simp only [Option.bind_some]
  unfold num_Both.f
  rw [if_pos ⟨by unfold Parts; omega, hp⟩]
  simp only [Option.bind_some]
  unfold Parts at hp
  have e : (0 + IntKind.u64.wrap n) / 18446744073709551616 = 0 := by omega
  unfold bothS
  congr 2
  · rw [e]
    unfold wrap64
    omega
  · omega
theorem checkV_0 {k n : Int} {s : ByteArray} (h : checkV k n s = 0) : 0 ≤ k ∧ k ≤ 3 := by
  unfold checkV at h
  split at h
  · cases h
  · omega
theorem neg_lt {c : Int} (h : c = -1 ∨ c = 0 ∨ c = 1) : (wrap64 (1 * c) < 0 ↔ c < 0) ∧ (wrap64 (-1 * c) < 0 ↔ c > 0) := by
  unfold wrap64
  omega
end Go.Proofs.Ytphdbhneefmkcaa.Q
