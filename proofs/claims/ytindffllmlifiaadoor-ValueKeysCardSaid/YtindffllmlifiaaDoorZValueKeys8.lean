/- Comparisons of values and rows in plain words. -/
import Derived.Test.YtindffllmlifiaaDoorZValueKeys7
import Derived.Test.YtindffllmlifiaaDoorZValueKeys1
import Derived.Test.YtindffllmlifiaaDoorZValueKeys5
namespace Go.Proofs.YtindffllmlifiaaDoor.Q
open Go.RowKit Go.Proofs.YtindffllmlifiaaDoorW.PrintWords Go.Proofs.YtindffllmlifiaaDoorW.PrintLast Go.Proofs.YtindffllmlifiaaDoorW.PrintMore
set_option linter.unusedVariables false
set_option linter.unusedSimpArgs false
def c2 (x y : Int) : Int := if x < y then -1 else if x > y then 1 else 0
/-- Which of two values comes first. -/
def cmpV (a0 a1 : Int) (a2 : ByteArray) (b0 b1 : Int) (b2 : ByteArray) : Int :=
  if c2 a0 b0 = 0 then (if c2 a1 b1 = 0 then Lib.compareBytes a2.data.toList b2.data.toList else c2 a1 b1) else c2 a0 b0
theorem bl_cmp : ∀ a b : List UInt8, (Op.bytesLess a b = true ↔ Lib.compareBytes a b = -1) ∧ (a = b ↔ Lib.compareBytes a b = 0) ∧ (Lib.compareBytes a b = -1 ∨ Lib.compareBytes a b = 0 ∨ Lib.compareBytes a b = 1)
  | [], [] => by simp [Op.bytesLess, Lib.compareBytes]
  | [], _ :: _ => by simp [Op.bytesLess, Lib.compareBytes]
  | _ :: _, [] => by simp [Op.bytesLess, Lib.compareBytes]
  | x :: a, y :: b => by
    obtain ⟨h1, h2, h3⟩ := bl_cmp a b
    unfold Op.bytesLess Lib.compareBytes
    by_cases hl : x < y
    · have hne : x ≠ y := by rintro rfl; exact absurd hl (by simp)
      simp [hl, hne]
    · by_cases hg : y < x
      · have hne : x ≠ y := by rintro rfl; exact absurd hg (by simp)
        simp [hl, hg, hne]
      · have heq : x = y := by
          have a1 : x.toNat = y.toNat := by
            simp only [UInt8.lt_iff_toNat_lt] at hl hg
            omega
          exact UInt8.toNat_inj.1 a1
        subst heq
        simp [hl, h1, h2, h3]
theorem cmpV_in (a0 a1 : Int) (a2 : ByteArray) (b0 b1 : Int) (b2 : ByteArray) : cmpV a0 a1 a2 b0 b1 b2 = -1 ∨ cmpV a0 a1 a2 b0 b1 b2 = 0 ∨ cmpV a0 a1 a2 b0 b1 b2 = 1 := by
  unfold cmpV
  have h : ∀ x y, c2 x y = -1 ∨ c2 x y = 0 ∨ c2 x y = 1 := fun x y => by unfold c2; split; exact .inl rfl; split; exact .inr (.inr rfl); exact .inr (.inl rfl)
  split
  · split
    · exact (bl_cmp _ _).2.2
    · exact h _ _
  · exact h _ _
theorem refCmp_eq (g : Nat) (a0 a1 : Int) (a2 : ByteArray) (b0 b1 : Int) (b2 : ByteArray) : headgateref03_Cmp.f (g + 1) a0 a1 a2 b0 b1 b2 = some (cmpV a0 a1 a2 b0 b1 b2) := by
  obtain ⟨h1, h2, h3⟩ := bl_cmp a2.data.toList b2.data.toList
  unfold headgateref03_Cmp.f cmpV
  simp only [headgateref03_Cmp.j0, Lib.toList_data]
  by_cases k0 : a0 < b0
  · have : c2 a0 b0 = -1 := by unfold c2; rw [if_pos k0]
    simp [k0, this]
  by_cases k1 : a0 = b0
  · subst k1
    have e0 : c2 a0 a0 = 0 := by unfold c2; rw [if_neg (by omega), if_neg (by omega)]
    by_cases k2 : a1 < b1
    · have : c2 a1 b1 = -1 := by unfold c2; rw [if_pos k2]
      simp [k2, e0, this]
    by_cases k3 : a1 = b1
    · subst k3
      have e1 : c2 a1 a1 = 0 := by unfold c2; rw [if_neg (by omega), if_neg (by omega)]
      simp only [e0, e1, if_true, beq_self_eq_true, Bool.true_and]
      rw [if_neg (by omega), if_neg (by omega)]
      cases hb : Op.bytesLess a2.data.toList b2.data.toList with
      | true => simp [h1.1 hb]
      | false =>
        by_cases he : a2.data.toList = b2.data.toList
        · have := h2.1 he
          simp [he, this]
          rw [← he] at this ⊢
          simpa [he] using this.symm
        · have hn : ¬ Lib.compareBytes a2.data.toList b2.data.toList = 0 := fun e => he (h2.2 e)
          have hm : ¬ Lib.compareBytes a2.data.toList b2.data.toList = -1 := fun e => by rw [h1.2 e] at hb; cases hb
          have : Lib.compareBytes a2.data.toList b2.data.toList = 1 := by omega
          rw [this, beq_eq_false_iff_ne.2 he]
          rfl
    · have : c2 a1 b1 = 1 := by unfold c2; rw [if_neg k2, if_pos (by omega)]
      simp [k2, k3, e0, this]
  · have : c2 a0 b0 = 1 := by unfold c2; rw [if_neg k0, if_pos (by omega)]
    simp [k0, k1, this]
theorem cb_anti : ∀ a b : List UInt8, Lib.compareBytes b a = - Lib.compareBytes a b
  | [], [] => rfl
  | [], _ :: _ => rfl
  | _ :: _, [] => rfl
  | x :: a, y :: b => by
    have h := cb_anti a b
    unfold Lib.compareBytes
    by_cases hl : x < y
    · have hg : ¬ y < x := by simp only [UInt8.lt_iff_toNat_lt] at hl ⊢; omega
      simp [hl, hg]
    · by_cases hg : y < x
      · simp [hl, hg]
      · simp [hl, hg, h]
/-- Which of two rows comes first. -/
def cmpRowV : List S23 → List S23 → Int
  | [], [] => 0
  | [], _ :: _ => -1
  | _ :: _, [] => 1
  | a :: x, b :: y => if cmpV a.f0 a.f1 a.f2 b.f0 b.f1 b.f2 = 0 then cmpRowV x y else cmpV a.f0 a.f1 a.f2 b.f0 b.f1 b.f2
theorem rdV_dropB (l : List S23) (j : Int) (h0 : 0 ≤ j) (h1 : (l.length : Int) ≤ j) : l.drop j.toNat = [] := List.drop_of_length_le (by omega)
theorem refCmpRow_loop (l m : List S23) (hl : l.length ≤ 9223372036854775806) : ∀ (d : Nat) (i : Int), 0 ≤ i → i ≤ m.length → i + d = l.length → Ev (fun k => headgateref03_CmpRow.l0 k l m i) (cmpRowV (l.drop i.toNat) (m.drop i.toNat)) := by
  intro d
  induction d with
  | zero =>
    intro i h0 hm hi
    rw [rdV_dropB l i h0 (by omega)]
    by_cases hz : (l.length : Int) < (m.length : Int)
    · rw [rdV_drop m i h0 (by omega)]
      exact Ev.step (f := fun _ => some (-1)) (fun k => by simp only [headgateref03_CmpRow.l0]; rw [if_neg (by omega), if_pos hz]) (Ev.now _)
    · rw [rdV_dropB m i h0 (by omega)]
      exact Ev.step (f := fun _ => some 0) (fun k => by simp only [headgateref03_CmpRow.l0]; rw [if_neg (by omega), if_neg hz]) (Ev.now _)
  | succ d ih =>
    intro i h0 hm hi
    rw [rdV_drop l i h0 (by omega)]
    by_cases hz : i ≥ (m.length : Int)
    · rw [rdV_dropB m i h0 hz]
      exact Ev.step (f := fun _ => some 1) (fun k => by simp only [headgateref03_CmpRow.l0]; rw [if_pos (by omega), if_pos hz]) (Ev.now _)
    · rw [rdV_drop m i h0 (by omega)]
      have e2 : wrap64 (i + 1) = i + 1 := wrap_in (by unfold in64; omega)
      obtain ⟨x, hx⟩ : ∃ x, rd_T23 l i = x := ⟨_, rfl⟩
      obtain ⟨y, hy⟩ : ∃ y, rd_T23 m i = y := ⟨_, rfl⟩
      rw [hx, hy]
      have hC : Ev (fun k => headgateref03_Cmp.f k x.f0 x.f1 x.f2 y.f0 y.f1 y.f2) (cmpV x.f0 x.f1 x.f2 y.f0 y.f1 y.f2) := ⟨1, fun k hk => by obtain ⟨g, rfl⟩ : ∃ g, k = g + 1 := ⟨k - 1, by omega⟩; exact refCmp_eq g _ _ _ _ _ _⟩
      show Ev _ (if cmpV x.f0 x.f1 x.f2 y.f0 y.f1 y.f2 = 0 then cmpRowV (l.drop (i + 1).toNat) (m.drop (i + 1).toNat) else cmpV x.f0 x.f1 x.f2 y.f0 y.f1 y.f2)
      by_cases hc : cmpV x.f0 x.f1 x.f2 y.f0 y.f1 y.f2 = 0
      · rw [if_pos hc]
        refine Ev.step (fun k => ?_) (Ev.bind (f := fun k t119 => (if t119 = 0 then (headgateref03_CmpRow.l0 k l m (wrap64 (i + 1))) else (some t119))) hC (Ev.congr (fun k => if_pos hc) (by rw [e2]; exact ih (i + 1) (by omega) (by omega) (by omega))))
        simp only [headgateref03_CmpRow.l0]
        rw [if_pos (by omega), if_neg hz, if_pos h0, if_pos (by omega), hx, hy]
      · rw [if_neg hc]
        refine Ev.step (fun k => ?_) (Ev.bind (f := fun k t119 => (if t119 = 0 then (headgateref03_CmpRow.l0 k l m (wrap64 (i + 1))) else (some t119))) hC (Ev.congr (fun k => if_neg hc) (Ev.now _)))
        simp only [headgateref03_CmpRow.l0]
        rw [if_pos (by omega), if_neg hz, if_pos h0, if_pos (by omega), hx, hy]
theorem refCmpRow_ev (l m : List S23) (hl : l.length ≤ 9223372036854775806) : Ev (fun k => headgateref03_CmpRow.f k l m) (cmpRowV l m) := refCmpRow_loop l m hl l.length 0 (by omega) (by omega) (by omega)
end Go.Proofs.YtindffllmlifiaaDoor.Q
/- value.CmpRow: walked. -/
namespace Go.Proofs.YtindffllmlifiaaDoor.Q
open Go.RowKit Go.Proofs.YtindffllmlifiaaDoorW.PrintWords Go.Proofs.YtindffllmlifiaaDoorW.PrintLast Go.Proofs.YtindffllmlifiaaDoorW.PrintMore
set_option linter.unusedVariables false
set_option linter.unusedSimpArgs false
end Go.Proofs.YtindffllmlifiaaDoor.Q
