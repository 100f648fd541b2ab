/- Whole numbers of 64 bits, quotients and rests, in plain words: no program in it. -/
import Derived.Test.YtgihecpobichbaaWMore
import Derived.Test.YtgihecpobichbaaK
import Derived.LoopTactic
import Derived.Laws.AppendOwn
import Derived.RangeFuncBox
import Derived.Recover
import Derived.WalkLawsBesides
import Derived.Defers
import Derived.WalkSpells
import Derived.Lib.VarintBits
import Derived.Lib.Zigzag
import Derived.Laws.BitsAllLaws
import Derived.RegionCalls
import Derived.RangeFuncNested
import Derived.Deep.CutBlock
namespace Go.Proofs.Ytgihecpobichbaa.Q
open Go.RowKit Go.Proofs.YtgihecpobichbaaW.PrintWords Go.Proofs.YtgihecpobichbaaW.PrintLast Go.Proofs.YtgihecpobichbaaW.PrintMore
set_option linter.unusedVariables false
set_option linter.unusedSimpArgs false

def in64 (x : Int) : Prop := -9223372036854775808 ≤ x ∧ x ≤ 9223372036854775807
instance (x : Int) : Decidable (in64 x) := by unfold in64; infer_instance
theorem wrap_in {x : Int} (h : in64 x) : wrap64 x = x := by
  unfold in64 at h
  unfold wrap64
  omega
theorem rd_drop (l : List Int) (j : Int) (h0 : 0 ≤ j) (h1 : j < (l.length : Int)) : l.drop j.toNat = rd l j :: l.drop (j + 1).toNat := by
  have e : (j + 1).toNat = j.toNat + 1 := by omega
  have hl : j.toNat < l.length := by omega
  rw [e, List.drop_eq_getElem_cons hl]
  unfold rd
  rw [List.getD_eq_getElem?_getD, List.getElem?_eq_getElem hl]
  rfl
end Go.Proofs.Ytgihecpobichbaa.Q
-- Written by a program of the session over the translation's print: functions as plain Lean, and that the machine's call comes to them.
namespace Go.Proofs.Ytgihecpobichbaa.Q
open Go.RowKit Go.Proofs.YtgihecpobichbaaW.PrintWords Go.Proofs.YtgihecpobichbaaW.PrintLast Go.Proofs.YtgihecpobichbaaW.PrintMore
attribute [local go_sem] max2_int min2_int max_two min_two max_three min_three max_four min_four   -- for this text's walks alone
set_option linter.unusedVariables false
set_option linter.unusedSimpArgs false

/-! ### code_Unnum: function 13 -/
mutual
def code_Unnum.l0 : Nat → Int → List Int → Int → Int → Option (Int × Int × Int)
  | 0, _, _, _, _ => none
  | k + 1, x5, x8, x9, x10 => if x10 < x9 then (if 0 ≤ x10 then (if x10 < (x8.length : Int) then (if x10 = 9 then (code_Unnum.j1 k x5 x10 (rd x8 x10) x8 x9 x10 (decide ((rd x8 x10) > 1))) else (code_Unnum.j1 k x5 x10 (rd x8 x10) x8 x9 x10 false)) else (none)) else (none)) else (some (0, 0, 41))
def code_Unnum.j1 : Nat → Int → Int → Int → List Int → Int → Int → Bool → Option (Int × Int × Int)
  | 0, _, _, _, _, _, _, _ => none
  | k + 1, x5, x6, x7, x8, x9, x10, x15 => if x15 = true then (code_Unnum.j2 k x5 x6 x7 x8 x9 x10 x15) else (if x6 > 0 then (code_Unnum.j2 k x5 x6 x7 x8 x9 x10 (x7 == 0)) else (code_Unnum.j2 k x5 x6 x7 x8 x9 x10 false))
def code_Unnum.j2 : Nat → Int → Int → Int → List Int → Int → Int → Bool → Option (Int × Int × Int)
  | 0, _, _, _, _, _, _, _ => none
  | k + 1, x5, x6, x7, x8, x9, x10, x15 => if x15 = true then (some (0, 0, 41)) else (if 0 ≤ (wrap64 (7 * x6)) then (if x7 < 128 then (some (Go.bits .or .u64 x5 (shl .u64 (IntKind.u64.wrap (Go.bits .and .u8 x7 127)) (wrap64 (7 * x6))), wrap64 (x6 + 1), 0)) else (code_Unnum.l0 k (Go.bits .or .u64 x5 (shl .u64 (IntKind.u64.wrap (Go.bits .and .u8 x7 127)) (wrap64 (7 * x6)))) x8 x9 (wrap64 (x10 + 1)))) else (none))
end
def code_Unnum.f (k : Nat) (l0 : List Int) : Option (Int × Int × Int) := code_Unnum.l0 k 0 l0 (l0.length : Int) 0
set_option maxHeartbeats 8000000 in
set_option maxRecDepth 100000 in
theorem code_Unnum.calls (k : Nat) (A0 : Option Addr) (c0 : Nat) (l0 : List Int) (r1 : Int) (r2 : Int) (r3 : Int) (w : World) (hr0 : Kd.C (Kd.int .u8) w A0 l0.length l0) (hc0 : l0.length ≤ c0) (h : code_Unnum.f k l0 = some (r1, r2, r3)) :
    Calls Try.prog 13 #[.slice A0 l0.length c0] w fun e w' => e = .returned (.tuple #[.int .u64 r1, .int .i64 r2, .int .i64 r3]) ∧ Drawn0 w w' := by
  have HR0 := Aside0.mk hr0
  have HC0 := Aside0.mk hc0
  clear hr0 hc0
  have H : (code_Unnum.l0 k 0 l0 (l0.length : Int) 0) = some (r1, r2, r3) := h
  clear h
  have H' := Aside0.mk H
  clear H
  go_enter Try.func13, Try.ntmps13
  go_wp2
  go_loopg [5, 10] k (fun kq v5 v10 w' => ∃ (x5_1 : Int) (x10_1 : Int), v5 = .int .u64 x5_1 ∧ v10 = .int .i64 x10_1 ∧ Aside0 (code_Unnum.l0 kq x5_1 l0 (l0.length : Int) x10_1 = some (r1, r2, r3)) ∧ Aside0 (kq ≤ k) ∧ Drawn0 w w')
  case atStart => exact ⟨(0), (0), (by first | rfl | (simp; done) | (simp [*]; done) | (simp; rw [Bool.eq_iff_iff]; simp; done)), (by first | rfl | (simp; done) | (simp [*]; done) | (simp; rw [Bool.eq_iff_iff]; simp; done)), H', ⟨Nat.le_refl _⟩, by repeat (first | exact Drawn0.refl _ | apply Drawn0.step)⟩
  case round =>
    clear H'
    try clear c1
    obtain ⟨x5_1, x10_1, rfl, rfl, HA, HK1, ⟨m1, rfl⟩⟩ := hrel
    cases gk with
    | zero => exact absurd HA.out (by simp [code_Unnum.l0])
    | succ k1 =>
      have H := HA.out
      clear HA
      simp only [code_Unnum.l0] at H
      by_cases c2 : x10_1 < (l0.length : Int)
      · rw [if_pos c2] at H
        have c2b0 : decide (x10_1 < (l0.length : Int)) = true := decide_eq_true c2
        clear c2
        by_cases c3 : 0 ≤ x10_1
        · rw [if_pos c3] at H
          have c3b0 : decide (0 ≤ x10_1) = true := decide_eq_true c3
          clear c3
          by_cases c4 : x10_1 < (l0.length : Int)
          · rw [if_pos c4] at H
            have c4b0 : decide (x10_1 < (l0.length : Int)) = true := decide_eq_true c4
            clear c4
            have HC5 := Aside0.mk H
            clear H
            have p101 : 0 ≤ (x10_1 : Int) := of_decide_eq_true (by first | (with_reducible assumption) | assumption)
            have q101 : x10_1 < (l0.length : Int) := of_decide_eq_true (by first | (with_reducible assumption) | assumption)
            obtain ⟨ad101, e101, hx101_0⟩ := Kd.at_int HR0.out x10_1 p101 q101
            cases e101
            replace p101 := eq_true p101
            replace q101 := eq_true q101
            go_upto_region 5 with (fail)
            go_cut [15] (fun v15 wc => ∃ (kq : Nat) (x15_4 : Bool), v15 = .bool x15_4 ∧ Aside0 (code_Unnum.j1 kq x5_1 x10_1 (rd l0 x10_1) l0 (l0.length : Int) x10_1 x15_4 = some (r1, r2, r3)) ∧ Aside0 (kq ≤ k1) ∧ Drawn0 w wc)
            case first =>
              have H := HC5.out
              clear HC5
              by_cases c6 : x10_1 = 9
              · rw [if_pos c6] at H
                have c6b0 : (x10_1 == 9) = true := beq_iff_eq.mpr c6
                have c6b1 : (x10_1 != 9) = false := bne_eq_false_iff_eq.mpr c6
                clear c6
                (first | rw [c6b0] | (simp only [i64_w, i32_w]; rw [c6b0]) | skip)
                have H' := Aside0.mk H
                clear H
                go_wp2
                go_meet
                case rel => exact ⟨_, (decide ((rd l0 x10_1) > 1)), (by first | rfl | (simp; done) | (simp [*]; done) | (simp; rw [Bool.eq_iff_iff]; simp; done)), H', ⟨by have := HK1.out; first | omega | exact Nat.le_refl _⟩, by repeat (first | exact Drawn0.refl _ | apply Drawn0.step)⟩
              · rw [if_neg c6] at H
                have c6b0 : (x10_1 == 9) = false := beq_eq_false_iff_ne.mpr c6
                have c6b1 : (x10_1 != 9) = true := bne_iff_ne.mpr c6
                (first | rw [c6b0] | (simp only [i64_w, i32_w]; rw [c6b0]) | skip)
                have H' := Aside0.mk H
                clear H
                go_wp2
                go_meet
                case rel => exact ⟨_, (false), (by first | rfl | (simp; done) | (simp [*]; done) | (simp; rw [Bool.eq_iff_iff]; simp; done)), H', ⟨by have := HK1.out; first | omega | exact Nat.le_refl _⟩, by repeat (first | exact Drawn0.refl _ | apply Drawn0.step)⟩
            case rest =>
              clear HC5
              try clear c1
              try clear p1
              try clear q1
              try clear hx1
              try clear c2
              try clear c2b0
              try clear p2
              try clear c3
              try clear c3b0
              try clear c4
              try clear c4b0
              try clear c6
              try clear c6b0
              try clear c6b1
              try clear hx101_0
              try clear p101
              try clear q101
              obtain ⟨kq, x15_4, rfl, HA, HJ4, ⟨mc4, rfl⟩⟩ := hcut
              cases kq with
              | zero => exact absurd HA.out (by simp [code_Unnum.j1])
              | succ kj4 =>
                have H := HA.out
                clear HA
                simp only [code_Unnum.j1] at H
                have HC7 := Aside0.mk H
                clear H
                go_upto_if 15 with (fail)
                go_cut [15] (fun v15 wc => ∃ (kq : Nat) (x15_6 : Bool), v15 = .bool x15_6 ∧ Aside0 (code_Unnum.j2 kq x5_1 x10_1 (rd l0 x10_1) l0 (l0.length : Int) x10_1 x15_6 = some (r1, r2, r3)) ∧ Aside0 (kq ≤ kj4) ∧ Drawn0 w wc)
                case first =>
                  have H := HC7.out
                  clear HC7
                  by_cases c8 : x15_4 = true
                  · subst c8
                    have H1 : (code_Unnum.j2 kj4 x5_1 x10_1 (rd l0 x10_1) l0 (l0.length : Int) x10_1 true) = some (r1, r2, r3) := by rw [if_pos rfl] at H; exact H
                    clear H
                    have H := H1
                    clear H1
                    have H' := Aside0.mk H
                    clear H
                    go_wp2
                    go_meet
                    case rel => exact ⟨_, (true), (by first | rfl | (simp; done) | (simp [*]; done) | (simp; rw [Bool.eq_iff_iff]; simp; done)), H', ⟨by have := HK1.out; have := HJ4.out; first | omega | exact Nat.le_refl _⟩, by repeat (first | exact Drawn0.refl _ | apply Drawn0.step)⟩
                  · replace c8 := Bool.eq_false_iff.mpr c8
                    subst c8
                    have H1 : (if x10_1 > 0 then (code_Unnum.j2 kj4 x5_1 x10_1 (rd l0 x10_1) l0 (l0.length : Int) x10_1 ((rd l0 x10_1) == 0)) else (code_Unnum.j2 kj4 x5_1 x10_1 (rd l0 x10_1) l0 (l0.length : Int) x10_1 false)) = some (r1, r2, r3) := by rw [if_neg (show ¬ (false = true) by decide)] at H; exact H
                    clear H
                    have H := H1
                    clear H1
                    by_cases c9 : x10_1 > 0
                    · rw [if_pos c9] at H
                      have c9b0 : decide (0 < x10_1) = true := decide_eq_true c9
                      clear c9
                      (first | rw [c9b0] | (simp only [i64_w, i32_w]; rw [c9b0]) | skip)
                      have H' := Aside0.mk H
                      clear H
                      go_wp2
                      go_meet
                      case rel => exact ⟨_, (((rd l0 x10_1) == 0)), (by first | rfl | (simp; done) | (simp [*]; done) | (simp; rw [Bool.eq_iff_iff]; simp; done)), H', ⟨by have := HK1.out; have := HJ4.out; first | omega | exact Nat.le_refl _⟩, by repeat (first | exact Drawn0.refl _ | apply Drawn0.step)⟩
                    · rw [if_neg c9] at H
                      have c9b0 : decide (0 < x10_1) = false := decide_eq_false c9
                      clear c9
                      (first | rw [c9b0] | (simp only [i64_w, i32_w]; rw [c9b0]) | skip)
                      have H' := Aside0.mk H
                      clear H
                      go_wp2
                      go_meet
                      case rel => exact ⟨_, (false), (by first | rfl | (simp; done) | (simp [*]; done) | (simp; rw [Bool.eq_iff_iff]; simp; done)), H', ⟨by have := HK1.out; have := HJ4.out; first | omega | exact Nat.le_refl _⟩, by repeat (first | exact Drawn0.refl _ | apply Drawn0.step)⟩
                case rest =>
                  clear HC7
                  try clear c1
                  try clear p1
                  try clear q1
                  try clear hx1
                  try clear c2
                  try clear c2b0
                  try clear p2
                  try clear c3
                  try clear c3b0
                  try clear c4
                  try clear c4b0
                  try clear c6
                  try clear c6b0
                  try clear c6b1
                  try clear c8
                  try clear c9
                  try clear c9b0
                  try clear hx101_0
                  try clear p1
                  try clear p101
                  try clear p2
                  try clear q1
                  try clear q101
                  obtain ⟨kq, x15_6, rfl, HA, HJ6, ⟨mc6, rfl⟩⟩ := hcut
                  cases kq with
                  | zero => exact absurd HA.out (by simp [code_Unnum.j2])
                  | succ kj6 =>
                    have H := HA.out
                    clear HA
                    simp only [code_Unnum.j2] at H
                    by_cases c10 : x15_6 = true
                    · subst c10
                      have H1 : (some (0, 0, 41)) = some (r1, r2, r3) := by rw [if_pos rfl] at H; exact H
                      clear H
                      have H := H1
                      clear H1
                      simp only [Option.some.injEq, Prod.mk.injEq] at H
                      obtain ⟨rfl, rfl, rfl⟩ := H
                      go_wp2
                      go_ret3
                      exact ⟨by first | rfl | (simp; done) | (simp [*]; done), by repeat (first | exact Drawn0.refl _ | apply Drawn0.step)⟩
                    · replace c10 := Bool.eq_false_iff.mpr c10
                      subst c10
                      have H1 : (if 0 ≤ (wrap64 (7 * x10_1)) then (if (rd l0 x10_1) < 128 then (some (Go.bits .or .u64 x5_1 (shl .u64 (IntKind.u64.wrap (Go.bits .and .u8 (rd l0 x10_1) 127)) (wrap64 (7 * x10_1))), wrap64 (x10_1 + 1), 0)) else (code_Unnum.l0 kj6 (Go.bits .or .u64 x5_1 (shl .u64 (IntKind.u64.wrap (Go.bits .and .u8 (rd l0 x10_1) 127)) (wrap64 (7 * x10_1)))) l0 (l0.length : Int) (wrap64 (x10_1 + 1)))) else (none)) = some (r1, r2, r3) := by rw [if_neg (show ¬ (false = true) by decide)] at H; exact H
                      clear H
                      have H := H1
                      clear H1
                      obtain ⟨ji11, hji11⟩ : ∃ j_ : Int, (wrap64 (7 * x10_1)) = j_ := ⟨_, rfl⟩
                      replace H : (if 0 ≤ (ji11) then (if (rd l0 x10_1) < 128 then (some (Go.bits .or .u64 x5_1 (shl .u64 (IntKind.u64.wrap (Go.bits .and .u8 (rd l0 x10_1) 127)) (ji11)), wrap64 (x10_1 + 1), 0)) else (code_Unnum.l0 kj6 (Go.bits .or .u64 x5_1 (shl .u64 (IntKind.u64.wrap (Go.bits .and .u8 (rd l0 x10_1) 127)) (ji11))) l0 (l0.length : Int) (wrap64 (x10_1 + 1)))) else (none)) = some (r1, r2, r3) := by first | (rw [hji11] at H; exact H) | (simp only [hji11] at H ⊢; exact H)
                      have hji11w : (IntKind.i64.wrap (7 * x10_1)) = ji11 := (i64_w _).trans hji11
                      by_cases c12 : 0 ≤ (ji11)
                      · rw [if_pos c12] at H
                        have c12b0 := eq_true c12
                        have c12b1 : decide (0 ≤ (ji11)) = true := decide_eq_true c12
                        clear c12
                        obtain ⟨ji13, hji13⟩ : ∃ j_ : Int, (shl .u64 (IntKind.u64.wrap (Go.bits .and .u8 (rd l0 x10_1) 127)) (ji11)) = j_ := ⟨_, rfl⟩
                        replace H : (if (rd l0 x10_1) < 128 then (some (Go.bits .or .u64 x5_1 (ji13), wrap64 (x10_1 + 1), 0)) else (code_Unnum.l0 kj6 (Go.bits .or .u64 x5_1 (ji13)) l0 (l0.length : Int) (wrap64 (x10_1 + 1)))) = some (r1, r2, r3) := by first | (rw [hji13] at H; exact H) | (simp only [hji13] at H ⊢; exact H)
                        have hji13_ : (IntKind.u64.wrap ((IntKind.u64.wrap (Go.bits .and .u8 (rd l0 x10_1) 127)) * 2 ^ min (ji11).toNat 64)) = ji13 := hji13
                        have hji13z : (ji11) ≤ 64 → (IntKind.u64.wrap ((IntKind.u64.wrap (Go.bits .and .u8 (rd l0 x10_1) 127)) * 2 ^ (ji11).toNat)) = ji13 := shl_small hji13
                        by_cases c14 : (rd l0 x10_1) < 128
                        · rw [if_pos c14] at H
                          have c14b0 : decide ((rd l0 x10_1) < 128) = true := decide_eq_true c14
                          clear c14
                          simp only [Option.some.injEq, Prod.mk.injEq] at H
                          obtain ⟨rfl, rfl, rfl⟩ := H
                          go_wp2
                          go_ret3
                          exact ⟨by first | rfl | (simp; done) | (simp only [← hji11, ← hji13] <;> (first | rfl | simp)) | (simp [*]; done), by repeat (first | exact Drawn0.refl _ | apply Drawn0.step)⟩
                        · rw [if_neg c14] at H
                          have c14b0 : decide ((rd l0 x10_1) < 128) = false := decide_eq_false c14
                          clear c14
                          have H' := Aside0.mk H
                          clear H
                          go_wp2
                          go_roundg kj6
                          case measure => have := HK1.out; have := HJ4.out; have := HJ6.out; omega
                          case rel => exact ⟨(Go.bits .or .u64 x5_1 (ji13)), (wrap64 (x10_1 + 1)), (by first | rfl | (simp; done) | (simp only [← hji13] <;> (first | rfl | simp)) | (simp [*]; done)), (by first | rfl | (simp; done) | (simp [*]; done) | (simp; rw [Bool.eq_iff_iff]; simp; done)), H', ⟨by have := HK1.out; have := HJ4.out; have := HJ6.out; omega⟩, by repeat (first | exact Drawn0.refl _ | apply Drawn0.step)⟩
                      · rw [if_neg c12] at H
                        exact absurd H (by simp)
          · rw [if_neg c4] at H
            exact absurd H (by simp)
        · rw [if_neg c3] at H
          exact absurd H (by simp)
      · rw [if_neg c2] at H
        have c2b0 : decide (x10_1 < (l0.length : Int)) = false := decide_eq_false c2
        clear c2
        simp only [Option.some.injEq, Prod.mk.injEq] at H
        obtain ⟨rfl, rfl, rfl⟩ := H
        go_wp2
        go_ret3
        exact ⟨by first | rfl | (simp; done) | (simp [*]; done), by repeat (first | exact Drawn0.refl _ | apply Drawn0.step)⟩

/-! ### headgateref04_Unnum: function 14 -/
mutual
def headgateref04_Unnum.l0 : Nat → ByteArray → Int → Int → Int → Option (Int × Int)
  | 0, _, _, _, _ => none
  | k + 1, x0, x1, x6, x7 => if x7 < 10 then (if x1 < 0 then (headgateref04_Unnum.j1 k x0 x1 x6 x7 true) else (headgateref04_Unnum.j1 k x0 x1 x6 x7 (decide ((wrap64 (x1 + x7)) ≥ (x0.size : Int))))) else (some (0, (-1)))
def headgateref04_Unnum.j1 : Nat → ByteArray → Int → Int → Int → Bool → Option (Int × Int)
  | 0, _, _, _, _, _ => none
  | k + 1, x0, x1, x6, x7, x22 => if x22 = true then (some (0, (-1))) else (if 0 ≤ (wrap64 (x1 + x7)) then (if (wrap64 (x1 + x7)) < (x0.size : Int) then (if x7 = 9 then (headgateref04_Unnum.j2 k x0 x1 x6 x7 (IntKind.u64.wrap (bt x0 (wrap64 (x1 + x7)))) (decide ((IntKind.u64.wrap (bt x0 (wrap64 (x1 + x7)))) > 1))) else (headgateref04_Unnum.j2 k x0 x1 x6 x7 (IntKind.u64.wrap (bt x0 (wrap64 (x1 + x7)))) false)) else (none)) else (none))
def headgateref04_Unnum.j2 : Nat → ByteArray → Int → Int → Int → Int → Bool → Option (Int × Int)
  | 0, _, _, _, _, _, _ => none
  | k + 1, x0, x1, x6, x7, x8, x34 => if x34 = true then (some (0, (-1))) else (if 0 ≤ (IntKind.u64.wrap (wrap64 (7 * x7))) then (if x8 < 128 then (if x7 > 0 then (if x8 = 0 then (some (0, (-1))) else (some (IntKind.u64.wrap (x6 + (shl .u64 (Int.tmod x8 128) (IntKind.u64.wrap (wrap64 (7 * x7))))), wrap64 ((wrap64 (x1 + x7)) + 1)))) else (some (IntKind.u64.wrap (x6 + (shl .u64 (Int.tmod x8 128) (IntKind.u64.wrap (wrap64 (7 * x7))))), wrap64 ((wrap64 (x1 + x7)) + 1)))) else (headgateref04_Unnum.l0 k x0 x1 (IntKind.u64.wrap (x6 + (shl .u64 (Int.tmod x8 128) (IntKind.u64.wrap (wrap64 (7 * x7)))))) (wrap64 (x7 + 1)))) else (none))
end
def headgateref04_Unnum.f (k : Nat) (a0 : ByteArray) (a1 : Int) : Option (Int × Int) := headgateref04_Unnum.l0 k a0 a1 0 0
set_option maxHeartbeats 8000000 in
set_option maxRecDepth 100000 in
theorem headgateref04_Unnum.calls (k : Nat) (a0 : ByteArray) (a1 : Int) (r1 : Int) (r2 : Int) (w : World) (h : headgateref04_Unnum.f k a0 a1 = some (r1, r2)) :
    Calls Try.prog 14 #[.string a0, .int .i64 a1] w fun e w' => e = .returned (.tuple #[.int .u64 r1, .int .i64 r2]) ∧ Drawn0 w w' := by
  have H : (headgateref04_Unnum.l0 k a0 a1 0 0) = some (r1, r2) := h
  clear h
  have H' := Aside0.mk H
  clear H
  go_enter Try.func14, Try.ntmps14
  go_wp2
  go_loopg [6, 7] k (fun kq v6 v7 w' => ∃ (x6_1 : Int) (x7_1 : Int), v6 = .int .u64 x6_1 ∧ v7 = .int .i64 x7_1 ∧ Aside0 (headgateref04_Unnum.l0 kq a0 a1 x6_1 x7_1 = some (r1, r2)) ∧ Aside0 (kq ≤ k) ∧ Drawn0 w w')
  case atStart => exact ⟨(0), (0), (by first | rfl | (simp; done) | (simp [*]; done) | (simp; rw [Bool.eq_iff_iff]; simp; done)), (by first | rfl | (simp; done) | (simp [*]; done) | (simp; rw [Bool.eq_iff_iff]; simp; done)), H', ⟨Nat.le_refl _⟩, by repeat (first | exact Drawn0.refl _ | apply Drawn0.step)⟩
  case round =>
    clear H'
    try clear c1
    try clear p2
    obtain ⟨x6_1, x7_1, rfl, rfl, HA, HK1, ⟨m1, rfl⟩⟩ := hrel
    cases gk with
    | zero => exact absurd HA.out (by simp [headgateref04_Unnum.l0])
    | succ k1 =>
      have H := HA.out
      clear HA
      simp only [headgateref04_Unnum.l0] at H
      by_cases c3 : x7_1 < 10
      · rw [if_pos c3] at H
        have c3b0 : decide (x7_1 < 10) = true := decide_eq_true c3
        clear c3
        have HC4 := Aside0.mk H
        clear H
        go_upto_region 5 with (fail)
        go_cut [22] (fun v22 wc => ∃ (kq : Nat) (x22_3 : Bool), v22 = .bool x22_3 ∧ Aside0 (headgateref04_Unnum.j1 kq a0 a1 x6_1 x7_1 x22_3 = some (r1, r2)) ∧ Aside0 (kq ≤ k1) ∧ Drawn0 w wc)
        case first =>
          have H := HC4.out
          clear HC4
          by_cases c5 : a1 < 0
          · rw [if_pos c5] at H
            have c5b0 : decide (a1 < 0) = true := decide_eq_true c5
            clear c5
            (first | rw [c5b0] | (simp only [i64_w, i32_w]; rw [c5b0]) | skip)
            have H' := Aside0.mk H
            clear H
            go_wp2
            go_meet
            case rel => exact ⟨_, (true), (by first | rfl | (simp; done) | (simp [*]; done) | (simp; rw [Bool.eq_iff_iff]; simp; done)), H', ⟨by have := HK1.out; first | omega | exact Nat.le_refl _⟩, by repeat (first | exact Drawn0.refl _ | apply Drawn0.step)⟩
          · rw [if_neg c5] at H
            have c5b0 : decide (a1 < 0) = false := decide_eq_false c5
            clear c5
            (first | rw [c5b0] | (simp only [i64_w, i32_w]; rw [c5b0]) | skip)
            have H' := Aside0.mk H
            clear H
            go_wp2
            go_meet
            case rel => exact ⟨_, (decide ((wrap64 (a1 + x7_1)) ≥ (a0.size : Int))), (by first | rfl | (simp; done) | (simp [*]; done) | (simp; rw [Bool.eq_iff_iff]; simp; done)), H', ⟨by have := HK1.out; first | omega | exact Nat.le_refl _⟩, by repeat (first | exact Drawn0.refl _ | apply Drawn0.step)⟩
        case rest =>
          clear HC4
          try clear c1
          try clear p2
          try clear c3
          try clear c3b0
          try clear c5
          try clear c5b0
          try clear p2
          obtain ⟨kq, x22_3, rfl, HA, HJ3, ⟨mc3, rfl⟩⟩ := hcut
          cases kq with
          | zero => exact absurd HA.out (by simp [headgateref04_Unnum.j1])
          | succ kj3 =>
            have H := HA.out
            clear HA
            simp only [headgateref04_Unnum.j1] at H
            by_cases c6 : x22_3 = true
            · subst c6
              have H1 : (some (0, (-1))) = some (r1, r2) := by rw [if_pos rfl] at H; exact H
              clear H
              have H := H1
              clear H1
              simp only [Option.some.injEq, Prod.mk.injEq] at H
              obtain ⟨rfl, rfl⟩ := H
              go_wp2
              go_ret2
              exact ⟨by first | rfl | (simp; done) | (simp [*]; done), by repeat (first | exact Drawn0.refl _ | apply Drawn0.step)⟩
            · replace c6 := Bool.eq_false_iff.mpr c6
              subst c6
              have H1 : (if 0 ≤ (wrap64 (a1 + x7_1)) then (if (wrap64 (a1 + x7_1)) < (a0.size : Int) then (if x7_1 = 9 then (headgateref04_Unnum.j2 kj3 a0 a1 x6_1 x7_1 (IntKind.u64.wrap (bt a0 (wrap64 (a1 + x7_1)))) (decide ((IntKind.u64.wrap (bt a0 (wrap64 (a1 + x7_1)))) > 1))) else (headgateref04_Unnum.j2 kj3 a0 a1 x6_1 x7_1 (IntKind.u64.wrap (bt a0 (wrap64 (a1 + x7_1)))) false)) else (none)) else (none)) = some (r1, r2) := by rw [if_neg (show ¬ (false = true) by decide)] at H; exact H
              clear H
              have H := H1
              clear H1
              obtain ⟨ji7, hji7⟩ : ∃ j_ : Int, (wrap64 (a1 + x7_1)) = j_ := ⟨_, rfl⟩
              replace H : (if 0 ≤ (ji7) then (if (ji7) < (a0.size : Int) then (if x7_1 = 9 then (headgateref04_Unnum.j2 kj3 a0 a1 x6_1 x7_1 (IntKind.u64.wrap (bt a0 (ji7))) (decide ((IntKind.u64.wrap (bt a0 (ji7))) > 1))) else (headgateref04_Unnum.j2 kj3 a0 a1 x6_1 x7_1 (IntKind.u64.wrap (bt a0 (ji7))) false)) else (none)) else (none)) = some (r1, r2) := by first | (rw [hji7] at H; exact H) | (simp only [hji7] at H ⊢; exact H)
              have hji7w : (IntKind.i64.wrap (a1 + x7_1)) = ji7 := (i64_w _).trans hji7
              by_cases c8 : 0 ≤ (ji7)
              · rw [if_pos c8] at H
                have c8b0 : decide (0 ≤ (ji7)) = true := decide_eq_true c8
                clear c8
                by_cases c9 : (ji7) < (a0.size : Int)
                · rw [if_pos c9] at H
                  have c9b0 : decide ((ji7) < (a0.size : Int)) = true := decide_eq_true c9
                  clear c9
                  have HC11 := Aside0.mk H
                  clear H
                  have p10 : 0 ≤ ((ji7) : Int) := of_decide_eq_true (by first | (with_reducible assumption) | assumption)
                  have q10 : (ji7) < (a0.size : Int) := of_decide_eq_true (by first | (with_reducible assumption) | assumption)
                  have hx10 := bt_at a0 (ji7)
                  replace p10 := eq_true p10
                  replace q10 := eq_true q10
                  go_upto_region 8 with (fail)
                  go_cut [34] (fun v34 wc => ∃ (kq : Nat) (x34_10 : Bool), v34 = .bool x34_10 ∧ Aside0 (headgateref04_Unnum.j2 kq a0 a1 x6_1 x7_1 (IntKind.u64.wrap (bt a0 (ji7))) x34_10 = some (r1, r2)) ∧ Aside0 (kq ≤ kj3) ∧ Drawn0 w wc)
                  case first =>
                    have H := HC11.out
                    clear HC11
                    by_cases c12 : x7_1 = 9
                    · rw [if_pos c12] at H
                      have c12b0 : (x7_1 == 9) = true := beq_iff_eq.mpr c12
                      have c12b1 : (x7_1 != 9) = false := bne_eq_false_iff_eq.mpr c12
                      clear c12
                      (first | rw [c12b0] | (simp only [i64_w, i32_w]; rw [c12b0]) | skip)
                      have H' := Aside0.mk H
                      clear H
                      go_wp2
                      go_meet
                      case rel => exact ⟨_, (decide ((IntKind.u64.wrap (bt a0 (ji7))) > 1)), (by first | rfl | (simp; done) | (simp only [← hji7] <;> (first | rfl | simp)) | (simp [*]; done)), H', ⟨by have := HK1.out; have := HJ3.out; first | omega | exact Nat.le_refl _⟩, by repeat (first | exact Drawn0.refl _ | apply Drawn0.step)⟩
                    · rw [if_neg c12] at H
                      have c12b0 : (x7_1 == 9) = false := beq_eq_false_iff_ne.mpr c12
                      have c12b1 : (x7_1 != 9) = true := bne_iff_ne.mpr c12
                      (first | rw [c12b0] | (simp only [i64_w, i32_w]; rw [c12b0]) | skip)
                      have H' := Aside0.mk H
                      clear H
                      go_wp2
                      go_meet
                      case rel => exact ⟨_, (false), (by first | rfl | (simp; done) | (simp [*]; done) | (simp; rw [Bool.eq_iff_iff]; simp; done)), H', ⟨by have := HK1.out; have := HJ3.out; first | omega | exact Nat.le_refl _⟩, by repeat (first | exact Drawn0.refl _ | apply Drawn0.step)⟩
                  case rest =>
                    clear HC11
                    try clear c1
                    try clear p1
                    try clear q1
                    try clear hx1
                    try clear p2
                    try clear c3
                    try clear c3b0
                    try clear c5
                    try clear c5b0
                    try clear c6
                    try clear p6
                    try clear c8
                    try clear c8b0
                    try clear c9
                    try clear c9b0
                    try clear p10
                    try clear q10
                    try clear hx10
                    try clear c12
                    try clear c12b0
                    try clear c12b1
                    try clear p10
                    try clear p2
                    try clear q10
                    obtain ⟨kq, x34_10, rfl, HA, HJ10, ⟨mc10, rfl⟩⟩ := hcut
                    cases kq with
                    | zero => exact absurd HA.out (by simp [headgateref04_Unnum.j2])
                    | succ kj10 =>
                      have H := HA.out
                      clear HA
                      simp only [headgateref04_Unnum.j2] at H
                      by_cases c13 : x34_10 = true
                      · subst c13
                        have H1 : (some (0, (-1))) = some (r1, r2) := by rw [if_pos rfl] at H; exact H
                        clear H
                        have H := H1
                        clear H1
                        simp only [Option.some.injEq, Prod.mk.injEq] at H
                        obtain ⟨rfl, rfl⟩ := H
                        go_wp2
                        go_ret2
                        exact ⟨by first | rfl | (simp; done) | (simp only [← hji7] <;> (first | rfl | simp)) | (simp [*]; done), by repeat (first | exact Drawn0.refl _ | apply Drawn0.step)⟩
                      · replace c13 := Bool.eq_false_iff.mpr c13
                        subst c13
                        have H1 : (if 0 ≤ (IntKind.u64.wrap (wrap64 (7 * x7_1))) then (if (IntKind.u64.wrap (bt a0 (ji7))) < 128 then (if x7_1 > 0 then (if (IntKind.u64.wrap (bt a0 (ji7))) = 0 then (some (0, (-1))) else (some (IntKind.u64.wrap (x6_1 + (shl .u64 (Int.tmod (IntKind.u64.wrap (bt a0 (ji7))) 128) (IntKind.u64.wrap (wrap64 (7 * x7_1))))), wrap64 ((wrap64 (a1 + x7_1)) + 1)))) else (some (IntKind.u64.wrap (x6_1 + (shl .u64 (Int.tmod (IntKind.u64.wrap (bt a0 (ji7))) 128) (IntKind.u64.wrap (wrap64 (7 * x7_1))))), wrap64 ((wrap64 (a1 + x7_1)) + 1)))) else (headgateref04_Unnum.l0 kj10 a0 a1 (IntKind.u64.wrap (x6_1 + (shl .u64 (Int.tmod (IntKind.u64.wrap (bt a0 (ji7))) 128) (IntKind.u64.wrap (wrap64 (7 * x7_1)))))) (wrap64 (x7_1 + 1)))) else (none)) = some (r1, r2) := by rw [if_neg (show ¬ (false = true) by decide)] at H; exact H
                        clear H
                        have H := H1
                        clear H1
                        obtain ⟨ji14, hji14⟩ : ∃ j_ : Int, (IntKind.u64.wrap (wrap64 (7 * x7_1))) = j_ := ⟨_, rfl⟩
                        replace H : (if 0 ≤ (ji14) then (if (IntKind.u64.wrap (bt a0 (ji7))) < 128 then (if x7_1 > 0 then (if (IntKind.u64.wrap (bt a0 (ji7))) = 0 then (some (0, (-1))) else (some (IntKind.u64.wrap (x6_1 + (shl .u64 (Int.tmod (IntKind.u64.wrap (bt a0 (ji7))) 128) (ji14))), wrap64 ((wrap64 (a1 + x7_1)) + 1)))) else (some (IntKind.u64.wrap (x6_1 + (shl .u64 (Int.tmod (IntKind.u64.wrap (bt a0 (ji7))) 128) (ji14))), wrap64 ((wrap64 (a1 + x7_1)) + 1)))) else (headgateref04_Unnum.l0 kj10 a0 a1 (IntKind.u64.wrap (x6_1 + (shl .u64 (Int.tmod (IntKind.u64.wrap (bt a0 (ji7))) 128) (ji14)))) (wrap64 (x7_1 + 1)))) else (none)) = some (r1, r2) := by first | (rw [hji14] at H; exact H) | (simp only [hji14] at H ⊢; exact H)
                        by_cases c15 : 0 ≤ (ji14)
                        · rw [if_pos c15] at H
                          have c15b0 := eq_true c15
                          have c15b1 : decide (0 ≤ (ji14)) = true := decide_eq_true c15
                          clear c15
                          obtain ⟨ji16, hji16⟩ : ∃ j_ : Int, (shl .u64 (Int.tmod (IntKind.u64.wrap (bt a0 (ji7))) 128) (ji14)) = j_ := ⟨_, rfl⟩
                          replace H : (if (IntKind.u64.wrap (bt a0 (ji7))) < 128 then (if x7_1 > 0 then (if (IntKind.u64.wrap (bt a0 (ji7))) = 0 then (some (0, (-1))) else (some (IntKind.u64.wrap (x6_1 + (ji16)), wrap64 ((wrap64 (a1 + x7_1)) + 1)))) else (some (IntKind.u64.wrap (x6_1 + (ji16)), wrap64 ((wrap64 (a1 + x7_1)) + 1)))) else (headgateref04_Unnum.l0 kj10 a0 a1 (IntKind.u64.wrap (x6_1 + (ji16))) (wrap64 (x7_1 + 1)))) = some (r1, r2) := by first | (rw [hji16] at H; exact H) | (simp only [hji16] at H ⊢; exact H)
                          have hji16_ : (IntKind.u64.wrap ((Int.tmod (IntKind.u64.wrap (bt a0 (ji7))) 128) * 2 ^ min (ji14).toNat 64)) = ji16 := hji16
                          have hji16z : (ji14) ≤ 64 → (IntKind.u64.wrap ((Int.tmod (IntKind.u64.wrap (bt a0 (ji7))) 128) * 2 ^ (ji14).toNat)) = ji16 := shl_small hji16
                          by_cases c17 : (IntKind.u64.wrap (bt a0 (ji7))) < 128
                          · rw [if_pos c17] at H
                            have c17b0 : decide ((IntKind.u64.wrap (bt a0 (ji7))) < 128) = true := decide_eq_true c17
                            clear c17
                            by_cases c18 : x7_1 > 0
                            · rw [if_pos c18] at H
                              have c18b0 : decide (0 < x7_1) = true := decide_eq_true c18
                              clear c18
                              by_cases c19 : (IntKind.u64.wrap (bt a0 (ji7))) = 0
                              · rw [if_pos c19] at H
                                have c19b0 : ((IntKind.u64.wrap (bt a0 (ji7))) == 0) = true := beq_iff_eq.mpr c19
                                have c19b1 : ((IntKind.u64.wrap (bt a0 (ji7))) != 0) = false := bne_eq_false_iff_eq.mpr c19
                                clear c19
                                simp only [Option.some.injEq, Prod.mk.injEq] at H
                                obtain ⟨rfl, rfl⟩ := H
                                go_wp2
                                go_ret2
                                exact ⟨by first | rfl | (simp; done) | (simp only [← hji7, ← hji14, ← hji16] <;> (first | rfl | simp)) | (simp [*]; done), by repeat (first | exact Drawn0.refl _ | apply Drawn0.step)⟩
                              · rw [if_neg c19] at H
                                have c19b0 : ((IntKind.u64.wrap (bt a0 (ji7))) == 0) = false := beq_eq_false_iff_ne.mpr c19
                                have c19b1 : ((IntKind.u64.wrap (bt a0 (ji7))) != 0) = true := bne_iff_ne.mpr c19
                                simp only [Option.some.injEq, Prod.mk.injEq] at H
                                obtain ⟨rfl, rfl⟩ := H
                                go_wp2
                                go_ret2
                                exact ⟨by first | rfl | (simp; done) | (simp only [← hji7, ← hji14, ← hji16] <;> (first | rfl | simp)) | (simp [*]; done), by repeat (first | exact Drawn0.refl _ | apply Drawn0.step)⟩
                            · rw [if_neg c18] at H
                              have c18b0 : decide (0 < x7_1) = false := decide_eq_false c18
                              clear c18
                              simp only [Option.some.injEq, Prod.mk.injEq] at H
                              obtain ⟨rfl, rfl⟩ := H
                              go_wp2
                              go_ret2
                              exact ⟨by first | rfl | (simp; done) | (simp only [← hji7, ← hji14, ← hji16] <;> (first | rfl | simp)) | (simp [*]; done), by repeat (first | exact Drawn0.refl _ | apply Drawn0.step)⟩
                          · rw [if_neg c17] at H
                            have c17b0 : decide ((IntKind.u64.wrap (bt a0 (ji7))) < 128) = false := decide_eq_false c17
                            clear c17
                            have H' := Aside0.mk H
                            clear H
                            go_wp2
                            go_roundg kj10
                            case measure => have := HK1.out; have := HJ3.out; have := HJ10.out; omega
                            case rel => exact ⟨(IntKind.u64.wrap (x6_1 + (ji16))), (wrap64 (x7_1 + 1)), (by first | rfl | (simp; done) | (simp only [← hji16] <;> (first | rfl | simp)) | (simp [*]; done)), (by first | rfl | (simp; done) | (simp [*]; done) | (simp; rw [Bool.eq_iff_iff]; simp; done)), H', ⟨by have := HK1.out; have := HJ3.out; have := HJ10.out; omega⟩, by repeat (first | exact Drawn0.refl _ | apply Drawn0.step)⟩
                        · rw [if_neg c15] at H
                          exact absurd H (by simp)
                · rw [if_neg c9] at H
                  exact absurd H (by simp)
              · rw [if_neg c8] at H
                exact absurd H (by simp)
      · rw [if_neg c3] at H
        have c3b0 : decide (x7_1 < 10) = false := decide_eq_false c3
        clear c3
        simp only [Option.some.injEq, Prod.mk.injEq] at H
        obtain ⟨rfl, rfl⟩ := H
        go_wp2
        go_ret2
        exact ⟨by first | rfl | (simp; done) | (simp [*]; done), by repeat (first | exact Drawn0.refl _ | apply Drawn0.step)⟩

/-! ### headgateref04_Unint: function 96 -/
def headgateref04_Unint.f (k : Nat) (a0 : ByteArray) (a1 : Int) : Option (Int × Int) := (headgateref04_Unnum.f k a0 a1).bind fun bt102 => (if (Int.tmod bt102.1 2) = 1 then (some (wrap64 ((wrap64 (-(wrap64 (IntKind.u64.wrap (Int.tdiv bt102.1 2))))) - 1), bt102.2)) else (some (wrap64 (IntKind.u64.wrap (Int.tdiv bt102.1 2)), bt102.2)))
set_option maxHeartbeats 8000000 in
set_option maxRecDepth 100000 in
theorem headgateref04_Unint.calls (k : Nat) (a0 : ByteArray) (a1 : Int) (r1 : Int) (r2 : Int) (w : World) (h : headgateref04_Unint.f k a0 a1 = some (r1, r2)) :
    Calls Try.prog 96 #[.string a0, .int .i64 a1] w fun e w' => e = .returned (.tuple #[.int .i64 r1, .int .i64 r2]) ∧ Drawn0 w w' := by
  have H : ((headgateref04_Unnum.f k a0 a1).bind fun bt102 => (if (Int.tmod bt102.1 2) = 1 then (some (wrap64 ((wrap64 (-(wrap64 (IntKind.u64.wrap (Int.tdiv bt102.1 2))))) - 1), bt102.2)) else (some (wrap64 (IntKind.u64.wrap (Int.tdiv bt102.1 2)), bt102.2)))) = some (r1, r2) := h
  clear h
  replace H := Option.bind_eq_some_iff.mp H
  obtain ⟨⟨t102, t103⟩, A30, H⟩ := H
  replace H : (if (Int.tmod t102 2) = 1 then (some (wrap64 ((wrap64 (-(wrap64 (IntKind.u64.wrap (Int.tdiv t102 2))))) - 1), t103)) else (some (wrap64 (IntKind.u64.wrap (Int.tdiv t102 2)), t103))) = some (r1, r2) := H
  have A3 := Aside0.mk A30
  clear A30
  by_cases c4 : (Int.tmod t102 2) = 1
  · rw [if_pos c4] at H
    have c4b0 : ((Int.tmod t102 2) == 1) = true := beq_iff_eq.mpr c4
    have c4b1 : ((Int.tmod t102 2) != 1) = false := bne_eq_false_iff_eq.mpr c4
    clear c4
    simp only [Option.some.injEq, Prod.mk.injEq] at H
    obtain ⟨rfl, rfl⟩ := H
    go_enter Try.func96, Try.ntmps96
    go_wp2_with (first | ((with_reducible refine gate_callee (f := 14) rfl ?_); refine goesL_ (some 11) rfl rfl Try.func14 (by kernel_rfl) rfl #[.string a0, .int .i64 a1] rfl (by (try simp only [List.map_toArray, List.map_cons, List.map_nil]); first | done | rfl | (simp only [List.length_drop, List.length_take]; rfl) | exact congrArg (fun x_ : Int => #[Value.int .u64 x_]) (show _ = _ % (18446744073709551616 : Int) by omega)) ?_; (with_reducible refine (headgateref04_Unnum.calls k a0 a1 t102 t103 _ A3.out).mono ?_); rintro e w' ⟨rfl, ⟨nd, rfl⟩⟩; refine ⟨_, rfl, ?_⟩))
    go_ret2
    exact ⟨by first | rfl | (simp; done) | (simp [*]; done), by repeat (first | exact Drawn0.refl _ | apply Drawn0.step)⟩
  · rw [if_neg c4] at H
    have c4b0 : ((Int.tmod t102 2) == 1) = false := beq_eq_false_iff_ne.mpr c4
    have c4b1 : ((Int.tmod t102 2) != 1) = true := bne_iff_ne.mpr c4
    simp only [Option.some.injEq, Prod.mk.injEq] at H
    obtain ⟨rfl, rfl⟩ := H
    go_enter Try.func96, Try.ntmps96
    go_wp2_with (first | ((with_reducible refine gate_callee (f := 14) rfl ?_); refine goesL_ (some 11) rfl rfl Try.func14 (by kernel_rfl) rfl #[.string a0, .int .i64 a1] rfl (by (try simp only [List.map_toArray, List.map_cons, List.map_nil]); first | done | rfl | (simp only [List.length_drop, List.length_take]; rfl) | exact congrArg (fun x_ : Int => #[Value.int .u64 x_]) (show _ = _ % (18446744073709551616 : Int) by omega)) ?_; (with_reducible refine (headgateref04_Unnum.calls k a0 a1 t102 t103 _ A3.out).mono ?_); rintro e w' ⟨rfl, ⟨nd, rfl⟩⟩; refine ⟨_, rfl, ?_⟩))
    go_ret2
    exact ⟨by first | rfl | (simp; done) | (simp [*]; done), by repeat (first | exact Drawn0.refl _ | apply Drawn0.step)⟩

/-! ### headgateref04_Unnums: function 36 -/
mutual
def headgateref04_Unnums.j1 : Nat → ByteArray → Int → List Int → Option (List Int × Bool)
  | 0, _, _, _ => none
  | k + 1, x0, x5, x6 => if x5 = (x0.size : Int) then (if (x0.size : Int) > 16777216 then (some (([] : List Int), false)) else (some (x6, true))) else (some (([] : List Int), false))
def headgateref04_Unnums.l0 : Nat → ByteArray → Int → Int → List Int → Int → Option (List Int × Bool)
  | 0, _, _, _, _, _ => none
  | k + 1, x0, x4, x5, x6, x7 => if x7 < x4 then (if x5 ≥ 0 then ((headgateref04_Unint.f k x0 x5).bind fun bt106 => (if x6.length < 17592186044416 then (headgateref04_Unnums.l0 k x0 x4 bt106.2 (x6 ++ [bt106.1]) (IntKind.u64.wrap (x7 + 1))) else (none))) else (headgateref04_Unnums.j1 k x0 x5 x6)) else (headgateref04_Unnums.j1 k x0 x5 x6)
end
def headgateref04_Unnums.f (k : Nat) (a0 : ByteArray) : Option (List Int × Bool) := (headgateref04_Unnum.f k a0 0).bind fun bt104 => (headgateref04_Unnums.l0 k a0 bt104.1 bt104.2 ([] : List Int) 0)
set_option maxHeartbeats 8000000 in
set_option maxRecDepth 100000 in
theorem headgateref04_Unnums.calls (k : Nat) (a0 : ByteArray) (r1 : List Int) (r2 : Bool) (w : World) (h : headgateref04_Unnums.f k a0 = some (r1, r2)) :
    Calls Try.prog 36 #[.string a0] w fun e w' => ∃ v0_ : Value, e = .returned (.tuple #[v0_, .bool r2]) ∧ Kd.R (Kd.int .i64) 2 w' w.heap.size (fun _ => True) v0_ r1 ∧ Below w.heap.size w w' := by
  have HB := Aside0.mk (Below.refl w.heap.size w)
  have H : ((headgateref04_Unnum.f k a0 0).bind fun bt104 => (headgateref04_Unnums.l0 k a0 bt104.1 bt104.2 ([] : List Int) 0)) = some (r1, r2) := h
  clear h
  replace H := Option.bind_eq_some_iff.mp H
  obtain ⟨⟨t104, t105⟩, A20, H⟩ := H
  replace H : (headgateref04_Unnums.l0 k a0 t104 t105 ([] : List Int) 0) = some (r1, r2) := H
  have A2 := Aside0.mk A20
  clear A20
  have HC3 := Aside0.mk H
  clear H
  go_enter Try.func36, Try.ntmps36
  go_upto_block 0 with (first | ((with_reducible refine gate_callee (f := 14) rfl ?_); refine goesL_ (some 11) rfl rfl Try.func14 (by kernel_rfl) rfl #[.string a0, .int .i64 0] rfl (by (try simp only [List.map_toArray, List.map_cons, List.map_nil]); first | done | rfl | (simp only [List.length_drop, List.length_take]; rfl) | exact congrArg (fun x_ : Int => #[Value.int .u64 x_]) (show _ = _ % (18446744073709551616 : Int) by omega)) ?_; (with_reducible refine (headgateref04_Unnum.calls k a0 0 t104 t105 _ A2.out).mono ?_); rintro e w' ⟨rfl, ⟨nd, rfl⟩⟩; refine ⟨_, rfl, ?_⟩))
  (try simp only [Act.put, List.setIfInBounds_toArray, List.set_cons_zero, List.set_cons_succ])
  go_cut [5, 6] (fun v5 v6 wc => ∃ (kq : Nat) (x5_2 : Int) (x6_2 : List Int), v5 = .int .i64 x5_2 ∧ Aside0 (headgateref04_Unnums.j1 kq a0 x5_2 x6_2 = some (r1, r2)) ∧ Aside0 (kq ≤ k) ∧ Aside0 (Kd.R (Kd.int .i64) 2 wc w.heap.size (fun _ => True) v6 x6_2) ∧ Aside0 (Below w.heap.size w wc))
  case first =>
    have H := HC3.out
    clear HC3
    have H' := Aside0.mk H
    clear H
    go_wp2
    go_loopg [5, 6, 7] k (fun kq v5 v6 v7 w' => ∃ (x5_1 : Int) (x6_1 : List Int) (x7_1 : Int), v5 = .int .i64 x5_1 ∧ v7 = .int .u64 x7_1 ∧ Aside0 (headgateref04_Unnums.l0 kq a0 t104 x5_1 x6_1 x7_1 = some (r1, r2)) ∧ Aside0 (kq ≤ k) ∧ Aside0 (Kd.R (Kd.int .i64) 2 w' w.heap.size (fun _ => True) v6 x6_1) ∧ Aside0 (Below w.heap.size w w'))
    case atStart => exact ⟨(t105), (([] : List Int)), (0), (by first | rfl | (simp; done) | (simp [*]; done) | (simp; rw [Bool.eq_iff_iff]; simp; done)), (by first | rfl | (simp; done) | (simp [*]; done) | (simp; rw [Bool.eq_iff_iff]; simp; done)), H', ⟨Nat.le_refl _⟩, ⟨by first | exact Kd.R_nil _ _ _ _ _ | exact Kd.N_nil _ _ _ _ _ | exact Kd.V_nil _ _ _ _ _ | exact Kd.Q_nil _ _ _ _ _ | exact Kd.S_nil _ _ _ _ _⟩, ⟨by repeat (first | (with_reducible first | exact HB.out | apply below_alloc | apply pw_below_drewN | apply below_drew1) | exact HB.out)⟩⟩
    case round =>
      clear H'
      try clear c1
      try clear p2
      try clear c3
      obtain ⟨x5_1, x6_1, x7_1, rfl, rfl, HA, HK1, HO_6, HB⟩ := hrel
      cases gk with
      | zero => exact absurd HA.out (by simp [headgateref04_Unnums.l0])
      | succ k1 =>
        have H := HA.out
        clear HA
        simp only [headgateref04_Unnums.l0] at H
        by_cases c4 : x7_1 < t104
        · rw [if_pos c4] at H
          have c4b0 : decide (x7_1 < t104) = true := decide_eq_true c4
          clear c4
          (first | rw [c4b0] | (simp only [i64_w, i32_w]; rw [c4b0]) | skip)
          by_cases c5 : x5_1 ≥ 0
          · rw [if_pos c5] at H
            have c5b0 : decide (0 ≤ x5_1) = true := decide_eq_true c5
            clear c5
            replace H := Option.bind_eq_some_iff.mp H
            obtain ⟨⟨t106, t107⟩, A60, H⟩ := H
            replace H : (if x6_1.length < 17592186044416 then (headgateref04_Unnums.l0 k1 a0 t104 t107 (x6_1 ++ [t106]) (IntKind.u64.wrap (x7_1 + 1))) else (none)) = some (r1, r2) := H
            have A6 := Aside0.mk A60
            clear A60
            by_cases c7 : x6_1.length < 17592186044416
            · rw [if_pos c7] at H
              have LMc7 := Aside0.mk c7
              clear c7
              obtain ⟨y108, hy108⟩ : ∃ y_ : List Int, y_ = (x6_1 ++ [t106]) := ⟨_, rfl⟩
              replace H : (headgateref04_Unnums.l0 k1 a0 t104 t107 y108 (IntKind.u64.wrap (x7_1 + 1))) = some (r1, r2) := by first | (rw [hy108]; with_reducible exact H) | (have H2_ := (Option.bind_some _ _).symm.trans H; rw [hy108]; with_reducible exact H2_) | (have H2_ := (Option.bind_some _ _).symm.trans H; with_reducible exact H2_) | with_reducible exact H | (rw [hy108]; exact H) | exact H
              have Ny108 := Aside0.mk hy108
              clear hy108
              have H' := Aside0.mk H
              clear H
              go_wp2_with (first | ((with_reducible refine gate_callee (f := 96) rfl ?_); refine goesL_ (some 26) rfl rfl Try.func96 (by kernel_rfl) rfl #[.string a0, .int .i64 x5_1] rfl (by (try simp only [List.map_toArray, List.map_cons, List.map_nil]); first | done | rfl | (simp only [List.length_drop, List.length_take]; rfl) | exact congrArg (fun x_ : Int => #[Value.int .u64 x_]) (show _ = _ % (18446744073709551616 : Int) by omega)) ?_; (with_reducible refine (headgateref04_Unint.calls k1 a0 x5_1 t106 t107 _ A6.out).mono ?_); rintro e w' ⟨rfl, ⟨nd, rfl⟩⟩; refine ⟨_, rfl, ?_⟩) | ((with_reducible refine gate_builtin (b := .append) (xs := #[.tmp 29, .tmp 31]) rfl ?_); (try (refine gate_guard (by rfl) ?_; dsimp only)); at_builtin; refine Kd.R_append (Kd.int .i64) (w0 := w) w.heap.size rfl (.tmp 29) (.tmp 31) 40 2 (.int .i64 0) 8 rfl Try.underlying40 info2 rfl (by decide) (by omega) u6 x6_1 t106 [.int .i64 t106] (fun _ => True) (fun _ => False) rfl rfl ?aP (fun _ hk => hk.elim) ?aF ?aO ?aB ?aS ?aL ?_; (case aP => exact rfl); (case aB => exact (by repeat (first | (with_reducible first | exact HB.out | apply below_alloc | apply pw_below_drewN | apply below_drew1) | exact HB.out))); (case aF => exact (fun _ _ => trivial)); (case aO => exact (by (with_reducible repeat (first | apply Kd.R_alloc | apply Kd.R_drewN | apply Kd.R_drew)); exact HO_6.out)); (case aS => exact (below_size (by repeat (first | (with_reducible first | exact HB.out | apply below_alloc | apply pw_below_drewN | apply below_drew1) | exact HB.out)))); (case aL => have := LMc7.out; omega); intro v109 w8 ho hb hg hat; rw [← Ny108.out] at ho; have n0_ := Aside0.mk (hb); have n1_ := Aside0.mk (ho); clear HB; clear HO_6; have HB := n0_; have HO110 := n1_; clear n0_ n1_; clear ho hb hg hat))
              go_roundg k1
              case measure => have := HK1.out; omega
              case rel => exact ⟨(t107), (y108), (IntKind.u64.wrap (x7_1 + 1)), (by first | rfl | (simp; done) | (simp [*]; done) | (simp; rw [Bool.eq_iff_iff]; simp; done)), (by first | rfl | (simp; done) | (simp [*]; done) | (simp; rw [Bool.eq_iff_iff]; simp; done)), H', ⟨by have := HK1.out; omega⟩, ⟨by (with_reducible repeat (first | apply Kd.R_alloc | apply Kd.R_drewN | apply Kd.R_drew)); exact HO110.out⟩, ⟨by repeat (first | (with_reducible first | exact HB.out | apply below_alloc | apply pw_below_drewN | apply below_drew1) | exact HB.out)⟩⟩
            · rw [if_neg c7] at H
              exact absurd H (by simp)
          · rw [if_neg c5] at H
            have c5b0 : decide (0 ≤ x5_1) = false := decide_eq_false c5
            clear c5
            have H' := Aside0.mk H
            clear H
            go_wp2
            go_meet
            case rel => exact ⟨_, (x5_1), (x6_1), (by first | rfl | (simp; done) | (simp [*]; done) | (simp; rw [Bool.eq_iff_iff]; simp; done)), H', ⟨by have := HK1.out; first | omega | exact Nat.le_refl _⟩, ⟨by (with_reducible repeat (first | apply Kd.R_alloc | apply Kd.R_drewN | apply Kd.R_drew)); exact HO_6.out⟩, ⟨by repeat (first | (with_reducible first | exact HB.out | apply below_alloc | apply pw_below_drewN | apply below_drew1) | exact HB.out)⟩⟩
        · rw [if_neg c4] at H
          have c4b0 : decide (x7_1 < t104) = false := decide_eq_false c4
          clear c4
          (first | rw [c4b0] | (simp only [i64_w, i32_w]; rw [c4b0]) | skip)
          have H' := Aside0.mk H
          clear H
          go_wp2
          go_meet
          case rel => exact ⟨_, (x5_1), (x6_1), (by first | rfl | (simp; done) | (simp [*]; done) | (simp; rw [Bool.eq_iff_iff]; simp; done)), H', ⟨by have := HK1.out; first | omega | exact Nat.le_refl _⟩, ⟨by (with_reducible repeat (first | apply Kd.R_alloc | apply Kd.R_drewN | apply Kd.R_drew)); exact HO_6.out⟩, ⟨by repeat (first | (with_reducible first | exact HB.out | apply below_alloc | apply pw_below_drewN | apply below_drew1) | exact HB.out)⟩⟩
  case rest =>
    clear HC3
    try clear c1
    try clear p2
    try clear c3
    try clear c4
    try clear c4b0
    try clear c5
    try clear c5b0
    try clear c7
    try clear p2
    obtain ⟨kq, x5_2, x6_2, rfl, HA, HJ2, HO_6, HB⟩ := hcut
    cases kq with
    | zero => exact absurd HA.out (by simp [headgateref04_Unnums.j1])
    | succ kj2 =>
      have H := HA.out
      clear HA
      simp only [headgateref04_Unnums.j1] at H
      by_cases c9 : x5_2 = (a0.size : Int)
      · rw [if_pos c9] at H
        have c9b0 : (x5_2 == (a0.size : Int)) = true := beq_iff_eq.mpr c9
        have c9b1 : (x5_2 != (a0.size : Int)) = false := bne_eq_false_iff_eq.mpr c9
        clear c9
        by_cases c10 : (a0.size : Int) > 16777216
        · rw [if_pos c10] at H
          have c10b0 : decide (16777216 < (a0.size : Int)) = true := decide_eq_true c10
          have c10b1 : decide (16777216 < a0.size) = true := decide_eq_true (by omega)
          clear c10
          simp only [Option.some.injEq, Prod.mk.injEq] at H
          obtain ⟨rfl, rfl⟩ := H
          go_wp2
          go_ret2
          exact ⟨_, by first | rfl | (simp [errW_none, errW_some] <;> rfl) | (simp [*, errW_none, errW_some] <;> rfl), by first | exact Kd.R_nil _ _ _ _ _ | exact Kd.N_nil _ _ _ _ _ | exact Kd.V_nil _ _ _ _ _ | exact Kd.Q_nil _ _ _ _ _ | exact Kd.S_nil _ _ _ _ _, by repeat (first | (with_reducible first | exact HB.out | apply below_alloc | apply pw_below_drewN | apply below_drew1) | exact HB.out)⟩
        · rw [if_neg c10] at H
          have c10b0 : decide (16777216 < (a0.size : Int)) = false := decide_eq_false c10
          have c10b1 : decide (16777216 < a0.size) = false := decide_eq_false (by omega)
          clear c10
          simp only [Option.some.injEq, Prod.mk.injEq] at H
          obtain ⟨rfl, rfl⟩ := H
          go_wp2
          go_ret2
          exact ⟨_, by first | rfl | (simp [errW_none, errW_some] <;> rfl) | (simp [*, errW_none, errW_some] <;> rfl), by (with_reducible repeat (first | apply Kd.R_alloc | apply Kd.R_drewN | apply Kd.R_drew)); exact HO_6.out, by repeat (first | (with_reducible first | exact HB.out | apply below_alloc | apply pw_below_drewN | apply below_drew1) | exact HB.out)⟩
      · rw [if_neg c9] at H
        have c9b0 : (x5_2 == (a0.size : Int)) = false := beq_eq_false_iff_ne.mpr c9
        have c9b1 : (x5_2 != (a0.size : Int)) = true := bne_iff_ne.mpr c9
        simp only [Option.some.injEq, Prod.mk.injEq] at H
        obtain ⟨rfl, rfl⟩ := H
        go_wp2
        go_ret2
        exact ⟨_, by first | rfl | (simp [errW_none, errW_some] <;> rfl) | (simp [*, errW_none, errW_some] <;> rfl), by first | exact Kd.R_nil _ _ _ _ _ | exact Kd.N_nil _ _ _ _ _ | exact Kd.V_nil _ _ _ _ _ | exact Kd.Q_nil _ _ _ _ _ | exact Kd.S_nil _ _ _ _ _, by repeat (first | (with_reducible first | exact HB.out | apply below_alloc | apply pw_below_drewN | apply below_drew1) | exact HB.out)⟩

end Go.Proofs.Ytgihecpobichbaa.Q
/- The number at the beginning of some bytes, in plain words: what code.Unnum's printed function comes to; no machine in it. -/
namespace Go.Proofs.Ytgihecpobichbaa.Q
open Go.RowKit Go.Proofs.YtgihecpobichbaaW.PrintWords Go.Proofs.YtgihecpobichbaaW.PrintLast Go.Proofs.YtgihecpobichbaaW.PrintMore
set_option linter.unusedVariables false
set_option linter.unusedSimpArgs false

/-- What Unnum makes of a byte c at place i. -/
def unAdd (i : Nat) (n c : Int) : Int := bits .or .u64 n (shl .u64 (IntKind.u64.wrap (bits .and .u8 c 127)) (7 * (i : Int)))
def unBad (i : Nat) (c : Int) : Bool := (i == 9 && decide (c > 1)) || (decide (i > 0) && c == 0)
def unS : Nat → Int → List Int → Int × Int × Int
  | _, _, [] => (0, 0, 41)
  | i, n, c :: l => if unBad i c = true then (0, 0, 41) else if c < 128 then (unAdd i n c, (i : Int) + 1, 0) else unS (i + 1) (unAdd i n c) l
def un (l : List Int) : Int × Int × Int := unS 0 0 l
theorem unS_le : ∀ (l : List Int) (i : Nat) (n : Int), 0 ≤ (unS i n l).2.1 ∧ (unS i n l).2.1 ≤ (i : Int) + l.length
  | [], i, n => by
    show 0 ≤ (0 : Int) ∧ (0 : Int) ≤ (i : Int) + ([] : List Int).length
    simp
  | c :: l, i, n => by
    unfold unS
    split
    · simp; omega
    · split
      · simp; omega
      · have := unS_le l (i + 1) (unAdd i n c)
        simp at this ⊢
        omega
theorem unS_ev (l : List Int) (hl : l.length ≤ 1000000000000000000) : ∀ (d i : Nat) (n : Int), i + d = l.length → Ev (fun k => code_Unnum.l0 k n l (l.length : Int) (i : Int)) (unS i n (l.drop i)) := by
  intro d
  induction d with
  | zero =>
    intro i n h
    rw [List.drop_of_length_le (by omega)]
    exact Ev.step (f := fun _ => some (0, 0, 41)) (fun k => by simp only [code_Unnum.l0]; rw [if_neg (by omega)]) (Ev.now _)
  | succ d ih =>
    intro i n h
    have hd := rd_drop l (i : Int) (by omega) (by omega)
    rw [show ((i : Int) + 1).toNat = i + 1 by omega, Int.toNat_natCast] at hd
    rw [hd]
    obtain ⟨c, hc⟩ : ∃ c, rd l (i : Int) = c := ⟨_, rfl⟩
    rw [hc]
    have e7 : wrap64 (7 * (i : Int)) = 7 * (i : Int) := wrap_in (by unfold in64; omega)
    have e1 : wrap64 ((i : Int) + 1) = (i : Int) + 1 := wrap_in (by unfold in64; omega)
    have hj2 : ∀ b : Bool, b = unBad i c → Ev (fun k => code_Unnum.j2 k n (i : Int) c l (l.length : Int) (i : Int) b) (unS i n (c :: l.drop (i + 1))) := by
      intro b hb
      unfold unS
      cases hv : unBad i c with
      | true =>
        rw [hv] at hb
        subst hb
        rw [if_pos rfl]
        exact Ev.step (f := fun _ => some (0, 0, 41)) (fun k => by simp only [code_Unnum.j2]; rw [if_pos trivial]) (Ev.now _)
      | false =>
        rw [hv] at hb
        subst hb
        rw [if_neg (by simp)]
        by_cases h1 : c < 128
        · rw [if_pos h1]
          refine Ev.step (f := fun _ => some (unAdd i n c, (i : Int) + 1, 0)) (fun k => ?_) (Ev.now _)
          simp only [code_Unnum.j2]
          rw [if_neg (by simp), e7, if_pos (by omega), if_pos h1, e1]
          rfl
        · rw [if_neg h1]
          refine Ev.step (fun k => ?_) (ih (i + 1) (unAdd i n c) (by omega))
          simp only [code_Unnum.j2]
          rw [if_neg (by simp), e7, if_pos (by omega), if_neg h1, e1]
          rfl
    have hj1 : ∀ b : Bool, b = (i == 9 && decide (c > 1)) → Ev (fun k => code_Unnum.j1 k n (i : Int) c l (l.length : Int) (i : Int) b) (unS i n (c :: l.drop (i + 1))) := by
      intro b hb
      cases b with
      | true => exact Ev.step (fun k => by simp only [code_Unnum.j1]; rw [if_pos trivial]) (hj2 true (by unfold unBad; rw [← hb]; rfl))
      | false =>
        by_cases h0 : (i : Int) > 0
        · exact Ev.step (fun k => by simp only [code_Unnum.j1]; rw [if_neg (by simp), if_pos h0]) (hj2 (c == 0) (by unfold unBad; rw [← hb, decide_eq_true (show i > 0 by omega)]; simp))
        · exact Ev.step (fun k => by simp only [code_Unnum.j1]; rw [if_neg (by simp), if_neg h0]) (hj2 false (by unfold unBad; rw [← hb, decide_eq_false (show ¬ i > 0 by omega)]; simp))
    by_cases h9 : (i : Int) = 9
    · have h9' : (i == 9) = true := by simp; omega
      refine Ev.step (fun k => ?_) (hj1 (decide (c > 1)) (by rw [h9', Bool.true_and]))
      simp only [code_Unnum.l0]
      rw [if_pos (by omega), if_pos (by omega), if_pos (by omega), if_pos h9, hc]
    · have h9' : (i == 9) = false := by simp; omega
      refine Ev.step (fun k => ?_) (hj1 false (by rw [h9', Bool.false_and]))
      simp only [code_Unnum.l0]
      rw [if_pos (by omega), if_pos (by omega), if_pos (by omega), if_neg h9, hc]
theorem un_ev (l : List Int) (hl : l.length ≤ 1000000000000000000) : Ev (fun k => code_Unnum.f k l) (un l) := unS_ev l hl l.length 0 0 (by omega)
/-- So many items, one behind the other: what they are, and what is left; or none. -/
def readN {α : Type} (item : List Int → Option (α × List Int)) : Nat → List Int → Option (List α × List Int)
  | 0, l => some ([], l)
  | m + 1, l => (item l).bind fun p => (readN item m p.2).map fun q => (p.1 :: q.1, q.2)
def readItems {α : Type} (item : List Int → Option (α × List Int)) (l : List Int) : Option (List α × List Int) :=
  if (un l).2.2 = 0 then (if (un l).1 > ((l.drop (un l).2.1.toNat).length : Int) then none else readN item (un l).1.toNat (l.drop (un l).2.1.toNat)) else none
def unz (n : Int) : Int := bits .xor .i64 (wrap64 (n / 2)) (wrap64 (-wrap64 (bits .and .u64 n 1)))
def itemI (l : List Int) : Option (Int × List Int) := if (un l).2.2 = 0 then some (unz (un l).1, l.drop (un l).2.1.toNat) else none
end Go.Proofs.Ytgihecpobichbaa.Q
/- The reader of package code: a number, the next bytes: walked. -/
namespace Go.Proofs.Ytgihecpobichbaa.Q
open Go.RowKit Go.Proofs.YtgihecpobichbaaW.PrintWords Go.Proofs.YtgihecpobichbaaW.PrintLast Go.Proofs.YtgihecpobichbaaW.PrintMore
set_option linter.unusedVariables false
set_option linter.unusedSimpArgs false

theorem dr_cell {w w' : World} (h : Drawn0 w w') (a : Addr) : w'.cell? a = w.cell? a := by
  obtain ⟨n, rfl⟩ := h.out
  rfl
theorem dr_frozen {w w' : World} (h : Drawn0 w w') (a : Addr) : w'.frozen? a = w.frozen? a := by
  obtain ⟨n, rfl⟩ := h.out
  rfl
theorem dr_below {w w' : World} (h : Drawn0 w w') (B : Nat) : Below B w w' := by
  obtain ⟨n, rfl⟩ := h.out
  exact ⟨rfl, rfl, rfl, Nat.le_refl _, fun _ _ => rfl⟩
theorem dr_box {w w' : World} (h : Drawn0 w w') {G : Nat} {t : TypeId} {v : Value} (hb : Boxed w G t v) : Boxed w' G t v := by
  obtain ⟨n, rfl⟩ := h.out
  exact hb
/-- What the package throws. -/
def badP : List PanicEntry := [{ v := .iface 134 (.agg #[]), recovered := false }]
/-- A reader in block G, made since the world w0: what is left to read. -/
structure Rd (w0 w : World) (G : Nat) (l : List Int) (A : Option Addr) (c : Nat) : Prop where
  box : Boxed w G 168 (.slice A l.length c)
  has : Kd.C (Kd.int .u8) w0 A l.length l
  below : Below w0.heap.size w0 w
  young : w0.heap.size ≤ G
  room : l.length ≤ c
theorem Rd.now {w0 w : World} {G : Nat} {l : List Int} {A : Option Addr} {c : Nat} (h : Rd w0 w G l A c) : Kd.C (Kd.int .u8) w A l.length l := Kd.C_below h.has h.below
/-- Some reader of l in block G. -/
def RdS (w0 w : World) (G : Nat) (l : List Int) : Prop := ∃ A c, Rd w0 w G l A c
theorem dr_grown {w w' : World} (h : Drawn0 w w') (row : Option Nat) : w.grownBy w' row := by
  obtain ⟨n, rfl⟩ := h.out
  exact ⟨rfl, rfl, rfl, Nat.le_refl _, fun _ _ _ => rfl⟩
theorem gb_trans {w w1 w2 : World} {row : Option Nat} (h1 : w.grownBy w1 row) (h2 : w1.grownBy w2 row) : w.grownBy w2 row := by
  obtain ⟨a1, a2, a3, a4, a5⟩ := h1
  obtain ⟨b1, b2, b3, b4, b5⟩ := h2
  exact ⟨b1.trans a1, b2.trans a2, b3.trans a3, Nat.le_trans a4 b4, fun k hk hne => (b5 k (Nat.lt_of_lt_of_le hk a4) hne).trans (a5 k hk hne)⟩
theorem infoU8 : (Try.prog.info? 5).map (fun i => (i.zero, i.size, i.bytes)) = some (some (.int .u8 0), 1, 1) := by kernel_rfl

set_option maxHeartbeats 4000000 in
set_option maxRecDepth 100000 in
theorem num_calls (k : Nat) (G : Nat) (l : List Int) (n j e : Int) (w0 w : World) (hs : RdS w0 w G l) (hf : code_Unnum.f k l = some (n, j, e)) (hj : 0 ≤ j ∧ j ≤ (l.length : Int)) :
    Calls Try.prog 111 #[.pointer (some ⟨G, 0, none⟩)] w fun E w' => (e = 0 → E = .returned (.int .u64 n) ∧ RdS w0 w' G (l.drop j.toNat)) ∧ (¬ e = 0 → E = .panicked badP) ∧ w.grownBy w' (some G) := by
  obtain ⟨A, c, h⟩ := hs
  have hc := h.box.cell
  have hz := h.box.frozen
  have hlt := h.box.lt
  have hnow := h.now
  have hroom := h.room
  obtain ⟨i0, hi0, _, hsz, _⟩ := info_parts infoU8
  have hcut := cut_from (P := Try.prog) 27 5 .i64 (by kernel_rfl) hi0 1 hsz A l.length c j hj.1 hj.2
  have hdrop := Kd.C_drop (m := j.toNat) h.has (by omega) hroom
  obtain ⟨A', hA'⟩ : ∃ A', A' = (if c = j.toNat then A else A.map (·.add (j.toNat * 1))) := ⟨_, rfl⟩
  replace hdrop : Kd.C (Kd.int .u8) w0 A' (l.drop j.toNat).length (l.drop j.toNat) := by rw [hA']; exact hdrop
  obtain ⟨n', hn'⟩ : ∃ n', n' = l.length - j.toNat := ⟨_, rfl⟩
  obtain ⟨c', hc'⟩ : ∃ c', c' = c - j.toNat := ⟨_, rfl⟩
  rw [← hA', ← hn', ← hc'] at hcut
  have hlen : (l.drop j.toNat).length = n' := by rw [List.length_drop, hn']
  obtain ⟨R, hR⟩ : ∃ R : World → Prop, R = fun w' => RdS w0 w' G (l.drop j.toNat) := ⟨_, rfl⟩
  have hR' : ∀ w', Boxed w' G 168 (.slice A' n' c') → Below w0.heap.size w0 w' → R w' := by
    intro w' hb hbl
    rw [hR]
    exact ⟨A', c', by rw [hlen]; exact hb, hdrop, hbl, h.young, by omega⟩
  suffices hx : Calls Try.prog 111 #[.pointer (some ⟨G, 0, none⟩)] w fun E w' => (e = 0 → E = .returned (.int .u64 n) ∧ R w') ∧ (¬ e = 0 → E = .panicked badP) ∧ w.grownBy w' (some G) by
    rw [hR] at hx
    exact hx
  clear hA' hn' hc' hR hdrop hlen
  go_enter Try.func111, Try.ntmps111
  by_cases he : e = 0
  · subst he
    go_wp2_with (go_at_call 13; refine (code_Unnum.calls k A c l n j 0 _ hnow hroom hf).mono ?_; rintro E w1 ⟨rfl, hd1⟩; have hc1 := (dr_cell hd1 _).trans hc; have hz1 := (dr_frozen hd1 _).trans hz)
    have hg : Below G w1 (w1.setCell ⟨G, 0, none⟩ (.slice A' n' c')) := (Below.refl _ w1).grown (grownBy_setCell' _ _ _) (by have := (dr_below hd1 G).size; omega) (fun k e => by cases e; exact Nat.le_refl _)
    have hb1 := hR' _ ((dr_box hd1 h.box).set (.slice A' n' c')) (h.below.trans (((dr_below hd1 G).trans hg).mono h.young))
    have hb2 : w.grownBy (w1.setCell ⟨G, 0, none⟩ (.slice A' n' c')) (some G) := gb_trans (dr_grown hd1 _) (grownBy_setCell' _ _ _)
    go_ret
    first
      | exact ⟨fun _ => ⟨rfl, hb1⟩, fun z => absurd rfl z, hb2⟩
      | exact ⟨⟨rfl, hb1⟩, hb2⟩
      | exact ⟨hb1, hb2⟩
  · have hb : (e != 0) = true := by simpa using he
    go_wp2_with (go_at_call 13; refine (code_Unnum.calls k A c l n j e _ hnow hroom hf).mono ?_; rintro E w1 ⟨rfl, hd1⟩; have hc1 := (dr_cell hd1 _).trans hc; have hz1 := (dr_frozen hd1 _).trans hz)
    exact ⟨rfl, fun z => absurd z he, fun _ => rfl, dr_grown hd1 _⟩
set_option maxHeartbeats 4000000 in
set_option maxRecDepth 100000 in
theorem whole_calls (k : Nat) (G : Nat) (l : List Int) (n j e : Int) (w0 w : World) (hs : RdS w0 w G l) (hf : code_Unnum.f k l = some (n, j, e)) (hj : 0 ≤ j ∧ j ≤ (l.length : Int)) :
    Calls Try.prog 93 #[.pointer (some ⟨G, 0, none⟩)] w fun E w' => (e = 0 → E = .returned (.int .i64 (unz n)) ∧ RdS w0 w' G (l.drop j.toNat)) ∧ (¬ e = 0 → E = .panicked badP) ∧ w.grownBy w' (some G) := by
  have hn := num_calls k G l n j e w0 w hs hf hj
  obtain ⟨R, hR⟩ : ∃ R : World → Prop, R = fun w' => RdS w0 w' G (l.drop j.toNat) := ⟨_, rfl⟩
  replace hn : Calls Try.prog 111 #[.pointer (some ⟨G, 0, none⟩)] w fun E w' => (e = 0 → E = .returned (.int .u64 n) ∧ R w') ∧ (¬ e = 0 → E = .panicked badP) ∧ w.grownBy w' (some G) := by rw [hR]; exact hn
  suffices hx : Calls Try.prog 93 #[.pointer (some ⟨G, 0, none⟩)] w fun E w' => (e = 0 → E = .returned (.int .i64 (unz n)) ∧ R w') ∧ (¬ e = 0 → E = .panicked badP) ∧ w.grownBy w' (some G) by
    rw [hR] at hx
    exact hx
  clear hR hs hf
  go_enter Try.func93, Try.ntmps93
  by_cases he : e = 0
  · go_wp2_with (go_at_call 111; refine hn.mono ?_; rintro E w1 ⟨h1, h2, h3⟩; obtain ⟨rfl, h1'⟩ := h1 he)
    go_ret
    exact ⟨fun _ => ⟨rfl, h1'⟩, fun z => absurd he z, h3⟩
  · go_wp2_with (go_at_call 111; refine hn.mono ?_; rintro E w1 ⟨h1, h2, h3⟩; obtain rfl := h2 he)
    exact ⟨rfl, fun z => absurd z he, fun _ => rfl, h3⟩
theorem num_un (G : Nat) (l : List Int) (hl : l.length ≤ 1000000000000000000) (w0 w : World) (hs : RdS w0 w G l) :
    Calls Try.prog 111 #[.pointer (some ⟨G, 0, none⟩)] w fun E w' => ((un l).2.2 = 0 → E = .returned (.int .u64 (un l).1) ∧ RdS w0 w' G (l.drop (un l).2.1.toNat)) ∧ (¬ (un l).2.2 = 0 → E = .panicked badP) ∧ w.grownBy w' (some G) := by
  obtain ⟨k, hk⟩ := (un_ev l hl).rounds
  have := unS_le l 0 0
  exact num_calls k G l _ _ _ w0 w hs hk ⟨this.1, by have := this.2; simpa [un] using this⟩
theorem whole_un (G : Nat) (l : List Int) (hl : l.length ≤ 1000000000000000000) (w0 w : World) (hs : RdS w0 w G l) :
    Calls Try.prog 93 #[.pointer (some ⟨G, 0, none⟩)] w fun E w' => ((un l).2.2 = 0 → E = .returned (.int .i64 (unz (un l).1)) ∧ RdS w0 w' G (l.drop (un l).2.1.toNat)) ∧ (¬ (un l).2.2 = 0 → E = .panicked badP) ∧ w.grownBy w' (some G) := by
  obtain ⟨k, hk⟩ := (un_ev l hl).rounds
  have := unS_le l 0 0
  exact whole_calls k G l _ _ _ w0 w hs hk ⟨this.1, by have := this.2; simpa [un] using this⟩
end Go.Proofs.Ytgihecpobichbaa.Q
/- The list of ints of package code's reader: walked: items, read with its recover, Unnums. -/
namespace Go.Proofs.Ytgihecpobichbaa.Q
open Go.RowKit Go.Proofs.YtgihecpobichbaaW.PrintWords Go.Proofs.YtgihecpobichbaaW.PrintLast Go.Proofs.YtgihecpobichbaaW.PrintMore
set_option linter.unusedVariables false
set_option linter.unusedSimpArgs false

theorem mkf : ∀ (fn : Fn) (first cap : Array Value) (w : World), (Instr.makeFunc fn first cap).run Try.prog w = .ok (.func fn first cap) w := fun _ _ _ _ => rfl
/-- What a reader's method leaves: what it read, or its panic. -/
def RdOut {α : Type} (w0 w : World) (G : Nat) (r : Option (α × List Int)) (ret : α → Value) (E : Ending) (w' : World) : Prop :=
  (∀ x l', r = some (x, l') → E = .returned (ret x) ∧ RdS w0 w' G l') ∧ (r = none → E = .panicked badP) ∧ w.grownBy w' (some G)
theorem whole_item (G : Nat) (l : List Int) (hl : l.length ≤ 1000000000000000000) (w0 w : World) (hs : RdS w0 w G l) :
    Calls Try.prog 93 #[.pointer (some ⟨G, 0, none⟩)] w (RdOut w0 w G (itemI l) (Value.int .i64)) := by
  refine (whole_un G l hl w0 w hs).mono ?_
  rintro E w' ⟨h1, h2, h3⟩
  unfold RdOut itemI
  refine ⟨fun x l' h => ?_, fun h => ?_, h3⟩
  · split at h
    · rename_i h0
      simp only [Option.some.injEq, Prod.mk.injEq] at h
      obtain ⟨rfl, rfl⟩ := h
      exact h1 h0
    · cases h
  · split at h
    · cases h
    · rename_i h0
      exact h2 h0
/-- The reader's world, a step on. -/
theorem RdS.step {w0 w w' : World} {G : Nat} {l : List Int} (h : RdS w0 w G l) {row : Option Nat} (hg : w.grownBy w' row) (hne : some G ≠ row) (hr : ∀ k, row = some k → w0.heap.size ≤ k) : RdS w0 w' G l := by
  obtain ⟨A, c, h⟩ := h
  have hlt := h.box.lt
  have hy := h.young
  exact ⟨A, c, h.box.kept hg hne, h.has, h.below.grown hg (by omega) hr, h.young, h.room⟩
theorem RdS.lt {w0 w : World} {G : Nat} {l : List Int} (h : RdS w0 w G l) : G < w.heap.size ∧ w0.heap.size ≤ G := by
  obtain ⟨A, c, h⟩ := h
  exact ⟨h.box.lt, h.young⟩
theorem gb_new {w w1 w2 : World} {r row : Option Nat} (h1 : w.grownBy w1 r) (h2 : w1.grownBy w2 row) (hn : ∀ k, row = some k → w.heap.size ≤ k) : w.grownBy w2 r := by
  obtain ⟨a1, a2, a3, a4, a5⟩ := h1
  obtain ⟨b1, b2, b3, b4, b5⟩ := h2
  exact ⟨b1.trans a1, b2.trans a2, b3.trans a3, Nat.le_trans a4 b4, fun k hk hne => (b5 k (Nat.lt_of_lt_of_le hk a4) (fun e => by have := hn k e.symm; omega)).trans (a5 k hk hne)⟩
theorem R_past {α : Type} {d : Kd α} {e : Nat} {w w1 : World} {base : Nat} {v : Value} {xs : List α} {G : Nat} (h : d.R e w base (fun _ => True) v xs) (hg : w.grownBy w1 (some G)) (hG : G < base) : d.R e w1 base (fun _ => True) v xs :=
  Kd.R_mono (Kd.R_grown (Kd.R_bound h) hg (fun k hk e => by injection e with e; have := hk.2.1; omega)) (fun _ hk => hk.1)
theorem bits_u64 (op : BinOp) (a b : Int) : 0 ≤ bits op .u64 a b ∧ bits op .u64 a b < 18446744073709551616 := by
  unfold bits
  show 0 ≤ _ % (18446744073709551616 : Int) ∧ _ % (18446744073709551616 : Int) < 18446744073709551616
  omega
theorem unS_range : ∀ (l : List Int) (i : Nat) (n : Int), 0 ≤ (unS i n l).1 ∧ (unS i n l).1 < 18446744073709551616
  | [], i, n => by
    show 0 ≤ (0 : Int) ∧ (0 : Int) < 18446744073709551616
    omega
  | c :: l, i, n => by
    unfold unS
    split
    · show 0 ≤ (0 : Int) ∧ (0 : Int) < 18446744073709551616
      omega
    · split
      · show 0 ≤ unAdd i n c ∧ unAdd i n c < 18446744073709551616
        unfold unAdd
        exact bits_u64 _ _ _
      · exact unS_range l (i + 1) (unAdd i n c)
theorem un_range (l : List Int) (hl : l.length ≤ 1000000000000000000) : 0 ≤ (un l).1 := (unS_range l 0 0).1
set_option maxHeartbeats 4000000 in
set_option maxRecDepth 100000 in
theorem items_calls (G : Nat) (l : List Int) (hl : l.length ≤ 1000000000) (w0 w : World) (hs : RdS w0 w G l) (RR : Option (List Int × List Int)) (hRR : readItems itemI l = RR) :
    Calls Try.prog 92 #[.pointer (some ⟨G, 0, none⟩), .func (.func 93) #[.pointer (some ⟨G, 0, none⟩)] #[]] w fun E w' =>
      (∀ xs l', RR = some (xs, l') → ∃ v, E = .returned v ∧ Kd.R (Kd.int .i64) 2 w' w.heap.size (fun _ => True) v xs ∧ RdS w0 w' G l') ∧ (RR = none → E = .panicked badP) ∧ w.grownBy w' (some G) := by
  have hG := hs.lt
  have hnum := num_un G l (by omega) w0 w hs
  obtain ⟨Q, hQ⟩ : ∃ Q : Ending → World → Prop, Q = fun E w' => (∀ xs l', RR = some (xs, l') → ∃ v, E = .returned v ∧ Kd.R (Kd.int .i64) 2 w' w.heap.size (fun _ => True) v xs ∧ RdS w0 w' G l') ∧ (RR = none → E = .panicked badP) ∧ w.grownBy w' (some G) := ⟨_, rfl⟩
  rw [← hQ]
  have hno : ∀ w', RR = none → w.grownBy w' (some G) → Q (.panicked badP) w' := by
    intro w' h1 h2
    rw [hQ]
    exact ⟨fun xs l' h => (by rw [h1] at h; cases h), fun _ => rfl, h2⟩
  have hyes : ∀ w' v xs l', RR = some (xs, l') → Kd.R (Kd.int .i64) 2 w' w.heap.size (fun _ => True) v xs → RdS w0 w' G l' → w.grownBy w' (some G) → Q (.returned v) w' := by
    intro w' v xs l' h1 h2 h3 h4
    rw [hQ]
    refine ⟨fun xs' l'' h => ?_, fun h => (by rw [h1] at h; cases h), h4⟩
    rw [h1] at h
    simp only [Option.some.injEq, Prod.mk.injEq] at h
    obtain ⟨rfl, rfl⟩ := h
    exact ⟨v, rfl, h2, h3⟩
  clear hQ
  unfold readItems at hRR
  have hun := unS_le l 0 0
  have hj : 0 ≤ (un l).2.1 ∧ (un l).2.1 ≤ (l.length : Int) := ⟨hun.1, by simpa [un] using hun.2⟩
  obtain ⟨n, hn⟩ : ∃ n, (un l).1 = n := ⟨_, rfl⟩
  have hn0 : 0 ≤ n := hn ▸ un_range l (by omega)
  obtain ⟨l1, hl1⟩ : ∃ l1, l.drop (un l).2.1.toNat = l1 := ⟨_, rfl⟩
  have hl1' : l1.length ≤ 1000000000 := by rw [← hl1, List.length_drop]; omega
  by_cases he : (un l).2.2 = 0
  · rw [if_pos he, hn, hl1] at hRR
    rw [hn, hl1] at hnum
    have hc : Calls Try.prog 111 #[.pointer (some ⟨G, 0, none⟩)] w fun E w' => E = .returned (.int .u64 n) ∧ RdS w0 w' G l1 ∧ w.grownBy w' (some G) := hnum.mono fun E w' ⟨h1, _, h3⟩ => ⟨(h1 he).1, (h1 he).2, h3⟩
    clear hnum hn hl1 hun hj he hs
    go_enter Try.func92, Try.ntmps92
    go_wp2_with fail
    refine hc.mono ?_
    rintro E w1 ⟨rfl, hs1, hg1⟩
    have hG1 := hs1.lt
    obtain ⟨A1, c1, h1⟩ := hs1
    have hcell := h1.box.cell
    have hfz := h1.box.frozen
    have hlen : (l1.length : Int) ≤ 18446744073709551615 := by omega
    by_cases hbig : n > (l1.length : Int)
    · rw [if_pos hbig] at hRR
      have HR := Aside0.mk hRR
      clear hRR hc
      go_wp2
      exact ⟨rfl, hno _ HR.out.symm hg1⟩
    · rw [if_neg hbig] at hRR
      have HR := Aside0.mk hRR
      have HS1 := Aside0.mk (⟨A1, c1, h1⟩ : RdS w0 w1 G l1)
      have HG1 := Aside0.mk hg1
      clear hRR hc h1 hg1
      go_wp2_with fail
      have hnle : n ≤ 1000000000 := by omega
      have HB := Aside0.mk hbig
      clear hbig hcell hfz
      go_loopg [6, 20] (n.toNat) (fun kq v6 v20 wr => ∃ (i : Nat) (xs l2 : List Int), v20 = .int .u64 i ∧ Aside0 ((i : Int) + kq = n) ∧ Aside0 (((readN itemI kq l2).map fun q => (xs ++ q.1, q.2)) = RR) ∧ Aside0 (xs.length = i) ∧ Aside0 (Kd.R (Kd.int .i64) 2 wr w.heap.size (fun _ => True) v6 xs) ∧ Aside0 (RdS w0 wr G l2) ∧ Aside0 (w.grownBy wr (some G)) ∧ Aside0 (l2.length ≤ 1000000000))
      case atStart => exact ⟨0, [], l1, rfl, ⟨by omega⟩, ⟨by rw [← HR.out]; cases readN itemI n.toNat l1 <;> rfl⟩, ⟨rfl⟩, ⟨Kd.R_nil _ _ _ _ _⟩, HS1, HG1, ⟨hl1'⟩⟩
      case round =>
        clear HR HS1 HG1
        obtain ⟨i, xs, l2, rfl, HI, HF, HX, HO, HS, HG, HL⟩ := hrel
        cases gk with
        | zero =>
          have hlb : decide ((i : Int) < n) = false := decide_eq_false (by have := HI.out; omega)
          have hF := HF.out
          simp only [readN, Option.map_some, List.append_nil] at hF
          have HF2 := Aside0.mk hF
          clear hF HF
          go_wp2
          first
            | exact hyes _ _ _ _ HF2.out.symm HO.out HS.out HG.out
            | (go_ret; exact hyes _ _ _ _ HF2.out.symm HO.out HS.out HG.out)
        | succ k1 =>
          have hlb : decide ((i : Int) < n) = true := decide_eq_true (by have := HI.out; omega)
          have hi1 : (i : Int) + 1 ≤ 1000000001 := by have := HI.out; omega
          have hcw := whole_item G l2 (by have := HL.out; omega) w0 wr HS.out
          cases hit : itemI l2 with
          | none =>
            have hcn : Calls Try.prog 93 #[.pointer (some ⟨G, 0, none⟩)] wr fun E w' => E = .panicked badP ∧ wr.grownBy w' (some G) := hcw.mono fun E w' ⟨_, h2, h3⟩ => ⟨h2 hit, h3⟩
            have hRn : RR = none := by rw [← HF.out, readN, hit]; rfl
            have HRn := Aside0.mk hRn
            clear hcw hit hRn
            go_wp2_with fail
            refine hcn.mono ?_
            rintro E w2 ⟨rfl, hg2⟩
            go_wp2
            exact ⟨rfl, hno _ HRn.out (gb_trans HG.out hg2)⟩
          | some p =>
            obtain ⟨x, l3⟩ := p
            have hcs : Calls Try.prog 93 #[.pointer (some ⟨G, 0, none⟩)] wr fun E w' => E = .returned (.int .i64 x) ∧ RdS w0 w' G l3 ∧ wr.grownBy w' (some G) := hcw.mono fun E w' ⟨h1, _, h3⟩ => ⟨(h1 x l3 hit).1, (h1 x l3 hit).2, h3⟩
            have hF2 : ((readN itemI k1 l3).map fun q => ((xs ++ [x]) ++ q.1, q.2)) = RR := by
              rw [← HF.out, readN, hit]
              simp only [Option.bind_some]
              cases readN itemI k1 l3 with
              | none => rfl
              | some q => simp
            have hl3 : l3.length ≤ l2.length := by
              unfold itemI at hit
              split at hit
              · simp only [Option.some.injEq, Prod.mk.injEq] at hit
                rw [← hit.2, List.length_drop]
                omega
              · cases hit
            have HF3 := Aside0.mk hF2
            have HL3 := Aside0.mk (show l3.length ≤ 1000000000 by have := HL.out; omega)
            clear hcw hit hF2 hl3 HF HL
            go_wp2_with fail
            refine hcs.mono ?_
            rintro E w2 ⟨rfl, hs2, hg2⟩
            have HG2 := Aside0.mk (gb_trans HG.out hg2)
            have HO2 := Aside0.mk (R_past HO.out hg2 hG.1)
            have HS2 := Aside0.mk hs2
            have HZ := Aside0.mk (show w.heap.size ≤ w2.heap.size from HG2.out.4)
            clear hg2 hs2 HO HS HG
            go_wp2_with (first | ((with_reducible refine gate_builtin (b := .append) (xs := #[.tmp 22, .tmp 25]) rfl ?_); (try (refine gate_guard (by rfl) ?_; dsimp only)); at_builtin; refine Kd.R_append (Kd.int .i64) (w0 := w2) w.heap.size rfl (.tmp 22) (.tmp 25) 40 2 (.int .i64 0) 8 rfl Try.underlying40 info2 rfl (by decide) (by omega) u6 xs x [.int .i64 x] (fun _ => True) (fun _ => False) rfl rfl ?aP (fun _ hk => hk.elim) ?aF ?aO ?aB ?aS ?aL ?_; (case aP => exact rfl); (case aB => exact Below.refl _ _); (case aF => exact (fun _ _ => trivial)); (case aO => exact HO2.out); (case aS => exact HZ.out); (case aL => have := HX.out; omega); intro v1 w3 ho hb hg hat; have HO3 := Aside0.mk ho; have HGr := Aside0.mk hg; clear ho hb hg hat))
            have hne : ∀ k, u6.ownBlock = some k → w.heap.size ≤ k := Kd.R_base HO2.out
            have HS3 := Aside0.mk (HS2.out.step HGr.out (fun e => by have := hne G e.symm; omega) (fun k e => by have := hne k e; omega))
            have HG3 := Aside0.mk (gb_new HG2.out HGr.out hne)
            clear hne
            go_roundg k1
            case measure => omega
            case rel => exact ⟨i + 1, xs ++ [x], l3, by congr 1, ⟨by have := HI.out; omega⟩, HF3, ⟨by rw [List.length_append, HX.out]; rfl⟩, HO3, HS3, HG3, HL3⟩
  · rw [if_neg he] at hRR
    have hc : Calls Try.prog 111 #[.pointer (some ⟨G, 0, none⟩)] w fun E w' => E = .panicked badP ∧ w.grownBy w' (some G) := hnum.mono fun E w' ⟨_, h2, h3⟩ => ⟨h2 he, h3⟩
    have HR := Aside0.mk hRR
    clear hnum hn hl1 hun hj he hs hRR
    go_enter Try.func92, Try.ntmps92
    go_wp2_with fail
    refine hc.mono ?_
    rintro E w1 ⟨rfl, hg1⟩
    go_wp2
    exact ⟨rfl, hno _ HR.out.symm hg1⟩
end Go.Proofs.Ytgihecpobichbaa.Q
/- The reader of package code: so many bytes, a byte, a text: walked. -/
namespace Go.Proofs.Ytgihecpobichbaa.Q
open Go.RowKit Go.Proofs.YtgihecpobichbaaW.PrintWords Go.Proofs.YtgihecpobichbaaW.PrintLast Go.Proofs.YtgihecpobichbaaW.PrintMore
set_option linter.unusedVariables false
set_option linter.unusedSimpArgs false

/-- A byte; a text: what is read, and what is left. -/
def itemB : List Int → Option (Int × List Int)
  | [] => none
  | c :: r => some (c, r)
def itemW (l : List Int) : Option (ByteArray × List Int) :=
  if (un l).2.2 = 0 then (if (un l).1 > ((l.drop (un l).2.1.toNat).length : Int) then none else some (strOfNums ((l.drop (un l).2.1.toNat).take (un l).1.toNat), (l.drop (un l).2.1.toNat).drop (un l).1.toNat)) else none
set_option maxHeartbeats 4000000 in
set_option maxRecDepth 100000 in
theorem some_calls (G : Nat) (l : List Int) (hl : l.length ≤ 1000000000) (n : Int) (h0 : 0 ≤ n) (w0 w : World) (hs : RdS w0 w G l) :
    Calls Try.prog 113 #[.pointer (some ⟨G, 0, none⟩), .int .u64 n] w fun E w' =>
      (n ≤ (l.length : Int) → (∃ A c, E = .returned (.slice A n.toNat c) ∧ Kd.C (Kd.int .u8) w0 A (l.take n.toNat).length (l.take n.toNat) ∧ (l.take n.toNat).length = n.toNat) ∧ RdS w0 w' G (l.drop n.toNat)) ∧ (¬ n ≤ (l.length : Int) → E = .panicked badP) ∧ w.grownBy w' (some G) := by
  obtain ⟨A, c, h⟩ := hs
  have hcell := h.box.cell
  have hz := h.box.frozen
  have hlt := h.box.lt
  have hroom := h.room
  have hlen : (l.length : Int) ≤ 18446744073709551615 := by omega
  obtain ⟨Q, hQ⟩ : ∃ Q : Ending → World → Prop, Q = fun E w' =>
      (n ≤ (l.length : Int) → (∃ A c, E = .returned (.slice A n.toNat c) ∧ Kd.C (Kd.int .u8) w0 A (l.take n.toNat).length (l.take n.toNat) ∧ (l.take n.toNat).length = n.toNat) ∧ RdS w0 w' G (l.drop n.toNat)) ∧ (¬ n ≤ (l.length : Int) → E = .panicked badP) ∧ w.grownBy w' (some G) := ⟨_, rfl⟩
  rw [← hQ]
  by_cases hbig : n > (l.length : Int)
  · have hno : Q (.panicked badP) w := by
      rw [hQ]
      exact ⟨fun h => absurd h (by omega), fun _ => rfl, World.grownBy.refl w _⟩
    have HN := Aside0.mk hno
    clear hQ hno
    go_enter Try.func113, Try.ntmps113
    go_wp2
    exact ⟨rfl, HN.out⟩
  · obtain ⟨i0, hi0, _, hsz, _⟩ := info_parts infoU8
    have hto := cut_to (P := Try.prog) 27 5 .u64 (by kernel_rfl) hi0 A l.length c n h0 (by omega) hroom
    have hcut := cut_from (P := Try.prog) 27 5 .u64 (by kernel_rfl) hi0 1 hsz A l.length c n h0 (by omega)
    have hdrop := Kd.C_drop (m := n.toNat) h.has (by omega) hroom
    have htake := Kd.C_take (m := n.toNat) h.has (by omega)
    obtain ⟨A', hA'⟩ : ∃ A', A' = (if c = n.toNat then A else A.map (·.add (n.toNat * 1))) := ⟨_, rfl⟩
    replace hdrop : Kd.C (Kd.int .u8) w0 A' (l.drop n.toNat).length (l.drop n.toNat) := by rw [hA']; exact hdrop
    obtain ⟨n', hn'⟩ : ∃ n', n' = l.length - n.toNat := ⟨_, rfl⟩
    obtain ⟨c', hc'⟩ : ∃ c', c' = c - n.toNat := ⟨_, rfl⟩
    rw [← hA', ← hn', ← hc'] at hcut
    have hlen2 : (l.drop n.toNat).length = n' := by rw [List.length_drop, hn']
    have hyes : ∀ w', Boxed w' G 168 (.slice A' n' c') → Below w0.heap.size w0 w' → w.grownBy w' (some G) → Q (.returned (.slice A n.toNat c)) w' := by
      intro w' hb hbl hg
      rw [hQ]
      exact ⟨fun _ => ⟨⟨A, c, rfl, htake, by rw [List.length_take]; omega⟩, ⟨A', c', by rw [hlen2]; exact hb, hdrop, hbl, h.young, by omega⟩⟩, fun z => absurd z (by omega), hg⟩
    have hb1 := hyes (w.setCell ⟨G, 0, none⟩ (.slice A' n' c')) (h.box.set _) (h.below.trans (((Below.refl G w).grown (grownBy_setCell' _ _ _) (by omega) (fun k e => by cases e; exact Nat.le_refl _)).mono h.young)) (grownBy_setCell' _ _ _)
    have HY := Aside0.mk hb1
    clear hQ hyes hb1 hA' hn' hc' hdrop htake hlen2
    go_enter Try.func113, Try.ntmps113
    go_wp2
    first | exact HY.out | (go_ret; exact HY.out)
theorem RdS.below {w0 w : World} {G : Nat} {l : List Int} (h : RdS w0 w G l) : Below w0.heap.size w0 w := by
  obtain ⟨A, c, h⟩ := h
  exact h.below
set_option maxHeartbeats 4000000 in
set_option maxRecDepth 100000 in
theorem byte_item (G : Nat) (l : List Int) (hl : l.length ≤ 1000000000) (w0 w : World) (hs : RdS w0 w G l) :
    Calls Try.prog 85 #[.pointer (some ⟨G, 0, none⟩)] w (RdOut w0 w G (itemB l) (Value.int .u8)) := by
  have hc := some_calls G l hl 1 (by omega) w0 w hs
  obtain ⟨Q, hQ⟩ : ∃ Q : Ending → World → Prop, Q = RdOut w0 w G (itemB l) (Value.int .u8) := ⟨_, rfl⟩
  rw [← hQ]
  cases l with
  | nil =>
    have hno : ∀ w', w.grownBy w' (some G) → Q (.panicked badP) w' := by
      intro w' hg
      rw [hQ]
      exact ⟨fun x l' h => (by cases h), fun _ => rfl, hg⟩
    have hc2 : Calls Try.prog 113 #[.pointer (some ⟨G, 0, none⟩), .int .u64 1] w fun E w' => E = .panicked badP ∧ w.grownBy w' (some G) := hc.mono fun E w' h => ⟨h.2.1 (by simp), h.2.2⟩
    clear hQ hs hc
    go_enter Try.func85, Try.ntmps85
    go_wp2_with fail
    refine hc2.mono ?_
    rintro E w1 ⟨rfl, hg⟩
    go_wp2
    exact ⟨rfl, hno _ hg⟩
  | cons b r =>
    have hyes : ∀ w', RdS w0 w' G r → w.grownBy w' (some G) → Q (.returned (.int .u8 b)) w' := by
      intro w' hr hg
      rw [hQ]
      refine ⟨fun x l' h => ?_, fun h => (by cases h), hg⟩
      simp only [itemB, Option.some.injEq, Prod.mk.injEq] at h
      obtain ⟨rfl, rfl⟩ := h
      exact ⟨rfl, hr⟩
    have hc2 : Calls Try.prog 113 #[.pointer (some ⟨G, 0, none⟩), .int .u64 1] w fun E w' => (∃ ad c, E = .returned (.slice (some ad) 1 c) ∧ w'.cell? ad = some (.int .u8 b)) ∧ RdS w0 w' G r ∧ w.grownBy w' (some G) := by
      refine hc.mono ?_
      rintro E w' ⟨h1, _, h3⟩
      obtain ⟨⟨A, c, rfl, hC, _⟩, hr⟩ := h1 (by simp only [List.length_cons]; omega)
      obtain ⟨ad, rfl, hcell⟩ := Kd.at_int (Kd.C_below hC hr.below) 0 (by omega) (by simp)
      exact ⟨⟨ad, c, rfl, by simpa [Addr.add, rd] using hcell⟩, hr, h3⟩
    clear hQ hs hc
    go_enter Try.func85, Try.ntmps85
    go_wp2_with fail
    refine hc2.mono ?_
    rintro E w1 ⟨⟨ad, c, rfl, hcell⟩, hr, hg⟩
    have HR := Aside0.mk hr
    have HG := Aside0.mk hg
    clear hr hg hc2
    go_wp2
    first | exact hyes _ HR.out HG.out | (go_ret; exact hyes _ HR.out HG.out)
set_option maxHeartbeats 4000000 in
set_option maxRecDepth 100000 in
theorem word_item (G : Nat) (l : List Int) (hl : l.length ≤ 1000000000) (w0 w : World) (hs : RdS w0 w G l) :
    Calls Try.prog 84 #[.pointer (some ⟨G, 0, none⟩)] w (RdOut w0 w G (itemW l) Value.string) := by
  have hnum := num_un G l (by omega) w0 w hs
  have hun := unS_le l 0 0
  have hn0 := un_range l (by omega)
  obtain ⟨n, hn⟩ : ∃ n, (un l).1 = n := ⟨_, rfl⟩
  obtain ⟨l1, hl1⟩ : ∃ l1, l.drop (un l).2.1.toNat = l1 := ⟨_, rfl⟩
  have hl1' : l1.length ≤ 1000000000 := by rw [← hl1, List.length_drop]; omega
  obtain ⟨RR, hRR⟩ : ∃ RR, itemW l = RR := ⟨_, rfl⟩
  rw [hRR]
  obtain ⟨Q, hQ⟩ : ∃ Q : Ending → World → Prop, Q = RdOut w0 w G RR Value.string := ⟨_, rfl⟩
  rw [← hQ]
  have hno : ∀ w', RR = none → w.grownBy w' (some G) → Q (.panicked badP) w' := by
    intro w' h1 h2
    rw [hQ]
    exact ⟨fun xs l' h => (by rw [h1] at h; cases h), fun _ => rfl, h2⟩
  have hyes : ∀ w' x l', RR = some (x, l') → RdS w0 w' G l' → w.grownBy w' (some G) → Q (.returned (.string x)) w' := by
    intro w' x l' h1 h3 h4
    rw [hQ]
    refine ⟨fun xs' l'' h => ?_, fun h => (by rw [h1] at h; cases h), h4⟩
    rw [h1] at h
    simp only [Option.some.injEq, Prod.mk.injEq] at h
    obtain ⟨rfl, rfl⟩ := h
    exact ⟨rfl, h3⟩
  clear hQ
  unfold itemW at hRR
  rw [hn, hl1] at hRR
  rw [hn, hl1] at hnum
  rw [hn] at hn0
  by_cases he : (un l).2.2 = 0
  · rw [if_pos he] at hRR
    have hc : Calls Try.prog 111 #[.pointer (some ⟨G, 0, none⟩)] w fun E w' => E = .returned (.int .u64 n) ∧ RdS w0 w' G l1 ∧ w.grownBy w' (some G) := hnum.mono fun E w' ⟨h1, _, h3⟩ => ⟨(h1 he).1, (h1 he).2, h3⟩
    have hsome : ∀ w1, RdS w0 w1 G l1 → _ := fun w1 h => some_calls G l1 hl1' n hn0 w0 w1 h
    clear hnum hn hl1 hun he hs
    go_enter Try.func84, Try.ntmps84
    go_wp2_with fail
    refine hc.mono ?_
    rintro E w1 ⟨rfl, hs1, hg1⟩
    have HG1 := Aside0.mk hg1
    have hc2 := hsome w1 hs1
    clear hc hg1 hsome hs1
    go_wp2_with fail
    by_cases hbig : n > (l1.length : Int)
    · rw [if_pos hbig] at hRR
      refine hc2.mono ?_
      rintro E w2 ⟨_, h2, h3⟩
      obtain rfl := h2 (by omega)
      have HQ := Aside0.mk (hno w2 hRR.symm (gb_trans HG1.out h3))
      clear h2 h3 hRR hbig hno hyes
      go_wp2
      exact ⟨rfl, HQ.out⟩
    · rw [if_neg hbig] at hRR
      refine hc2.mono ?_
      rintro E w2 ⟨h1, _, h3⟩
      obtain ⟨⟨A, c, rfl, hC, hlen⟩, hr⟩ := h1 (by omega)
      have hcs := Kd.C_string (P := Try.prog) (c := c) Try.underlying27 Try.underlying5 Try.underlying9 (Kd.C_below hC hr.below)
      rw [hlen] at hcs
      have HQ := Aside0.mk (hyes w2 _ _ hRR.symm hr (gb_trans HG1.out h3))
      clear h1 h3 hRR hbig hno hyes hC hr hlen
      go_wp2
      first | exact HQ.out | (go_ret; exact HQ.out)
  · rw [if_neg he] at hRR
    have hc : Calls Try.prog 111 #[.pointer (some ⟨G, 0, none⟩)] w fun E w' => E = .panicked badP ∧ w.grownBy w' (some G) := hnum.mono fun E w' ⟨_, h2, h3⟩ => ⟨h2 he, h3⟩
    have HR := Aside0.mk hRR
    clear hnum hn hl1 hun he hs hRR
    go_enter Try.func84, Try.ntmps84
    go_wp2_with fail
    refine hc.mono ?_
    rintro E w1 ⟨rfl, hg1⟩
    go_wp2
    exact ⟨rfl, hno _ HR.out.symm hg1⟩
end Go.Proofs.Ytgihecpobichbaa.Q
-- Written by a program of the session over the translation's print: functions as plain Lean, and that the machine's call comes to them.
namespace Go.Proofs.Ytgihecpobichbaa.Q
open Go.RowKit Go.Proofs.YtgihecpobichbaaW.PrintWords Go.Proofs.YtgihecpobichbaaW.PrintLast Go.Proofs.YtgihecpobichbaaW.PrintMore
attribute [local go_sem] max2_int min2_int max_two min_two max_three min_three max_four min_four   -- for this text's walks alone
set_option linter.unusedVariables false
set_option linter.unusedSimpArgs false

/-! ### code_told: function 57 -/
def code_told.f (l0 : List Int) : Option (List Int × Int) := if (l0.length : Int) > 16777216 then (some (([] : List Int), 42)) else (some (l0, 0))
set_option maxHeartbeats 8000000 in
set_option maxRecDepth 100000 in
theorem code_told.calls (P0_ : Nat → Prop) (u9000_ : Value) (l0 : List Int) (r1 : List Int) (r2 : Int) (w0 w : World) (hB : Below w0.heap.size w0 w) (ho0 : Kd.R (Kd.int .u8) 5 w w0.heap.size P0_ u9000_ l0) (h : code_told.f l0 = some (r1, r2)) :
    Calls Try.prog 57 #[u9000_] w fun e w' => ∃ v0_ : Value, e = .returned (.tuple #[v0_, .int .i64 r2]) ∧ Kd.R (Kd.int .u8) 5 w' w0.heap.size (fun k_ => (P0_ k_ ∨ w.heap.size ≤ k_)) v0_ r1 ∧ Below w0.heap.size w0 w' ∧ Kept w w' (fun k_ => P0_ k_) := by
  have HO0 := Aside0.mk (show Kd.R (Kd.int .u8) 5 w w0.heap.size (fun k_ => (P0_ k_ ∨ w.heap.size ≤ k_)) u9000_ l0 from Kd.R_mono ho0 (fun k_ hk => (.inl hk)))
  have HK := Aside0.mk (Kept.refl w (fun k_ => P0_ k_))
  have HW0 := Aside0.mk hB.size
  have HB := Aside0.mk hB
  clear hB
  have H : (if (l0.length : Int) > 16777216 then (some (([] : List Int), 42)) else (some (l0, 0))) = some (r1, r2) := h
  clear h
  by_cases c2 : (l0.length : Int) > 16777216
  · rw [if_pos c2] at H
    have c2b0 : decide (16777216 < (l0.length : Int)) = true := decide_eq_true c2
    have c2b1 : decide (16777216 < l0.length) = true := decide_eq_true (by omega)
    clear c2
    simp only [Option.some.injEq, Prod.mk.injEq] at H
    obtain ⟨rfl, rfl⟩ := H
    obtain ⟨Ao3, co3, eo3⟩ := Kd.R_slice HO0.out
    subst eo3
    go_enter Try.func57, Try.ntmps57
    go_wp2
    go_ret2
    exact ⟨_, by first | rfl | (simp [errW_none, errW_some] <;> rfl) | (simp [*, errW_none, errW_some] <;> rfl), by first | exact Kd.R_nil _ _ _ _ _ | exact Kd.N_nil _ _ _ _ _ | exact Kd.V_nil _ _ _ _ _ | exact Kd.Q_nil _ _ _ _ _ | exact Kd.S_nil _ _ _ _ _, by repeat (first | (with_reducible first | exact HB.out | apply below_alloc | apply pw_below_drewN | apply below_drew1) | exact HB.out), by repeat (first | (with_reducible first | exact HK.out | apply Kept.alloc | apply Kept.drewN | apply Kept.drew) | exact HK.out)⟩
  · rw [if_neg c2] at H
    have c2b0 : decide (16777216 < (l0.length : Int)) = false := decide_eq_false c2
    have c2b1 : decide (16777216 < l0.length) = false := decide_eq_false (by omega)
    clear c2
    simp only [Option.some.injEq, Prod.mk.injEq] at H
    obtain ⟨rfl, rfl⟩ := H
    obtain ⟨Ao4, co4, eo4⟩ := Kd.R_slice HO0.out
    subst eo4
    go_enter Try.func57, Try.ntmps57
    go_wp2
    go_ret2
    exact ⟨_, by first | rfl | (simp [errW_none, errW_some] <;> rfl) | (simp [*, errW_none, errW_some] <;> rfl), by (with_reducible repeat (first | apply Kd.R_alloc | apply Kd.R_drewN | apply Kd.R_drew)); exact HO0.out, by repeat (first | (with_reducible first | exact HB.out | apply below_alloc | apply pw_below_drewN | apply below_drew1) | exact HB.out), by repeat (first | (with_reducible first | exact HK.out | apply Kept.alloc | apply Kept.drewN | apply Kept.drew) | exact HK.out)⟩

/-! ### code_Num: function 15 -/
def code_Num.l0 : Nat → Int → List Int → Option (List Int)
  | 0, _, _ => none
  | k + 1, x0, x3 => if x0 ≥ 128 then (if x3.length < 140737488355328 then (code_Num.l0 k (x0 / 128) (x3 ++ [Go.bits .or .u8 ((x0) % 256) 128])) else (none)) else (if x3.length < 140737488355328 then (some (x3 ++ [(x0) % 256])) else (none))
def code_Num.f (k : Nat) (a0 : Int) : Option (List Int) := code_Num.l0 k a0 ([] : List Int)
set_option maxHeartbeats 8000000 in
set_option maxRecDepth 100000 in
theorem code_Num.calls (k : Nat) (a0 : Int) (r : List Int) (w : World) (h : code_Num.f k a0 = some r) :
    Calls Try.prog 15 #[.int .u64 a0] w fun e w' => ∃ v0_ : Value, e = .returned (v0_) ∧ Kd.R (Kd.int .u8) 5 w' w.heap.size (fun _ => True) v0_ r ∧ Below w.heap.size w w' := by
  have HB := Aside0.mk (Below.refl w.heap.size w)
  have H : (code_Num.l0 k a0 ([] : List Int)) = some r := h
  clear h
  have H' := Aside0.mk H
  clear H
  go_enter Try.func15, Try.ntmps15
  go_wp2
  go_loopg [0, 3] k (fun kq v0 v3 w' => ∃ (x0_1 : Int) (x3_1 : List Int), v0 = .int .u64 x0_1 ∧ Aside0 (code_Num.l0 kq x0_1 x3_1 = some r) ∧ Aside0 (kq ≤ k) ∧ Aside0 (Kd.R (Kd.int .u8) 5 w' w.heap.size (fun _ => True) v3 x3_1) ∧ Aside0 (Below w.heap.size w w'))
  case atStart => exact ⟨(a0), (([] : List Int)), (by first | rfl | (simp; done) | (simp [*]; done) | (simp; rw [Bool.eq_iff_iff]; simp; done)), H', ⟨Nat.le_refl _⟩, ⟨by first | exact Kd.R_nil _ _ _ _ _ | exact Kd.N_nil _ _ _ _ _ | exact Kd.V_nil _ _ _ _ _ | exact Kd.Q_nil _ _ _ _ _ | exact Kd.S_nil _ _ _ _ _⟩, ⟨by repeat (first | (with_reducible first | exact HB.out | apply below_alloc | apply pw_below_drewN | apply below_drew1) | exact HB.out)⟩⟩
  case round =>
    clear H'
    try clear c1
    obtain ⟨x0_1, x3_1, rfl, HA, HK1, HO_3, HB⟩ := hrel
    cases gk with
    | zero => exact absurd HA.out (by simp [code_Num.l0])
    | succ k1 =>
      have H := HA.out
      clear HA
      simp only [code_Num.l0] at H
      by_cases c2 : x0_1 ≥ 128
      · rw [if_pos c2] at H
        have c2b0 : decide (128 ≤ x0_1) = true := decide_eq_true c2
        clear c2
        by_cases c3 : x3_1.length < 140737488355328
        · rw [if_pos c3] at H
          have LMc3 := Aside0.mk c3
          clear c3
          obtain ⟨y101, hy101⟩ : ∃ y_ : List Int, y_ = (x3_1 ++ [Go.bits .or .u8 ((x0_1) % 256) 128]) := ⟨_, rfl⟩
          replace H : (code_Num.l0 k1 (x0_1 / 128) y101) = some r := by first | (rw [hy101]; with_reducible exact H) | (have H2_ := (Option.bind_some _ _).symm.trans H; rw [hy101]; with_reducible exact H2_) | (have H2_ := (Option.bind_some _ _).symm.trans H; with_reducible exact H2_) | with_reducible exact H | (rw [hy101]; exact H) | exact H
          have Ny101 := Aside0.mk hy101
          clear hy101
          have H' := Aside0.mk H
          clear H
          go_wp2_with (first | ((with_reducible refine gate_builtin (b := .append) (xs := #[.tmp 8, .tmp 12]) rfl ?_); at_builtin; refine Kd.R_append (Kd.int .u8) (w0 := w) w.heap.size rfl (.tmp 8) (.tmp 12) 27 5 (.int .u8 0) 1 rfl Try.underlying27 info5 rfl (by decide) (by omega) u3 x3_1 (Go.bits .or .u8 ((x0_1) % 256) 128) [.int .u8 (Go.bits .or .u8 ((x0_1) % 256) 128)] (fun _ => True) (fun _ => False) rfl rfl ?aP (fun _ hk => hk.elim) ?aF ?aO ?aB ?aS ?aL ?_; (case aP => exact rfl); (case aB => exact (by repeat (first | (with_reducible first | exact HB.out | apply below_alloc | apply pw_below_drewN | apply below_drew1) | exact HB.out))); (case aF => exact (fun _ _ => trivial)); (case aO => exact (by (with_reducible repeat (first | apply Kd.R_alloc | apply Kd.R_drewN | apply Kd.R_drew)); exact HO_3.out)); (case aS => exact (below_size (by repeat (first | (with_reducible first | exact HB.out | apply below_alloc | apply pw_below_drewN | apply below_drew1) | exact HB.out)))); (case aL => have := LMc3.out; omega); intro v102 w4 ho hb hg hat; rw [← Ny101.out] at ho; have n0_ := Aside0.mk (hb); have n1_ := Aside0.mk (ho); clear HB; clear HO_3; have HB := n0_; have HO103 := n1_; clear n0_ n1_; clear ho hb hg hat))
          go_roundg k1
          case measure => have := HK1.out; omega
          case rel => exact ⟨(x0_1 / 128), (y101), (by first | rfl | (simp; done) | (simp [*]; done) | (simp; rw [Bool.eq_iff_iff]; simp; done)), H', ⟨by have := HK1.out; omega⟩, ⟨by (with_reducible repeat (first | apply Kd.R_alloc | apply Kd.R_drewN | apply Kd.R_drew)); exact HO103.out⟩, ⟨by repeat (first | (with_reducible first | exact HB.out | apply below_alloc | apply pw_below_drewN | apply below_drew1) | exact HB.out)⟩⟩
        · rw [if_neg c3] at H
          exact absurd H (by simp)
      · rw [if_neg c2] at H
        have c2b0 : decide (128 ≤ x0_1) = false := decide_eq_false c2
        clear c2
        by_cases c5 : x3_1.length < 140737488355328
        · rw [if_pos c5] at H
          have LMc5 := Aside0.mk c5
          clear c5
          obtain ⟨y104, hy104⟩ : ∃ y_ : List Int, y_ = (x3_1 ++ [(x0_1) % 256]) := ⟨_, rfl⟩
          replace H : (some y104) = some r := by first | (rw [hy104]; with_reducible exact H) | (have H2_ := (Option.bind_some _ _).symm.trans H; rw [hy104]; with_reducible exact H2_) | (have H2_ := (Option.bind_some _ _).symm.trans H; with_reducible exact H2_) | with_reducible exact H | (rw [hy104]; exact H) | exact H
          have Ny104 := Aside0.mk hy104
          clear hy104
          obtain rfl := Option.some.inj H
          go_wp2_with (first | ((with_reducible refine gate_builtin (b := .append) (xs := #[.tmp 14, .tmp 17]) rfl ?_); at_builtin; refine Kd.R_append (Kd.int .u8) (w0 := w) w.heap.size rfl (.tmp 14) (.tmp 17) 27 5 (.int .u8 0) 1 rfl Try.underlying27 info5 rfl (by decide) (by omega) u3 x3_1 ((x0_1) % 256) [.int .u8 ((x0_1) % 256)] (fun _ => True) (fun _ => False) rfl rfl ?aP (fun _ hk => hk.elim) ?aF ?aO ?aB ?aS ?aL ?_; (case aP => exact rfl); (case aB => exact (by repeat (first | (with_reducible first | exact HB.out | apply below_alloc | apply pw_below_drewN | apply below_drew1) | exact HB.out))); (case aF => exact (fun _ _ => trivial)); (case aO => exact (by (with_reducible repeat (first | apply Kd.R_alloc | apply Kd.R_drewN | apply Kd.R_drew)); exact HO_3.out)); (case aS => exact (below_size (by repeat (first | (with_reducible first | exact HB.out | apply below_alloc | apply pw_below_drewN | apply below_drew1) | exact HB.out)))); (case aL => have := LMc5.out; omega); intro v105 w6 ho hb hg hat; rw [← Ny104.out] at ho; have n0_ := Aside0.mk (hb); have n1_ := Aside0.mk (ho); clear HB; clear HO_3; have HB := n0_; have HO106 := n1_; clear n0_ n1_; clear ho hb hg hat))
          go_ret
          exact ⟨_, by first | rfl | (simp [errW_none, errW_some] <;> rfl) | (simp [*, errW_none, errW_some] <;> rfl), by (with_reducible repeat (first | apply Kd.R_alloc | apply Kd.R_drewN | apply Kd.R_drew)); exact HO106.out, by repeat (first | (with_reducible first | exact HB.out | apply below_alloc | apply pw_below_drewN | apply below_drew1) | exact HB.out)⟩
        · rw [if_neg c5] at H
          exact absurd H (by simp)

/-! ### code_whole: function 72 -/
def code_whole.f (a0 : Int) : Option (Int) := some (Go.bits .xor .u64 (IntKind.u64.wrap (wrap64 (a0 * 2))) (IntKind.u64.wrap (a0 / 9223372036854775808)))
set_option maxHeartbeats 8000000 in
set_option maxRecDepth 100000 in
theorem code_whole.calls (a0 : Int) (r : Int) (w : World) (h : code_whole.f a0 = some r) :
    Calls Try.prog 72 #[.int .i64 a0] w fun e w' => e = .returned (.int .u64 r) ∧ Drawn0 w w' := by
  have H : (some (Go.bits .xor .u64 (IntKind.u64.wrap (wrap64 (a0 * 2))) (IntKind.u64.wrap (a0 / 9223372036854775808)))) = some r := h
  clear h
  obtain rfl := Option.some.inj H
  go_enter Try.func72, Try.ntmps72
  go_wp2
  go_ret
  exact ⟨by first | rfl | (simp; done) | (simp [*]; done), by repeat (first | exact Drawn0.refl _ | apply Drawn0.step)⟩

/-! ### code_Nums_1: function 71 -/
def code_Nums_1.f (k : Nat) (a0 : Int) : Option (List Int) := (code_whole.f a0).bind fun t107 => ((code_Num.f k t107).bind fun t108 => (some t108))
set_option maxHeartbeats 8000000 in
set_option maxRecDepth 100000 in
theorem code_Nums_1.calls (k : Nat) (a0 : Int) (r : List Int) (w : World) (h : code_Nums_1.f k a0 = some r) :
    Calls Try.prog 71 #[.int .i64 a0] w fun e w' => ∃ v0_ : Value, e = .returned (v0_) ∧ Kd.R (Kd.int .u8) 5 w' w.heap.size (fun _ => True) v0_ r ∧ Below w.heap.size w w' := by
  have HB := Aside0.mk (Below.refl w.heap.size w)
  have H : ((code_whole.f a0).bind fun t107 => ((code_Num.f k t107).bind fun t108 => (some t108))) = some r := h
  clear h
  replace H := Option.bind_eq_some_iff.mp H
  obtain ⟨t107, A20, H⟩ := H
  replace H : ((code_Num.f k t107).bind fun t108 => (some t108)) = some r := H
  have A2 := Aside0.mk A20
  clear A20
  replace H := Option.bind_eq_some_iff.mp H
  obtain ⟨t108, A30, H⟩ := H
  replace H : (some t108) = some r := H
  have A3 := Aside0.mk A30
  clear A30
  obtain rfl := Option.some.inj H
  go_enter Try.func71, Try.ntmps71
  go_wp2_with (first | ((with_reducible refine gate_callee (f := 72) rfl ?_); refine goesL_ (some 4) rfl rfl Try.func72 (by kernel_rfl) rfl #[.int .i64 a0] rfl (by (try simp only [List.map_toArray, List.map_cons, List.map_nil]); first | done | rfl | (simp only [List.length_drop, List.length_take]; rfl) | exact congrArg (fun x_ : Int => #[Value.int .u64 x_]) (show _ = _ % (18446744073709551616 : Int) by omega)) ?_; (with_reducible refine (code_whole.calls a0 t107 _ A2.out).mono ?_); rintro e w' ⟨rfl, ⟨nd, rfl⟩⟩; refine ⟨_, rfl, ?_⟩) | ((with_reducible refine gate_callee (f := 15) rfl ?_); refine goesL_ (some 5) rfl rfl Try.func15 (by kernel_rfl) rfl #[.int .u64 t107] rfl (by (try simp only [List.map_toArray, List.map_cons, List.map_nil]); first | done | rfl | (simp only [List.length_drop, List.length_take]; rfl) | exact congrArg (fun x_ : Int => #[Value.int .u64 x_]) (show _ = _ % (18446744073709551616 : Int) by omega)) ?_; (with_reducible refine (code_Num.calls k t107 t108 _ A3.out).mono ?_); rintro e w4 ⟨v109, rfl, ho0, hb⟩; refine ⟨_, rfl, ?_⟩; have n0_ := Aside0.mk (Kd.R_lower ho0 (below_size (by repeat (first | (with_reducible first | exact HB.out | apply below_alloc | apply pw_below_drewN | apply below_drew1) | exact HB.out)))); have n1_ := Aside0.mk (below_step (by repeat (first | (with_reducible first | exact HB.out | apply below_alloc | apply pw_below_drewN | apply below_drew1) | exact HB.out)) hb); clear HB; have HO110 := n0_; have HB := n1_; clear n0_ n1_; (try clear hb); (try clear hb2); (try clear hk); (try clear hi); (try clear ho0)))
  go_ret
  exact ⟨_, by first | rfl | (simp [errW_none, errW_some] <;> rfl) | (simp [*, errW_none, errW_some] <;> rfl), by (with_reducible repeat (first | apply Kd.R_alloc | apply Kd.R_drewN | apply Kd.R_drew)); exact HO110.out, by repeat (first | (with_reducible first | exact HB.out | apply below_alloc | apply pw_below_drewN | apply below_drew1) | exact HB.out)⟩

/-! ### code_List_int64: function 70 -/
def code_List_int64.l0 : Nat → List Int → List Int → Int → Int → Option (List Int)
  | 0, _, _, _, _ => none
  | k + 1, x5, x12, x13, x14 => if x14 < x13 then (if 0 ≤ x14 then (if x14 < (x12.length : Int) then ((code_Nums_1.f k (rd x12 x14)).bind fun t115 => (if x5.length + t115.length < 140737488355328 then (code_List_int64.l0 k (x5 ++ t115) x12 x13 (wrap64 (x14 + 1))) else (none))) else (none)) else (none)) else (some x5)
def code_List_int64.f (k : Nat) (l0 : List Int) (a1 : Unit) : Option (List Int) := (code_Num.f k (IntKind.u64.wrap ((l0.length : Int)))).bind fun t111 => (code_List_int64.l0 k t111 l0 (l0.length : Int) 0)
set_option maxHeartbeats 8000000 in
set_option maxRecDepth 100000 in
theorem code_List_int64.calls (k : Nat) (A0 : Option Addr) (c0 : Nat) (l0 : List Int) (a1 : Unit) (r : List Int) (w : World) (hr0 : Kd.C (Kd.int .i64) w A0 l0.length l0) (hc0 : l0.length ≤ c0) (h : code_List_int64.f k l0 a1 = some r) :
    Calls Try.prog 70 #[.slice A0 l0.length c0, .func (.func 71) #[] #[]] w fun e w' => ∃ v0_ : Value, e = .returned (v0_) ∧ Kd.R (Kd.int .u8) 5 w' w.heap.size (fun _ => True) v0_ r ∧ Below w.heap.size w w' := by
  have HR0 := Aside0.mk hr0
  have HC0 := Aside0.mk hc0
  clear hr0 hc0
  have HB := Aside0.mk (Below.refl w.heap.size w)
  have H : ((code_Num.f k (IntKind.u64.wrap ((l0.length : Int)))).bind fun t111 => (code_List_int64.l0 k t111 l0 (l0.length : Int) 0)) = some r := h
  clear h
  replace H := Option.bind_eq_some_iff.mp H
  obtain ⟨t111, A30, H⟩ := H
  replace H : (code_List_int64.l0 k t111 l0 (l0.length : Int) 0) = some r := H
  have A3 := Aside0.mk A30
  clear A30
  have H' := Aside0.mk H
  clear H
  go_enter Try.func70, Try.ntmps70
  go_wp2_with (first | ((with_reducible refine gate_callee (f := 15) rfl ?_); refine goesL_ (some 11) rfl rfl Try.func15 (by kernel_rfl) rfl #[.int .u64 (IntKind.u64.wrap ((l0.length : Int)))] rfl (by (try simp only [List.map_toArray, List.map_cons, List.map_nil]); first | done | rfl | (simp only [List.length_drop, List.length_take]; rfl) | exact congrArg (fun x_ : Int => #[Value.int .u64 x_]) (show _ = _ % (18446744073709551616 : Int) by omega)) ?_; (with_reducible refine (code_Num.calls k (IntKind.u64.wrap ((l0.length : Int))) t111 _ A3.out).mono ?_); rintro e w4 ⟨v112, rfl, ho0, hb⟩; refine ⟨_, rfl, ?_⟩; have n0_ := Aside0.mk (Kd.R_lower ho0 (below_size (by repeat (first | (with_reducible first | exact HB.out | apply below_alloc | apply pw_below_drewN | apply below_drew1) | exact HB.out)))); have n1_ := Aside0.mk (below_step (by repeat (first | (with_reducible first | exact HB.out | apply below_alloc | apply pw_below_drewN | apply below_drew1) | exact HB.out)) hb); clear HB; have HO113 := n0_; have HB := n1_; clear n0_ n1_; (try clear hb); (try clear hb2); (try clear hk); (try clear hi); (try clear ho0)))
  go_loopg [5, 14] k (fun kq v5 v14 w' => ∃ (x5_1 : List Int) (x14_1 : Int), v14 = .int .i64 x14_1 ∧ Aside0 (code_List_int64.l0 kq x5_1 l0 (l0.length : Int) x14_1 = some r) ∧ Aside0 (kq ≤ k) ∧ Aside0 (Kd.R (Kd.int .u8) 5 w' w.heap.size (fun _ => True) v5 x5_1) ∧ Aside0 (Below w.heap.size w w'))
  case atStart => exact ⟨(t111), (0), (by first | rfl | (simp; done) | (simp [*]; done) | (simp; rw [Bool.eq_iff_iff]; simp; done)), H', ⟨Nat.le_refl _⟩, ⟨by (with_reducible repeat (first | apply Kd.R_alloc | apply Kd.R_drewN | apply Kd.R_drew)); exact HO113.out⟩, ⟨by repeat (first | (with_reducible first | exact HB.out | apply below_alloc | apply pw_below_drewN | apply below_drew1) | exact HB.out)⟩⟩
  case round =>
    clear H'
    try clear c1
    try clear p2
    obtain ⟨x5_1, x14_1, rfl, HA, HK1, HO_5, HB⟩ := hrel
    cases gk with
    | zero => exact absurd HA.out (by simp [code_List_int64.l0])
    | succ k1 =>
      have H := HA.out
      clear HA
      simp only [code_List_int64.l0] at H
      by_cases c5 : x14_1 < (l0.length : Int)
      · rw [if_pos c5] at H
        have c5b0 : decide (x14_1 < (l0.length : Int)) = true := decide_eq_true c5
        clear c5
        by_cases c6 : 0 ≤ x14_1
        · rw [if_pos c6] at H
          have c6b0 : decide (0 ≤ x14_1) = true := decide_eq_true c6
          clear c6
          by_cases c7 : x14_1 < (l0.length : Int)
          · rw [if_pos c7] at H
            have c7b0 : decide (x14_1 < (l0.length : Int)) = true := decide_eq_true c7
            clear c7
            replace H := Option.bind_eq_some_iff.mp H
            obtain ⟨t115, A80, H⟩ := H
            replace H : (if x5_1.length + t115.length < 140737488355328 then (code_List_int64.l0 k1 (x5_1 ++ t115) l0 (l0.length : Int) (wrap64 (x14_1 + 1))) else (none)) = some r := H
            have A8 := Aside0.mk A80
            clear A80
            by_cases c9 : x5_1.length + t115.length < 140737488355328
            · rw [if_pos c9] at H
              have LMc9 := Aside0.mk c9
              clear c9
              obtain ⟨y118, hy118⟩ : ∃ y_ : List Int, y_ = (x5_1 ++ t115) := ⟨_, rfl⟩
              replace H : (code_List_int64.l0 k1 y118 l0 (l0.length : Int) (wrap64 (x14_1 + 1))) = some r := by first | (rw [hy118]; with_reducible exact H) | (have H2_ := (Option.bind_some _ _).symm.trans H; rw [hy118]; with_reducible exact H2_) | (have H2_ := (Option.bind_some _ _).symm.trans H; with_reducible exact H2_) | with_reducible exact H | (rw [hy118]; exact H) | exact H
              have Ny118 := Aside0.mk hy118
              clear hy118
              have H' := Aside0.mk H
              clear H
              have p114 : 0 ≤ (x14_1 : Int) := of_decide_eq_true (by first | (with_reducible assumption) | assumption)
              have q114 : x14_1 < (l0.length : Int) := of_decide_eq_true (by first | (with_reducible assumption) | assumption)
              obtain ⟨ad114, e114, hx114_0⟩ := Kd.at_int HR0.out x14_1 p114 q114
              cases e114
              replace hx114_0 := (HB.out.cell (World.block_lt_of_cell? w _ hx114_0)).trans hx114_0
              replace p114 := eq_true p114
              replace q114 := eq_true q114
              go_wp2_with (first | (go_at_call 71; (with_reducible refine (code_Nums_1.calls k1 (rd l0 x14_1) t115 _ A8.out).mono ?_); rintro e w10 ⟨v116, rfl, ho0, hb⟩; have n0_ := Aside0.mk (Kd.R_elder' (by (with_reducible repeat (first | apply Kd.R_alloc | apply Kd.R_drewN | apply Kd.R_drew)); exact HO_5.out) (Kd.R_base ho0) hb); have n1_ := Aside0.mk (Kd.R_lower (Kd.R_new' ho0 (Kd.R_lt (by (with_reducible repeat (first | apply Kd.R_alloc | apply Kd.R_drewN | apply Kd.R_drew)); exact HO_5.out))) (below_size (by repeat (first | (with_reducible first | exact HB.out | apply below_alloc | apply pw_below_drewN | apply below_drew1) | exact HB.out)))); have n2_ := Aside0.mk (below_step (by repeat (first | (with_reducible first | exact HB.out | apply below_alloc | apply pw_below_drewN | apply below_drew1) | exact HB.out)) hb); clear HO_5; clear HB; have HO_5 := n0_; have HO117 := n1_; have HB := n2_; clear n0_ n1_ n2_; (try clear hb); (try clear hb2); (try clear hk); (try clear hi); (try clear ho0); obtain ⟨Ao12, co12, eo12⟩ := Kd.R_slice HO117.out; subst eo12) | ((with_reducible refine gate_builtin (b := .append) (xs := #[.tmp 18, .tmp 21]) rfl ?_); at_builtin; refine Kd.R_append_rows (Kd.int .u8) (w0 := w) w.heap.size rfl (.tmp 18) (.tmp 21) 27 5 (.int .u8 0) 1 rfl Try.underlying27 info5 rfl (by decide) (by omega) u5 x5_1 t115 _ _ _ (fun k_ => some k_ ≠ (.slice Ao12 t115.length co12 : Value).ownBlock) (fun _ => False) rfl rfl ?aO ?aR (fun _ _ h => h) (fun _ h => h.elim) ?aF ?aB ?aS ?aL ?_; (case aR => repeat (first | exact (Kd.R_reads' HO117.out).2.2 | (with_reducible refine Kd.C_alloc ?_ _) | (with_reducible refine Kd.C_drewN ?_ _) | (with_reducible refine Kd.C_drew ?_))); (case aB => exact (by repeat (first | (with_reducible first | exact HB.out | apply below_alloc | apply pw_below_drewN | apply below_drew1) | exact HB.out))); (case aF => exact (fun k_ hk => Kd.fresh' (Kd.R_lt (by (with_reducible repeat (first | apply Kd.R_alloc | apply Kd.R_drewN | apply Kd.R_drew)); exact HO117.out)) k_ hk)); (case aO => exact (by (with_reducible repeat (first | apply Kd.R_alloc | apply Kd.R_drewN | apply Kd.R_drew)); exact Kd.R_mono HO_5.out (fun _ hk => hk.2))); (case aS => exact (below_size (by repeat (first | (with_reducible first | exact HB.out | apply below_alloc | apply pw_below_drewN | apply below_drew1) | exact HB.out)))); (case aL => have := LMc9.out; omega); intro v119 w11 ho hb hg hat; rw [← Ny118.out] at ho; have n0_ := Aside0.mk (Kd.R_after (ok := (fun _ => True)) (by (with_reducible repeat (first | apply Kd.R_alloc | apply Kd.R_drewN | apply Kd.R_drew)); exact HO117.out) hg hat); have n1_ := Aside0.mk (hb); have n2_ := Aside0.mk (ho); clear HO117; clear HB; clear HO_5; have HO117 := n0_; have HB := n1_; have HO120 := n2_; clear n0_ n1_ n2_; clear ho hb hg hat))
              go_roundg k1
              case measure => have := HK1.out; omega
              case rel => exact ⟨(y118), (wrap64 (x14_1 + 1)), (by first | rfl | (simp; done) | (simp [*]; done) | (simp; rw [Bool.eq_iff_iff]; simp; done)), H', ⟨by have := HK1.out; omega⟩, ⟨by (with_reducible repeat (first | apply Kd.R_alloc | apply Kd.R_drewN | apply Kd.R_drew)); exact Kd.R_mono HO120.out (fun _ hk => trivial)⟩, ⟨by repeat (first | (with_reducible first | exact HB.out | apply below_alloc | apply pw_below_drewN | apply below_drew1) | exact HB.out)⟩⟩
            · rw [if_neg c9] at H
              exact absurd H (by simp)
          · rw [if_neg c7] at H
            exact absurd H (by simp)
        · rw [if_neg c6] at H
          exact absurd H (by simp)
      · rw [if_neg c5] at H
        have c5b0 : decide (x14_1 < (l0.length : Int)) = false := decide_eq_false c5
        clear c5
        obtain rfl := Option.some.inj H
        go_wp2
        go_ret
        exact ⟨_, by first | rfl | (simp [errW_none, errW_some] <;> rfl) | (simp [*, errW_none, errW_some] <;> rfl), by (with_reducible repeat (first | apply Kd.R_alloc | apply Kd.R_drewN | apply Kd.R_drew)); exact HO_5.out, by repeat (first | (with_reducible first | exact HB.out | apply below_alloc | apply pw_below_drewN | apply below_drew1) | exact HB.out)⟩

/-! ### code_Nums: function 27 -/
def code_Nums.f (k : Nat) (l0 : List Int) : Option (List Int × Int) := (code_List_int64.f k l0 ()).bind fun t121 => ((code_told.f t121).bind fun bt124 => (some (bt124.1, bt124.2)))
set_option maxHeartbeats 8000000 in
set_option maxRecDepth 100000 in
theorem code_Nums.calls (k : Nat) (A0 : Option Addr) (c0 : Nat) (l0 : List Int) (r1 : List Int) (r2 : Int) (w : World) (hr0 : Kd.C (Kd.int .i64) w A0 l0.length l0) (hc0 : l0.length ≤ c0) (h : code_Nums.f k l0 = some (r1, r2)) :
    Calls Try.prog 27 #[.slice A0 l0.length c0] w fun e w' => ∃ v0_ : Value, e = .returned (.tuple #[v0_, .int .i64 r2]) ∧ Kd.R (Kd.int .u8) 5 w' w.heap.size (fun _ => True) v0_ r1 ∧ Below w.heap.size w w' := by
  have HR0 := Aside0.mk hr0
  have HC0 := Aside0.mk hc0
  clear hr0 hc0
  have HB := Aside0.mk (Below.refl w.heap.size w)
  have H : ((code_List_int64.f k l0 ()).bind fun t121 => ((code_told.f t121).bind fun bt124 => (some (bt124.1, bt124.2)))) = some (r1, r2) := h
  clear h
  replace H := Option.bind_eq_some_iff.mp H
  obtain ⟨t121, A20, H⟩ := H
  replace H : ((code_told.f t121).bind fun bt124 => (some (bt124.1, bt124.2))) = some (r1, r2) := H
  have A2 := Aside0.mk A20
  clear A20
  replace H := Option.bind_eq_some_iff.mp H
  obtain ⟨⟨t124, t127⟩, A30, H⟩ := H
  replace H : (some (t124, t127)) = some (r1, r2) := H
  have A3 := Aside0.mk A30
  clear A30
  simp only [Option.some.injEq, Prod.mk.injEq] at H
  obtain ⟨rfl, rfl⟩ := H
  go_enter Try.func27, Try.ntmps27
  go_wp2_with (first | ((with_reducible refine gate_callee (f := 70) rfl ?_); refine goesL_ (some 5) rfl rfl Try.func70 (by kernel_rfl) rfl #[.slice A0 l0.length c0, .func (.func 71) #[] #[]] rfl (by (try simp only [List.map_toArray, List.map_cons, List.map_nil]); first | done | rfl | (simp only [List.length_drop, List.length_take]; rfl) | exact congrArg (fun x_ : Int => #[Value.int .u64 x_]) (show _ = _ % (18446744073709551616 : Int) by omega)) ?_; (with_reducible refine (code_List_int64.calls k _ _ l0 () t121 _ ?side1 ?side2 A2.out).mono ?_); (case side1 => repeat (first | exact HR0.out | (with_reducible refine Kd.C_alloc ?_ _) | (with_reducible refine Kd.C_drewN ?_ _) | (with_reducible refine Kd.C_drew ?_))); (case side2 => exact HC0.out); rintro e w4 ⟨v122, rfl, ho0, hb⟩; refine ⟨_, rfl, ?_⟩; have n0_ := Aside0.mk (Kd.R_lower ho0 (below_size (by repeat (first | (with_reducible first | exact HB.out | apply below_alloc | apply pw_below_drewN | apply below_drew1) | exact HB.out)))); have n1_ := Aside0.mk (below_step (by repeat (first | (with_reducible first | exact HB.out | apply below_alloc | apply pw_below_drewN | apply below_drew1) | exact HB.out)) hb); clear HB; have HO123 := n0_; have HB := n1_; clear n0_ n1_; (try clear hb); (try clear hb2); (try clear hk); (try clear hi); (try clear ho0); obtain ⟨Ao5, co5, eo5⟩ := Kd.R_slice HO123.out; subst eo5) | ((with_reducible refine gate_callee (f := 57) rfl ?_); refine goesL_ (some 6) rfl rfl Try.func57 (by kernel_rfl) rfl #[.slice Ao5 t121.length co5] rfl (by (try simp only [List.map_toArray, List.map_cons, List.map_nil]); first | done | rfl | (simp only [List.length_drop, List.length_take]; rfl) | exact congrArg (fun x_ : Int => #[Value.int .u64 x_]) (show _ = _ % (18446744073709551616 : Int) by omega)) ?_; (with_reducible refine (code_told.calls (fun k_ => some k_ = (.slice Ao5 t121.length co5 : Value).ownBlock) (.slice Ao5 t121.length co5) t121 t124 t127 w _ ?side1 ?side2 A3.out).mono ?_); (case side1 => repeat (first | (with_reducible first | exact HB.out | apply below_alloc | apply pw_below_drewN | apply below_drew1) | exact HB.out)); (case side2 => exact Kd.R_tight rfl HO123.out); rintro e w6 ⟨v125, rfl, ho0, hb, hkp⟩; refine ⟨_, rfl, ?_⟩; have n0_ := Aside0.mk (Kd.R_mono (ok' := fun k_ => True) ho0 (fun k_ hk_ => trivial)); have n1_ := Aside0.mk (hb); clear HB; clear HO123; have HO126 := n0_; have HB := n1_; clear n0_ n1_; (try clear hb); (try clear hkp); (try clear ho0)))
  go_ret2
  exact ⟨_, by first | rfl | (simp [errW_none, errW_some] <;> rfl) | (simp [*, errW_none, errW_some] <;> rfl), by (with_reducible repeat (first | apply Kd.R_alloc | apply Kd.R_drewN | apply Kd.R_drew)); exact HO126.out, by repeat (first | (with_reducible first | exact HB.out | apply below_alloc | apply pw_below_drewN | apply below_drew1) | exact HB.out)⟩

end Go.Proofs.Ytgihecpobichbaa.Q
-- Written by a program of the session over the translation's print: functions as plain Lean, and that the machine's call comes to them.
namespace Go.Proofs.Ytgihecpobichbaa.Q
open Go.RowKit Go.Proofs.YtgihecpobichbaaW.PrintWords Go.Proofs.YtgihecpobichbaaW.PrintLast Go.Proofs.YtgihecpobichbaaW.PrintMore
attribute [local go_sem] max2_int min2_int max_two min_two max_three min_three max_four min_four   -- for this text's walks alone
set_option linter.unusedVariables false
set_option linter.unusedSimpArgs false

/-! ### headgateref04_Num: function 16 -/
/-! ### headgateref04_Int: function 73 -/
end Go.Proofs.Ytgihecpobichbaa.Q
/- A number's bytes: the package's and the document's are the same. -/
namespace Go.Proofs.Ytgihecpobichbaa.Q
open Go.RowKit Go.Proofs.YtgihecpobichbaaW.PrintWords Go.Proofs.YtgihecpobichbaaW.PrintLast Go.Proofs.YtgihecpobichbaaW.PrintMore
set_option linter.unusedVariables false
set_option linter.unusedSimpArgs false

/-- A number's bytes, seven bits each. -/
def numR : Nat → Int → List Int
  | 0, n => [n % 256]
  | f + 1, n => if n ≥ 128 then (n % 128 + 128) :: numR f (n / 128) else [n % 256]
theorem str_size (l : List Int) : (strOfNums l).size = l.length := by
  simp [strOfNums, ByteArray.size]
end Go.Proofs.Ytgihecpobichbaa.Q
/- The number at the beginning of some bytes: the package's and the document's are the same. -/
namespace Go.Proofs.Ytgihecpobichbaa.Q
open Go.RowKit Go.Proofs.YtgihecpobichbaaW.PrintWords Go.Proofs.YtgihecpobichbaaW.PrintLast Go.Proofs.YtgihecpobichbaaW.PrintMore
set_option linter.unusedVariables false
set_option linter.unusedSimpArgs false

theorem and_fin : ∀ x : Fin 256, bits .and .u8 ((x.val : Nat) : Int) 127 = ((x.val % 128 : Nat) : Int) := by decide +kernel
theorem and_127 (x : Int) (h0 : 0 ≤ x) (h1 : x < 256) : bits .and .u8 x 127 = x % 128 := by
  obtain ⟨n, rfl⟩ := Int.eq_ofNat_of_zero_le h0
  have := and_fin ⟨n, by omega⟩
  simp only at this
  rw [this]
  omega
theorem wrap_u (x : Int) (h0 : 0 ≤ x) (h1 : x < 18446744073709551616) : IntKind.u64.wrap x = x := by
  show x % 18446744073709551616 = x
  omega
theorem unAdd_eq (i : Nat) (hi : i ≤ 9) (n c : Int) (h0 : 0 ≤ n) (h1 : n < 2 ^ (7 * i)) (c0 : 0 ≤ c) (c1 : c ≤ 255) (h9 : i = 9 → c ≤ 1) :
    unAdd i n c = n + (c % 128) * 2 ^ (7 * i) ∧ n + (c % 128) * 2 ^ (7 * i) < 2 ^ (7 * (i + 1)) ∧ n + (c % 128) * 2 ^ (7 * i) < 18446744073709551616 ∧ (c % 128) * 2 ^ (7 * i) < 18446744073709551616 := by
  unfold unAdd shl
  rw [and_127 c c0 (by omega), wrap_u (c % 128) (by omega) (by omega)]
  rcases (show i = 0 ∨ i = 1 ∨ i = 2 ∨ i = 3 ∨ i = 4 ∨ i = 5 ∨ i = 6 ∨ i = 7 ∨ i = 8 ∨ i = 9 by omega) with rfl | rfl | rfl | rfl | rfl | rfl | rfl | rfl | rfl | rfl
  all_goals
    simp only [show (min (7 * ((0 : Nat) : Int)).toNat IntKind.u64.bits) = 0 from rfl, show (min (7 * ((1 : Nat) : Int)).toNat IntKind.u64.bits) = 7 from rfl, show (min (7 * ((2 : Nat) : Int)).toNat IntKind.u64.bits) = 14 from rfl, show (min (7 * ((3 : Nat) : Int)).toNat IntKind.u64.bits) = 21 from rfl, show (min (7 * ((4 : Nat) : Int)).toNat IntKind.u64.bits) = 28 from rfl, show (min (7 * ((5 : Nat) : Int)).toNat IntKind.u64.bits) = 35 from rfl, show (min (7 * ((6 : Nat) : Int)).toNat IntKind.u64.bits) = 42 from rfl, show (min (7 * ((7 : Nat) : Int)).toNat IntKind.u64.bits) = 49 from rfl, show (min (7 * ((8 : Nat) : Int)).toNat IntKind.u64.bits) = 56 from rfl, show (min (7 * ((9 : Nat) : Int)).toNat IntKind.u64.bits) = 63 from rfl]
    simp only [Nat.reduceMul, Nat.reduceAdd, Int.reducePow, Nat.mul_zero, Int.pow_zero] at h1 ⊢
    refine ⟨?_, by omega, by omega, by omega⟩
    rw [wrap_u _ (by omega) (by omega)]
  · exact u64_orv0 n _ h0 h1 (by omega) (by omega) (by omega)
  · exact u64_orv7 n _ h0 h1 (by omega) (by omega) (by omega)
  · exact u64_orv14 n _ h0 h1 (by omega) (by omega) (by omega)
  · exact u64_orv21 n _ h0 h1 (by omega) (by omega) (by omega)
  · exact u64_orv28 n _ h0 h1 (by omega) (by omega) (by omega)
  · exact u64_orv35 n _ h0 h1 (by omega) (by omega) (by omega)
  · exact u64_orv42 n _ h0 h1 (by omega) (by omega) (by omega)
  · exact u64_orv49 n _ h0 h1 (by omega) (by omega) (by omega)
  · exact u64_orv56 n _ h0 h1 (by omega) (by omega) (by omega)
  · exact u64_orv63 n _ h0 h1 (by omega) (by omega) (by omega)
def refOf (r : Int × Int × Int) : Int × Int := if r.2.2 = 0 then (r.1, r.2.1) else (0, -1)
theorem ref_val (i : Nat) (hi : i ≤ 9) (n c : Int) (h0 : 0 ≤ n) (h1 : n < 2 ^ (7 * i)) (c0 : 0 ≤ c) (c1 : c ≤ 255) (h9 : i = 9 → c ≤ 1) : IntKind.u64.wrap (n + shl .u64 (Int.tmod c 128) (7 * (i : Int))) = unAdd i n c := by
  obtain ⟨e1, e2, e3, e4⟩ := unAdd_eq i hi n c h0 h1 c0 c1 h9
  rw [e1]
  unfold shl
  have hb : IntKind.u64.bits = 64 := rfl
  have ht : Int.tmod c 128 = c % 128 := Int.tmod_eq_emod_of_nonneg c0
  have hm : min (7 * (i : Int)).toNat IntKind.u64.bits = 7 * i := by rw [hb]; omega
  have hp : 0 ≤ (c % 128) * 2 ^ (7 * i) := Int.mul_nonneg (by omega) (Int.pow_nonneg (by omega))
  rw [ht, hm, wrap_u _ hp e4, wrap_u _ (by omega) e3]
theorem ref_un_step (s : ByteArray) (hs : s.size ≤ 2000) (i : Nat) (n : Int) (hi : i ≤ 9) (h0 : 0 ≤ n) (h1 : n < 2 ^ (7 * i))
    (ih : i < 9 → ∀ n' : Int, 0 ≤ n' → n' < 2 ^ (7 * (i + 1)) → Ev (fun k => headgateref04_Unnum.l0 k s 0 n' ((i + 1 : Nat) : Int)) (refOf (unS (i + 1) n' ((bytesOf s).drop (i + 1))))) :
    Ev (fun k => headgateref04_Unnum.l0 k s 0 n (i : Int)) (refOf (unS i n ((bytesOf s).drop i))) := by
  have hl := bytesOf_length s
  have e1 : wrap64 (0 + (i : Int)) = (i : Int) := by
    rw [Int.zero_add]
    exact wrap_in (by unfold in64; omega)
  have e2 : wrap64 (7 * (i : Int)) = 7 * (i : Int) := wrap_in (by unfold in64; omega)
  have e3 : IntKind.u64.wrap (7 * (i : Int)) = 7 * (i : Int) := wrap_u _ (by omega) (by omega)
  have e4 : wrap64 ((i : Int) + 1) = ((i + 1 : Nat) : Int) := by
    have h : wrap64 ((i : Int) + 1) = (i : Int) + 1 := wrap_in (by unfold in64; omega)
    rw [h]
    omega
  by_cases hsz : i < s.size
  · have hd := rd_drop (bytesOf s) (i : Int) (by omega) (by omega)
    rw [show ((i : Int) + 1).toNat = i + 1 by omega, Int.toNat_natCast, rd_bytesOf] at hd
    rw [hd]
    have hr := bt_range s (i : Int)
    have e5 : IntKind.u64.wrap (bt s (i : Int)) = bt s (i : Int) := wrap_u _ hr.1 (by omega)
    obtain ⟨c, hc⟩ : ∃ c, bt s (i : Int) = c := ⟨_, rfl⟩
    rw [hc] at hr e5 ⊢
    have hj2 : ∀ b : Bool, b = (i == 9 && decide (c > 1)) → Ev (fun k => headgateref04_Unnum.j2 k s 0 n (i : Int) c b) (refOf (unS i n (c :: (bytesOf s).drop (i + 1)))) := by
      intro b hb
      unfold unS
      by_cases hB : i = 9 ∧ c > 1
      · have hu : unBad i c = true := by unfold unBad; simp [hB.1, hB.2]
        have hbt : b = true := by rw [hb]; simp [hB.1, hB.2]
        subst hbt
        rw [if_pos hu]
        exact Ev.step (f := fun _ => some (0, -1)) (fun k => by simp only [headgateref04_Unnum.j2]; rw [if_pos trivial]) (Ev.now _)
      · have h9 : i = 9 → c ≤ 1 := fun h => by
          rcases Int.lt_or_le 1 c with h' | h'
          · exact absurd ⟨h, h'⟩ hB
          · exact h'
        have hb9 : (i == 9 && decide (c > 1)) = false := by
          by_cases h : i = 9
          · have := h9 h
            simp [h]; omega
          · simp [h]
        rw [hb9] at hb
        subst hb
        have hv := ref_val i hi n c h0 h1 hr.1 hr.2 h9
        obtain ⟨a1, a2, a3, a4⟩ := unAdd_eq i hi n c h0 h1 hr.1 hr.2 h9
        by_cases hlt : c < 128
        · by_cases hz : i > 0 ∧ c = 0
          · have hu : unBad i c = true := by unfold unBad; rw [hb9]; simp [hz.2]; omega
            rw [if_pos hu]
            refine Ev.step (f := fun _ => some (0, -1)) (fun k => ?_) (Ev.now _)
            simp only [headgateref04_Unnum.j2]
            rw [if_neg (by simp), e2, e3, if_pos (by omega), if_pos hlt, if_pos (by omega), if_pos hz.2]
          · have hu : ¬ unBad i c = true := by
              unfold unBad
              rw [hb9]
              simp
              omega
            rw [if_neg hu, if_pos hlt]
            refine Ev.step (f := fun _ => some (unAdd i n c, (i : Int) + 1)) (fun k => ?_) (Ev.now _)
            simp only [headgateref04_Unnum.j2]
            rw [if_neg (by simp), e2, e3, if_pos (by omega), if_pos hlt, e1, e4, hv]
            have e6 : ((i + 1 : Nat) : Int) = (i : Int) + 1 := by omega
            rw [e6]
            by_cases hp : (i : Int) > 0
            · rw [if_pos hp, if_neg (by omega)]
            · rw [if_neg hp]
        · have hu : ¬ unBad i c = true := by
            unfold unBad
            rw [hb9]
            simp
            omega
          rw [if_neg hu, if_neg hlt]
          have h9' : i < 9 := by omega
          have hp : 0 ≤ (c % 128) * 2 ^ (7 * i) := Int.mul_nonneg (by omega) (Int.pow_nonneg (by omega))
          refine Ev.step (fun k => ?_) (ih h9' (unAdd i n c) (by rw [a1]; omega) (by rw [a1]; exact a2))
          simp only [headgateref04_Unnum.j2]
          rw [if_neg (by simp), e2, e3, if_pos (by omega), if_neg hlt, hv, e4]
    refine Ev.step (f := fun k => headgateref04_Unnum.j1 k s 0 n (i : Int) false) (fun k => ?_) (Ev.step (fun k => ?_) (hj2 _ rfl))
    · simp only [headgateref04_Unnum.l0]
      rw [if_pos (by omega), if_neg (by omega), e1, decide_eq_false (by omega)]
    · simp only [headgateref04_Unnum.j1]
      rw [if_neg (by simp), e1, if_pos (by omega), if_pos (by omega), hc, e5]
      by_cases h9 : (i : Int) = 9
      · have h9' : i = 9 := by omega
        subst h9'
        rw [if_pos h9]
        rfl
      · rw [if_neg h9]
        have h9' : (i == 9) = false := by simp; omega
        rw [h9', Bool.false_and]
  · rw [List.drop_of_length_le (by omega)]
    refine Ev.step (f := fun k => headgateref04_Unnum.j1 k s 0 n (i : Int) true) (fun k => ?_) (Ev.step (f := fun _ => some (0, -1)) (fun k => ?_) (Ev.now _))
    · simp only [headgateref04_Unnum.l0]
      rw [if_pos (by omega), if_neg (by omega), e1, decide_eq_true (by omega)]
    · simp only [headgateref04_Unnum.j1]
      rw [if_pos trivial]
theorem ref_un_ev (s : ByteArray) (hs : s.size ≤ 2000) : ∀ (d i : Nat) (n : Int), i + d = 9 → 0 ≤ n → n < 2 ^ (7 * i) → Ev (fun k => headgateref04_Unnum.l0 k s 0 n (i : Int)) (refOf (unS i n ((bytesOf s).drop i))) := by
  intro d
  induction d with
  | zero =>
    intro i n hi h0 h1
    obtain rfl : i = 9 := by omega
    exact ref_un_step s hs 9 n (by omega) h0 h1 (fun h => absurd h (by omega))
  | succ d ih =>
    intro i n hi h0 h1
    exact ref_un_step s hs i n (by omega) h0 h1 (fun h n' h0' h1' => ih (i + 1) n' (by omega) h0' h1')
theorem ref_un (s : ByteArray) (hs : s.size ≤ 2000) : Ev (fun k => headgateref04_Unnum.f k s 0) (refOf (un (bytesOf s))) := ref_un_ev s hs 9 0 0 rfl (by omega) (by decide)
end Go.Proofs.Ytgihecpobichbaa.Q
/- Numbers as bytes and back, in plain words: no program in it. -/
namespace Go.Proofs.Ytgihecpobichbaa.Q
open Go.RowKit Go.Proofs.YtgihecpobichbaaW.PrintWords Go.Proofs.YtgihecpobichbaaW.PrintLast Go.Proofs.YtgihecpobichbaaW.PrintMore
set_option linter.unusedVariables false
set_option linter.unusedSimpArgs false

/-- An int as a number. -/
def zig (n : Int) : Int := if n < 0 then -2 * n - 1 else 2 * n
theorem xor_zero (x : Int) (h0 : 0 ≤ x) (h1 : x < 18446744073709551616) : bits .xor .u64 x 0 = x := by
  rw [u64_xor x 0 h0 h1 (by omega) (by omega)]
  simp
  omega
theorem xor_i64_comm (x y : Int) : bits .xor .i64 x y = bits .xor .i64 y x := by
  show IntKind.i64.wrap ((BitVec.ofInt 64 x ^^^ BitVec.ofInt 64 y).toNat : Int) = IntKind.i64.wrap ((BitVec.ofInt 64 y ^^^ BitVec.ofInt 64 x).toNat : Int)
  rw [BitVec.xor_comm]
theorem xor_i64_zero (x : Int) (h0 : 0 ≤ x) (h1 : x < 9223372036854775808) : bits .xor .i64 x 0 = x := by
  show IntKind.i64.wrap ((BitVec.ofInt 64 x ^^^ BitVec.ofInt 64 0).toNat : Int) = _
  obtain ⟨n, rfl⟩ := Int.eq_ofNat_of_zero_le h0
  have h2 : (BitVec.ofInt 64 (n : Int)).toNat = n := by
    rw [BitVec.ofInt_natCast, BitVec.toNat_ofNat]; exact Nat.mod_eq_of_lt (by omega)
  have h3 : (BitVec.ofInt 64 0).toNat = 0 := by decide
  rw [BitVec.toNat_xor, h2, h3, Nat.xor_zero, IntKind.wrap_i64]
  omega
/-- A number as an int. -/
def zag (n : Int) : Int := if n % 2 = 1 then -(n / 2) - 1 else n / 2
theorem unz_val {n : Int} (h0 : 0 ≤ n) (h1 : n < 18446744073709551616) : unz n = zag n := by
  unfold unz zag
  have e1 : wrap64 (n / 2) = n / 2 := wrap_in (by unfold in64; omega)
  rw [e1, Lib.u64_and1 n h0 h1]
  have e2 : wrap64 (-wrap64 (n % 2)) = -(n % 2) := by
    have : wrap64 (n % 2) = n % 2 := wrap_in (by unfold in64; omega)
    rw [this]
    exact wrap_in (by unfold in64; omega)
  rw [e2]
  by_cases hn : n % 2 = 1
  · rw [if_pos hn, hn, xor_i64_comm]
    obtain ⟨m, hm⟩ := Int.eq_ofNat_of_zero_le (show 0 ≤ n / 2 by omega)
    rw [hm]
    exact Lib.i64_not m (by omega)
  · rw [if_neg hn, show n % 2 = 0 by omega]
    exact xor_i64_zero _ (by omega) (by omega)
theorem zig_zag {n : Int} (h0 : 0 ≤ n) (h1 : n < 18446744073709551616) : zig (zag n) = n ∧ in64 (zag n) := by
  unfold zag zig in64
  split <;> split <;> omega
theorem zig_unz {n : Int} (h0 : 0 ≤ n) (h1 : n < 18446744073709551616) : zig (unz n) = n ∧ in64 (unz n) := by
  rw [unz_val h0 h1]
  exact zig_zag h0 h1
theorem pow7 (i : Nat) : (2 : Int) ^ (7 * (i + 1)) = 128 * 2 ^ (7 * i) := by
  rw [show 7 * (i + 1) = 7 * i + 7 by omega, Int.pow_add, Int.mul_comm]
  rfl
theorem pow7_pos (i : Nat) : 0 < (2 : Int) ^ (7 * i) := Int.pow_pos (by omega)
theorem rest128 (m p : Int) (hp : 0 < p) : 0 ≤ (m % 128) * p := Int.mul_nonneg (by omega) (by omega)
/-- Bytes that are a number are that number's. -/
theorem unS_only : ∀ (l : List Int) (i : Nat) (acc n k : Int), i ≤ 9 → (∀ x ∈ l, 0 ≤ x ∧ x ≤ 255) → 0 ≤ acc → acc < 2 ^ (7 * i) → acc < 18446744073709551616 → unS i acc l = (n, k, 0) →
    ∃ (m : Int) (r : List Int), n = acc + m * 2 ^ (7 * i) ∧ l = numR (9 - i) m ++ r ∧ k = (i : Int) + (numR (9 - i) m).length ∧ 0 ≤ m ∧ (0 < i → 0 < m) ∧ n < 18446744073709551616
  | [], i, acc, n, k, hi, hl, a0, a1, a2, h => by
    exact absurd h (by simp [unS])
  | c :: l, i, acc, n, k, hi, hl, a0, a1, a2, h => by
    have hc := hl c (by simp)
    unfold unS at h
    by_cases hb : unBad i c = true
    · rw [if_pos hb] at h
      simp at h
    · rw [if_neg hb] at h
      have h9 : i = 9 → c ≤ 1 := by
        intro e
        subst e
        rcases Int.lt_or_le 1 c with h' | h'
        · exact absurd (by simp [unBad, h']) hb
        · exact h'
      have hz : 0 < i → c ≠ 0 := by
        intro e e2
        subst e2
        exact absurd (by simp [unBad, e]) hb
      obtain ⟨e1, e2, e3, e4⟩ := unAdd_eq i hi acc c a0 a1 hc.1 hc.2 h9
      have hr := rest128 c _ (pow7_pos i)
      by_cases h1 : c < 128
      · rw [if_pos h1] at h
        simp only [Prod.mk.injEq, and_true] at h
        obtain ⟨rfl, rfl⟩ := h
        have e5 : c % 128 = c := by omega
        rw [e5] at e1 e3
        refine ⟨c, l, e1, ?_, ?_, hc.1, fun h => by have := hz h; omega, by omega⟩
        · have e6 : c % 256 = c := by omega
          cases hf : 9 - i with
          | zero => simp [numR, e6]
          | succ f => simp [numR, e6, show ¬ 128 ≤ c by omega]
        · cases hf : 9 - i with
          | zero => simp [numR]
          | succ f => simp [numR, show ¬ 128 ≤ c by omega]
      · rw [if_neg h1, e1] at h
        have hi9 : i ≠ 9 := fun e => by have := h9 e; omega
        obtain ⟨m, r, f1, f2, f3, f4, f5, f6⟩ := unS_only l (i + 1) _ n k (by omega) (fun x hx => hl x (by simp [hx])) (by omega) e2 e3 h
        have hm := f5 (by omega)
        have hd : (m * 128 + c % 128) % 128 = c % 128 := by omega
        have hq : (m * 128 + c % 128) / 128 = m := by omega
        have hnr : numR (9 - i) (m * 128 + c % 128) = c :: numR (9 - (i + 1)) m := by
          rw [show 9 - i = (9 - (i + 1)) + 1 by omega]
          generalize 9 - (i + 1) = f
          show (if m * 128 + c % 128 ≥ 128 then ((m * 128 + c % 128) % 128 + 128) :: numR f ((m * 128 + c % 128) / 128) else [(m * 128 + c % 128) % 256]) = _
          rw [if_pos (by omega), hd, hq]
          congr 1
          omega
        refine ⟨m * 128 + c % 128, r, ?_, ?_, ?_, by omega, fun _ => by omega, f6⟩
        · rw [f1, pow7, Int.add_mul, Int.mul_assoc]
          omega
        · rw [hnr, List.cons_append, ← f2]
        · rw [hnr, f3]
          simp only [List.length_cons]
          omega
theorem un_only {l : List Int} {n k : Int} (hl : ∀ x ∈ l, 0 ≤ x ∧ x ≤ 255) (h : un l = (n, k, 0)) : ∃ r, l = numR 9 n ++ r ∧ k = ((numR 9 n).length : Int) ∧ 0 ≤ n ∧ n < 18446744073709551616 := by
  obtain ⟨m, r, f1, f2, f3, f4, f5, f6⟩ := unS_only l 0 0 n k (by omega) hl (by omega) (by decide) (by omega) h
  have e : n = m := by rw [f1]; simp
  subst e
  exact ⟨r, f2, by rw [f3]; simp, f4, f6⟩
theorem bytes_strNums {l : List Int} (h : ∀ x ∈ l, 0 ≤ x ∧ x ≤ 255) : bytesOf (strOfNums l) = l := by
  unfold bytesOf strOfNums
  simp only [List.map_map]
  conv => rhs; rw [← List.map_id l]
  apply List.map_congr_left
  intro x hx
  have := h x hx
  simp
  omega
theorem bytesOf_range (s : ByteArray) : ∀ x ∈ bytesOf s, 0 ≤ x ∧ x ≤ 255 := by
  intro x hx
  unfold bytesOf at hx
  obtain ⟨b, _, rfl⟩ := List.mem_map.1 hx
  have := b.toNat_lt
  omega
end Go.Proofs.Ytgihecpobichbaa.Q
/- Lists as bytes and back, and the document's numbers at any place, in plain words: no program in it. -/
namespace Go.Proofs.Ytgihecpobichbaa.Q
open Go.RowKit Go.Proofs.YtgihecpobichbaaW.PrintWords Go.Proofs.YtgihecpobichbaaW.PrintLast Go.Proofs.YtgihecpobichbaaW.PrintMore
set_option linter.unusedVariables false
set_option linter.unusedSimpArgs false

def Bytes (l : List Int) : Prop := ∀ x ∈ l, 0 ≤ x ∧ x ≤ 255
theorem Bytes.right {a b : List Int} (h : Bytes (a ++ b)) : Bytes b := fun x hx => h x (List.mem_append.2 (.inr hx))
theorem Bytes.left {a b : List Int} (h : Bytes (a ++ b)) : Bytes a := fun x hx => h x (List.mem_append.2 (.inl hx))
theorem Bytes.nil : Bytes [] := fun x hx => absurd hx (by simp)
def flat {α : Type} (enc : α → List Int) : List α → List Int
  | [] => []
  | a :: l => enc a ++ flat enc l
theorem readN_only {α : Type} (item : List Int → Option (α × List Int)) (enc : α → List Int) (good : α → Prop) (hi : ∀ l a r, Bytes l → item l = some (a, r) → l = enc a ++ r ∧ good a) :
    ∀ (n : Nat) (l : List Int) (xs : List α) (r : List Int), Bytes l → readN item n l = some (xs, r) → l = flat enc xs ++ r ∧ xs.length = n ∧ ∀ x ∈ xs, good x
  | 0, l, xs, r, hb, h => by
    simp only [readN, Option.some.injEq, Prod.mk.injEq] at h
    obtain ⟨rfl, rfl⟩ := h
    exact ⟨rfl, rfl, by simp⟩
  | n + 1, l, xs, r, hb, h => by
    simp only [readN] at h
    obtain ⟨⟨a, l1⟩, h1, h2⟩ := Option.bind_eq_some_iff.1 h
    obtain ⟨⟨ys, r1⟩, h3, h4⟩ := Option.map_eq_some_iff.1 h2
    simp only [Prod.mk.injEq] at h4 h3
    obtain ⟨rfl, rfl⟩ := h4
    obtain ⟨e1, g1⟩ := hi l a l1 hb h1
    have hb1 : Bytes l1 := (e1 ▸ hb).right
    obtain ⟨e2, e3, e4⟩ := readN_only item enc good hi n l1 ys r1 hb1 h3
    refine ⟨?_, by simp [e3], ?_⟩
    · rw [e1, e2]
      simp [flat]
    · intro x hx
      rcases List.mem_cons.1 hx with rfl | h
      · exact g1
      · exact e4 x h
theorem readN_short {α : Type} (item : List Int → Option (α × List Int)) (hl : ∀ l a r, item l = some (a, r) → r.length < l.length) : ∀ (n : Nat) (l : List Int), l.length < n → readN item n l = none
  | 0, l, h => absurd h (by omega)
  | n + 1, l, h => by
    simp only [readN]
    cases hi : item l with
    | none => rfl
    | some p =>
      obtain ⟨a, r⟩ := p
      have := hl l a r hi
      simp only [Option.bind_some]
      rw [readN_short item hl n r (by omega)]
      rfl
theorem readN_less {α : Type} (item : List Int → Option (α × List Int)) (hl : ∀ l a r, item l = some (a, r) → r.length < l.length) : ∀ (n : Nat) (l : List Int) (xs : List α) (r : List Int), readN item n l = some (xs, r) → r.length ≤ l.length
  | 0, l, xs, r, h => by
    simp only [readN, Option.some.injEq, Prod.mk.injEq] at h
    rw [h.2]
    exact Nat.le_refl _
  | n + 1, l, xs, r, h => by
    simp only [readN] at h
    obtain ⟨⟨a, l1⟩, h1, h2⟩ := Option.bind_eq_some_iff.1 h
    obtain ⟨⟨ys, r1⟩, h3, h4⟩ := Option.map_eq_some_iff.1 h2
    simp only [Prod.mk.injEq] at h4 h3
    obtain ⟨rfl, rfl⟩ := h4
    have := hl l a l1 h1
    have := readN_less item hl n l1 ys r1 h3
    omega
theorem drop_at (a b : List Int) : (a ++ b).drop ((a.length : Int)).toNat = b := by
  simp
theorem readItems_only {α : Type} (item : List Int → Option (α × List Int)) (enc : α → List Int) (good : α → Prop) (hi : ∀ l a r, Bytes l → item l = some (a, r) → l = enc a ++ r ∧ good a) (l : List Int) (xs : List α) (r : List Int) (hb : Bytes l)
    (h : readItems item l = some (xs, r)) : l = numR 9 (xs.length : Int) ++ flat enc xs ++ r ∧ ∀ x ∈ xs, good x := by
  unfold readItems at h
  split at h
  · rename_i h0
    split at h
    · cases h
    · obtain ⟨n, k, hu⟩ : ∃ n k, un l = (n, k, 0) := ⟨(un l).1, (un l).2.1, by rw [← h0]⟩
      rw [hu] at h
      obtain ⟨r0, e1, e2, e3, e4⟩ := un_only hb hu
      simp only [e1, e2, drop_at] at h
      obtain ⟨f1, f2, f3⟩ := readN_only item enc good hi n.toNat r0 xs r (e1 ▸ hb).right h
      refine ⟨?_, f3⟩
      rw [e1, f2, f1, show ((n.toNat : Nat) : Int) = n by omega, List.append_assoc]
  · cases h
/-- All of some bytes, read as a list. -/
def readX {α : Type} (item : List Int → Option (α × List Int)) (l : List Int) : List α × Int :=
  match readItems item l with
  | some (xs, l') => if l'.length > 0 ∨ l.length > 16777216 then ([], 41) else (xs, 0)
  | none => ([], 41)
theorem readX_err {α : Type} (item : List Int → Option (α × List Int)) (l : List Int) : (readX item l).2 = 0 ∨ readX item l = ([], 41) := by
  unfold readX
  split
  · split
    · exact .inr rfl
    · exact .inl rfl
  · exact .inr rfl
theorem readX_only {α : Type} (item : List Int → Option (α × List Int)) (enc : α → List Int) (good : α → Prop) (hi : ∀ l a r, Bytes l → item l = some (a, r) → l = enc a ++ r ∧ good a) (l : List Int) (xs : List α) (hb : Bytes l)
    (h : readX item l = (xs, 0)) : l = numR 9 (xs.length : Int) ++ flat enc xs ∧ (∀ x ∈ xs, good x) ∧ l.length ≤ 16777216 := by
  unfold readX at h
  split at h
  · rename_i ys l' hr
    split at h
    · simp at h
    · rename_i hn
      simp only [Prod.mk.injEq, and_true] at h
      subst h
      obtain ⟨e, g⟩ := readItems_only item enc good hi l ys l' hb hr
      have : l' = [] := List.eq_nil_of_length_eq_zero (by omega)
      subst this
      rw [List.append_nil] at e
      exact ⟨e, g, by omega⟩
  · simp at h
/-- Ints. -/
def encI (a : Int) : List Int := numR 9 (zig a)
theorem itemI_only (l : List Int) (a : Int) (r : List Int) (hb : Bytes l) (h : itemI l = some (a, r)) : l = encI a ++ r ∧ in64 a := by
  unfold itemI at h
  split at h
  · rename_i h0
    obtain ⟨n, k, hu⟩ : ∃ n k, un l = (n, k, 0) := ⟨(un l).1, (un l).2.1, by rw [← h0]⟩
    rw [hu] at h
    obtain ⟨r0, e1, e2, e3, e4⟩ := un_only hb hu
    simp only [e1, e2, drop_at, Option.some.injEq, Prod.mk.injEq] at h
    obtain ⟨rfl, rfl⟩ := h
    have := zig_unz e3 e4
    refine ⟨?_, this.2⟩
    unfold encI
    rw [this.1]
    exact e1
  · cases h
theorem unS_pos : ∀ (l : List Int) (i : Nat) (n : Int), (unS i n l).2.2 = 0 → (i : Int) < (unS i n l).2.1 ∧ l ≠ []
  | [], i, n, h => absurd h (by simp [unS])
  | c :: l, i, n, h => by
    unfold unS at h ⊢
    split
    · rename_i hb
      rw [if_pos hb] at h
      simp at h
    · rename_i hb
      rw [if_neg hb] at h
      split
      · simp
        omega
      · rename_i h1
        rw [if_neg h1] at h
        have := (unS_pos l (i + 1) _ h).1
        refine ⟨?_, by simp⟩
        omega
theorem un_pos {l : List Int} (h : (un l).2.2 = 0) : 0 < (un l).2.1 ∧ (un l).2.1 ≤ (l.length : Int) := by
  have h1 := (unS_pos l 0 0 h).1
  have h2 := (unS_le l 0 0).2
  unfold un
  simp at h1 h2
  omega
theorem itemI_less (l : List Int) (a : Int) (r : List Int) (h : itemI l = some (a, r)) : r.length < l.length := by
  unfold itemI at h
  split at h
  · rename_i h0
    have := un_pos h0
    simp only [Option.some.injEq, Prod.mk.injEq] at h
    rw [← h.2, List.length_drop]
    omega
  · cases h
def refAt (s : ByteArray) (a : Int) : Int × Int := if a < 0 then (0, -1) else if (un ((bytesOf s).drop a.toNat)).2.2 = 0 then ((un ((bytesOf s).drop a.toNat)).1, a + (un ((bytesOf s).drop a.toNat)).2.1) else (0, -1)
def refOfA (a : Nat) (r : Int × Int × Int) : Int × Int := if r.2.2 = 0 then (r.1, (a : Int) + r.2.1) else (0, -1)
theorem ref_at_step (s : ByteArray) (hs : s.size ≤ 1000000) (a : Nat) (ha : a ≤ s.size) (i : Nat) (n : Int) (hi : i ≤ 9) (h0 : 0 ≤ n) (h1 : n < 2 ^ (7 * i))
    (ih : i < 9 → ∀ n' : Int, 0 ≤ n' → n' < 2 ^ (7 * (i + 1)) → Ev (fun k => headgateref04_Unnum.l0 k s (a : Int) n' ((i + 1 : Nat) : Int)) (refOfA a (unS (i + 1) n' ((bytesOf s).drop (a + i + 1))))) :
    Ev (fun k => headgateref04_Unnum.l0 k s (a : Int) n (i : Int)) (refOfA a (unS i n ((bytesOf s).drop (a + i)))) := by
  have hl := bytesOf_length s
  obtain ⟨p, hp⟩ : ∃ p : Int, p = (a : Int) + (i : Int) := ⟨_, rfl⟩
  have hd := fun (h : a + i < s.size) => rd_drop (bytesOf s) p (by omega) (by omega)
  rw [show (p + 1).toNat = a + i + 1 by omega, show p.toNat = a + i by omega, rd_bytesOf] at hd
  have e1 : Aside0 (wrap64 ((a : Int) + (i : Int)) = p) := ⟨by
    rw [← hp]
    exact wrap_in (by unfold in64; omega)⟩
  have e2 : Aside0 (wrap64 (7 * (i : Int)) = 7 * (i : Int)) := ⟨wrap_in (by unfold in64; omega)⟩
  have e3 : IntKind.u64.wrap (7 * (i : Int)) = 7 * (i : Int) := wrap_u _ (by omega) (by omega)
  have e4 : Aside0 (wrap64 ((i : Int) + 1) = ((i + 1 : Nat) : Int)) := ⟨by
    have h : wrap64 ((i : Int) + 1) = (i : Int) + 1 := wrap_in (by unfold in64; omega)
    rw [h]
    omega⟩
  have e4b : Aside0 (wrap64 (p + 1) = (a : Int) + ((i : Int) + 1)) := ⟨by
    have h : wrap64 (p + 1) = p + 1 := wrap_in (by unfold in64; omega)
    rw [h]
    omega⟩
  by_cases hsz : a + i < s.size
  · rw [hd hsz]
    have hr := bt_range s p
    have e5 : IntKind.u64.wrap (bt s p) = bt s p := wrap_u _ hr.1 (by omega)
    obtain ⟨c, hc⟩ : ∃ c, bt s p = c := ⟨_, rfl⟩
    rw [hc] at hr e5 ⊢
    have hj2 : ∀ b : Bool, b = (i == 9 && decide (c > 1)) → Ev (fun k => headgateref04_Unnum.j2 k s (a : Int) n (i : Int) c b) (refOfA a (unS i n (c :: (bytesOf s).drop (a + i + 1)))) := by
      intro b hb
      unfold unS
      by_cases hB : i = 9 ∧ c > 1
      · have hu : unBad i c = true := by unfold unBad; simp [hB.1, hB.2]
        have hbt : b = true := by rw [hb]; simp [hB.1, hB.2]
        subst hbt
        rw [if_pos hu]
        exact Ev.step (f := fun _ => some (0, -1)) (fun k => by simp only [headgateref04_Unnum.j2]; rw [if_pos trivial]) (Ev.now _)
      · have h9 : i = 9 → c ≤ 1 := fun h => by
          rcases Int.lt_or_le 1 c with h' | h'
          · exact absurd ⟨h, h'⟩ hB
          · exact h'
        have hb9 : (i == 9 && decide (c > 1)) = false := by
          by_cases h : i = 9
          · have := h9 h
            simp [h]; omega
          · simp [h]
        rw [hb9] at hb
        subst hb
        have hv := ref_val i hi n c h0 h1 hr.1 hr.2 h9
        obtain ⟨a1, a2, a3, a4⟩ := unAdd_eq i hi n c h0 h1 hr.1 hr.2 h9
        by_cases hlt : c < 128
        · by_cases hz : i > 0 ∧ c = 0
          · have hu : unBad i c = true := by unfold unBad; rw [hb9]; simp [hz.2]; omega
            rw [if_pos hu]
            refine Ev.step (f := fun _ => some (0, -1)) (fun k => ?_) (Ev.now _)
            simp only [headgateref04_Unnum.j2]
            rw [if_neg (by simp), e2.out, e3, if_pos (by omega), if_pos hlt, if_pos (by omega), if_pos hz.2]
          · have hu : ¬ unBad i c = true := by
              unfold unBad
              rw [hb9]
              simp
              omega
            rw [if_neg hu, if_pos hlt]
            refine Ev.step (f := fun _ => some (unAdd i n c, (a : Int) + ((i : Int) + 1))) (fun k => ?_) (Ev.now _)
            simp only [headgateref04_Unnum.j2]
            rw [if_neg (by simp), e2.out, e3, if_pos (by omega), if_pos hlt, e1.out, e4b.out, hv]
            by_cases hp : (i : Int) > 0
            · rw [if_pos hp, if_neg (by omega)]
            · rw [if_neg hp]
        · have hu : ¬ unBad i c = true := by
            unfold unBad
            rw [hb9]
            simp
            omega
          rw [if_neg hu, if_neg hlt]
          have h9' : i < 9 := by omega
          have hp : 0 ≤ (c % 128) * 2 ^ (7 * i) := Int.mul_nonneg (by omega) (Int.pow_nonneg (by omega))
          refine Ev.step (fun k => ?_) (ih h9' (unAdd i n c) (by rw [a1]; omega) (by rw [a1]; exact a2))
          simp only [headgateref04_Unnum.j2]
          rw [if_neg (by simp), e2.out, e3, if_pos (by omega), if_neg hlt, hv, e4.out]
    refine Ev.step (f := fun k => headgateref04_Unnum.j1 k s (a : Int) n (i : Int) false) (fun k => ?_) (Ev.step (fun k => ?_) (hj2 _ rfl))
    · simp only [headgateref04_Unnum.l0]
      rw [if_pos (by omega), if_neg (by omega), e1.out, decide_eq_false (by omega)]
    · simp only [headgateref04_Unnum.j1]
      rw [if_neg (by simp), e1.out, if_pos (by omega), if_pos (by omega), hc, e5]
      by_cases h9 : (i : Int) = 9
      · have h9' : i = 9 := by omega
        subst h9'
        rw [if_pos h9]
        rfl
      · rw [if_neg h9]
        have h9' : (i == 9) = false := by simp; omega
        rw [h9', Bool.false_and]
  · rw [List.drop_of_length_le (by omega)]
    refine Ev.step (f := fun k => headgateref04_Unnum.j1 k s (a : Int) n (i : Int) true) (fun k => ?_) (Ev.step (f := fun _ => some (0, -1)) (fun k => ?_) (Ev.now _))
    · simp only [headgateref04_Unnum.l0]
      rw [if_pos (by omega), if_neg (by omega), e1.out, decide_eq_true (by omega)]
    · simp only [headgateref04_Unnum.j1]
      rw [if_pos trivial]
theorem ref_at_ev (s : ByteArray) (hs : s.size ≤ 1000000) (a : Nat) (ha : a ≤ s.size) : ∀ (d i : Nat) (n : Int), i + d = 9 → 0 ≤ n → n < 2 ^ (7 * i) → Ev (fun k => headgateref04_Unnum.l0 k s (a : Int) n (i : Int)) (refOfA a (unS i n ((bytesOf s).drop (a + i)))) := by
  intro d
  induction d with
  | zero =>
    intro i n hi h0 h1
    obtain rfl : i = 9 := by omega
    exact ref_at_step s hs a ha 9 n (by omega) h0 h1 (fun h => absurd h (by omega))
  | succ d ih =>
    intro i n hi h0 h1
    exact ref_at_step s hs a ha i n (by omega) h0 h1 (fun h n' h0' h1' => ih (i + 1) n' (by omega) h0' h1')
theorem ref_at_nat (s : ByteArray) (hs : s.size ≤ 1000000) (a : Nat) (ha : a ≤ s.size) : Ev (fun k => headgateref04_Unnum.f k s (a : Int)) (refOfA a (un ((bytesOf s).drop a))) := ref_at_ev s hs a ha 9 0 0 rfl (by omega) (by decide)
theorem ref_at (s : ByteArray) (hs : s.size ≤ 1000000) (a : Int) (ha : a ≤ s.size) : Ev (fun k => headgateref04_Unnum.f k s a) (refAt s a) := by
  unfold refAt
  by_cases hn : a < 0
  · rw [if_pos hn]
    refine Ev.step (f := fun k => headgateref04_Unnum.j1 k s a 0 0 true) (fun k => ?_) (Ev.step (f := fun _ => some (0, -1)) (fun k => ?_) (Ev.now _))
    · show headgateref04_Unnum.l0 (k + 1) s a 0 0 = _
      simp only [headgateref04_Unnum.l0]
      rw [if_pos (by omega), if_pos hn]
    · simp only [headgateref04_Unnum.j1]
      rw [if_pos trivial]
  · rw [if_neg hn]
    obtain ⟨m, rfl⟩ := Int.eq_ofNat_of_zero_le (show 0 ≤ a by omega)
    exact ref_at_nat s hs m (by omega)
end Go.Proofs.Ytgihecpobichbaa.Q
/- What package code's lists of pairs and of columns read one by one: walked. Printed by wip/gen/readp.py. -/
namespace Go.Proofs.Ytgihecpobichbaa.Q
open Go.RowKit Go.Proofs.YtgihecpobichbaaW.PrintWords Go.Proofs.YtgihecpobichbaaW.PrintLast Go.Proofs.YtgihecpobichbaaW.PrintMore
set_option linter.unusedVariables false
set_option linter.unusedSimpArgs false
theorem drew_gb (w : World) (row : Option Nat) : w.grownBy w.drew row := ⟨rfl, rfl, rfl, Nat.le_refl _, fun _ _ _ => rfl⟩
theorem gb_setAt (W : World) (b j : Nat) (v : Value) : W.grownBy (W.setCell ⟨b, j, none⟩ v) (some b) :=
  ⟨rfl, rfl, rfl, (KeepsWalks.setCell W _ v).size, fun k _ hk => Below.heap_setCell _ _ _ k (fun e => hk (by rw [e]))⟩
theorem RdS.lt2 {w0 w : World} {G : Nat} {l : List Int} (h : RdS w0 w G l) : G < w.heap.size := h.lt.1
theorem itemW_less (l : List Int) (a : ByteArray) (r : List Int) (h : itemW l = some (a, r)) : r.length ≤ l.length := by
  unfold itemW at h
  split at h
  · split at h
    · cases h
    · simp only [Option.some.injEq, Prod.mk.injEq] at h
      rw [← h.2, List.length_drop, List.length_drop]
      omega
  · cases h
theorem itemW_lt (l : List Int) (a : ByteArray) (r : List Int) (h : itemW l = some (a, r)) : r.length < l.length := by
  unfold itemW at h
  split at h
  · rename_i h0
    have hp := un_pos h0
    split at h
    · cases h
    · simp only [Option.some.injEq, Prod.mk.injEq] at h
      rw [← h.2, List.length_drop, List.length_drop]
      omega
  · cases h
theorem itemB_lt (l : List Int) (a : Int) (r : List Int) (h : itemB l = some (a, r)) : r.length < l.length := by
  cases l with
  | nil => cases h
  | cons c l =>
    simp only [itemB, Option.some.injEq, Prod.mk.injEq] at h
    rw [← h.2]
    simp
/-- The box that a closure holds: the reader's address. -/
def PBox (w : World) (p G : Nat) : Prop := w.heap[p]? = some (.cells #[.pointer (some ⟨G, 0, none⟩)] 129 (0, 0))
theorem PBox.cell {w : World} {p G : Nat} (h : PBox w p G) : w.cell? ⟨p, 0, none⟩ = some (.pointer (some ⟨G, 0, none⟩)) := (blk_cell h 0).trans rfl
theorem PBox.grown {w w' : World} {p G : Nat} (h : PBox w p G) (hg : w.grownBy w' (some G)) (hne : p ≠ G) : PBox w' p G := blk_grown h hg (fun e => by injection e with e; exact hne e)
/-- A pair. -/
def itemP (l : List Int) : Option (S74 × List Int) := (itemW l).bind fun p => (itemW p.2).map fun q => (⟨p.1, q.1⟩, q.2)
set_option maxHeartbeats 4000000 in
set_option maxRecDepth 100000 in
theorem nextP_1 (p G : Nat) (l : List Int) (hl : l.length ≤ 1000000000) (w0 w : World) (hs : RdS w0 w G l) (hp : PBox w p G) (hne : p ≠ G) (h1 : itemW l = none) :
    Calls Try.prog 89 #[.pointer (some ⟨p, 0, none⟩)] w fun E w' => E = .panicked badP ∧ w.grownBy w' (some G) := by
  obtain ⟨Q, hQ⟩ : ∃ Q : Ending → World → Prop, Q = fun E w' => E = .panicked badP ∧ w.grownBy w' (some G) := ⟨_, rfl⟩
  rw [← hQ]
  have NO : Aside0 (∀ w', w.grownBy w' (some G) → Q (.panicked badP) w') := ⟨fun w' h => by rw [hQ]; exact ⟨rfl, h⟩⟩
  clear hQ
  have C1 : Aside0 (∀ W, RdS w0 W G l → Calls Try.prog 84 #[.pointer (some ⟨G, 0, none⟩)] W fun E w' => E = .panicked badP ∧ W.grownBy w' (some G)) := ⟨fun W h => (word_item G l hl w0 W h).mono fun E w' h => ⟨h.2.1 h1, h.2.2⟩⟩
  have hG := hs.lt2
  have HG0 : Aside0 (w.grownBy ((w.alloc (.cells #[.string ⟨#[]⟩, .string ⟨#[]⟩] 74)).drew) (some G)) := ⟨World.grownBy.trans (World.grownBy_alloc w _ _) (drew_gb _ _)⟩
  have HS0 : Aside0 (RdS w0 ((w.alloc (.cells #[.string ⟨#[]⟩, .string ⟨#[]⟩] 74)).drew) G l) := ⟨(hs.step (World.grownBy_alloc w _ none) (by simp) (by simp)).step (drew_gb _ none) (by simp) (by simp)⟩
  have HP0 : Aside0 (PBox ((w.alloc (.cells #[.string ⟨#[]⟩, .string ⟨#[]⟩] 74)).drew) p G) := ⟨blk_drew (blk_alloc hp _)⟩
  have HT0 : Aside0 (((w.alloc (.cells #[.string ⟨#[]⟩, .string ⟨#[]⟩] 74)).drew).heap[w.heap.size]? = some (.cells #[.string ⟨#[]⟩, .string ⟨#[]⟩] 74 (0, 0))) := ⟨blk_drew (blk_new w _)⟩
  have PG := Aside0.mk hne
  have TG := Aside0.mk (show w.heap.size ≠ G by omega)
  have cp0 := HP0.out.cell
  clear hs hp hne hG h1 hl 
  go_enter Try.func89, Try.ntmps89
  go_upto_region 1 with (fail)
  refine wp_region_any (by kernel_rfl) ?_
  (try (change wpAny _ _ _ _ _ _ _ (World.drew _)))
  refine wpAny_ready (rs := [0, 2]) (by kernel_rfl) (by simp) ?_
  refine AllReady.cons rfl (fun K hK => ?_) (AllReady.cons rfl (fun K hK => ?_) (AllReady.nil))
  · go_simp
    refine hK _ _ ?_
    clear hK K
    refine wpAny_ready (rs := [1, 2]) (by kernel_rfl) (by simp) ?_
    refine AllReady.cons rfl (fun K hK => ?_) (AllReady.cons rfl (fun K hK => ?_) (AllReady.nil))
    · go_simp
      go_wp2_with (go_at_call 84; refine (C1.out _ HS0.out).mono ?_; rintro E w1 ⟨rfl, hg1⟩)
      exact ⟨rfl, NO.out _ (gb_trans HG0.out hg1)⟩
    · go_simp
      refine hK _ _ ?_
      clear hK K
      refine wpAny_ready (rs := [1]) (by kernel_rfl) (by simp) ?_
      refine AllReady.cons rfl (fun K hK => ?_) (AllReady.nil)
      · go_simp
        go_wp2_with (go_at_call 84; refine (C1.out _ HS0.out).mono ?_; rintro E w1 ⟨rfl, hg1⟩)
        exact ⟨rfl, NO.out _ (gb_trans HG0.out hg1)⟩
  · go_simp
    refine hK _ _ ?_
    clear hK K
    refine wpAny_ready (rs := [0]) (by kernel_rfl) (by simp) ?_
    refine AllReady.cons rfl (fun K hK => ?_) (AllReady.nil)
    · go_simp
      refine hK _ _ ?_
      clear hK K
      refine wpAny_ready (rs := [1]) (by kernel_rfl) (by simp) ?_
      refine AllReady.cons rfl (fun K hK => ?_) (AllReady.nil)
      · go_simp
        go_wp2_with (go_at_call 84; refine (C1.out _ HS0.out).mono ?_; rintro E w1 ⟨rfl, hg1⟩)
        exact ⟨rfl, NO.out _ (gb_trans HG0.out hg1)⟩
set_option maxHeartbeats 4000000 in
set_option maxRecDepth 100000 in
theorem nextP_2 (p G : Nat) (l : List Int) (hl : l.length ≤ 1000000000) (w0 w : World) (hs : RdS w0 w G l) (hp : PBox w p G) (hne : p ≠ G) (x : ByteArray) (l1 : List Int) (h1 : itemW l = some (x, l1)) (h2 : itemW l1 = none) :
    Calls Try.prog 89 #[.pointer (some ⟨p, 0, none⟩)] w fun E w' => E = .panicked badP ∧ w.grownBy w' (some G) := by
  obtain ⟨Q, hQ⟩ : ∃ Q : Ending → World → Prop, Q = fun E w' => E = .panicked badP ∧ w.grownBy w' (some G) := ⟨_, rfl⟩
  rw [← hQ]
  have NO : Aside0 (∀ w', w.grownBy w' (some G) → Q (.panicked badP) w') := ⟨fun w' h => by rw [hQ]; exact ⟨rfl, h⟩⟩
  clear hQ
  have C1 : Aside0 (∀ W, RdS w0 W G l → Calls Try.prog 84 #[.pointer (some ⟨G, 0, none⟩)] W fun E w' => E = .returned (.string x) ∧ RdS w0 w' G l1 ∧ W.grownBy w' (some G)) := ⟨fun W h => (word_item G l hl w0 W h).mono fun E w' h => ⟨(h.1 x l1 h1).1, (h.1 x l1 h1).2, h.2.2⟩⟩
  have hl1 := itemW_less l x l1 h1
  have C2 : Aside0 (∀ W, RdS w0 W G l1 → Calls Try.prog 84 #[.pointer (some ⟨G, 0, none⟩)] W fun E w' => E = .panicked badP ∧ W.grownBy w' (some G)) := ⟨fun W h => (word_item G l1 (by omega) w0 W h).mono fun E w' h => ⟨h.2.1 h2, h.2.2⟩⟩
  have hG := hs.lt2
  have HG0 : Aside0 (w.grownBy ((w.alloc (.cells #[.string ⟨#[]⟩, .string ⟨#[]⟩] 74)).drew) (some G)) := ⟨World.grownBy.trans (World.grownBy_alloc w _ _) (drew_gb _ _)⟩
  have HS0 : Aside0 (RdS w0 ((w.alloc (.cells #[.string ⟨#[]⟩, .string ⟨#[]⟩] 74)).drew) G l) := ⟨(hs.step (World.grownBy_alloc w _ none) (by simp) (by simp)).step (drew_gb _ none) (by simp) (by simp)⟩
  have HP0 : Aside0 (PBox ((w.alloc (.cells #[.string ⟨#[]⟩, .string ⟨#[]⟩] 74)).drew) p G) := ⟨blk_drew (blk_alloc hp _)⟩
  have HT0 : Aside0 (((w.alloc (.cells #[.string ⟨#[]⟩, .string ⟨#[]⟩] 74)).drew).heap[w.heap.size]? = some (.cells #[.string ⟨#[]⟩, .string ⟨#[]⟩] 74 (0, 0))) := ⟨blk_drew (blk_new w _)⟩
  have PG := Aside0.mk hne
  have TG := Aside0.mk (show w.heap.size ≠ G by omega)
  have cp0 := HP0.out.cell
  clear hs hp hne hG h1 hl h2 hl1
  go_enter Try.func89, Try.ntmps89
  go_upto_region 1 with (fail)
  refine wp_region_any (by kernel_rfl) ?_
  (try (change wpAny _ _ _ _ _ _ _ (World.drew _)))
  refine wpAny_ready (rs := [0, 2]) (by kernel_rfl) (by simp) ?_
  refine AllReady.cons rfl (fun K hK => ?_) (AllReady.cons rfl (fun K hK => ?_) (AllReady.nil))
  · go_simp
    refine hK _ _ ?_
    clear hK K
    refine wpAny_ready (rs := [1, 2]) (by kernel_rfl) (by simp) ?_
    refine AllReady.cons rfl (fun K hK => ?_) (AllReady.cons rfl (fun K hK => ?_) (AllReady.nil))
    · go_simp
      go_wp2_with (go_at_call 84; refine (C1.out _ HS0.out).mono ?_; rintro E w1 ⟨rfl, hs1, hg1⟩; have HS1 := Aside0.mk hs1; have HG1 := Aside0.mk (gb_trans HG0.out hg1); have HP1 := Aside0.mk (HP0.out.grown hg1 PG.out); have HT1 := Aside0.mk (blk_grown HT0.out hg1 (fun e => by injection e with e; exact TG.out e)); have cp1 := HP1.out.cell; clear hs1 hg1)
      (try (refine hK _ _ ?_; clear hK K))
      refine wpAny_ready (rs := [2]) (by kernel_rfl) (by simp) ?_
      refine AllReady.cons rfl (fun K hK => ?_) (AllReady.nil)
      · go_simp
        refine hK _ _ ?_
        clear hK K
        refine wpAny_ready (rs := [3]) (by kernel_rfl) (by simp) ?_
        refine AllReady.cons rfl (fun K hK => ?_) (AllReady.nil)
        · go_simp
          go_wp2_with (go_at_call 84; refine (C2.out _ HS1.out).mono ?_; rintro E w2 ⟨rfl, hg2⟩)
          exact ⟨rfl, NO.out _ (gb_trans HG1.out hg2)⟩
    · go_simp
      refine hK _ _ ?_
      clear hK K
      refine wpAny_ready (rs := [1]) (by kernel_rfl) (by simp) ?_
      refine AllReady.cons rfl (fun K hK => ?_) (AllReady.nil)
      · go_simp
        go_wp2_with (go_at_call 84; refine (C1.out _ HS0.out).mono ?_; rintro E w1 ⟨rfl, hs1, hg1⟩; have HS1 := Aside0.mk hs1; have HG1 := Aside0.mk (gb_trans HG0.out hg1); have HP1 := Aside0.mk (HP0.out.grown hg1 PG.out); have HT1 := Aside0.mk (blk_grown HT0.out hg1 (fun e => by injection e with e; exact TG.out e)); have cp1 := HP1.out.cell; clear hs1 hg1)
        (try (refine hK _ _ ?_; clear hK K))
        refine wpAny_ready (rs := [3]) (by kernel_rfl) (by simp) ?_
        refine AllReady.cons rfl (fun K hK => ?_) (AllReady.nil)
        · go_simp
          go_wp2_with (go_at_call 84; refine (C2.out _ HS1.out).mono ?_; rintro E w2 ⟨rfl, hg2⟩)
          exact ⟨rfl, NO.out _ (gb_trans HG1.out hg2)⟩
  · go_simp
    refine hK _ _ ?_
    clear hK K
    refine wpAny_ready (rs := [0]) (by kernel_rfl) (by simp) ?_
    refine AllReady.cons rfl (fun K hK => ?_) (AllReady.nil)
    · go_simp
      refine hK _ _ ?_
      clear hK K
      refine wpAny_ready (rs := [1]) (by kernel_rfl) (by simp) ?_
      refine AllReady.cons rfl (fun K hK => ?_) (AllReady.nil)
      · go_simp
        go_wp2_with (go_at_call 84; refine (C1.out _ HS0.out).mono ?_; rintro E w1 ⟨rfl, hs1, hg1⟩; have HS1 := Aside0.mk hs1; have HG1 := Aside0.mk (gb_trans HG0.out hg1); have HP1 := Aside0.mk (HP0.out.grown hg1 PG.out); have HT1 := Aside0.mk (blk_grown HT0.out hg1 (fun e => by injection e with e; exact TG.out e)); have cp1 := HP1.out.cell; clear hs1 hg1)
        (try (refine hK _ _ ?_; clear hK K))
        refine wpAny_ready (rs := [3]) (by kernel_rfl) (by simp) ?_
        refine AllReady.cons rfl (fun K hK => ?_) (AllReady.nil)
        · go_simp
          go_wp2_with (go_at_call 84; refine (C2.out _ HS1.out).mono ?_; rintro E w2 ⟨rfl, hg2⟩)
          exact ⟨rfl, NO.out _ (gb_trans HG1.out hg2)⟩
set_option maxHeartbeats 4000000 in
set_option maxRecDepth 100000 in
theorem nextP_0 (p G : Nat) (l : List Int) (hl : l.length ≤ 1000000000) (w0 w : World) (hs : RdS w0 w G l) (hp : PBox w p G) (hne : p ≠ G) (x : ByteArray) (l1 : List Int) (h1 : itemW l = some (x, l1)) (y : ByteArray) (l2 : List Int) (h2 : itemW l1 = some (y, l2)) :
    Calls Try.prog 89 #[.pointer (some ⟨p, 0, none⟩)] w fun E w' => E = .returned (.agg #[.string x, .string y]) ∧ RdS w0 w' G l2 ∧ w.grownBy w' (some G) := by
  obtain ⟨Q, hQ⟩ : ∃ Q : Ending → World → Prop, Q = fun E w' => E = .returned (.agg #[.string x, .string y]) ∧ RdS w0 w' G l2 ∧ w.grownBy w' (some G) := ⟨_, rfl⟩
  rw [← hQ]
  have YES : Aside0 (∀ w', RdS w0 w' G l2 → w.grownBy w' (some G) → Q (.returned (.agg #[.string x, .string y])) w') := ⟨fun w' h h' => by rw [hQ]; exact ⟨rfl, h, h'⟩⟩
  clear hQ
  have C1 : Aside0 (∀ W, RdS w0 W G l → Calls Try.prog 84 #[.pointer (some ⟨G, 0, none⟩)] W fun E w' => E = .returned (.string x) ∧ RdS w0 w' G l1 ∧ W.grownBy w' (some G)) := ⟨fun W h => (word_item G l hl w0 W h).mono fun E w' h => ⟨(h.1 x l1 h1).1, (h.1 x l1 h1).2, h.2.2⟩⟩
  have hl1 := itemW_less l x l1 h1
  have C2 : Aside0 (∀ W, RdS w0 W G l1 → Calls Try.prog 84 #[.pointer (some ⟨G, 0, none⟩)] W fun E w' => E = .returned (Value.string y) ∧ RdS w0 w' G l2 ∧ W.grownBy w' (some G)) := ⟨fun W h => (word_item G l1 (by omega) w0 W h).mono fun E w' h => ⟨(h.1 y l2 h2).1, (h.1 y l2 h2).2, h.2.2⟩⟩
  have hG := hs.lt2
  have HG0 : Aside0 (w.grownBy ((w.alloc (.cells #[.string ⟨#[]⟩, .string ⟨#[]⟩] 74)).drew) (some G)) := ⟨World.grownBy.trans (World.grownBy_alloc w _ _) (drew_gb _ _)⟩
  have HS0 : Aside0 (RdS w0 ((w.alloc (.cells #[.string ⟨#[]⟩, .string ⟨#[]⟩] 74)).drew) G l) := ⟨(hs.step (World.grownBy_alloc w _ none) (by simp) (by simp)).step (drew_gb _ none) (by simp) (by simp)⟩
  have HP0 : Aside0 (PBox ((w.alloc (.cells #[.string ⟨#[]⟩, .string ⟨#[]⟩] 74)).drew) p G) := ⟨blk_drew (blk_alloc hp _)⟩
  have HT0 : Aside0 (((w.alloc (.cells #[.string ⟨#[]⟩, .string ⟨#[]⟩] 74)).drew).heap[w.heap.size]? = some (.cells #[.string ⟨#[]⟩, .string ⟨#[]⟩] 74 (0, 0))) := ⟨blk_drew (blk_new w _)⟩
  have PG := Aside0.mk hne
  have TG := Aside0.mk (show w.heap.size ≠ G by omega)
  have cp0 := HP0.out.cell
  have FIN : Aside0 (∀ w2, RdS w0 w2 G l2 → w.grownBy w2 (some G) → w2.heap[w.heap.size]? = some (.cells #[.string ⟨#[]⟩, .string ⟨#[]⟩] 74 (0, 0)) → RdS w0 ((w2.setCell ⟨w.heap.size, 0, none⟩ (.string x)).setCell ⟨w.heap.size, 1, none⟩ (.string y)) G l2 ∧ w.grownBy ((w2.setCell ⟨w.heap.size, 0, none⟩ (.string x)).setCell ⟨w.heap.size, 1, none⟩ (.string y)) (some G) ∧ ((w2.setCell ⟨w.heap.size, 0, none⟩ (.string x)).setCell ⟨w.heap.size, 1, none⟩ (.string y)).heap[w.heap.size]? = some (.cells #[.string x, .string y] 74 (0, 0))) := ⟨fun w2 a b c => ⟨(a.step (gb_setAt w2 w.heap.size 0 _) (fun e => by injection e with e; omega) (fun k e => by injection e with e; have := hs.lt; omega)).step (gb_setAt _ w.heap.size 1 _) (fun e => by injection e with e; omega) (fun k e => by injection e with e; have := hs.lt; omega), gb_new (gb_new b (gb_setAt w2 w.heap.size 0 _) (fun k e => by injection e with e; omega)) (gb_setAt _ w.heap.size 1 _) (fun k e => by injection e with e; omega), blk_set (cs := #[.string x, .string ⟨#[]⟩]) (blk_set c 0 _) 1 _⟩⟩
  clear hs hp hne hG h1 hl h2 hl1
  go_enter Try.func89, Try.ntmps89
  go_upto_region 1 with (fail)
  refine wp_region_any (by kernel_rfl) ?_
  (try (change wpAny _ _ _ _ _ _ _ (World.drew _)))
  refine wpAny_ready (rs := [0, 2]) (by kernel_rfl) (by simp) ?_
  refine AllReady.cons rfl (fun K hK => ?_) (AllReady.cons rfl (fun K hK => ?_) (AllReady.nil))
  · go_simp
    refine hK _ _ ?_
    clear hK K
    refine wpAny_ready (rs := [1, 2]) (by kernel_rfl) (by simp) ?_
    refine AllReady.cons rfl (fun K hK => ?_) (AllReady.cons rfl (fun K hK => ?_) (AllReady.nil))
    · go_simp
      go_wp2_with (go_at_call 84; refine (C1.out _ HS0.out).mono ?_; rintro E w1 ⟨rfl, hs1, hg1⟩; have HS1 := Aside0.mk hs1; have HG1 := Aside0.mk (gb_trans HG0.out hg1); have HP1 := Aside0.mk (HP0.out.grown hg1 PG.out); have HT1 := Aside0.mk (blk_grown HT0.out hg1 (fun e => by injection e with e; exact TG.out e)); have cp1 := HP1.out.cell; clear hs1 hg1)
      (try (refine hK _ _ ?_; clear hK K))
      refine wpAny_ready (rs := [2]) (by kernel_rfl) (by simp) ?_
      refine AllReady.cons rfl (fun K hK => ?_) (AllReady.nil)
      · go_simp
        refine hK _ _ ?_
        clear hK K
        refine wpAny_ready (rs := [3]) (by kernel_rfl) (by simp) ?_
        refine AllReady.cons rfl (fun K hK => ?_) (AllReady.nil)
        · go_simp
          go_wp2_with (go_at_call 84; refine (C2.out _ HS1.out).mono ?_; rintro E w2 ⟨rfl, hs2, hg2⟩; have HS2 := Aside0.mk hs2; have HG2 := Aside0.mk (gb_trans HG1.out hg2); have HT2 := Aside0.mk (blk_grown HT1.out hg2 (fun e => by injection e with e; exact TG.out e)); have ct0 := blk_cell HT2.out 0; have ct1 := blk_cell HT2.out 1; have ft0 := blk_frozen HT2.out 0; have ft1 := blk_frozen HT2.out 1; clear hs2 hg2)
          (try (refine hK _ _ ?_; clear hK K))
          refine wpAny_ready (rs := [4]) (by kernel_rfl) (by simp) ?_
          refine AllReady.cons rfl (fun K hK => ?_) (AllReady.nil)
          · go_simp
            refine hK _ _ ?_
            clear hK K
            refine wpAny_ready (rs := [5]) (by kernel_rfl) (by simp) ?_
            refine AllReady.cons rfl (fun K hK => ?_) (AllReady.nil)
            · go_simp
              refine hK _ _ ?_
              clear hK K
              refine wpAny_done (by kernel_rfl) ?_ _
              go_wp2
              obtain ⟨q1, q2, q3⟩ := FIN.out _ HS2.out HG2.out HT2.out
              exact bodyPost_ret (results_single rfl (.cell _ _ _ _ _ rfl q3 Try.underlying74 rfl (by kernel_rfl) .nil)) rfl (YES.out _ q1 q2)
    · go_simp
      refine hK _ _ ?_
      clear hK K
      refine wpAny_ready (rs := [1]) (by kernel_rfl) (by simp) ?_
      refine AllReady.cons rfl (fun K hK => ?_) (AllReady.nil)
      · go_simp
        go_wp2_with (go_at_call 84; refine (C1.out _ HS0.out).mono ?_; rintro E w1 ⟨rfl, hs1, hg1⟩; have HS1 := Aside0.mk hs1; have HG1 := Aside0.mk (gb_trans HG0.out hg1); have HP1 := Aside0.mk (HP0.out.grown hg1 PG.out); have HT1 := Aside0.mk (blk_grown HT0.out hg1 (fun e => by injection e with e; exact TG.out e)); have cp1 := HP1.out.cell; clear hs1 hg1)
        (try (refine hK _ _ ?_; clear hK K))
        refine wpAny_ready (rs := [3]) (by kernel_rfl) (by simp) ?_
        refine AllReady.cons rfl (fun K hK => ?_) (AllReady.nil)
        · go_simp
          go_wp2_with (go_at_call 84; refine (C2.out _ HS1.out).mono ?_; rintro E w2 ⟨rfl, hs2, hg2⟩; have HS2 := Aside0.mk hs2; have HG2 := Aside0.mk (gb_trans HG1.out hg2); have HT2 := Aside0.mk (blk_grown HT1.out hg2 (fun e => by injection e with e; exact TG.out e)); have ct0 := blk_cell HT2.out 0; have ct1 := blk_cell HT2.out 1; have ft0 := blk_frozen HT2.out 0; have ft1 := blk_frozen HT2.out 1; clear hs2 hg2)
          (try (refine hK _ _ ?_; clear hK K))
          refine wpAny_ready (rs := [4]) (by kernel_rfl) (by simp) ?_
          refine AllReady.cons rfl (fun K hK => ?_) (AllReady.nil)
          · go_simp
            refine hK _ _ ?_
            clear hK K
            refine wpAny_ready (rs := [5]) (by kernel_rfl) (by simp) ?_
            refine AllReady.cons rfl (fun K hK => ?_) (AllReady.nil)
            · go_simp
              refine hK _ _ ?_
              clear hK K
              refine wpAny_done (by kernel_rfl) ?_ _
              go_wp2
              obtain ⟨q1, q2, q3⟩ := FIN.out _ HS2.out HG2.out HT2.out
              exact bodyPost_ret (results_single rfl (.cell _ _ _ _ _ rfl q3 Try.underlying74 rfl (by kernel_rfl) .nil)) rfl (YES.out _ q1 q2)
  · go_simp
    refine hK _ _ ?_
    clear hK K
    refine wpAny_ready (rs := [0]) (by kernel_rfl) (by simp) ?_
    refine AllReady.cons rfl (fun K hK => ?_) (AllReady.nil)
    · go_simp
      refine hK _ _ ?_
      clear hK K
      refine wpAny_ready (rs := [1]) (by kernel_rfl) (by simp) ?_
      refine AllReady.cons rfl (fun K hK => ?_) (AllReady.nil)
      · go_simp
        go_wp2_with (go_at_call 84; refine (C1.out _ HS0.out).mono ?_; rintro E w1 ⟨rfl, hs1, hg1⟩; have HS1 := Aside0.mk hs1; have HG1 := Aside0.mk (gb_trans HG0.out hg1); have HP1 := Aside0.mk (HP0.out.grown hg1 PG.out); have HT1 := Aside0.mk (blk_grown HT0.out hg1 (fun e => by injection e with e; exact TG.out e)); have cp1 := HP1.out.cell; clear hs1 hg1)
        (try (refine hK _ _ ?_; clear hK K))
        refine wpAny_ready (rs := [3]) (by kernel_rfl) (by simp) ?_
        refine AllReady.cons rfl (fun K hK => ?_) (AllReady.nil)
        · go_simp
          go_wp2_with (go_at_call 84; refine (C2.out _ HS1.out).mono ?_; rintro E w2 ⟨rfl, hs2, hg2⟩; have HS2 := Aside0.mk hs2; have HG2 := Aside0.mk (gb_trans HG1.out hg2); have HT2 := Aside0.mk (blk_grown HT1.out hg2 (fun e => by injection e with e; exact TG.out e)); have ct0 := blk_cell HT2.out 0; have ct1 := blk_cell HT2.out 1; have ft0 := blk_frozen HT2.out 0; have ft1 := blk_frozen HT2.out 1; clear hs2 hg2)
          (try (refine hK _ _ ?_; clear hK K))
          refine wpAny_ready (rs := [4]) (by kernel_rfl) (by simp) ?_
          refine AllReady.cons rfl (fun K hK => ?_) (AllReady.nil)
          · go_simp
            refine hK _ _ ?_
            clear hK K
            refine wpAny_ready (rs := [5]) (by kernel_rfl) (by simp) ?_
            refine AllReady.cons rfl (fun K hK => ?_) (AllReady.nil)
            · go_simp
              refine hK _ _ ?_
              clear hK K
              refine wpAny_done (by kernel_rfl) ?_ _
              go_wp2
              obtain ⟨q1, q2, q3⟩ := FIN.out _ HS2.out HG2.out HT2.out
              exact bodyPost_ret (results_single rfl (.cell _ _ _ _ _ rfl q3 Try.underlying74 rfl (by kernel_rfl) .nil)) rfl (YES.out _ q1 q2)
/-- A column. -/
def itemC (l : List Int) : Option (S43 × List Int) := (itemW l).bind fun p => (itemB p.2).map fun q => (⟨p.1, IntKind.i64.wrap q.1⟩, q.2)
set_option maxHeartbeats 4000000 in
set_option maxRecDepth 100000 in
theorem nextC_1 (p G : Nat) (l : List Int) (hl : l.length ≤ 1000000000) (w0 w : World) (hs : RdS w0 w G l) (hp : PBox w p G) (hne : p ≠ G) (h1 : itemW l = none) :
    Calls Try.prog 83 #[.pointer (some ⟨p, 0, none⟩)] w fun E w' => E = .panicked badP ∧ w.grownBy w' (some G) := by
  obtain ⟨Q, hQ⟩ : ∃ Q : Ending → World → Prop, Q = fun E w' => E = .panicked badP ∧ w.grownBy w' (some G) := ⟨_, rfl⟩
  rw [← hQ]
  have NO : Aside0 (∀ w', w.grownBy w' (some G) → Q (.panicked badP) w') := ⟨fun w' h => by rw [hQ]; exact ⟨rfl, h⟩⟩
  clear hQ
  have C1 : Aside0 (∀ W, RdS w0 W G l → Calls Try.prog 84 #[.pointer (some ⟨G, 0, none⟩)] W fun E w' => E = .panicked badP ∧ W.grownBy w' (some G)) := ⟨fun W h => (word_item G l hl w0 W h).mono fun E w' h => ⟨h.2.1 h1, h.2.2⟩⟩
  have hG := hs.lt2
  have HG0 : Aside0 (w.grownBy ((w.alloc (.cells #[.string ⟨#[]⟩, .int .i64 0] 43)).drew) (some G)) := ⟨World.grownBy.trans (World.grownBy_alloc w _ _) (drew_gb _ _)⟩
  have HS0 : Aside0 (RdS w0 ((w.alloc (.cells #[.string ⟨#[]⟩, .int .i64 0] 43)).drew) G l) := ⟨(hs.step (World.grownBy_alloc w _ none) (by simp) (by simp)).step (drew_gb _ none) (by simp) (by simp)⟩
  have HP0 : Aside0 (PBox ((w.alloc (.cells #[.string ⟨#[]⟩, .int .i64 0] 43)).drew) p G) := ⟨blk_drew (blk_alloc hp _)⟩
  have HT0 : Aside0 (((w.alloc (.cells #[.string ⟨#[]⟩, .int .i64 0] 43)).drew).heap[w.heap.size]? = some (.cells #[.string ⟨#[]⟩, .int .i64 0] 43 (0, 0))) := ⟨blk_drew (blk_new w _)⟩
  have PG := Aside0.mk hne
  have TG := Aside0.mk (show w.heap.size ≠ G by omega)
  have cp0 := HP0.out.cell
  clear hs hp hne hG h1 hl 
  go_enter Try.func83, Try.ntmps83
  go_upto_region 1 with (fail)
  refine wp_region_any (by kernel_rfl) ?_
  (try (change wpAny _ _ _ _ _ _ _ (World.drew _)))
  refine wpAny_ready (rs := [0, 2]) (by kernel_rfl) (by simp) ?_
  refine AllReady.cons rfl (fun K hK => ?_) (AllReady.cons rfl (fun K hK => ?_) (AllReady.nil))
  · go_simp
    refine hK _ _ ?_
    clear hK K
    refine wpAny_ready (rs := [1, 2]) (by kernel_rfl) (by simp) ?_
    refine AllReady.cons rfl (fun K hK => ?_) (AllReady.cons rfl (fun K hK => ?_) (AllReady.nil))
    · go_simp
      go_wp2_with (go_at_call 84; refine (C1.out _ HS0.out).mono ?_; rintro E w1 ⟨rfl, hg1⟩)
      exact ⟨rfl, NO.out _ (gb_trans HG0.out hg1)⟩
    · go_simp
      refine hK _ _ ?_
      clear hK K
      refine wpAny_ready (rs := [1]) (by kernel_rfl) (by simp) ?_
      refine AllReady.cons rfl (fun K hK => ?_) (AllReady.nil)
      · go_simp
        go_wp2_with (go_at_call 84; refine (C1.out _ HS0.out).mono ?_; rintro E w1 ⟨rfl, hg1⟩)
        exact ⟨rfl, NO.out _ (gb_trans HG0.out hg1)⟩
  · go_simp
    refine hK _ _ ?_
    clear hK K
    refine wpAny_ready (rs := [0]) (by kernel_rfl) (by simp) ?_
    refine AllReady.cons rfl (fun K hK => ?_) (AllReady.nil)
    · go_simp
      refine hK _ _ ?_
      clear hK K
      refine wpAny_ready (rs := [1]) (by kernel_rfl) (by simp) ?_
      refine AllReady.cons rfl (fun K hK => ?_) (AllReady.nil)
      · go_simp
        go_wp2_with (go_at_call 84; refine (C1.out _ HS0.out).mono ?_; rintro E w1 ⟨rfl, hg1⟩)
        exact ⟨rfl, NO.out _ (gb_trans HG0.out hg1)⟩
set_option maxHeartbeats 4000000 in
set_option maxRecDepth 100000 in
theorem nextC_2 (p G : Nat) (l : List Int) (hl : l.length ≤ 1000000000) (w0 w : World) (hs : RdS w0 w G l) (hp : PBox w p G) (hne : p ≠ G) (x : ByteArray) (l1 : List Int) (h1 : itemW l = some (x, l1)) (h2 : itemB l1 = none) :
    Calls Try.prog 83 #[.pointer (some ⟨p, 0, none⟩)] w fun E w' => E = .panicked badP ∧ w.grownBy w' (some G) := by
  obtain ⟨Q, hQ⟩ : ∃ Q : Ending → World → Prop, Q = fun E w' => E = .panicked badP ∧ w.grownBy w' (some G) := ⟨_, rfl⟩
  rw [← hQ]
  have NO : Aside0 (∀ w', w.grownBy w' (some G) → Q (.panicked badP) w') := ⟨fun w' h => by rw [hQ]; exact ⟨rfl, h⟩⟩
  clear hQ
  have C1 : Aside0 (∀ W, RdS w0 W G l → Calls Try.prog 84 #[.pointer (some ⟨G, 0, none⟩)] W fun E w' => E = .returned (.string x) ∧ RdS w0 w' G l1 ∧ W.grownBy w' (some G)) := ⟨fun W h => (word_item G l hl w0 W h).mono fun E w' h => ⟨(h.1 x l1 h1).1, (h.1 x l1 h1).2, h.2.2⟩⟩
  have hl1 := itemW_less l x l1 h1
  have C2 : Aside0 (∀ W, RdS w0 W G l1 → Calls Try.prog 85 #[.pointer (some ⟨G, 0, none⟩)] W fun E w' => E = .panicked badP ∧ W.grownBy w' (some G)) := ⟨fun W h => (byte_item G l1 (by omega) w0 W h).mono fun E w' h => ⟨h.2.1 h2, h.2.2⟩⟩
  have hG := hs.lt2
  have HG0 : Aside0 (w.grownBy ((w.alloc (.cells #[.string ⟨#[]⟩, .int .i64 0] 43)).drew) (some G)) := ⟨World.grownBy.trans (World.grownBy_alloc w _ _) (drew_gb _ _)⟩
  have HS0 : Aside0 (RdS w0 ((w.alloc (.cells #[.string ⟨#[]⟩, .int .i64 0] 43)).drew) G l) := ⟨(hs.step (World.grownBy_alloc w _ none) (by simp) (by simp)).step (drew_gb _ none) (by simp) (by simp)⟩
  have HP0 : Aside0 (PBox ((w.alloc (.cells #[.string ⟨#[]⟩, .int .i64 0] 43)).drew) p G) := ⟨blk_drew (blk_alloc hp _)⟩
  have HT0 : Aside0 (((w.alloc (.cells #[.string ⟨#[]⟩, .int .i64 0] 43)).drew).heap[w.heap.size]? = some (.cells #[.string ⟨#[]⟩, .int .i64 0] 43 (0, 0))) := ⟨blk_drew (blk_new w _)⟩
  have PG := Aside0.mk hne
  have TG := Aside0.mk (show w.heap.size ≠ G by omega)
  have cp0 := HP0.out.cell
  clear hs hp hne hG h1 hl h2 hl1
  go_enter Try.func83, Try.ntmps83
  go_upto_region 1 with (fail)
  refine wp_region_any (by kernel_rfl) ?_
  (try (change wpAny _ _ _ _ _ _ _ (World.drew _)))
  refine wpAny_ready (rs := [0, 2]) (by kernel_rfl) (by simp) ?_
  refine AllReady.cons rfl (fun K hK => ?_) (AllReady.cons rfl (fun K hK => ?_) (AllReady.nil))
  · go_simp
    refine hK _ _ ?_
    clear hK K
    refine wpAny_ready (rs := [1, 2]) (by kernel_rfl) (by simp) ?_
    refine AllReady.cons rfl (fun K hK => ?_) (AllReady.cons rfl (fun K hK => ?_) (AllReady.nil))
    · go_simp
      go_wp2_with (go_at_call 84; refine (C1.out _ HS0.out).mono ?_; rintro E w1 ⟨rfl, hs1, hg1⟩; have HS1 := Aside0.mk hs1; have HG1 := Aside0.mk (gb_trans HG0.out hg1); have HP1 := Aside0.mk (HP0.out.grown hg1 PG.out); have HT1 := Aside0.mk (blk_grown HT0.out hg1 (fun e => by injection e with e; exact TG.out e)); have cp1 := HP1.out.cell; clear hs1 hg1)
      (try (refine hK _ _ ?_; clear hK K))
      refine wpAny_ready (rs := [2]) (by kernel_rfl) (by simp) ?_
      refine AllReady.cons rfl (fun K hK => ?_) (AllReady.nil)
      · go_simp
        refine hK _ _ ?_
        clear hK K
        refine wpAny_ready (rs := [3]) (by kernel_rfl) (by simp) ?_
        refine AllReady.cons rfl (fun K hK => ?_) (AllReady.nil)
        · go_simp
          go_wp2_with (go_at_call 85; refine (C2.out _ HS1.out).mono ?_; rintro E w2 ⟨rfl, hg2⟩)
          exact ⟨rfl, NO.out _ (gb_trans HG1.out hg2)⟩
    · go_simp
      refine hK _ _ ?_
      clear hK K
      refine wpAny_ready (rs := [1]) (by kernel_rfl) (by simp) ?_
      refine AllReady.cons rfl (fun K hK => ?_) (AllReady.nil)
      · go_simp
        go_wp2_with (go_at_call 84; refine (C1.out _ HS0.out).mono ?_; rintro E w1 ⟨rfl, hs1, hg1⟩; have HS1 := Aside0.mk hs1; have HG1 := Aside0.mk (gb_trans HG0.out hg1); have HP1 := Aside0.mk (HP0.out.grown hg1 PG.out); have HT1 := Aside0.mk (blk_grown HT0.out hg1 (fun e => by injection e with e; exact TG.out e)); have cp1 := HP1.out.cell; clear hs1 hg1)
        (try (refine hK _ _ ?_; clear hK K))
        refine wpAny_ready (rs := [3]) (by kernel_rfl) (by simp) ?_
        refine AllReady.cons rfl (fun K hK => ?_) (AllReady.nil)
        · go_simp
          go_wp2_with (go_at_call 85; refine (C2.out _ HS1.out).mono ?_; rintro E w2 ⟨rfl, hg2⟩)
          exact ⟨rfl, NO.out _ (gb_trans HG1.out hg2)⟩
  · go_simp
    refine hK _ _ ?_
    clear hK K
    refine wpAny_ready (rs := [0]) (by kernel_rfl) (by simp) ?_
    refine AllReady.cons rfl (fun K hK => ?_) (AllReady.nil)
    · go_simp
      refine hK _ _ ?_
      clear hK K
      refine wpAny_ready (rs := [1]) (by kernel_rfl) (by simp) ?_
      refine AllReady.cons rfl (fun K hK => ?_) (AllReady.nil)
      · go_simp
        go_wp2_with (go_at_call 84; refine (C1.out _ HS0.out).mono ?_; rintro E w1 ⟨rfl, hs1, hg1⟩; have HS1 := Aside0.mk hs1; have HG1 := Aside0.mk (gb_trans HG0.out hg1); have HP1 := Aside0.mk (HP0.out.grown hg1 PG.out); have HT1 := Aside0.mk (blk_grown HT0.out hg1 (fun e => by injection e with e; exact TG.out e)); have cp1 := HP1.out.cell; clear hs1 hg1)
        (try (refine hK _ _ ?_; clear hK K))
        refine wpAny_ready (rs := [3]) (by kernel_rfl) (by simp) ?_
        refine AllReady.cons rfl (fun K hK => ?_) (AllReady.nil)
        · go_simp
          go_wp2_with (go_at_call 85; refine (C2.out _ HS1.out).mono ?_; rintro E w2 ⟨rfl, hg2⟩)
          exact ⟨rfl, NO.out _ (gb_trans HG1.out hg2)⟩
set_option maxHeartbeats 4000000 in
set_option maxRecDepth 100000 in
theorem nextC_0 (p G : Nat) (l : List Int) (hl : l.length ≤ 1000000000) (w0 w : World) (hs : RdS w0 w G l) (hp : PBox w p G) (hne : p ≠ G) (x : ByteArray) (l1 : List Int) (h1 : itemW l = some (x, l1)) (y : Int) (l2 : List Int) (h2 : itemB l1 = some (y, l2)) :
    Calls Try.prog 83 #[.pointer (some ⟨p, 0, none⟩)] w fun E w' => E = .returned (.agg #[.string x, .int .i64 (IntKind.i64.wrap y)]) ∧ RdS w0 w' G l2 ∧ w.grownBy w' (some G) := by
  obtain ⟨Q, hQ⟩ : ∃ Q : Ending → World → Prop, Q = fun E w' => E = .returned (.agg #[.string x, .int .i64 (IntKind.i64.wrap y)]) ∧ RdS w0 w' G l2 ∧ w.grownBy w' (some G) := ⟨_, rfl⟩
  rw [← hQ]
  have YES : Aside0 (∀ w', RdS w0 w' G l2 → w.grownBy w' (some G) → Q (.returned (.agg #[.string x, .int .i64 (IntKind.i64.wrap y)])) w') := ⟨fun w' h h' => by rw [hQ]; exact ⟨rfl, h, h'⟩⟩
  clear hQ
  have C1 : Aside0 (∀ W, RdS w0 W G l → Calls Try.prog 84 #[.pointer (some ⟨G, 0, none⟩)] W fun E w' => E = .returned (.string x) ∧ RdS w0 w' G l1 ∧ W.grownBy w' (some G)) := ⟨fun W h => (word_item G l hl w0 W h).mono fun E w' h => ⟨(h.1 x l1 h1).1, (h.1 x l1 h1).2, h.2.2⟩⟩
  have hl1 := itemW_less l x l1 h1
  have C2 : Aside0 (∀ W, RdS w0 W G l1 → Calls Try.prog 85 #[.pointer (some ⟨G, 0, none⟩)] W fun E w' => E = .returned (Value.int .u8 y) ∧ RdS w0 w' G l2 ∧ W.grownBy w' (some G)) := ⟨fun W h => (byte_item G l1 (by omega) w0 W h).mono fun E w' h => ⟨(h.1 y l2 h2).1, (h.1 y l2 h2).2, h.2.2⟩⟩
  have hG := hs.lt2
  have HG0 : Aside0 (w.grownBy ((w.alloc (.cells #[.string ⟨#[]⟩, .int .i64 0] 43)).drew) (some G)) := ⟨World.grownBy.trans (World.grownBy_alloc w _ _) (drew_gb _ _)⟩
  have HS0 : Aside0 (RdS w0 ((w.alloc (.cells #[.string ⟨#[]⟩, .int .i64 0] 43)).drew) G l) := ⟨(hs.step (World.grownBy_alloc w _ none) (by simp) (by simp)).step (drew_gb _ none) (by simp) (by simp)⟩
  have HP0 : Aside0 (PBox ((w.alloc (.cells #[.string ⟨#[]⟩, .int .i64 0] 43)).drew) p G) := ⟨blk_drew (blk_alloc hp _)⟩
  have HT0 : Aside0 (((w.alloc (.cells #[.string ⟨#[]⟩, .int .i64 0] 43)).drew).heap[w.heap.size]? = some (.cells #[.string ⟨#[]⟩, .int .i64 0] 43 (0, 0))) := ⟨blk_drew (blk_new w _)⟩
  have PG := Aside0.mk hne
  have TG := Aside0.mk (show w.heap.size ≠ G by omega)
  have cp0 := HP0.out.cell
  have FIN : Aside0 (∀ w2, RdS w0 w2 G l2 → w.grownBy w2 (some G) → w2.heap[w.heap.size]? = some (.cells #[.string ⟨#[]⟩, .int .i64 0] 43 (0, 0)) → RdS w0 ((w2.setCell ⟨w.heap.size, 0, none⟩ (.string x)).setCell ⟨w.heap.size, 1, none⟩ (.int .i64 (IntKind.i64.wrap y))) G l2 ∧ w.grownBy ((w2.setCell ⟨w.heap.size, 0, none⟩ (.string x)).setCell ⟨w.heap.size, 1, none⟩ (.int .i64 (IntKind.i64.wrap y))) (some G) ∧ ((w2.setCell ⟨w.heap.size, 0, none⟩ (.string x)).setCell ⟨w.heap.size, 1, none⟩ (.int .i64 (IntKind.i64.wrap y))).heap[w.heap.size]? = some (.cells #[.string x, .int .i64 (IntKind.i64.wrap y)] 43 (0, 0))) := ⟨fun w2 a b c => ⟨(a.step (gb_setAt w2 w.heap.size 0 _) (fun e => by injection e with e; omega) (fun k e => by injection e with e; have := hs.lt; omega)).step (gb_setAt _ w.heap.size 1 _) (fun e => by injection e with e; omega) (fun k e => by injection e with e; have := hs.lt; omega), gb_new (gb_new b (gb_setAt w2 w.heap.size 0 _) (fun k e => by injection e with e; omega)) (gb_setAt _ w.heap.size 1 _) (fun k e => by injection e with e; omega), blk_set (cs := #[.string x, .int .i64 0]) (blk_set c 0 _) 1 _⟩⟩
  clear hs hp hne hG h1 hl h2 hl1
  go_enter Try.func83, Try.ntmps83
  go_upto_region 1 with (fail)
  refine wp_region_any (by kernel_rfl) ?_
  (try (change wpAny _ _ _ _ _ _ _ (World.drew _)))
  refine wpAny_ready (rs := [0, 2]) (by kernel_rfl) (by simp) ?_
  refine AllReady.cons rfl (fun K hK => ?_) (AllReady.cons rfl (fun K hK => ?_) (AllReady.nil))
  · go_simp
    refine hK _ _ ?_
    clear hK K
    refine wpAny_ready (rs := [1, 2]) (by kernel_rfl) (by simp) ?_
    refine AllReady.cons rfl (fun K hK => ?_) (AllReady.cons rfl (fun K hK => ?_) (AllReady.nil))
    · go_simp
      go_wp2_with (go_at_call 84; refine (C1.out _ HS0.out).mono ?_; rintro E w1 ⟨rfl, hs1, hg1⟩; have HS1 := Aside0.mk hs1; have HG1 := Aside0.mk (gb_trans HG0.out hg1); have HP1 := Aside0.mk (HP0.out.grown hg1 PG.out); have HT1 := Aside0.mk (blk_grown HT0.out hg1 (fun e => by injection e with e; exact TG.out e)); have cp1 := HP1.out.cell; clear hs1 hg1)
      (try (refine hK _ _ ?_; clear hK K))
      refine wpAny_ready (rs := [2]) (by kernel_rfl) (by simp) ?_
      refine AllReady.cons rfl (fun K hK => ?_) (AllReady.nil)
      · go_simp
        refine hK _ _ ?_
        clear hK K
        refine wpAny_ready (rs := [3]) (by kernel_rfl) (by simp) ?_
        refine AllReady.cons rfl (fun K hK => ?_) (AllReady.nil)
        · go_simp
          go_wp2_with (go_at_call 85; refine (C2.out _ HS1.out).mono ?_; rintro E w2 ⟨rfl, hs2, hg2⟩; have HS2 := Aside0.mk hs2; have HG2 := Aside0.mk (gb_trans HG1.out hg2); have HT2 := Aside0.mk (blk_grown HT1.out hg2 (fun e => by injection e with e; exact TG.out e)); have ct0 := blk_cell HT2.out 0; have ct1 := blk_cell HT2.out 1; have ft0 := blk_frozen HT2.out 0; have ft1 := blk_frozen HT2.out 1; clear hs2 hg2)
          (try (refine hK _ _ ?_; clear hK K))
          refine wpAny_ready (rs := [4]) (by kernel_rfl) (by simp) ?_
          refine AllReady.cons rfl (fun K hK => ?_) (AllReady.nil)
          · go_simp
            refine hK _ _ ?_
            clear hK K
            refine wpAny_ready (rs := [5]) (by kernel_rfl) (by simp) ?_
            refine AllReady.cons rfl (fun K hK => ?_) (AllReady.nil)
            · go_simp
              refine hK _ _ ?_
              clear hK K
              refine wpAny_ready (rs := [6]) (by kernel_rfl) (by simp) ?_
              refine AllReady.cons rfl (fun K hK => ?_) (AllReady.nil)
              · go_simp
                refine hK _ _ ?_
                clear hK K
                refine wpAny_done (by kernel_rfl) ?_ _
                go_wp2
                obtain ⟨q1, q2, q3⟩ := FIN.out _ HS2.out HG2.out HT2.out
                exact bodyPost_ret (results_single rfl (.cell _ _ _ _ _ rfl q3 Try.underlying43 rfl (by kernel_rfl) .nil)) rfl (YES.out _ q1 q2)
    · go_simp
      refine hK _ _ ?_
      clear hK K
      refine wpAny_ready (rs := [1]) (by kernel_rfl) (by simp) ?_
      refine AllReady.cons rfl (fun K hK => ?_) (AllReady.nil)
      · go_simp
        go_wp2_with (go_at_call 84; refine (C1.out _ HS0.out).mono ?_; rintro E w1 ⟨rfl, hs1, hg1⟩; have HS1 := Aside0.mk hs1; have HG1 := Aside0.mk (gb_trans HG0.out hg1); have HP1 := Aside0.mk (HP0.out.grown hg1 PG.out); have HT1 := Aside0.mk (blk_grown HT0.out hg1 (fun e => by injection e with e; exact TG.out e)); have cp1 := HP1.out.cell; clear hs1 hg1)
        (try (refine hK _ _ ?_; clear hK K))
        refine wpAny_ready (rs := [3]) (by kernel_rfl) (by simp) ?_
        refine AllReady.cons rfl (fun K hK => ?_) (AllReady.nil)
        · go_simp
          go_wp2_with (go_at_call 85; refine (C2.out _ HS1.out).mono ?_; rintro E w2 ⟨rfl, hs2, hg2⟩; have HS2 := Aside0.mk hs2; have HG2 := Aside0.mk (gb_trans HG1.out hg2); have HT2 := Aside0.mk (blk_grown HT1.out hg2 (fun e => by injection e with e; exact TG.out e)); have ct0 := blk_cell HT2.out 0; have ct1 := blk_cell HT2.out 1; have ft0 := blk_frozen HT2.out 0; have ft1 := blk_frozen HT2.out 1; clear hs2 hg2)
          (try (refine hK _ _ ?_; clear hK K))
          refine wpAny_ready (rs := [4]) (by kernel_rfl) (by simp) ?_
          refine AllReady.cons rfl (fun K hK => ?_) (AllReady.nil)
          · go_simp
            refine hK _ _ ?_
            clear hK K
            refine wpAny_ready (rs := [5]) (by kernel_rfl) (by simp) ?_
            refine AllReady.cons rfl (fun K hK => ?_) (AllReady.nil)
            · go_simp
              refine hK _ _ ?_
              clear hK K
              refine wpAny_ready (rs := [6]) (by kernel_rfl) (by simp) ?_
              refine AllReady.cons rfl (fun K hK => ?_) (AllReady.nil)
              · go_simp
                refine hK _ _ ?_
                clear hK K
                refine wpAny_done (by kernel_rfl) ?_ _
                go_wp2
                obtain ⟨q1, q2, q3⟩ := FIN.out _ HS2.out HG2.out HT2.out
                exact bodyPost_ret (results_single rfl (.cell _ _ _ _ _ rfl q3 Try.underlying43 rfl (by kernel_rfl) .nil)) rfl (YES.out _ q1 q2)
  · go_simp
    refine hK _ _ ?_
    clear hK K
    refine wpAny_ready (rs := [0]) (by kernel_rfl) (by simp) ?_
    refine AllReady.cons rfl (fun K hK => ?_) (AllReady.nil)
    · go_simp
      refine hK _ _ ?_
      clear hK K
      refine wpAny_ready (rs := [1]) (by kernel_rfl) (by simp) ?_
      refine AllReady.cons rfl (fun K hK => ?_) (AllReady.nil)
      · go_simp
        go_wp2_with (go_at_call 84; refine (C1.out _ HS0.out).mono ?_; rintro E w1 ⟨rfl, hs1, hg1⟩; have HS1 := Aside0.mk hs1; have HG1 := Aside0.mk (gb_trans HG0.out hg1); have HP1 := Aside0.mk (HP0.out.grown hg1 PG.out); have HT1 := Aside0.mk (blk_grown HT0.out hg1 (fun e => by injection e with e; exact TG.out e)); have cp1 := HP1.out.cell; clear hs1 hg1)
        (try (refine hK _ _ ?_; clear hK K))
        refine wpAny_ready (rs := [3]) (by kernel_rfl) (by simp) ?_
        refine AllReady.cons rfl (fun K hK => ?_) (AllReady.nil)
        · go_simp
          go_wp2_with (go_at_call 85; refine (C2.out _ HS1.out).mono ?_; rintro E w2 ⟨rfl, hs2, hg2⟩; have HS2 := Aside0.mk hs2; have HG2 := Aside0.mk (gb_trans HG1.out hg2); have HT2 := Aside0.mk (blk_grown HT1.out hg2 (fun e => by injection e with e; exact TG.out e)); have ct0 := blk_cell HT2.out 0; have ct1 := blk_cell HT2.out 1; have ft0 := blk_frozen HT2.out 0; have ft1 := blk_frozen HT2.out 1; clear hs2 hg2)
          (try (refine hK _ _ ?_; clear hK K))
          refine wpAny_ready (rs := [4]) (by kernel_rfl) (by simp) ?_
          refine AllReady.cons rfl (fun K hK => ?_) (AllReady.nil)
          · go_simp
            refine hK _ _ ?_
            clear hK K
            refine wpAny_ready (rs := [5]) (by kernel_rfl) (by simp) ?_
            refine AllReady.cons rfl (fun K hK => ?_) (AllReady.nil)
            · go_simp
              refine hK _ _ ?_
              clear hK K
              refine wpAny_ready (rs := [6]) (by kernel_rfl) (by simp) ?_
              refine AllReady.cons rfl (fun K hK => ?_) (AllReady.nil)
              · go_simp
                refine hK _ _ ?_
                clear hK K
                refine wpAny_done (by kernel_rfl) ?_ _
                go_wp2
                obtain ⟨q1, q2, q3⟩ := FIN.out _ HS2.out HG2.out HT2.out
                exact bodyPost_ret (results_single rfl (.cell _ _ _ _ _ rfl q3 Try.underlying43 rfl (by kernel_rfl) .nil)) rfl (YES.out _ q1 q2)
end Go.Proofs.Ytgihecpobichbaa.Q
-- Written by a program of the session over the translation's print: functions as plain Lean, and that the machine's call comes to them.
namespace Go.Proofs.Ytgihecpobichbaa.Q
open Go.RowKit Go.Proofs.YtgihecpobichbaaW.PrintWords Go.Proofs.YtgihecpobichbaaW.PrintLast Go.Proofs.YtgihecpobichbaaW.PrintMore
attribute [local go_sem] max2_int min2_int max_two min_two max_three min_three max_four min_four   -- for this text's walks alone
set_option linter.unusedVariables false
set_option linter.unusedSimpArgs false

/-! ### code_word: function 66 -/
/-! ### code_Cols_1: function 65 -/
/-! ### api_Column_64: function 64 -/
/-! ### code_Cols: function 23 -/
/-! ### code_Pairs_1: function 69 -/
end Go.Proofs.Ytgihecpobichbaa.Q
-- Written by a program of the session over the translation's print: functions as plain Lean, and that the machine's call comes to them.
namespace Go.Proofs.Ytgihecpobichbaa.Q
open Go.RowKit Go.Proofs.YtgihecpobichbaaW.PrintWords Go.Proofs.YtgihecpobichbaaW.PrintLast Go.Proofs.YtgihecpobichbaaW.PrintMore
attribute [local go_sem] max2_int min2_int max_two min_two max_three min_three max_four min_four   -- for this text's walks alone
set_option linter.unusedVariables false
set_option linter.unusedSimpArgs false

/-! ### api_Pair_68: function 68 -/
/-! ### code_Pairs: function 25 -/
/-! ### value_Check: function 108 -/
mutual
def value_Check.j0 : Nat → Bool → Int → Int → ByteArray → Option (Int)
  | 0, _, _, _, _ => none
  | k + 1, x3, x166000, x166001, x166002 => if x3 = true then (if x166000 = 3 then (value_Check.j1 k false) else (value_Check.j1 k (x166002.toList != ([] : List UInt8)))) else (value_Check.j1 k true)
def value_Check.j1 : Nat → Bool → Option (Int)
  | 0, _ => none
  | k + 1, x45 => if x45 = true then (some 31) else (some 0)
end
def value_Check.f (k : Nat) (a0_0 : Int) (a0_1 : Int) (a0_2 : ByteArray) : Option (Int) := if a0_0 = 0 then (value_Check.j0 k (a0_1 == 0) a0_0 a0_1 a0_2) else (if a0_0 = 1 then (value_Check.j0 k true a0_0 a0_1 a0_2) else (if a0_0 = 2 then (if a0_1 = 0 then (value_Check.j0 k true a0_0 a0_1 a0_2) else (value_Check.j0 k (a0_1 == 1) a0_0 a0_1 a0_2)) else (if a0_0 = 3 then (if a0_1 = 0 then (value_Check.j0 k (decide ((a0_2.size : Int) ≤ 200)) a0_0 a0_1 a0_2) else (value_Check.j0 k false a0_0 a0_1 a0_2)) else (some 30))))
set_option maxHeartbeats 8000000 in
set_option maxRecDepth 100000 in
theorem value_Check.calls (k : Nat) (a0_0 : Int) (a0_1 : Int) (a0_2 : ByteArray) (r : Int) (w : World) (h : value_Check.f k a0_0 a0_1 a0_2 = some r) :
    Calls Try.prog 108 #[.agg #[.int .i64 a0_0, .int .i64 a0_1, .string a0_2]] w fun e w' => e = .returned (.int .i64 r) ∧ Below w.heap.size w w' := by
  have hu116 := Try.underlying116
  have HB := Aside0.mk (Below.refl w.heap.size w)
  have H : (if a0_0 = 0 then (value_Check.j0 k (a0_1 == 0) a0_0 a0_1 a0_2) else (if a0_0 = 1 then (value_Check.j0 k true a0_0 a0_1 a0_2) else (if a0_0 = 2 then (if a0_1 = 0 then (value_Check.j0 k true a0_0 a0_1 a0_2) else (value_Check.j0 k (a0_1 == 1) a0_0 a0_1 a0_2)) else (if a0_0 = 3 then (if a0_1 = 0 then (value_Check.j0 k (decide ((a0_2.size : Int) ≤ 200)) a0_0 a0_1 a0_2) else (value_Check.j0 k false a0_0 a0_1 a0_2)) else (some 30))))) = some r := h
  clear h
  have HC2 := Aside0.mk H
  clear H
  go_enter Try.func108, Try.ntmps108
  go_upto_block 0 with (first | ((with_reducible refine gate_dst (N := 1) rfl ?_); (try (refine gate_guard (by rfl) ?_; dsimp only)); refine box_event ?hg (N := 1) ?hd (cs := #[.int .i64 a0_0, .int .i64 a0_1, .string a0_2]) (t := 116) ?hr ?_; (case hd => rfl); (case hg => rfl); (case hr => first | (go_simp; done) | (go_simp; rfl)); intro gb165 hg w3 hbox hb; have n0_ := Aside0.mk (below_step (by repeat (first | (with_reducible first | exact HB.out | apply below_alloc | apply pw_below_drewN | apply below_drew1) | exact HB.out)) hb); have n1_ := Aside0.mk (hbox); have n2_ := Aside0.mk ((by rw [hg]; exact (below_size (by repeat (first | (with_reducible first | exact HB.out | apply below_alloc | apply pw_below_drewN | apply below_drew1) | exact HB.out))) : w.heap.size ≤ gb165)); have n3_ := Aside0.mk ((by rw [hg]; exact (below_size (by repeat (first | (with_reducible first | exact HB.out | apply below_alloc | apply pw_below_drewN | apply below_drew1) | exact HB.out))) : w.heap.size ≤ gb165)); clear HB; have HB := n0_; have BK165 := n1_; have GW165 := n2_; have GE165 := n3_; clear n0_ n1_ n2_ n3_; clear hb hbox hg; obtain ⟨hcz4_0, hcz4_1, hcz4_2, hfz4_0, hfz4_1, hfz4_2⟩ := bf3 BK165.out))
  (try simp only [Act.put, List.setIfInBounds_toArray, List.set_cons_zero, List.set_cons_succ])
  go_cut [3] (fun v3 wc => ∃ (kq : Nat) (x3_1 : Bool), v3 = .bool x3_1 ∧ Aside0 (value_Check.j0 kq x3_1 a0_0 a0_1 a0_2 = some r) ∧ Aside0 (kq ≤ k) ∧ Aside0 (wc.heap[gb165]? = some (.cells #[.int .i64 a0_0, .int .i64 a0_1, .string a0_2] 116 (0, 0))) ∧ Aside0 (Below w.heap.size w wc))
  case first =>
    have H := HC2.out
    clear HC2
    by_cases c5 : a0_0 = 0
    · rw [if_pos c5] at H
      have c5b0 : (a0_0 == 0) = true := beq_iff_eq.mpr c5
      have c5b1 : (a0_0 != 0) = false := bne_eq_false_iff_eq.mpr c5
      clear c5
      (first | rw [c5b0] | (simp only [i64_w, i32_w]; rw [c5b0]) | skip)
      have H' := Aside0.mk H
      clear H
      obtain ⟨hcz6_0, hcz6_1, hcz6_2, hfz6_0, hfz6_1, hfz6_2⟩ := bf3 BK165.out
      go_wp2
      go_meet
      case rel => exact ⟨_, ((a0_1 == 0)), (by first | rfl | (simp; done) | (simp [*]; done) | (simp; rw [Bool.eq_iff_iff]; simp; done)), H', ⟨by first | omega | exact Nat.le_refl _⟩, ⟨by (with_reducible repeat (first | refine blk_drewN ?_ _ | refine blk_drew ?_ | refine blk_alloc ?_ _)); exact BK165.out⟩, ⟨by repeat (first | (with_reducible first | exact HB.out | apply below_alloc | apply pw_below_drewN | apply below_drew1 | refine below_set ?_ GE165.out) | exact HB.out)⟩⟩
    · rw [if_neg c5] at H
      have c5b0 : (a0_0 == 0) = false := beq_eq_false_iff_ne.mpr c5
      have c5b1 : (a0_0 != 0) = true := bne_iff_ne.mpr c5
      (first | rw [c5b0] | (simp only [i64_w, i32_w]; rw [c5b0]) | skip)
      by_cases c7 : a0_0 = 1
      · rw [if_pos c7] at H
        have c7b0 : (a0_0 == 1) = true := beq_iff_eq.mpr c7
        have c7b1 : (a0_0 != 1) = false := bne_eq_false_iff_eq.mpr c7
        clear c7
        have H' := Aside0.mk H
        clear H
        go_wp2
        go_meet
        case rel => exact ⟨_, (true), (by first | rfl | (simp; done) | (simp [*]; done) | (simp; rw [Bool.eq_iff_iff]; simp; done)), H', ⟨by first | omega | exact Nat.le_refl _⟩, ⟨by (with_reducible repeat (first | refine blk_drewN ?_ _ | refine blk_drew ?_ | refine blk_alloc ?_ _)); exact BK165.out⟩, ⟨by repeat (first | (with_reducible first | exact HB.out | apply below_alloc | apply pw_below_drewN | apply below_drew1 | refine below_set ?_ GE165.out) | exact HB.out)⟩⟩
      · rw [if_neg c7] at H
        have c7b0 : (a0_0 == 1) = false := beq_eq_false_iff_ne.mpr c7
        have c7b1 : (a0_0 != 1) = true := bne_iff_ne.mpr c7
        by_cases c8 : a0_0 = 2
        · rw [if_pos c8] at H
          have c8b0 : (a0_0 == 2) = true := beq_iff_eq.mpr c8
          have c8b1 : (a0_0 != 2) = false := bne_eq_false_iff_eq.mpr c8
          clear c8
          by_cases c9 : a0_1 = 0
          · rw [if_pos c9] at H
            have c9b0 : (a0_1 == 0) = true := beq_iff_eq.mpr c9
            have c9b1 : (a0_1 != 0) = false := bne_eq_false_iff_eq.mpr c9
            clear c9
            have H' := Aside0.mk H
            clear H
            obtain ⟨hcz10_0, hcz10_1, hcz10_2, hfz10_0, hfz10_1, hfz10_2⟩ := bf3 BK165.out
            go_wp2
            go_meet
            case rel => exact ⟨_, (true), (by first | rfl | (simp; done) | (simp [*]; done) | (simp; rw [Bool.eq_iff_iff]; simp; done)), H', ⟨by first | omega | exact Nat.le_refl _⟩, ⟨by (with_reducible repeat (first | refine blk_drewN ?_ _ | refine blk_drew ?_ | refine blk_alloc ?_ _)); exact BK165.out⟩, ⟨by repeat (first | (with_reducible first | exact HB.out | apply below_alloc | apply pw_below_drewN | apply below_drew1 | refine below_set ?_ GE165.out) | exact HB.out)⟩⟩
          · rw [if_neg c9] at H
            have c9b0 : (a0_1 == 0) = false := beq_eq_false_iff_ne.mpr c9
            have c9b1 : (a0_1 != 0) = true := bne_iff_ne.mpr c9
            have H' := Aside0.mk H
            clear H
            obtain ⟨hcz11_0, hcz11_1, hcz11_2, hfz11_0, hfz11_1, hfz11_2⟩ := bf3 BK165.out
            go_wp2
            go_meet
            case rel => exact ⟨_, ((a0_1 == 1)), (by first | rfl | (simp; done) | (simp [*]; done) | (simp; rw [Bool.eq_iff_iff]; simp; done)), H', ⟨by first | omega | exact Nat.le_refl _⟩, ⟨by (with_reducible repeat (first | refine blk_drewN ?_ _ | refine blk_drew ?_ | refine blk_alloc ?_ _)); exact BK165.out⟩, ⟨by repeat (first | (with_reducible first | exact HB.out | apply below_alloc | apply pw_below_drewN | apply below_drew1 | refine below_set ?_ GE165.out) | exact HB.out)⟩⟩
        · rw [if_neg c8] at H
          have c8b0 : (a0_0 == 2) = false := beq_eq_false_iff_ne.mpr c8
          have c8b1 : (a0_0 != 2) = true := bne_iff_ne.mpr c8
          by_cases c12 : a0_0 = 3
          · rw [if_pos c12] at H
            have c12b0 : (a0_0 == 3) = true := beq_iff_eq.mpr c12
            have c12b1 : (a0_0 != 3) = false := bne_eq_false_iff_eq.mpr c12
            clear c12
            by_cases c13 : a0_1 = 0
            · rw [if_pos c13] at H
              have c13b0 : (a0_1 == 0) = true := beq_iff_eq.mpr c13
              have c13b1 : (a0_1 != 0) = false := bne_eq_false_iff_eq.mpr c13
              clear c13
              have H' := Aside0.mk H
              clear H
              obtain ⟨hcz14_0, hcz14_1, hcz14_2, hfz14_0, hfz14_1, hfz14_2⟩ := bf3 BK165.out
              go_wp2
              go_meet
              case rel => exact ⟨_, (decide ((a0_2.size : Int) ≤ 200)), (by first | rfl | (simp; done) | (simp [*]; done) | (simp; rw [Bool.eq_iff_iff]; simp; done)), H', ⟨by first | omega | exact Nat.le_refl _⟩, ⟨by (with_reducible repeat (first | refine blk_drewN ?_ _ | refine blk_drew ?_ | refine blk_alloc ?_ _)); exact BK165.out⟩, ⟨by repeat (first | (with_reducible first | exact HB.out | apply below_alloc | apply pw_below_drewN | apply below_drew1 | refine below_set ?_ GE165.out) | exact HB.out)⟩⟩
            · rw [if_neg c13] at H
              have c13b0 : (a0_1 == 0) = false := beq_eq_false_iff_ne.mpr c13
              have c13b1 : (a0_1 != 0) = true := bne_iff_ne.mpr c13
              have H' := Aside0.mk H
              clear H
              obtain ⟨hcz15_0, hcz15_1, hcz15_2, hfz15_0, hfz15_1, hfz15_2⟩ := bf3 BK165.out
              go_wp2
              go_meet
              case rel => exact ⟨_, (false), (by first | rfl | (simp; done) | (simp [*]; done) | (simp; rw [Bool.eq_iff_iff]; simp; done)), H', ⟨by first | omega | exact Nat.le_refl _⟩, ⟨by (with_reducible repeat (first | refine blk_drewN ?_ _ | refine blk_drew ?_ | refine blk_alloc ?_ _)); exact BK165.out⟩, ⟨by repeat (first | (with_reducible first | exact HB.out | apply below_alloc | apply pw_below_drewN | apply below_drew1 | refine below_set ?_ GE165.out) | exact HB.out)⟩⟩
          · rw [if_neg c12] at H
            have c12b0 : (a0_0 == 3) = false := beq_eq_false_iff_ne.mpr c12
            have c12b1 : (a0_0 != 3) = true := bne_iff_ne.mpr c12
            obtain rfl := Option.some.inj H
            go_wp2
            go_ret
            exact ⟨by first | rfl | (simp [errW_none, errW_some] <;> rfl) | (simp [*, errW_none, errW_some] <;> rfl), by repeat (first | (with_reducible first | exact HB.out | apply below_alloc | apply pw_below_drewN | apply below_drew1 | refine below_set ?_ GE165.out) | exact HB.out)⟩
  case rest =>
    clear HC2
    try clear c1
    try clear p2
    try clear c5
    try clear c5b0
    try clear c5b1
    try clear c7
    try clear c7b0
    try clear c7b1
    try clear c8
    try clear c8b0
    try clear c8b1
    try clear c9
    try clear c9b0
    try clear c9b1
    try clear c10
    try clear c12
    try clear c12b0
    try clear c12b1
    try clear c13
    try clear c13b0
    try clear c13b1
    try clear hcz10_0
    try clear hcz10_1
    try clear hcz10_2
    try clear hcz11_0
    try clear hcz11_1
    try clear hcz11_2
    try clear hcz14_0
    try clear hcz14_1
    try clear hcz14_2
    try clear hcz15_0
    try clear hcz15_1
    try clear hcz15_2
    try clear hcz4_0
    try clear hcz4_1
    try clear hcz4_2
    try clear hcz6_0
    try clear hcz6_1
    try clear hcz6_2
    try clear hfz10_0
    try clear hfz10_1
    try clear hfz10_2
    try clear hfz11_0
    try clear hfz11_1
    try clear hfz11_2
    try clear hfz14_0
    try clear hfz14_1
    try clear hfz14_2
    try clear hfz15_0
    try clear hfz15_1
    try clear hfz15_2
    try clear hfz4_0
    try clear hfz4_1
    try clear hfz4_2
    try clear hfz6_0
    try clear hfz6_1
    try clear hfz6_2
    obtain ⟨kq, x3_1, rfl, HA, HJ1, BK165, HB⟩ := hcut
    cases kq with
    | zero => exact absurd HA.out (by simp [value_Check.j0])
    | succ kj1 =>
      have H := HA.out
      clear HA
      simp only [value_Check.j0] at H
      have HC16 := Aside0.mk H
      clear H
      go_upto_region 11 with (fail)
      go_cut [45] (fun v45 wc => ∃ (kq : Nat) (x45_15 : Bool), v45 = .bool x45_15 ∧ Aside0 (value_Check.j1 kq x45_15 = some r) ∧ Aside0 (kq ≤ kj1) ∧ Aside0 (wc.heap[gb165]? = some (.cells #[.int .i64 a0_0, .int .i64 a0_1, .string a0_2] 116 (0, 0))) ∧ Aside0 (Below w.heap.size w wc))
      case first =>
        have H := HC16.out
        clear HC16
        by_cases c17 : x3_1 = true
        · subst c17
          have H1 : (if a0_0 = 3 then (value_Check.j1 kj1 false) else (value_Check.j1 kj1 (a0_2.toList != ([] : List UInt8)))) = some r := by rw [if_pos rfl] at H; exact H
          clear H
          have H := H1
          clear H1
          by_cases c18 : a0_0 = 3
          · rw [if_pos c18] at H
            have c18b0 : (a0_0 == 3) = true := beq_iff_eq.mpr c18
            have c18b1 : (a0_0 != 3) = false := bne_eq_false_iff_eq.mpr c18
            clear c18
            (first | rw [c18b0] | (simp only [i64_w, i32_w]; rw [c18b0]) | skip)
            have H' := Aside0.mk H
            clear H
            obtain ⟨hcz19_0, hcz19_1, hcz19_2, hfz19_0, hfz19_1, hfz19_2⟩ := bf3 BK165.out
            go_wp2
            go_meet
            case rel => exact ⟨_, (false), (by first | rfl | (simp; done) | (simp [*]; done) | (simp; rw [Bool.eq_iff_iff]; simp; done)), H', ⟨by have := HJ1.out; first | omega | exact Nat.le_refl _⟩, ⟨by (with_reducible repeat (first | refine blk_drewN ?_ _ | refine blk_drew ?_ | refine blk_alloc ?_ _)); exact BK165.out⟩, ⟨by repeat (first | (with_reducible first | exact HB.out | apply below_alloc | apply pw_below_drewN | apply below_drew1 | refine below_set ?_ GE165.out) | exact HB.out)⟩⟩
          · rw [if_neg c18] at H
            have c18b0 : (a0_0 == 3) = false := beq_eq_false_iff_ne.mpr c18
            have c18b1 : (a0_0 != 3) = true := bne_iff_ne.mpr c18
            (first | rw [c18b0] | (simp only [i64_w, i32_w]; rw [c18b0]) | skip)
            have H' := Aside0.mk H
            clear H
            obtain ⟨hcz20_0, hcz20_1, hcz20_2, hfz20_0, hfz20_1, hfz20_2⟩ := bf3 BK165.out
            go_wp2
            go_meet
            case rel => exact ⟨_, ((a0_2.toList != ([] : List UInt8))), (by first | rfl | (simp; done) | (simp [*]; done) | (simp; rw [Bool.eq_iff_iff]; simp; done)), H', ⟨by have := HJ1.out; first | omega | exact Nat.le_refl _⟩, ⟨by (with_reducible repeat (first | refine blk_drewN ?_ _ | refine blk_drew ?_ | refine blk_alloc ?_ _)); exact BK165.out⟩, ⟨by repeat (first | (with_reducible first | exact HB.out | apply below_alloc | apply pw_below_drewN | apply below_drew1 | refine below_set ?_ GE165.out) | exact HB.out)⟩⟩
        · replace c17 := Bool.eq_false_iff.mpr c17
          subst c17
          have H1 : (value_Check.j1 kj1 true) = some r := by rw [if_neg (show ¬ (false = true) by decide)] at H; exact H
          clear H
          have H := H1
          clear H1
          have H' := Aside0.mk H
          clear H
          go_wp2
          go_meet
          case rel => exact ⟨_, (true), (by first | rfl | (simp; done) | (simp [*]; done) | (simp; rw [Bool.eq_iff_iff]; simp; done)), H', ⟨by have := HJ1.out; first | omega | exact Nat.le_refl _⟩, ⟨by (with_reducible repeat (first | refine blk_drewN ?_ _ | refine blk_drew ?_ | refine blk_alloc ?_ _)); exact BK165.out⟩, ⟨by repeat (first | (with_reducible first | exact HB.out | apply below_alloc | apply pw_below_drewN | apply below_drew1 | refine below_set ?_ GE165.out) | exact HB.out)⟩⟩
      case rest =>
        clear HC16
        try clear c1
        try clear p2
        try clear c5
        try clear c5b0
        try clear c5b1
        try clear c7
        try clear c7b0
        try clear c7b1
        try clear c8
        try clear c8b0
        try clear c8b1
        try clear c9
        try clear c9b0
        try clear c9b1
        try clear c10
        try clear c12
        try clear c12b0
        try clear c12b1
        try clear c13
        try clear c13b0
        try clear c13b1
        try clear c17
        try clear c18
        try clear c18b0
        try clear c18b1
        try clear hcz10_0
        try clear hcz10_1
        try clear hcz10_2
        try clear hcz11_0
        try clear hcz11_1
        try clear hcz11_2
        try clear hcz14_0
        try clear hcz14_1
        try clear hcz14_2
        try clear hcz15_0
        try clear hcz15_1
        try clear hcz15_2
        try clear hcz19_0
        try clear hcz19_1
        try clear hcz19_2
        try clear hcz20_0
        try clear hcz20_1
        try clear hcz20_2
        try clear hcz4_0
        try clear hcz4_1
        try clear hcz4_2
        try clear hcz6_0
        try clear hcz6_1
        try clear hcz6_2
        try clear hfz10_0
        try clear hfz10_1
        try clear hfz10_2
        try clear hfz11_0
        try clear hfz11_1
        try clear hfz11_2
        try clear hfz14_0
        try clear hfz14_1
        try clear hfz14_2
        try clear hfz15_0
        try clear hfz15_1
        try clear hfz15_2
        try clear hfz19_0
        try clear hfz19_1
        try clear hfz19_2
        try clear hfz20_0
        try clear hfz20_1
        try clear hfz20_2
        try clear hfz4_0
        try clear hfz4_1
        try clear hfz4_2
        try clear hfz6_0
        try clear hfz6_1
        try clear hfz6_2
        try clear p2
        obtain ⟨kq, x45_15, rfl, HA, HJ15, BK165, HB⟩ := hcut
        cases kq with
        | zero => exact absurd HA.out (by simp [value_Check.j1])
        | succ kj15 =>
          have H := HA.out
          clear HA
          simp only [value_Check.j1] at H
          by_cases c21 : x45_15 = true
          · subst c21
            have H1 : (some 31) = some r := by rw [if_pos rfl] at H; exact H
            clear H
            have H := H1
            clear H1
            obtain rfl := Option.some.inj H
            go_wp2
            go_ret
            exact ⟨by first | rfl | (simp [errW_none, errW_some] <;> rfl) | (simp [*, errW_none, errW_some] <;> rfl), by repeat (first | (with_reducible first | exact HB.out | apply below_alloc | apply pw_below_drewN | apply below_drew1 | refine below_set ?_ GE165.out) | exact HB.out)⟩
          · replace c21 := Bool.eq_false_iff.mpr c21
            subst c21
            have H1 : (some 0) = some r := by rw [if_neg (show ¬ (false = true) by decide)] at H; exact H
            clear H
            have H := H1
            clear H1
            obtain rfl := Option.some.inj H
            go_wp2
            go_ret
            exact ⟨by first | rfl | (simp [errW_none, errW_some] <;> rfl) | (simp [*, errW_none, errW_some] <;> rfl), by repeat (first | (with_reducible first | exact HB.out | apply below_alloc | apply pw_below_drewN | apply below_drew1 | refine below_set ?_ GE165.out) | exact HB.out)⟩

/-! ### value_Row: function 56 -/
def value_Row.l0 : Nat → List (S116) → Int → Int → Option (Bool)
  | 0, _, _, _ => none
  | k + 1, x5, x6, x7 => if x7 < x6 then (if 0 ≤ x7 then (if x7 < (x5.length : Int) then (if x7 = 12 then (some false) else ((value_Check.f k ((rd_T116 x5 x7).f0) ((rd_T116 x5 x7).f1) ((rd_T116 x5 x7).f2)).bind fun t168 => (if t168 = 0 then (value_Row.l0 k x5 x6 (wrap64 (x7 + 1))) else (some false)))) else (none)) else (none)) else (some true)
def value_Row.f (k : Nat) (l0 : List (S116)) : Option (Bool) := value_Row.l0 k l0 (l0.length : Int) 0
set_option maxHeartbeats 8000000 in
set_option maxRecDepth 100000 in
theorem value_Row.calls (k : Nat) (A0 : Option Addr) (c0 : Nat) (l0 : List (S116)) (r : Bool) (w : World) (hr0 : Kd.C k116 w A0 l0.length l0) (hc0 : l0.length ≤ c0) (h : value_Row.f k l0 = some r) :
    Calls Try.prog 56 #[.slice A0 l0.length c0] w fun e w' => e = .returned (.bool r) ∧ Below w.heap.size w w' := by
  have hu116 := Try.underlying116
  have HR0 := Aside0.mk hr0
  have HC0 := Aside0.mk hc0
  clear hr0 hc0
  have HB := Aside0.mk (Below.refl w.heap.size w)
  have H : (value_Row.l0 k l0 (l0.length : Int) 0) = some r := h
  clear h
  have H' := Aside0.mk H
  clear H
  go_enter Try.func56, Try.ntmps56
  go_wp2
  go_loopg [7] k (fun kq v7 w' => ∃ (x7_1 : Int), v7 = .int .i64 x7_1 ∧ Aside0 (value_Row.l0 kq l0 (l0.length : Int) x7_1 = some r) ∧ Aside0 (kq ≤ k) ∧ Aside0 (Below w.heap.size w w'))
  case atStart => exact ⟨(0), (by first | rfl | (simp; done) | (simp [*]; done) | (simp; rw [Bool.eq_iff_iff]; simp; done)), H', ⟨Nat.le_refl _⟩, ⟨by repeat (first | (with_reducible first | exact HB.out | apply below_alloc | apply pw_below_drewN | apply below_drew1) | exact HB.out)⟩⟩
  case round =>
    clear H'
    obtain ⟨x7_1, rfl, HA, HK1, HB⟩ := hrel
    cases gk with
    | zero => exact absurd HA.out (by simp [value_Row.l0])
    | succ k1 =>
      have H := HA.out
      clear HA
      simp only [value_Row.l0] at H
      by_cases c2 : x7_1 < (l0.length : Int)
      · rw [if_pos c2] at H
        have c2b0 : decide (x7_1 < (l0.length : Int)) = true := decide_eq_true c2
        clear c2
        by_cases c3 : 0 ≤ x7_1
        · rw [if_pos c3] at H
          have c3b0 : decide (0 ≤ x7_1) = true := decide_eq_true c3
          clear c3
          by_cases c4 : x7_1 < (l0.length : Int)
          · rw [if_pos c4] at H
            have c4b0 : decide (x7_1 < (l0.length : Int)) = true := decide_eq_true c4
            clear c4
            by_cases c5 : x7_1 = 12
            · rw [if_pos c5] at H
              have c5b0 : (x7_1 == 12) = true := beq_iff_eq.mpr c5
              have c5b1 : (x7_1 != 12) = false := bne_eq_false_iff_eq.mpr c5
              clear c5
              obtain rfl := Option.some.inj H
              have p166 : 0 ≤ (x7_1 : Int) := of_decide_eq_true (by first | (with_reducible assumption) | assumption)
              have q166 : x7_1 < (l0.length : Int) := of_decide_eq_true (by first | (with_reducible assumption) | assumption)
              obtain ⟨ad166, e166, hx166_0, hx166_1, hx166_2⟩ := at_T116 HR0.out x7_1 p166 q166
              cases e166
              replace hx166_0 := (HB.out.cell (World.block_lt_of_cell? w _ hx166_0)).trans hx166_0
              replace hx166_1 := (HB.out.cell (World.block_lt_of_cell? w _ hx166_1)).trans hx166_1
              replace hx166_2 := (HB.out.cell (World.block_lt_of_cell? w _ hx166_2)).trans hx166_2
              replace p166 := eq_true p166
              replace q166 := eq_true q166
              go_wp2_with (first | ((with_reducible refine gate_dst (N := 4) rfl ?_); refine box_event ?hg (N := 4) ?hd (cs := #[.int .i64 0, .int .i64 0, .string (⟨#[]⟩ : ByteArray)]) (t := 116) ?hr ?_; (case hd => rfl); (case hg => rfl); (case hr => first | (go_simp; done) | (go_simp; rfl)); intro gb167 hg w6 hbox hb; have n0_ := Aside0.mk (below_step (by repeat (first | (with_reducible first | exact HB.out | apply below_alloc | apply pw_below_drewN | apply below_drew1) | exact HB.out)) hb); have n1_ := Aside0.mk (hbox); have n2_ := Aside0.mk ((by rw [hg]; exact (below_size (by repeat (first | (with_reducible first | exact HB.out | apply below_alloc | apply pw_below_drewN | apply below_drew1) | exact HB.out))) : w.heap.size ≤ gb167)); have n3_ := Aside0.mk ((by rw [hg]; exact (below_size (by repeat (first | (with_reducible first | exact HB.out | apply below_alloc | apply pw_below_drewN | apply below_drew1) | exact HB.out))) : w.heap.size ≤ gb167)); clear HB; have HB := n0_; have BK167 := n1_; have GW167 := n2_; have GE167 := n3_; clear n0_ n1_ n2_ n3_; clear hb hbox hg; obtain ⟨hcz7_0, hcz7_1, hcz7_2, hfz7_0, hfz7_1, hfz7_2⟩ := bf3 BK167.out))
              go_ret
              exact ⟨by first | rfl | (simp [errW_none, errW_some] <;> rfl) | (simp [*, errW_none, errW_some] <;> rfl), by repeat (first | (with_reducible first | exact HB.out | apply below_alloc | apply pw_below_drewN | apply below_drew1 | refine below_set ?_ GE167.out) | exact HB.out)⟩
            · rw [if_neg c5] at H
              have c5b0 : (x7_1 == 12) = false := beq_eq_false_iff_ne.mpr c5
              have c5b1 : (x7_1 != 12) = true := bne_iff_ne.mpr c5
              replace H := Option.bind_eq_some_iff.mp H
              obtain ⟨t168, A80, H⟩ := H
              replace H : (if t168 = 0 then (value_Row.l0 k1 l0 (l0.length : Int) (wrap64 (x7_1 + 1))) else (some false)) = some r := H
              have A8 := Aside0.mk A80
              clear A80
              by_cases c9 : t168 = 0
              · rw [if_pos c9] at H
                have c9b0 : (t168 == 0) = true := beq_iff_eq.mpr c9
                have c9b1 : (t168 != 0) = false := bne_eq_false_iff_eq.mpr c9
                clear c9
                have H' := Aside0.mk H
                clear H
                have p166 : 0 ≤ (x7_1 : Int) := of_decide_eq_true (by first | (with_reducible assumption) | assumption)
                have q166 : x7_1 < (l0.length : Int) := of_decide_eq_true (by first | (with_reducible assumption) | assumption)
                obtain ⟨ad166, e166, hx166_0, hx166_1, hx166_2⟩ := at_T116 HR0.out x7_1 p166 q166
                cases e166
                replace hx166_0 := (HB.out.cell (World.block_lt_of_cell? w _ hx166_0)).trans hx166_0
                replace hx166_1 := (HB.out.cell (World.block_lt_of_cell? w _ hx166_1)).trans hx166_1
                replace hx166_2 := (HB.out.cell (World.block_lt_of_cell? w _ hx166_2)).trans hx166_2
                replace p166 := eq_true p166
                replace q166 := eq_true q166
                go_wp2_with (first | ((with_reducible refine gate_dst (N := 4) rfl ?_); refine box_event ?hg (N := 4) ?hd (cs := #[.int .i64 0, .int .i64 0, .string (⟨#[]⟩ : ByteArray)]) (t := 116) ?hr ?_; (case hd => rfl); (case hg => rfl); (case hr => first | (go_simp; done) | (go_simp; rfl)); intro gb167 hg w10 hbox hb; have n0_ := Aside0.mk (below_step (by repeat (first | (with_reducible first | exact HB.out | apply below_alloc | apply pw_below_drewN | apply below_drew1) | exact HB.out)) hb); have n1_ := Aside0.mk (hbox); have n2_ := Aside0.mk ((by rw [hg]; exact (below_size (by repeat (first | (with_reducible first | exact HB.out | apply below_alloc | apply pw_below_drewN | apply below_drew1) | exact HB.out))) : w.heap.size ≤ gb167)); have n3_ := Aside0.mk ((by rw [hg]; exact (below_size (by repeat (first | (with_reducible first | exact HB.out | apply below_alloc | apply pw_below_drewN | apply below_drew1) | exact HB.out))) : w.heap.size ≤ gb167)); clear HB; have HB := n0_; have BK167 := n1_; have GW167 := n2_; have GE167 := n3_; clear n0_ n1_ n2_ n3_; clear hb hbox hg; obtain ⟨hcz11_0, hcz11_1, hcz11_2, hfz11_0, hfz11_1, hfz11_2⟩ := bf3 BK167.out) | (go_at_call 108; (with_reducible refine (value_Check.calls k1 ((rd_T116 l0 x7_1).f0) ((rd_T116 l0 x7_1).f1) ((rd_T116 l0 x7_1).f2) t168 _ A8.out).mono ?_); rintro e w12 ⟨rfl, hb⟩; have n0_ := Aside0.mk (blk_below (g := gb167) (o := .cells #[.int .i64 ((rd_T116 l0 x7_1).f0), .int .i64 ((rd_T116 l0 x7_1).f1), .string ((rd_T116 l0 x7_1).f2)] 116 (0, 0)) (by (with_reducible repeat (first | refine blk_drewN ?_ _ | refine blk_drew ?_ | refine blk_alloc ?_ _)); refine blk_put (cs := #[.int .i64 ((rd_T116 l0 x7_1).f0), .int .i64 ((rd_T116 l0 x7_1).f1), .string (⟨#[]⟩ : ByteArray)]) ?_ 2 _ rfl; (with_reducible repeat (first | refine blk_drewN ?_ _ | refine blk_drew ?_ | refine blk_alloc ?_ _)); refine blk_put (cs := #[.int .i64 ((rd_T116 l0 x7_1).f0), .int .i64 0, .string (⟨#[]⟩ : ByteArray)]) ?_ 1 _ rfl; (with_reducible repeat (first | refine blk_drewN ?_ _ | refine blk_drew ?_ | refine blk_alloc ?_ _)); refine blk_put (cs := #[.int .i64 0, .int .i64 0, .string (⟨#[]⟩ : ByteArray)]) ?_ 0 _ rfl; (with_reducible repeat (first | refine blk_drewN ?_ _ | refine blk_drew ?_ | refine blk_alloc ?_ _)); exact BK167.out) hb); have n1_ := Aside0.mk (below_step (by repeat (first | (with_reducible first | exact HB.out | apply below_alloc | apply pw_below_drewN | apply below_drew1 | refine below_set ?_ GE167.out) | exact HB.out)) hb); clear BK167; clear HB; have BK167 := n0_; have HB := n1_; clear n0_ n1_; (try clear hb); (try clear hb2); (try clear hk); (try clear hi)))
                go_roundg k1
                case measure => have := HK1.out; omega
                case rel => exact ⟨(wrap64 (x7_1 + 1)), (by first | rfl | (simp; done) | (simp [*]; done) | (simp; rw [Bool.eq_iff_iff]; simp; done)), H', ⟨by have := HK1.out; omega⟩, ⟨by repeat (first | (with_reducible first | exact HB.out | apply below_alloc | apply pw_below_drewN | apply below_drew1 | refine below_set ?_ GE167.out) | exact HB.out)⟩⟩
              · rw [if_neg c9] at H
                have c9b0 : (t168 == 0) = false := beq_eq_false_iff_ne.mpr c9
                have c9b1 : (t168 != 0) = true := bne_iff_ne.mpr c9
                obtain rfl := Option.some.inj H
                have p166 : 0 ≤ (x7_1 : Int) := of_decide_eq_true (by first | (with_reducible assumption) | assumption)
                have q166 : x7_1 < (l0.length : Int) := of_decide_eq_true (by first | (with_reducible assumption) | assumption)
                obtain ⟨ad166, e166, hx166_0, hx166_1, hx166_2⟩ := at_T116 HR0.out x7_1 p166 q166
                cases e166
                replace hx166_0 := (HB.out.cell (World.block_lt_of_cell? w _ hx166_0)).trans hx166_0
                replace hx166_1 := (HB.out.cell (World.block_lt_of_cell? w _ hx166_1)).trans hx166_1
                replace hx166_2 := (HB.out.cell (World.block_lt_of_cell? w _ hx166_2)).trans hx166_2
                replace p166 := eq_true p166
                replace q166 := eq_true q166
                go_wp2_with (first | ((with_reducible refine gate_dst (N := 4) rfl ?_); refine box_event ?hg (N := 4) ?hd (cs := #[.int .i64 0, .int .i64 0, .string (⟨#[]⟩ : ByteArray)]) (t := 116) ?hr ?_; (case hd => rfl); (case hg => rfl); (case hr => first | (go_simp; done) | (go_simp; rfl)); intro gb167 hg w13 hbox hb; have n0_ := Aside0.mk (below_step (by repeat (first | (with_reducible first | exact HB.out | apply below_alloc | apply pw_below_drewN | apply below_drew1) | exact HB.out)) hb); have n1_ := Aside0.mk (hbox); have n2_ := Aside0.mk ((by rw [hg]; exact (below_size (by repeat (first | (with_reducible first | exact HB.out | apply below_alloc | apply pw_below_drewN | apply below_drew1) | exact HB.out))) : w.heap.size ≤ gb167)); have n3_ := Aside0.mk ((by rw [hg]; exact (below_size (by repeat (first | (with_reducible first | exact HB.out | apply below_alloc | apply pw_below_drewN | apply below_drew1) | exact HB.out))) : w.heap.size ≤ gb167)); clear HB; have HB := n0_; have BK167 := n1_; have GW167 := n2_; have GE167 := n3_; clear n0_ n1_ n2_ n3_; clear hb hbox hg; obtain ⟨hcz14_0, hcz14_1, hcz14_2, hfz14_0, hfz14_1, hfz14_2⟩ := bf3 BK167.out) | (go_at_call 108; (with_reducible refine (value_Check.calls k1 ((rd_T116 l0 x7_1).f0) ((rd_T116 l0 x7_1).f1) ((rd_T116 l0 x7_1).f2) t168 _ A8.out).mono ?_); rintro e w15 ⟨rfl, hb⟩; have n0_ := Aside0.mk (blk_below (g := gb167) (o := .cells #[.int .i64 ((rd_T116 l0 x7_1).f0), .int .i64 ((rd_T116 l0 x7_1).f1), .string ((rd_T116 l0 x7_1).f2)] 116 (0, 0)) (by (with_reducible repeat (first | refine blk_drewN ?_ _ | refine blk_drew ?_ | refine blk_alloc ?_ _)); refine blk_put (cs := #[.int .i64 ((rd_T116 l0 x7_1).f0), .int .i64 ((rd_T116 l0 x7_1).f1), .string (⟨#[]⟩ : ByteArray)]) ?_ 2 _ rfl; (with_reducible repeat (first | refine blk_drewN ?_ _ | refine blk_drew ?_ | refine blk_alloc ?_ _)); refine blk_put (cs := #[.int .i64 ((rd_T116 l0 x7_1).f0), .int .i64 0, .string (⟨#[]⟩ : ByteArray)]) ?_ 1 _ rfl; (with_reducible repeat (first | refine blk_drewN ?_ _ | refine blk_drew ?_ | refine blk_alloc ?_ _)); refine blk_put (cs := #[.int .i64 0, .int .i64 0, .string (⟨#[]⟩ : ByteArray)]) ?_ 0 _ rfl; (with_reducible repeat (first | refine blk_drewN ?_ _ | refine blk_drew ?_ | refine blk_alloc ?_ _)); exact BK167.out) hb); have n1_ := Aside0.mk (below_step (by repeat (first | (with_reducible first | exact HB.out | apply below_alloc | apply pw_below_drewN | apply below_drew1 | refine below_set ?_ GE167.out) | exact HB.out)) hb); clear BK167; clear HB; have BK167 := n0_; have HB := n1_; clear n0_ n1_; (try clear hb); (try clear hb2); (try clear hk); (try clear hi)))
                go_ret
                exact ⟨by first | rfl | (simp [errW_none, errW_some] <;> rfl) | (simp [*, errW_none, errW_some] <;> rfl), by repeat (first | (with_reducible first | exact HB.out | apply below_alloc | apply pw_below_drewN | apply below_drew1 | refine below_set ?_ GE167.out) | exact HB.out)⟩
          · rw [if_neg c4] at H
            exact absurd H (by simp)
        · rw [if_neg c3] at H
          exact absurd H (by simp)
      · rw [if_neg c2] at H
        have c2b0 : decide (x7_1 < (l0.length : Int)) = false := decide_eq_false c2
        clear c2
        obtain rfl := Option.some.inj H
        go_wp2
        go_ret
        exact ⟨by first | rfl | (simp [errW_none, errW_some] <;> rfl) | (simp [*, errW_none, errW_some] <;> rfl), by repeat (first | (with_reducible first | exact HB.out | apply below_alloc | apply pw_below_drewN | apply below_drew1) | exact HB.out)⟩

/-! ### code_one: function 61 -/
end Go.Proofs.Ytgihecpobichbaa.Q
/- What package code's reader makes of a value: walked. -/
namespace Go.Proofs.Ytgihecpobichbaa.Q
open Go.RowKit Go.Proofs.YtgihecpobichbaaW.PrintWords Go.Proofs.YtgihecpobichbaaW.PrintLast Go.Proofs.YtgihecpobichbaaW.PrintMore
set_option linter.unusedVariables false
set_option linter.unusedSimpArgs false

/-- What is wrong with a value. -/
def chkV (v : S116) : Int :=
  if v.f0 = 0 then (if v.f1 = 0 ∧ v.f2.toList = [] then 0 else 31)
  else if v.f0 = 1 then (if v.f2.toList = [] then 0 else 31)
  else if v.f0 = 2 then (if (v.f1 = 0 ∨ v.f1 = 1) ∧ v.f2.toList = [] then 0 else 31)
  else if v.f0 = 3 then (if v.f1 = 0 ∧ v.f2.size ≤ 200 then 0 else 31) else 30
theorem chk_ev (v : S116) : Ev (fun k => value_Check.f k v.f0 v.f1 v.f2) (chkV v) := by
  obtain ⟨k0, n, s⟩ := v
  unfold value_Check.f chkV
  simp only
  have hj1 : ∀ b : Bool, Ev (fun k => value_Check.j1 k b) (if b = true then 31 else 0) := by
    intro b
    refine Ev.step (f := fun _ => some (if b = true then 31 else 0)) (fun k => ?_) (Ev.now _)
    simp only [value_Check.j1]
    split <;> rfl
  have hj0 : ∀ (g : Bool), Ev (fun k => value_Check.j0 k g k0 n s) (if g = true then (if k0 = 3 then 0 else (if s.toList = [] then 0 else 31)) else 31) := by
    intro g
    cases g with
    | false =>
      refine Ev.step (fun k => ?_) (hj1 true)
      simp only [value_Check.j0]
      rw [if_neg (by simp)]
    | true =>
      by_cases h3 : k0 = 3
      · simp only [if_true, if_pos h3]
        refine Ev.step (fun k => ?_) (hj1 false)
        simp only [value_Check.j0]
        rw [if_pos trivial, if_pos h3]
      · simp only [if_true, if_neg h3]
        have h := hj1 (s.toList != [])
        have e : (if (s.toList != []) = true then (31 : Int) else 0) = (if s.toList = [] then 0 else 31) := by
          by_cases hs : s.toList = []
          · rw [if_neg (by simp [hs]), if_pos hs]
          · rw [if_pos (by simp [hs]), if_neg hs]
        rw [e] at h
        refine Ev.step (fun k => ?_) h
        simp only [value_Check.j0]
        rw [if_pos trivial, if_neg h3]
  by_cases h0 : k0 = 0
  · rw [if_pos h0]
    refine Ev.congr (fun k => if_pos h0) ?_
    have h := hj0 (n == 0)
    rw [if_neg (show ¬ k0 = 3 by omega)] at h
    by_cases hn : n = 0
    · rw [if_pos (by simp [hn])] at h
      have e : (if n = 0 ∧ s.toList = [] then (0 : Int) else 31) = (if s.toList = [] then 0 else 31) := by simp [hn]
      rw [e]
      exact h
    · rw [if_neg (by simp [hn])] at h
      rw [if_neg (fun z => hn z.1)]
      exact h
  · rw [if_neg h0]
    refine Ev.congr (fun k => if_neg h0) ?_
    by_cases h1 : k0 = 1
    · rw [if_pos h1]
      refine Ev.congr (fun k => if_pos h1) ?_
      have h := hj0 true
      rw [if_pos rfl, if_neg (show ¬ k0 = 3 by omega)] at h
      exact h
    · rw [if_neg h1]
      refine Ev.congr (fun k => if_neg h1) ?_
      by_cases h2 : k0 = 2
      · rw [if_pos h2]
        refine Ev.congr (fun k => if_pos h2) ?_
        by_cases hn : n = 0
        · refine Ev.congr (fun k => if_pos hn) ?_
          have h := hj0 true
          rw [if_pos rfl, if_neg (show ¬ k0 = 3 by omega)] at h
          have e : (if (n = 0 ∨ n = 1) ∧ s.toList = [] then (0 : Int) else 31) = (if s.toList = [] then 0 else 31) := by simp [hn]
          rw [e]
          exact h
        · refine Ev.congr (fun k => if_neg hn) ?_
          have h := hj0 (n == 1)
          rw [if_neg (show ¬ k0 = 3 by omega)] at h
          by_cases hn1 : n = 1
          · rw [if_pos (by simp [hn1])] at h
            have e : (if (n = 0 ∨ n = 1) ∧ s.toList = [] then (0 : Int) else 31) = (if s.toList = [] then 0 else 31) := by simp [hn1]
            rw [e]
            exact h
          · rw [if_neg (by simp [hn1])] at h
            rw [if_neg (fun z => by omega)]
            exact h
      · rw [if_neg h2]
        refine Ev.congr (fun k => if_neg h2) ?_
        by_cases h3 : k0 = 3
        · rw [if_pos h3]
          refine Ev.congr (fun k => if_pos h3) ?_
          by_cases hn : n = 0
          · refine Ev.congr (fun k => if_pos hn) ?_
            have h := hj0 (decide ((s.size : Int) ≤ 200))
            rw [if_pos h3] at h
            by_cases hs : s.size ≤ 200
            · rw [if_pos (by simp; omega)] at h
              rw [if_pos ⟨hn, hs⟩]
              exact h
            · rw [if_neg (by simp; omega)] at h
              rw [if_neg (fun z => hs z.2)]
              exact h
          · refine Ev.congr (fun k => if_neg hn) ?_
            have h := hj0 false
            rw [if_neg (by simp)] at h
            rw [if_neg (fun z => hn z.1)]
            exact h
        · rw [if_neg h3]
          exact Ev.congr (fun k => if_neg h3) (Ev.now _)
/-- What is read behind a value's first byte. -/
def preV (k : Int) (l : List Int) : Option (S116 × List Int) :=
  if k = 1 then (itemI l).map fun q => (⟨k, q.1, ⟨#[]⟩⟩, q.2)
  else if k = 2 then (itemB l).map fun q => (⟨k, wrap64 q.1, ⟨#[]⟩⟩, q.2)
  else if k = 3 then (itemW l).map fun q => (⟨k, 0, q.1⟩, q.2)
  else some (⟨k, 0, ⟨#[]⟩⟩, l)
def itemV (l : List Int) : Option (S116 × List Int) := (itemB l).bind fun p => (preV (wrap64 p.1) p.2).bind fun q => if chkV q.1 = 0 then some q else none
set_option maxHeartbeats 4000000 in
set_option maxRecDepth 100000 in
theorem value_item (G : Nat) (l : List Int) (hl : l.length ≤ 1000000000) (w0 w : World) (hs : RdS w0 w G l) :
    Calls Try.prog 79 #[.pointer (some ⟨G, 0, none⟩)] w (RdOut w0 w G (itemV l) (fun x : S116 => .agg #[.int .i64 x.f0, .int .i64 x.f1, .string x.f2])) := by
  have hG := hs.lt2
  have HL0 := Aside0.mk (show w0.heap.size ≤ w.heap.size from hs.below.size)
  obtain ⟨RR, hRR⟩ : ∃ RR, itemV l = RR := ⟨_, rfl⟩
  rw [hRR]
  obtain ⟨Q, hQ⟩ : ∃ Q : Ending → World → Prop, Q = RdOut w0 w G RR (fun x : S116 => .agg #[.int .i64 x.f0, .int .i64 x.f1, .string x.f2]) := ⟨_, rfl⟩
  rw [← hQ]
  have hno : Aside0 (∀ w', RR = none → w.grownBy w' (some G) → Q (.panicked badP) w') := ⟨by
    intro w' h1 h2
    rw [hQ]
    exact ⟨fun xs l' h => (by rw [h1] at h; cases h), fun _ => rfl, h2⟩⟩
  have hyes : Aside0 (∀ w' x l', RR = some (x, l') → RdS w0 w' G l' → w.grownBy w' (some G) → Q (.returned (.agg #[.int .i64 x.f0, .int .i64 x.f1, .string x.f2])) w') := ⟨by
    intro w' x l' h1 h3 h4
    rw [hQ]
    refine ⟨fun xs' l'' h => ?_, fun h => (by rw [h1] at h; cases h), h4⟩
    rw [h1] at h
    simp only [Option.some.injEq, Prod.mk.injEq] at h
    obtain ⟨rfl, rfl⟩ := h
    exact ⟨rfl, h3⟩⟩
  clear hQ
  unfold itemV at hRR
  have hs1 := hs.step (World.grownBy_alloc w (.cells #[.int .i64 0, .int .i64 0, .string ⟨#[]⟩] 116) none) (by simp) (by simp)
  have hbi := byte_item G l hl w0 _ hs1
  have HG0 := Aside0.mk (World.grownBy_alloc w (.cells #[.int .i64 0, .int .i64 0, .string ⟨#[]⟩] 116) (some G))
  have HT0 : Aside0 ((w.alloc (.cells #[.int .i64 0, .int .i64 0, .string ⟨#[]⟩] 116)).heap[w.heap.size]? = some (.cells #[.int .i64 0, .int .i64 0, .string ⟨#[]⟩] 116 (0, 0))) := ⟨blk_new w _⟩
  have HTG := Aside0.mk (show w.heap.size ≠ G by omega)
  clear hs hs1 hG
  cases h1 : itemB l with
  | none =>
    rw [h1] at hRR
    have HR := Aside0.mk hRR
    have hc : Calls Try.prog 85 #[.pointer (some ⟨G, 0, none⟩)] (w.alloc (.cells #[.int .i64 0, .int .i64 0, .string ⟨#[]⟩] 116)) fun E w' => E = .panicked badP ∧ (w.alloc (.cells #[.int .i64 0, .int .i64 0, .string ⟨#[]⟩] 116)).grownBy w' (some G) := hbi.mono fun E w' h => ⟨h.2.1 h1, h.2.2⟩
    clear hbi h1 hRR
    go_enter Try.func79, Try.ntmps79
    go_wp2_with fail
    refine hc.mono ?_
    rintro E w1 ⟨rfl, hg1⟩
    go_wp2
    exact ⟨rfl, hno.out _ HR.out.symm (gb_trans HG0.out hg1)⟩
  | some q =>
    obtain ⟨b, l1⟩ := q
    rw [h1] at hRR
    simp only [Option.bind_some] at hRR
    have hll := itemB_lt l b l1 h1
    have hc : Calls Try.prog 85 #[.pointer (some ⟨G, 0, none⟩)] (w.alloc (.cells #[.int .i64 0, .int .i64 0, .string ⟨#[]⟩] 116)) fun E w' => E = .returned (.int .u8 b) ∧ RdS w0 w' G l1 ∧ (w.alloc (.cells #[.int .i64 0, .int .i64 0, .string ⟨#[]⟩] 116)).grownBy w' (some G) := hbi.mono fun E w' h => ⟨(h.1 b l1 h1).1, (h.1 b l1 h1).2, h.2.2⟩
    have HR := Aside0.mk hRR
    have HL1 := Aside0.mk (show l1.length ≤ 1000000000 by omega)
    clear hbi h1 hRR hll hl
    go_enter Try.func79, Try.ntmps79
    go_wp2_with fail
    refine hc.mono ?_
    rintro E w1 ⟨rfl, hs1, hg1⟩
    have HG1 := Aside0.mk (gb_trans HG0.out hg1)
    have HT1 := Aside0.mk (blk_grown HT0.out hg1 (fun e => by injection e with e; exact HTG.out e))
    have HS1 := Aside0.mk hs1
    clear hs1 hg1 hc HG0 HT0
    go_upto_block 0 with (fail)
    have HS2 : Aside0 (RdS w0 (w1.alloc (.cells #[.int .i64 (wrap64 b), .int .i64 0, .string ⟨#[]⟩] 116)) G l1) := ⟨HS1.out.step (World.grownBy_alloc w1 _ none) (by simp) (by simp)⟩
    have HT2 : Aside0 ((w1.alloc (.cells #[.int .i64 (wrap64 b), .int .i64 0, .string ⟨#[]⟩] 116)).heap[w.heap.size]? = some (.cells #[.int .i64 0, .int .i64 0, .string ⟨#[]⟩] 116 (0, 0))) := ⟨blk_alloc HT1.out _⟩
    have HV2 : Aside0 ((w1.alloc (.cells #[.int .i64 (wrap64 b), .int .i64 0, .string ⟨#[]⟩] 116)).heap[w1.heap.size]? = some (.cells #[.int .i64 (wrap64 b), .int .i64 0, .string ⟨#[]⟩] 116 (0, 0))) := ⟨blk_new w1 _⟩
    have HG2 : Aside0 (w.grownBy (w1.alloc (.cells #[.int .i64 (wrap64 b), .int .i64 0, .string ⟨#[]⟩] 116)) (some G)) := ⟨World.grownBy.trans HG1.out (World.grownBy_alloc w1 _ _)⟩
    have HVG := Aside0.mk (show w1.heap.size ≠ G from fun e => by have := HS1.out.lt2; omega)
    have HW0 := Aside0.mk (show w0.heap.size ≤ w1.heap.size from HS1.out.below.size)
    have HWg := Aside0.mk (show w.heap.size ≤ w1.heap.size from HG1.out.size)
    have HWn := Aside0.mk (show w.heap.size ≠ w1.heap.size from fun e => by have := blk_lt HT1.out; omega)
    clear HS1 HT1 HG1
    generalize wrap64 b = k at HR HS2 HT2 HV2 HG2 ⊢
    generalize w1.alloc (.cells #[.int .i64 k, .int .i64 0, .string ⟨#[]⟩] 116) = W2 at HS2 HT2 HV2 HG2 ⊢
    generalize w1.heap.size = g3 at HV2 HVG HW0 HWg HWn ⊢
    go_cut [] (fun wc => ∃ (x : S116) (l2 : List Int), Aside0 (preV k l1 = some (x, l2)) ∧ Aside0 (RdS w0 wc G l2) ∧ Aside0 (w.grownBy wc (some G)) ∧ Aside0 (wc.heap[w.heap.size]? = some (.cells #[.int .i64 0, .int .i64 0, .string ⟨#[]⟩] 116 (0, 0))) ∧ Aside0 (wc.heap[g3]? = some (.cells #[.int .i64 x.f0, .int .i64 x.f1, .string x.f2] 116 (0, 0))))
    case first =>
      by_cases k1 : k = 1
      · subst k1
        have cv0 : _ = some (Value.int .i64 1) := (blk_cell HV2.out 0).trans rfl
        cases h2 : itemI l1 with
        | none =>
          have hcn : ∀ W, RdS w0 W G l1 → Calls Try.prog 93 #[.pointer (some ⟨G, 0, none⟩)] W fun E w' => E = .panicked badP ∧ W.grownBy w' (some G) := fun W hW => (whole_item G l1 (by have := HL1.out; omega) w0 W hW).mono fun E w' h => ⟨h.2.1 h2, h.2.2⟩
          have hRn : RR = none := by rw [← HR.out]; simp [preV, h2]
          have HRn := Aside0.mk hRn
          clear h2 hRn HR
          go_wp2_with fail
          refine (hcn _ HS2.out).mono ?_
          rintro E w2 ⟨rfl, hg2⟩
          go_wp2
          exact ⟨rfl, hno.out _ HRn.out (gb_trans HG2.out hg2)⟩
        | some q =>
          obtain ⟨x, l2⟩ := q
          have hcs : ∀ W, RdS w0 W G l1 → Calls Try.prog 93 #[.pointer (some ⟨G, 0, none⟩)] W fun E w' => E = .returned (.int .i64 x) ∧ RdS w0 w' G l2 ∧ W.grownBy w' (some G) := fun W hW => (whole_item G l1 (by have := HL1.out; omega) w0 W hW).mono fun E w' h => ⟨(h.1 x l2 h2).1, (h.1 x l2 h2).2, h.2.2⟩
          have HX : Aside0 (preV 1 l1 = some (⟨1, x, ⟨#[]⟩⟩, l2)) := ⟨by simp [preV, h2]⟩
          clear h2
          go_wp2_with fail
          refine (hcs _ HS2.out).mono ?_
          rintro E w2 ⟨rfl, hs3, hg2⟩
          have HT3 := Aside0.mk (blk_grown HT2.out hg2 (fun e => by injection e with e; exact HTG.out e))
          have HV3 := Aside0.mk (blk_grown HV2.out hg2 (fun e => by injection e with e; exact HVG.out e))
          have HG3 := Aside0.mk (gb_trans HG2.out hg2)
          have HS3 := Aside0.mk hs3
          have cv := blk_cell HV3.out 1
          have fv := blk_frozen HV3.out 1
          clear hs3 hg2 hcs HG2 HT2 HV2 HS2
          go_wp2
          go_meet
          case rel =>
            refine ⟨⟨1, x, ⟨#[]⟩⟩, l2, HX, ⟨HS3.out.step (gb_setAt w2 g3 1 (.int .i64 x)) (fun e => by injection e with e; exact HVG.out e.symm) (fun k e => by injection e with e; have := HW0.out; omega)⟩, ⟨gb_new HG3.out (gb_setAt w2 g3 1 (.int .i64 x)) (fun k e => by injection e with e; have := HWg.out; omega)⟩, ⟨blk_far HT3.out (fun e => by have := HWn.out; exact this e) _⟩, ⟨blk_set HV3.out 1 (.int .i64 x)⟩⟩
      by_cases k2 : k = 2
      · subst k2
        have cv0 : _ = some (Value.int .i64 2) := (blk_cell HV2.out 0).trans rfl
        cases h2 : itemB l1 with
        | none =>
          have hcn : ∀ W, RdS w0 W G l1 → Calls Try.prog 85 #[.pointer (some ⟨G, 0, none⟩)] W fun E w' => E = .panicked badP ∧ W.grownBy w' (some G) := fun W hW => (byte_item G l1 HL1.out w0 W hW).mono fun E w' h => ⟨h.2.1 h2, h.2.2⟩
          have hRn : RR = none := by rw [← HR.out]; simp [preV, h2]
          have HRn := Aside0.mk hRn
          clear h2 hRn HR
          go_wp2_with fail
          refine (hcn _ HS2.out).mono ?_
          rintro E w2 ⟨rfl, hg2⟩
          go_wp2
          exact ⟨rfl, hno.out _ HRn.out (gb_trans HG2.out hg2)⟩
        | some q =>
          obtain ⟨x, l2⟩ := q
          have hcs : ∀ W, RdS w0 W G l1 → Calls Try.prog 85 #[.pointer (some ⟨G, 0, none⟩)] W fun E w' => E = .returned (.int .u8 x) ∧ RdS w0 w' G l2 ∧ W.grownBy w' (some G) := fun W hW => (byte_item G l1 HL1.out w0 W hW).mono fun E w' h => ⟨(h.1 x l2 h2).1, (h.1 x l2 h2).2, h.2.2⟩
          have HX : Aside0 (preV 2 l1 = some (⟨2, wrap64 x, ⟨#[]⟩⟩, l2)) := ⟨by simp [preV, h2]⟩
          clear h2
          go_wp2_with fail
          refine (hcs _ HS2.out).mono ?_
          rintro E w2 ⟨rfl, hs3, hg2⟩
          have HT3 := Aside0.mk (blk_grown HT2.out hg2 (fun e => by injection e with e; exact HTG.out e))
          have HV3 := Aside0.mk (blk_grown HV2.out hg2 (fun e => by injection e with e; exact HVG.out e))
          have HG3 := Aside0.mk (gb_trans HG2.out hg2)
          have HS3 := Aside0.mk hs3
          have cv := blk_cell HV3.out 1
          have fv := blk_frozen HV3.out 1
          clear hs3 hg2 hcs HG2 HT2 HV2 HS2
          go_wp2
          go_meet
          case rel =>
            refine ⟨⟨2, wrap64 x, ⟨#[]⟩⟩, l2, HX, ⟨HS3.out.step (gb_setAt w2 g3 1 (.int .i64 (wrap64 x))) (fun e => by injection e with e; exact HVG.out e.symm) (fun k e => by injection e with e; have := HW0.out; omega)⟩, ⟨gb_new HG3.out (gb_setAt w2 g3 1 (.int .i64 (wrap64 x))) (fun k e => by injection e with e; have := HWg.out; omega)⟩, ⟨blk_far HT3.out (fun e => by have := HWn.out; exact this e) _⟩, ⟨blk_set HV3.out 1 (.int .i64 (wrap64 x))⟩⟩
      by_cases k3 : k = 3
      · subst k3
        have cv0 : _ = some (Value.int .i64 3) := (blk_cell HV2.out 0).trans rfl
        cases h2 : itemW l1 with
        | none =>
          have hcn : ∀ W, RdS w0 W G l1 → Calls Try.prog 84 #[.pointer (some ⟨G, 0, none⟩)] W fun E w' => E = .panicked badP ∧ W.grownBy w' (some G) := fun W hW => (word_item G l1 HL1.out w0 W hW).mono fun E w' h => ⟨h.2.1 h2, h.2.2⟩
          have hRn : RR = none := by rw [← HR.out]; simp [preV, h2]
          have HRn := Aside0.mk hRn
          clear h2 hRn HR
          go_wp2_with fail
          refine (hcn _ HS2.out).mono ?_
          rintro E w2 ⟨rfl, hg2⟩
          go_wp2
          exact ⟨rfl, hno.out _ HRn.out (gb_trans HG2.out hg2)⟩
        | some q =>
          obtain ⟨x, l2⟩ := q
          have hcs : ∀ W, RdS w0 W G l1 → Calls Try.prog 84 #[.pointer (some ⟨G, 0, none⟩)] W fun E w' => E = .returned (.string x) ∧ RdS w0 w' G l2 ∧ W.grownBy w' (some G) := fun W hW => (word_item G l1 HL1.out w0 W hW).mono fun E w' h => ⟨(h.1 x l2 h2).1, (h.1 x l2 h2).2, h.2.2⟩
          have HX : Aside0 (preV 3 l1 = some (⟨3, 0, x⟩, l2)) := ⟨by simp [preV, h2]⟩
          clear h2
          go_wp2_with fail
          refine (hcs _ HS2.out).mono ?_
          rintro E w2 ⟨rfl, hs3, hg2⟩
          have HT3 := Aside0.mk (blk_grown HT2.out hg2 (fun e => by injection e with e; exact HTG.out e))
          have HV3 := Aside0.mk (blk_grown HV2.out hg2 (fun e => by injection e with e; exact HVG.out e))
          have HG3 := Aside0.mk (gb_trans HG2.out hg2)
          have HS3 := Aside0.mk hs3
          have cv := blk_cell HV3.out 2
          have fv := blk_frozen HV3.out 2
          clear hs3 hg2 hcs HG2 HT2 HV2 HS2
          go_wp2
          go_meet
          case rel =>
            refine ⟨⟨3, 0, x⟩, l2, HX, ⟨HS3.out.step (gb_setAt w2 g3 2 (.string x)) (fun e => by injection e with e; exact HVG.out e.symm) (fun k e => by injection e with e; have := HW0.out; omega)⟩, ⟨gb_new HG3.out (gb_setAt w2 g3 2 (.string x)) (fun k e => by injection e with e; have := HWg.out; omega)⟩, ⟨blk_far HT3.out (fun e => by have := HWn.out; exact this e) _⟩, ⟨blk_set HV3.out 2 (.string x)⟩⟩
      have b1 : (k == 1) = false := by simpa using k1
      have b2 : (k == 2) = false := by simpa using k2
      have b3 : (k == 3) = false := by simpa using k3
      have HX : Aside0 (preV k l1 = some (⟨k, 0, ⟨#[]⟩⟩, l1)) := ⟨by simp [preV, k1, k2, k3]⟩
      go_wp2
      go_meet
      case rel => exact ⟨_, l1, HX, HS2, HG2, HT2, HV2⟩
    case rest =>
      obtain ⟨x, l2, HX, HS3, HG3, HT3, HV3⟩ := hcut
      have hR := HR.out
      rw [HX.out] at hR
      simp only [Option.bind_some] at hR
      clear HR HS2 HT2 HV2 HG2
      obtain ⟨K, hK⟩ := (chk_ev x).rounds
      have cv0 : _ = some (Value.int .i64 x.f0) := (blk_cell HV3.out 0).trans rfl
      have cv1 : _ = some (Value.int .i64 x.f1) := (blk_cell HV3.out 1).trans rfl
      have cv2 : _ = some (Value.string x.f2) := (blk_cell HV3.out 2).trans rfl
      have HK := Aside0.mk hK
      have HRx := Aside0.mk hR
      clear hK hR HX
      go_wp2_with fail
      refine (value_Check.calls K x.f0 x.f1 x.f2 (chkV x) _ HK.out).mono ?_
      rintro E w4 ⟨rfl, hb4⟩
      have hg4 := grown_of_below hb4 none
      have HG4 := Aside0.mk (gb_new HG3.out hg4 (fun k e => by cases e))
      have HS4 := Aside0.mk (HS3.out.step hg4 (by simp) (by simp))
      have ht4 := blk_below HT3.out hb4
      have hv4 := blk_below HV3.out hb4
      have HT4 := Aside0.mk ht4
      have dv0 : _ = some (Value.int .i64 x.f0) := (blk_cell hv4 0).trans rfl
      have dv1 : _ = some (Value.int .i64 x.f1) := (blk_cell hv4 1).trans rfl
      have dv2 : _ = some (Value.string x.f2) := (blk_cell hv4 2).trans rfl
      have ct0 := blk_cell ht4 0
      have ct1 := blk_cell ht4 1
      have ct2 := blk_cell ht4 2
      have ft0 := blk_frozen ht4 0
      have ft1 := blk_frozen ht4 1
      have ft2 := blk_frozen ht4 2
      clear hg4 hb4 cv0 cv1 cv2 ht4 hv4 HS3 HG3 HT3 HV3
      by_cases hc0 : chkV x = 0
      · have hR := HRx.out
        rw [if_pos hc0] at hR
        have HRy := Aside0.mk hR
        rw [hc0]
        clear HRx hR hc0
        go_wp2
        have q1 := HS4.out.step (gb_setAt w4 w.heap.size 0 (.int .i64 x.f0)) (fun e => by injection e with e; exact HTG.out e.symm) (fun k e => by injection e with e; have := HL0.out; omega)
        have q2 := q1.step (gb_setAt _ w.heap.size 1 (.int .i64 x.f1)) (fun e => by injection e with e; exact HTG.out e.symm) (fun k e => by injection e with e; have := HL0.out; omega)
        have q3 := q2.step (gb_setAt _ w.heap.size 2 (.string x.f2)) (fun e => by injection e with e; exact HTG.out e.symm) (fun k e => by injection e with e; have := HL0.out; omega)
        have p3 := gb_new (gb_new (gb_new HG4.out (gb_setAt w4 w.heap.size 0 (.int .i64 x.f0)) (fun k e => by injection e with e; omega)) (gb_setAt _ w.heap.size 1 (.int .i64 x.f1)) (fun k e => by injection e with e; omega)) (gb_setAt _ w.heap.size 2 (.string x.f2)) (fun k e => by injection e with e; omega)
        have c3 := blk_set (cs := #[.int .i64 x.f0, .int .i64 x.f1, .string ⟨#[]⟩]) (blk_set (cs := #[.int .i64 x.f0, .int .i64 0, .string ⟨#[]⟩]) (blk_set HT4.out 0 (.int .i64 x.f0)) 1 (.int .i64 x.f1)) 2 (.string x.f2)
        exact bodyPost_ret (results_single rfl (.cell _ _ _ _ _ rfl c3 Try.underlying116 rfl (by kernel_rfl) .nil)) rfl (hyes.out _ _ _ HRy.out.symm q3 p3)
      · have hR := HRx.out
        rw [if_neg hc0] at hR
        have HRy := Aside0.mk hR
        clear HRx hR
        generalize chkV x = cc at hc0 ⊢
        have hcb : (cc != 0) = true := by simpa using hc0
        go_wp2
        exact ⟨rfl, hno.out _ HRy.out.symm HG4.out⟩
end Go.Proofs.Ytgihecpobichbaa.Q
/- code.Unnums: read with its deferred recover: walked. -/
namespace Go.Proofs.Ytgihecpobichbaa.Q
open Go.RowKit Go.Proofs.YtgihecpobichbaaW.PrintWords Go.Proofs.YtgihecpobichbaaW.PrintLast Go.Proofs.YtgihecpobichbaaW.PrintMore
set_option linter.unusedVariables false
set_option linter.unusedSimpArgs false

theorem bad_ne (w : World) : (binOp .neq 20 (.iface 134 (.agg #[])) .nilIface).run Try.prog w = .ok (.bool true) w := by kernel_rfl
theorem assert_bad (w : World) : (Instr.typeAssert (.iface 134 (.agg #[])) 20 134 true).run Try.prog w = .ok (.tuple #[.agg #[], .bool true]) w := by kernel_rfl
set_option maxHeartbeats 1000000 in
theorem catch_bad_I (bl be : Nat) (hne : bl ≠ be) (v0 : Value) (e0 : Int) (w : World) (hl : Boxed w bl 40 v0) (he : Boxed w be 24 (.int .i64 e0)) :
    CallsD Try.prog 115 #[.pointer (some ⟨bl, 0, none⟩), .pointer (some ⟨be, 0, none⟩)] (.panicking badP) w fun e u' w' =>
      e = .returned (.tuple #[]) ∧ u' = .panicking [{ v := .iface 134 (.agg #[]), recovered := true }] ∧ w' = ((w.setCell ⟨bl, 0, none⟩ (.slice none 0 0)).setCell ⟨be, 0, none⟩ (.int .i64 41)).alloc (.cells #[] 134) := by
  have l1 := hl.lt
  have l2 := he.lt
  have m1 := hl.cell
  have f1 := hl.frozen
  have m2 := he.cell
  have f2 := he.frozen
  have m3 := (he.other (Ne.symm hne) (.slice none 0 0)).cell
  have f3 := (he.other (Ne.symm hne) (.slice none 0 0)).frozen
  refine callsD_of_wpS Try.func115 rfl fun c₀ cs hu => ?_
  unfold badP at hu
  apply wpS_seq
  apply wpS_region
  simp [wpOpsS, go_sem, recoverD, hu, Try.ntmps115, Exit.thenS]
  have k1 := bad_ne
  have k2 := assert_bad
  refine wpS_of_wp ?_
  simp only [Array.replicate_succ, Array.replicate_zero, List.push_toArray, List.append_toArray, List.nil_append, List.cons_append, List.setIfInBounds_toArray, List.set_cons_succ, List.set_cons_zero]
  go_wp2
  simp [bodyPostS, results, Try.results115]
theorem catch_idle_I (p q : Addr) (w : World) :
    CallsD Try.prog 115 #[.pointer (some p), .pointer (some q)] .returning w fun e u' w' => e = .returned (.tuple #[]) ∧ u' = .returning ∧ w = w' := by
  have k3 : ∀ w : World, (binOp .neq 20 .nilIface .nilIface).run Try.prog w = .ok (.bool false) w := fun _ => by kernel_rfl
  refine callsD_of_wpS Try.func115 rfl fun c₀ cs hu => ?_
  apply wpS_seq
  apply wpS_region
  simp [wpOpsS, go_sem, recoverD, hu, Try.ntmps115, Exit.thenS]
  refine wpS_of_wp ?_
  simp only [Array.replicate_succ, Array.replicate_zero, List.push_toArray, List.append_toArray, List.nil_append, List.cons_append, List.setIfInBounds_toArray, List.set_cons_succ, List.set_cons_zero]
  go_wp2
  cases c₀
  simp_all [bodyPostS, results, Try.results115]
def ItemsOut (w0 w : World) (G : Nat) (RR : Option (List Int × List Int)) (E : Ending) (w' : World) : Prop :=
  (∀ xs l', RR = some (xs, l') → ∃ v, E = .returned v ∧ Kd.R (Kd.int .i64) 2 w' w.heap.size (fun _ => True) v xs ∧ RdS w0 w' G l') ∧ (RR = none → E = .panicked badP) ∧ w.grownBy w' (some G)
set_option maxHeartbeats 1000000 in
theorem unn1_calls (G : Nat) (l : List Int) (hl : l.length ≤ 1000000000) (w0 w : World) (hs : RdS w0 w G l) :
    Calls Try.prog 91 #[.pointer (some ⟨G, 0, none⟩)] w (ItemsOut w0 w G (readItems itemI l)) := by
  have mf := mkf
  obtain ⟨RR, hRR⟩ : ∃ RR, readItems itemI l = RR := ⟨_, rfl⟩
  have hc := items_calls G l hl w0 w hs RR hRR
  rw [hRR]
  obtain ⟨Q, hQ⟩ : ∃ Q : Ending → World → Prop, Q = ItemsOut w0 w G RR := ⟨_, rfl⟩
  rw [← hQ]
  have hQ' : ∀ E w', ItemsOut w0 w G RR E w' → Q E w' := fun E w' h => by rw [hQ]; exact h
  clear hQ hs hRR
  go_enter Try.func91, Try.ntmps91
  go_wp2_with fail
  refine hc.mono ?_
  rintro E w1 ⟨h1, h2, h3⟩
  cases hR : RR with
  | none =>
    obtain rfl := h2 hR
    have H := hQ' (.panicked badP) w1 ⟨h1, h2, h3⟩
    clear h1 h2 hQ' hc
    go_wp2
    exact ⟨rfl, H⟩
  | some p =>
    obtain ⟨xs, l'⟩ := p
    obtain ⟨v, rfl, h4, h5⟩ := h1 xs l' hR
    have H := hQ' (.returned v) w1 ⟨h1, h2, h3⟩
    clear h1 h2 hQ' hc h4 h5
    go_wp2
    first | exact H | (go_ret; exact H)
/-- What code.Unnums comes to. -/
def readI (l : List Int) : List Int × Int :=
  match readItems itemI l with
  | some (xs, l') => if l'.length > 0 ∨ l.length > 16777216 then ([], 41) else (xs, 0)
  | none => ([], 41)
set_option maxHeartbeats 4000000 in
set_option maxRecDepth 100000 in
theorem read_calls (A : Option Addr) (c : Nat) (l : List Int) (hl : l.length ≤ 1000000000) (w : World) (hr : Kd.C (Kd.int .u8) w A l.length l) (hc : l.length ≤ c) (r1 : List Int) (r2 : Int) (hrr : readI l = (r1, r2)) :
    Calls Try.prog 90 #[.slice A l.length c, .func (.func 91) #[] #[]] w fun e w' => ∃ v0_ : Value, e = .returned (.tuple #[v0_, .int .i64 r2]) ∧ Kd.R (Kd.int .i64) 2 w' w.heap.size (fun _ => True) v0_ r1 ∧ Below w.heap.size w w' := by
  have mf := mkf
  have HR := Aside0.mk hr
  clear hr
  go_enter_defers Try.func90, Try.ntmps90
  go_wp2_with fail
  have bg := Boxed.new ((w.alloc (.cells #[.slice none 0 0] 40)).alloc (.cells #[.int .i64 0] 24)) 168 (.slice A l.length c)
  rw [World.size_alloc, World.size_alloc] at bg
  have bl := ((Boxed.new w 40 (.slice none 0 0)).alloc (.cells #[.int .i64 0] 24)).alloc (.cells #[.slice A l.length c] 168)
  have be := (Boxed.new (w.alloc (.cells #[.slice none 0 0] 40)) 24 (.int .i64 0)).alloc (.cells #[.slice A l.length c] 168)
  rw [World.size_alloc] at be
  have hb3 : Below w.heap.size w (((w.alloc (.cells #[.slice none 0 0] 40)).alloc (.cells #[.int .i64 0] 24)).alloc (.cells #[.slice A l.length c] 168)) := below_alloc (below_alloc (below_alloc (Below.refl _ _) _) _) _
  have hs3 : (((w.alloc (.cells #[.slice none 0 0] 40)).alloc (.cells #[.int .i64 0] 24)).alloc (.cells #[.slice A l.length c] 168)).heap.size = w.heap.size + 1 + 1 + 1 := by rw [World.size_alloc, World.size_alloc, World.size_alloc]
  generalize ((w.alloc (.cells #[.slice none 0 0] 40)).alloc (.cells #[.int .i64 0] 24)).alloc (.cells #[.slice A l.length c] 168) = W3 at bg bl be hb3 hs3 ⊢
  refine (unn1_calls (w.heap.size + 1 + 1) l hl w W3 ⟨A, c, ⟨bg, HR.out, hb3, by omega, hc⟩⟩).mono ?_
  rintro E w1 ⟨h1, h2, h3⟩
  have bl1 := bl.kept h3 (fun e => by injection e with e; omega)
  have be1 := be.kept h3 (fun e => by injection e with e; omega)
  have hb1 : Below w.heap.size w w1 := hb3.grown h3 (by omega) (fun k hk => by injection hk with hk; omega)
  have HB1 := Aside0.mk hb1
  have BL := Aside0.mk bl1
  have BE := Aside0.mk be1
  have hlt := h3.size
  rw [hs3] at hlt
  cases hR : readItems itemI l with
  | none =>
    obtain rfl := h2 hR
    have hI : readI l = ([], 41) := by unfold readI; rw [hR]
    rw [hI] at hrr
    simp only [Prod.mk.injEq] at hrr
    obtain ⟨rfl, rfl⟩ := hrr
    clear h1 h2 h3 bg bl be hb3 bl1 be1 hb1 hR hI
    unfold badP
    go_wp2
    refine leaves_cons (f := 115) (args := #[.pointer (some ⟨w.heap.size, 0, none⟩), .pointer (some ⟨w.heap.size + 1, 0, none⟩)]) (by simp) (by simp [go_sem]) ?_
    refine (catch_bad_I w.heap.size (w.heap.size + 1) (by omega) (.slice none 0 0) 0 w1 BL.out BE.out).mono ?_
    rintro e u' w'' ⟨rfl, rfl, rfl⟩
    have xl := ((BL.out.set (.slice none 0 0)).other (show w.heap.size ≠ w.heap.size + 1 by omega) (.int .i64 41)).alloc (.cells #[] 134)
    have xe := ((BE.out.other (show w.heap.size + 1 ≠ w.heap.size by omega) (.slice none 0 0)).set (.int .i64 41)).alloc (.cells #[] 134)
    have yl := xl.cell
    have ye := xe.cell
    have hB : Below w.heap.size w (((w1.setCell ⟨w.heap.size, 0, none⟩ (.slice none 0 0)).setCell ⟨w.heap.size + 1, 0, none⟩ (.int .i64 41)).alloc (.cells #[] 134)) := below_alloc (below_set (below_set HB1.out (by omega)) (by omega)) _
    generalize ((w1.setCell ⟨w.heap.size, 0, none⟩ (.slice none 0 0)).setCell ⟨w.heap.size + 1, 0, none⟩ (.int .i64 41)).alloc (.cells #[] 134) = W4 at xl xe yl ye hB ⊢
    simp [Leaves, settle, results, Try.results90, go_sem]
    refine ⟨.tuple #[.slice none 0 0, .int .i64 41], by simp [yl, ye, go_sem], _, rfl, Kd.R_nil _ _ _ _ _, hB⟩
  | some p =>
    obtain ⟨xs, l'⟩ := p
    obtain ⟨v, rfl, h4, h5⟩ := h1 xs l' hR
    obtain ⟨A', c', hd⟩ := h5
    obtain ⟨A2, c2, rfl⟩ := Kd.R_slice h4
    have bx := hd.box
    have H4 := Aside0.mk h4
    have hI : readI l = (if l'.length > 0 ∨ l.length > 16777216 then ([], 41) else (xs, 0)) := by unfold readI; rw [hR]
    rw [hI] at hrr
    have cg : (w1.setCell ⟨w.heap.size, 0, none⟩ (.slice A2 xs.length c2)).cell? ⟨w.heap.size + 1 + 1, 0, none⟩ = some (.slice A' l'.length c') := (bx.other (by omega) (.slice A2 xs.length c2)).cell
    have BL2 : Aside0 (Boxed (w1.setCell ⟨w.heap.size, 0, none⟩ (.slice A2 xs.length c2)) w.heap.size 40 (.slice A2 xs.length c2)) := ⟨BL.out.set _⟩
    have BE2 : Aside0 (Boxed (w1.setCell ⟨w.heap.size, 0, none⟩ (.slice A2 xs.length c2)) (w.heap.size + 1) 24 (.int .i64 0)) := ⟨BE.out.other (by omega) _⟩
    have HB2 : Aside0 (Below w.heap.size w (w1.setCell ⟨w.heap.size, 0, none⟩ (.slice A2 xs.length c2))) := ⟨below_set HB1.out (by omega)⟩
    have cl1 : w1.cell? ⟨w.heap.size, 0, none⟩ = some (.slice none 0 0) := bl1.cell
    have fl1 : w1.frozen? ⟨w.heap.size, 0, none⟩ = false := bl1.frozen
    have ce1 : w1.cell? ⟨w.heap.size + 1, 0, none⟩ = some (.int .i64 0) := be1.cell
    have fe1 : w1.frozen? ⟨w.heap.size + 1, 0, none⟩ = false := be1.frozen
    clear h1 h2 h3 bg bl be hb3 bl1 be1 hb1 hR hI h4 hd bx
    by_cases hx : l'.length > 0
    · rw [if_pos (.inl hx)] at hrr
      simp only [Prod.mk.injEq] at hrr
      obtain ⟨rfl, rfl⟩ := hrr
      have d1 : decide (0 < (l'.length : Int)) = true := decide_eq_true (by omega)
      have d2 : decide (0 < l'.length) = true := decide_eq_true hx
      clear hx
      go_wp2
      refine leaves_cons (f := 115) (args := #[.pointer (some ⟨w.heap.size, 0, none⟩), .pointer (some ⟨w.heap.size + 1, 0, none⟩)]) (by simp) (by simp [go_sem]) ?_
      refine (catch_bad_I w.heap.size (w.heap.size + 1) (by omega) (.slice A2 xs.length c2) 0 (w1.setCell ⟨w.heap.size, 0, none⟩ (.slice A2 xs.length c2)) BL2.out BE2.out).mono ?_
      rintro e u' w'' ⟨rfl, rfl, rfl⟩
      have xl := ((BL2.out.set (.slice none 0 0)).other (show w.heap.size ≠ w.heap.size + 1 by omega) (.int .i64 41)).alloc (.cells #[] 134)
      have xe := ((BE2.out.other (show w.heap.size + 1 ≠ w.heap.size by omega) (.slice none 0 0)).set (.int .i64 41)).alloc (.cells #[] 134)
      have yl := xl.cell
      have ye := xe.cell
      have hB : Below w.heap.size w ((((w1.setCell ⟨w.heap.size, 0, none⟩ (.slice A2 xs.length c2)).setCell ⟨w.heap.size, 0, none⟩ (.slice none 0 0)).setCell ⟨w.heap.size + 1, 0, none⟩ (.int .i64 41)).alloc (.cells #[] 134)) := below_alloc (below_set (below_set HB2.out (by omega)) (by omega)) _
      generalize (((w1.setCell ⟨w.heap.size, 0, none⟩ (.slice A2 xs.length c2)).setCell ⟨w.heap.size, 0, none⟩ (.slice none 0 0)).setCell ⟨w.heap.size + 1, 0, none⟩ (.int .i64 41)).alloc (.cells #[] 134) = W4 at xl xe yl ye hB ⊢
      simp [Leaves, settle, results, Try.results90, go_sem]
      refine ⟨.tuple #[.slice none 0 0, .int .i64 41], by simp [yl, ye, go_sem], _, rfl, Kd.R_nil _ _ _ _ _, hB⟩
    · have d1 : decide (0 < (l'.length : Int)) = false := decide_eq_false (by omega)
      have d2 : decide (0 < l'.length) = false := decide_eq_false hx
      by_cases hy : l.length > 16777216
      · rw [if_pos (.inr hy)] at hrr
        simp only [Prod.mk.injEq] at hrr
        obtain ⟨rfl, rfl⟩ := hrr
        have e1 : decide (16777216 < (l.length : Int)) = true := decide_eq_true (by omega)
        have e2 : decide (16777216 < l.length) = true := decide_eq_true hy
        clear hx hy
        go_wp2
        refine leaves_cons (f := 115) (args := #[.pointer (some ⟨w.heap.size, 0, none⟩), .pointer (some ⟨w.heap.size + 1, 0, none⟩)]) (by simp) (by simp [go_sem]) ?_
        refine (catch_bad_I w.heap.size (w.heap.size + 1) (by omega) (.slice A2 xs.length c2) 0 (w1.setCell ⟨w.heap.size, 0, none⟩ (.slice A2 xs.length c2)) BL2.out BE2.out).mono ?_
        rintro e u' w'' ⟨rfl, rfl, rfl⟩
        have xl := ((BL2.out.set (.slice none 0 0)).other (show w.heap.size ≠ w.heap.size + 1 by omega) (.int .i64 41)).alloc (.cells #[] 134)
        have xe := ((BE2.out.other (show w.heap.size + 1 ≠ w.heap.size by omega) (.slice none 0 0)).set (.int .i64 41)).alloc (.cells #[] 134)
        have yl := xl.cell
        have ye := xe.cell
        have hB : Below w.heap.size w ((((w1.setCell ⟨w.heap.size, 0, none⟩ (.slice A2 xs.length c2)).setCell ⟨w.heap.size, 0, none⟩ (.slice none 0 0)).setCell ⟨w.heap.size + 1, 0, none⟩ (.int .i64 41)).alloc (.cells #[] 134)) := below_alloc (below_set (below_set HB2.out (by omega)) (by omega)) _
        generalize (((w1.setCell ⟨w.heap.size, 0, none⟩ (.slice A2 xs.length c2)).setCell ⟨w.heap.size, 0, none⟩ (.slice none 0 0)).setCell ⟨w.heap.size + 1, 0, none⟩ (.int .i64 41)).alloc (.cells #[] 134) = W4 at xl xe yl ye hB ⊢
        simp [Leaves, settle, results, Try.results90, go_sem]
        refine ⟨.tuple #[.slice none 0 0, .int .i64 41], by simp [yl, ye, go_sem], _, rfl, Kd.R_nil _ _ _ _ _, hB⟩
      · rw [if_neg (by omega)] at hrr
        simp only [Prod.mk.injEq] at hrr
        obtain ⟨rfl, rfl⟩ := hrr
        have e1 : decide (16777216 < (l.length : Int)) = false := decide_eq_false (by omega)
        have e2 : decide (16777216 < l.length) = false := decide_eq_false hy
        clear hx hy
        go_wp2
        refine leaves_cons (f := 115) (args := #[.pointer (some ⟨w.heap.size, 0, none⟩), .pointer (some ⟨w.heap.size + 1, 0, none⟩)]) (by simp) (by simp [go_sem]) ?_
        refine (catch_idle_I ⟨w.heap.size, 0, none⟩ ⟨w.heap.size + 1, 0, none⟩ _).mono ?_
        rintro e u' w'' ⟨rfl, rfl, rfl⟩
        have VV : ∃ v : Value, v = .slice A2 xs.length c2 := ⟨_, rfl⟩
        have x1 := (BL2.out.set (.slice A2 xs.length c2)).other (show w.heap.size ≠ w.heap.size + 1 by omega) (.int .i64 0)
        have x2 := (BE2.out.other (show w.heap.size + 1 ≠ w.heap.size by omega) (.slice A2 xs.length c2)).set (.int .i64 0)
        have yl := x1.cell
        have ye := x2.cell
        have hB : Below w.heap.size w (((w1.setCell ⟨w.heap.size, 0, none⟩ (.slice A2 xs.length c2)).setCell ⟨w.heap.size, 0, none⟩ (.slice A2 xs.length c2)).setCell ⟨w.heap.size + 1, 0, none⟩ (.int .i64 0)) := below_set (below_set HB2.out (by omega)) (by omega)
        have q1 := R_past H4.out (grownBy_setCell' w1 w.heap.size (.slice A2 xs.length c2)) (by omega)
        have q2 := R_past q1 (grownBy_setCell' _ w.heap.size (.slice A2 xs.length c2)) (by omega)
        have q3 := Kd.R_lower (base' := w.heap.size) (R_past q2 (grownBy_setCell' _ (w.heap.size + 1) (.int .i64 0)) (by omega)) (by omega)
        generalize ((w1.setCell ⟨w.heap.size, 0, none⟩ (.slice A2 xs.length c2)).setCell ⟨w.heap.size, 0, none⟩ (.slice A2 xs.length c2)).setCell ⟨w.heap.size + 1, 0, none⟩ (.int .i64 0) = W4 at x1 x2 yl ye hB q3 ⊢
        simp [Leaves, settle, results, Try.results90, go_sem]
        refine ⟨.tuple #[.slice A2 xs.length c2, .int .i64 0], by simp [yl, ye, go_sem], _, rfl, q3, hB⟩
def code_Unnums.f (k : Nat) (l0 : List Int) : Option (List Int × Int) := if l0.length ≤ 1000000000 then some (readI l0) else none
set_option maxHeartbeats 1000000 in
theorem code_Unnums.calls (k : Nat) (A0 : Option Addr) (c0 : Nat) (l0 : List Int) (r1 : List Int) (r2 : Int) (w : World) (hr0 : Kd.C (Kd.int .u8) w A0 l0.length l0) (hc0 : l0.length ≤ c0) (h : code_Unnums.f k l0 = some (r1, r2)) :
    Calls Try.prog 32 #[.slice A0 l0.length c0] w fun e w' => ∃ v0_ : Value, e = .returned (.tuple #[v0_, .int .i64 r2]) ∧ Kd.R (Kd.int .i64) 2 w' w.heap.size (fun _ => True) v0_ r1 ∧ Below w.heap.size w w' := by
  unfold code_Unnums.f at h
  split at h
  · rename_i hl
    have hrr := Option.some.inj h
    have hc := read_calls A0 c0 l0 hl w hr0 hc0 r1 r2 hrr
    clear hr0 h hrr
    go_enter Try.func32, Try.ntmps32
    go_wp2_with fail
    refine hc.mono ?_
    rintro e w1 ⟨v, rfl, hR, hb⟩
    go_wp2
    go_ret2
    exact ⟨v, rfl, hR, hb⟩
  · cases h
end Go.Proofs.Ytgihecpobichbaa.Q
