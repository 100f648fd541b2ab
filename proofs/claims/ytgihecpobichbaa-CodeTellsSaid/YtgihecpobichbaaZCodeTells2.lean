/- Texts of the claim, put together. -/
import Derived.Test.YtgihecpobichbaaK
import Derived.Test.YtgihecpobichbaaZCodeTells1
import Derived.Test.YtgihecpobichbaaWMore
import Derived.LoopTactic
import Derived.Laws.AppendOwn
import Derived.RangeFuncBox
import Derived.Recover
import Derived.WalkLawsBesides
import Derived.Defers
import Derived.WalkSpells
import Derived.RangeFuncNested
import Derived.Below
import Derived.Lib.FrozenHead
import Derived.Laws.BytesArg
import Derived.Lib.VarintBits
import Derived.Lib.Zigzag
import Derived.Laws.BitsAllLaws
import Derived.RegionCalls
import Derived.Deep.CutBlock
import Derived.Lib.Bytealg
-- Written by a program of the session over the translation's print: functions as plain Lean, and that the machine's call comes to them.
namespace Go.Proofs.Ytgihecpobichbaa.Q
open Go.RowKit Go.Proofs.YtgihecpobichbaaW.PrintWords Go.Proofs.YtgihecpobichbaaW.PrintLast Go.Proofs.YtgihecpobichbaaW.PrintMore
attribute [local go_sem] max2_int min2_int max_two min_two max_three min_three max_four min_four   -- for this text's walks alone
set_option linter.unusedVariables false
set_option linter.unusedSimpArgs false

/-! ### headgatelaw04_long: function 19 -/
mutual
def headgatelaw04_long.j0 : Nat → List (List (S116)) → List (S74) → Bool → Option (Bool)
  | 0, _, _, _ => none
  | k + 1, x0, x1, x14 => if x14 = true then (some true) else (headgatelaw04_long.l0 k x0 x1 0)
def headgatelaw04_long.l0 : Nat → List (List (S116)) → List (S74) → Int → Option (Bool)
  | 0, _, _, _ => none
  | k + 1, x0, x1, x5 => if x5 < (x0.length : Int) then (if 0 ≤ x5 then ((headgateref03_Big.f k (rd_L12 x0 x5)).bind fun t102 => (if t102 = true then (some true) else (headgatelaw04_long.l0 k x0 x1 (wrap64 (x5 + 1))))) else (none)) else (headgatelaw04_long.l1 k x1 0)
def headgatelaw04_long.l1 : Nat → List (S74) → Int → Option (Bool)
  | 0, _, _ => none
  | k + 1, x1, x6 => if x6 < (x1.length : Int) then (if 0 ≤ x6 then (if (((rd_T74 x1 x6).f0).size : Int) > 2000 then (some true) else (if (((rd_T74 x1 x6).f1).size : Int) > 2000 then (some true) else (headgatelaw04_long.l1 k x1 (wrap64 (x6 + 1))))) else (none)) else (some false)
end
def headgatelaw04_long.f (k : Nat) (l0 : List (List (S116))) (l1 : List (S74)) : Option (Bool) := if (l0.length : Int) > 300 then (headgatelaw04_long.j0 k l0 l1 true) else (headgatelaw04_long.j0 k l0 l1 (decide ((l1.length : Int) > 300)))
set_option maxHeartbeats 8000000 in
set_option maxRecDepth 100000 in
theorem headgatelaw04_long.calls (k : Nat) (A0 : Option Addr) (c0 : Nat) (l0 : List (List (S116))) (A1 : Option Addr) (c1 : Nat) (l1 : List (S74)) (r : Bool) (w : World) (hr0 : Kd.C (Kd.slice 116 k116) w A0 l0.length l0) (hc0 : l0.length ≤ c0) (hr1 : Kd.C k74 w A1 l1.length l1) (hc1 : l1.length ≤ c1) (h : headgatelaw04_long.f k l0 l1 = some r) :
    Calls Try.prog 19 #[.slice A0 l0.length c0, .slice A1 l1.length c1] w fun e w' => e = .returned (.bool r) ∧ Drawn0 w w' := by
  have HR0 := Aside0.mk hr0
  have HC0 := Aside0.mk hc0
  clear hr0 hc0
  have HR1 := Aside0.mk hr1
  have HC1 := Aside0.mk hc1
  clear hr1 hc1
  have H : (if (l0.length : Int) > 300 then (headgatelaw04_long.j0 k l0 l1 true) else (headgatelaw04_long.j0 k l0 l1 (decide ((l1.length : Int) > 300)))) = some r := h
  clear h
  have HC3 := Aside0.mk H
  clear H
  go_enter Try.func19, Try.ntmps19
  go_upto_region 1 with (fail)
  go_cut [14] (fun v14 wc => ∃ (kq : Nat) (x14_2 : Bool), v14 = .bool x14_2 ∧ Aside0 (headgatelaw04_long.j0 kq l0 l1 x14_2 = some r) ∧ Aside0 (kq ≤ k) ∧ Drawn0 w wc)
  case first =>
    have H := HC3.out
    clear HC3
    by_cases c4 : (l0.length : Int) > 300
    · rw [if_pos c4] at H
      have c4b0 : decide (300 < (l0.length : Int)) = true := decide_eq_true c4
      have c4b1 : decide (300 < l0.length) = true := decide_eq_true (by omega)
      clear c4
      (first | rw [c4b0] | (simp only [i64_w, i32_w]; rw [c4b0]) | skip)
      have H' := Aside0.mk H
      clear H
      go_wp2
      go_meet
      case rel => exact ⟨_, (true), (by first | rfl | (simp; done) | (simp [*]; done) | (simp; rw [Bool.eq_iff_iff]; simp; done)), H', ⟨by first | omega | exact Nat.le_refl _⟩, by repeat (first | exact Drawn0.refl _ | apply Drawn0.step)⟩
    · rw [if_neg c4] at H
      have c4b0 : decide (300 < (l0.length : Int)) = false := decide_eq_false c4
      have c4b1 : decide (300 < l0.length) = false := decide_eq_false (by omega)
      clear c4
      (first | rw [c4b0] | (simp only [i64_w, i32_w]; rw [c4b0]) | skip)
      have H' := Aside0.mk H
      clear H
      go_wp2
      go_meet
      case rel => exact ⟨_, (decide ((l1.length : Int) > 300)), (by first | rfl | (simp; done) | (simp [*]; done) | (simp; rw [Bool.eq_iff_iff]; simp; done)), H', ⟨by first | omega | exact Nat.le_refl _⟩, by repeat (first | exact Drawn0.refl _ | apply Drawn0.step)⟩
  case rest =>
    clear HC3
    try clear c1
    try clear p2
    try clear c4
    try clear c4b0
    try clear c4b1
    obtain ⟨kq, x14_2, rfl, HA, HJ2, ⟨mc2, rfl⟩⟩ := hcut
    cases kq with
    | zero => exact absurd HA.out (by simp [headgatelaw04_long.j0])
    | succ kj2 =>
      have H := HA.out
      clear HA
      simp only [headgatelaw04_long.j0] at H
      by_cases c5 : x14_2 = true
      · subst c5
        have H1 : (some true) = some r := by rw [if_pos rfl] at H; exact H
        clear H
        have H := H1
        clear H1
        obtain rfl := Option.some.inj H
        go_wp2
        go_ret
        exact ⟨by first | rfl | (simp; done) | (simp [*]; done), by repeat (first | exact Drawn0.refl _ | apply Drawn0.step)⟩
      · replace c5 := Bool.eq_false_iff.mpr c5
        subst c5
        have H1 : (headgatelaw04_long.l0 kj2 l0 l1 0) = some r := by rw [if_neg (show ¬ (false = true) by decide)] at H; exact H
        clear H
        have H := H1
        clear H1
        have H' := Aside0.mk H
        clear H
        go_wp2
        go_loopg [5] kj2 (fun kq v5 w' => ∃ (x5_2 : Int), v5 = .int .i64 x5_2 ∧ Aside0 (headgatelaw04_long.l0 kq l0 l1 x5_2 = some r) ∧ Aside0 (kq ≤ kj2) ∧ Drawn0 w w')
        case atStart => exact ⟨(0), (by first | rfl | (simp; done) | (simp [*]; done) | (simp; rw [Bool.eq_iff_iff]; simp; done)), H', ⟨Nat.le_refl _⟩, by repeat (first | exact Drawn0.refl _ | apply Drawn0.step)⟩
        case round =>
          clear H'
          try clear c1
          try clear c2
          try clear p2
          try clear c4
          try clear c4b0
          try clear c4b1
          try clear c5
          try clear p2
          obtain ⟨x5_2, rfl, HA, HK2, ⟨m2, rfl⟩⟩ := hrel
          cases gk with
          | zero => exact absurd HA.out (by simp [headgatelaw04_long.l0])
          | succ k2 =>
            have H := HA.out
            clear HA
            simp only [headgatelaw04_long.l0] at H
            by_cases c6 : x5_2 < (l0.length : Int)
            · rw [if_pos c6] at H
              have c6b0 : decide (x5_2 < (l0.length : Int)) = true := decide_eq_true c6
              clear c6
              by_cases c7 : 0 ≤ x5_2
              · rw [if_pos c7] at H
                have c7b0 : decide (0 ≤ x5_2) = true := decide_eq_true c7
                clear c7
                replace H := Option.bind_eq_some_iff.mp H
                obtain ⟨t102, A80, H⟩ := H
                replace H : (if t102 = true then (some true) else (headgatelaw04_long.l0 k2 l0 l1 (wrap64 (x5_2 + 1)))) = some r := H
                have A8 := Aside0.mk A80
                clear A80
                by_cases c9 : t102 = true
                · subst c9
                  have H1 : (some true) = some r := by rw [if_pos rfl] at H; exact H
                  clear H
                  have H := H1
                  clear H1
                  obtain rfl := Option.some.inj H
                  have p101 : 0 ≤ (x5_2 : Int) := of_decide_eq_true (by first | (with_reducible assumption) | assumption)
                  have q101 : x5_2 < (l0.length : Int) := of_decide_eq_true (by first | (with_reducible assumption) | assumption)
                  obtain ⟨ad101, A101_0, c101_0, e101, hx101_0, hl101_0, hi101_0⟩ := at_L12 HR0.out x5_2 p101 q101
                  cases e101
                  have HR101_0 := Aside0.mk hi101_0
                  have HC101_0 := Aside0.mk hl101_0
                  clear hi101_0 hl101_0
                  replace p101 := eq_true p101
                  replace q101 := eq_true q101
                  go_wp2_with (first | ((with_reducible refine gate_callee (f := 55) rfl ?_); refine goesL_ (some 25) rfl rfl Try.func55 (by kernel_rfl) rfl #[.slice A101_0 (rd_L12 l0 x5_2).length c101_0] rfl (by (try simp only [List.map_toArray, List.map_cons, List.map_nil]); first | done | rfl | (simp only [List.length_drop, List.length_take]; rfl) | exact congrArg (fun x_ : Int => #[Value.int .u64 x_]) (show _ = _ % (18446744073709551616 : Int) by omega)) ?_; (with_reducible refine (headgateref03_Big.calls k2 _ _ (rd_L12 l0 x5_2) true _ ?side1 ?side2 A8.out).mono ?_); (case side1 => repeat (first | exact HR101_0.out | (with_reducible refine Kd.C_alloc ?_ _) | (with_reducible refine Kd.C_drewN ?_ _) | (with_reducible refine Kd.C_drew ?_))); (case side2 => exact HC101_0.out); rintro e w' ⟨rfl, ⟨nd, rfl⟩⟩; refine ⟨_, rfl, ?_⟩))
                  go_ret
                  exact ⟨by first | rfl | (simp; done) | (simp [*]; done), by repeat (first | exact Drawn0.refl _ | apply Drawn0.step)⟩
                · replace c9 := Bool.eq_false_iff.mpr c9
                  subst c9
                  have H1 : (headgatelaw04_long.l0 k2 l0 l1 (wrap64 (x5_2 + 1))) = some r := by rw [if_neg (show ¬ (false = true) by decide)] at H; exact H
                  clear H
                  have H := H1
                  clear H1
                  have H' := Aside0.mk H
                  clear H
                  have p101 : 0 ≤ (x5_2 : Int) := of_decide_eq_true (by first | (with_reducible assumption) | assumption)
                  have q101 : x5_2 < (l0.length : Int) := of_decide_eq_true (by first | (with_reducible assumption) | assumption)
                  obtain ⟨ad101, A101_0, c101_0, e101, hx101_0, hl101_0, hi101_0⟩ := at_L12 HR0.out x5_2 p101 q101
                  cases e101
                  have HR101_0 := Aside0.mk hi101_0
                  have HC101_0 := Aside0.mk hl101_0
                  clear hi101_0 hl101_0
                  replace p101 := eq_true p101
                  replace q101 := eq_true q101
                  go_wp2_with (first | ((with_reducible refine gate_callee (f := 55) rfl ?_); refine goesL_ (some 25) rfl rfl Try.func55 (by kernel_rfl) rfl #[.slice A101_0 (rd_L12 l0 x5_2).length c101_0] rfl (by (try simp only [List.map_toArray, List.map_cons, List.map_nil]); first | done | rfl | (simp only [List.length_drop, List.length_take]; rfl) | exact congrArg (fun x_ : Int => #[Value.int .u64 x_]) (show _ = _ % (18446744073709551616 : Int) by omega)) ?_; (with_reducible refine (headgateref03_Big.calls k2 _ _ (rd_L12 l0 x5_2) false _ ?side1 ?side2 A8.out).mono ?_); (case side1 => repeat (first | exact HR101_0.out | (with_reducible refine Kd.C_alloc ?_ _) | (with_reducible refine Kd.C_drewN ?_ _) | (with_reducible refine Kd.C_drew ?_))); (case side2 => exact HC101_0.out); rintro e w' ⟨rfl, ⟨nd, rfl⟩⟩; refine ⟨_, rfl, ?_⟩))
                  go_roundg k2
                  case measure => have := HJ2.out; have := HK2.out; omega
                  case rel => exact ⟨(wrap64 (x5_2 + 1)), (by first | rfl | (simp; done) | (simp [*]; done) | (simp; rw [Bool.eq_iff_iff]; simp; done)), H', ⟨by have := HJ2.out; have := HK2.out; omega⟩, by repeat (first | exact Drawn0.refl _ | apply Drawn0.step)⟩
              · rw [if_neg c7] at H
                exact absurd H (by simp)
            · rw [if_neg c6] at H
              have c6b0 : decide (x5_2 < (l0.length : Int)) = false := decide_eq_false c6
              clear c6
              have H' := Aside0.mk H
              clear H
              go_wp2
              go_loopg [6] k2 (fun kq v6 w' => ∃ (x6_3 : Int), v6 = .int .i64 x6_3 ∧ Aside0 (headgatelaw04_long.l1 kq l1 x6_3 = some r) ∧ Aside0 (kq ≤ k2) ∧ Drawn0 w w')
              case atStart => exact ⟨(0), (by first | rfl | (simp; done) | (simp [*]; done) | (simp; rw [Bool.eq_iff_iff]; simp; done)), H', ⟨Nat.le_refl _⟩, by repeat (first | exact Drawn0.refl _ | apply Drawn0.step)⟩
              case round =>
                clear H'
                try clear c1
                try clear p1
                try clear q1
                try clear hx1
                try clear c2
                try clear p2
                try clear c4
                try clear c4b0
                try clear c4b1
                try clear c5
                try clear c6
                try clear c6b0
                try clear p6
                try clear c7
                try clear c7b0
                try clear c9
                try clear hx101_0
                try clear p101
                try clear p2
                try clear q101
                obtain ⟨x6_3, rfl, HA, HK3, ⟨m3, rfl⟩⟩ := hrel
                cases gk with
                | zero => exact absurd HA.out (by simp [headgatelaw04_long.l1])
                | succ k3 =>
                  have H := HA.out
                  clear HA
                  simp only [headgatelaw04_long.l1] at H
                  by_cases c10 : x6_3 < (l1.length : Int)
                  · rw [if_pos c10] at H
                    have c10b0 : decide (x6_3 < (l1.length : Int)) = true := decide_eq_true c10
                    clear c10
                    by_cases c11 : 0 ≤ x6_3
                    · rw [if_pos c11] at H
                      have c11b0 : decide (0 ≤ x6_3) = true := decide_eq_true c11
                      clear c11
                      by_cases c12 : (((rd_T74 l1 x6_3).f0).size : Int) > 2000
                      · rw [if_pos c12] at H
                        have c12b0 : decide (2000 < (((rd_T74 l1 x6_3).f0).size : Int)) = true := decide_eq_true c12
                        have c12b1 : decide (2000 < ((rd_T74 l1 x6_3).f0).size) = true := decide_eq_true (by omega)
                        clear c12
                        obtain rfl := Option.some.inj H
                        have p103 : 0 ≤ (x6_3 : Int) := of_decide_eq_true (by first | (with_reducible assumption) | assumption)
                        have q103 : x6_3 < (l1.length : Int) := of_decide_eq_true (by first | (with_reducible assumption) | assumption)
                        obtain ⟨ad103, e103, hx103_0, hx103_1⟩ := at_T74 HR1.out x6_3 p103 q103
                        cases e103
                        replace p103 := eq_true p103
                        replace q103 := eq_true q103
                        go_wp2
                        go_ret
                        exact ⟨by first | rfl | (simp; done) | (simp [*]; done), by repeat (first | exact Drawn0.refl _ | apply Drawn0.step)⟩
                      · rw [if_neg c12] at H
                        have c12b0 : decide (2000 < (((rd_T74 l1 x6_3).f0).size : Int)) = false := decide_eq_false c12
                        have c12b1 : decide (2000 < ((rd_T74 l1 x6_3).f0).size) = false := decide_eq_false (by omega)
                        clear c12
                        by_cases c13 : (((rd_T74 l1 x6_3).f1).size : Int) > 2000
                        · rw [if_pos c13] at H
                          have c13b0 : decide (2000 < (((rd_T74 l1 x6_3).f1).size : Int)) = true := decide_eq_true c13
                          have c13b1 : decide (2000 < ((rd_T74 l1 x6_3).f1).size) = true := decide_eq_true (by omega)
                          clear c13
                          obtain rfl := Option.some.inj H
                          have p103 : 0 ≤ (x6_3 : Int) := of_decide_eq_true (by first | (with_reducible assumption) | assumption)
                          have q103 : x6_3 < (l1.length : Int) := of_decide_eq_true (by first | (with_reducible assumption) | assumption)
                          obtain ⟨ad103, e103, hx103_0, hx103_1⟩ := at_T74 HR1.out x6_3 p103 q103
                          cases e103
                          replace p103 := eq_true p103
                          replace q103 := eq_true q103
                          have p104 : 0 ≤ (x6_3 : Int) := of_decide_eq_true (by first | (with_reducible assumption) | assumption)
                          have q104 : x6_3 < (l1.length : Int) := of_decide_eq_true (by first | (with_reducible assumption) | assumption)
                          obtain ⟨ad104, e104, hx104_0, hx104_1⟩ := at_T74 HR1.out x6_3 p104 q104
                          obtain rfl : ad103 = ad104 := (by injection e104)
                          replace p104 := eq_true p104
                          replace q104 := eq_true q104
                          go_wp2
                          go_ret
                          exact ⟨by first | rfl | (simp; done) | (simp [*]; done), by repeat (first | exact Drawn0.refl _ | apply Drawn0.step)⟩
                        · rw [if_neg c13] at H
                          have c13b0 : decide (2000 < (((rd_T74 l1 x6_3).f1).size : Int)) = false := decide_eq_false c13
                          have c13b1 : decide (2000 < ((rd_T74 l1 x6_3).f1).size) = false := decide_eq_false (by omega)
                          clear c13
                          have H' := Aside0.mk H
                          clear H
                          have p103 : 0 ≤ (x6_3 : Int) := of_decide_eq_true (by first | (with_reducible assumption) | assumption)
                          have q103 : x6_3 < (l1.length : Int) := of_decide_eq_true (by first | (with_reducible assumption) | assumption)
                          obtain ⟨ad103, e103, hx103_0, hx103_1⟩ := at_T74 HR1.out x6_3 p103 q103
                          cases e103
                          replace p103 := eq_true p103
                          replace q103 := eq_true q103
                          have p104 : 0 ≤ (x6_3 : Int) := of_decide_eq_true (by first | (with_reducible assumption) | assumption)
                          have q104 : x6_3 < (l1.length : Int) := of_decide_eq_true (by first | (with_reducible assumption) | assumption)
                          obtain ⟨ad104, e104, hx104_0, hx104_1⟩ := at_T74 HR1.out x6_3 p104 q104
                          obtain rfl : ad103 = ad104 := (by injection e104)
                          replace p104 := eq_true p104
                          replace q104 := eq_true q104
                          go_wp2
                          go_roundg k3
                          case measure => have := HJ2.out; have := HK2.out; have := HK3.out; omega
                          case rel => exact ⟨(wrap64 (x6_3 + 1)), (by first | rfl | (simp; done) | (simp [*]; done) | (simp; rw [Bool.eq_iff_iff]; simp; done)), H', ⟨by have := HJ2.out; have := HK2.out; have := HK3.out; omega⟩, by repeat (first | exact Drawn0.refl _ | apply Drawn0.step)⟩
                    · rw [if_neg c11] at H
                      exact absurd H (by simp)
                  · rw [if_neg c10] at H
                    have c10b0 : decide (x6_3 < (l1.length : Int)) = false := decide_eq_false c10
                    clear c10
                    obtain rfl := Option.some.inj H
                    go_wp2
                    go_ret
                    exact ⟨by first | rfl | (simp; done) | (simp [*]; done), by repeat (first | exact Drawn0.refl _ | apply Drawn0.step)⟩

/-! ### headgatelaw04_told: function 22 -/
def headgatelaw04_told.f (l0 : List Int) (a1 : Int) (a2 : ByteArray) (a3 : Int) : Option (Bool) := if (strOfNums l0).toList = a2.toList then (some (a1 == a3)) else (some false)
set_option maxHeartbeats 8000000 in
set_option maxRecDepth 100000 in
theorem headgatelaw04_told.calls (A0 : Option Addr) (c0 : Nat) (l0 : List Int) (a1 : Int) (a2 : ByteArray) (a3 : Int) (r : Bool) (w : World) (hr0 : Kd.C (Kd.int .u8) w A0 l0.length l0) (hc0 : l0.length ≤ c0) (h : headgatelaw04_told.f l0 a1 a2 a3 = some r) :
    Calls Try.prog 22 #[.slice A0 l0.length c0, .int .i64 a1, .string a2, .int .i64 a3] w fun e w' => e = .returned (.bool r) ∧ Drawn0 w w' := by
  have HR0 := Aside0.mk hr0
  have HC0 := Aside0.mk hc0
  clear hr0 hc0
  have H : (if (strOfNums l0).toList = a2.toList then (some (a1 == a3)) else (some false)) = some r := h
  clear h
  by_cases c5 : (strOfNums l0).toList = a2.toList
  · rw [if_pos c5] at H
    have c5b0 : ((strOfNums l0).toList == a2.toList) = true := beq_iff_eq.mpr c5
    have c5b1 : ((strOfNums l0).toList != a2.toList) = false := bne_eq_false_iff_eq.mpr c5
    clear c5
    obtain rfl := Option.some.inj H
    have hcv6 := Kd.C_string (P := Try.prog) (A := A0) (c := c0) Try.underlying27 Try.underlying5 Try.underlying9 HR0.out
    go_enter Try.func22, Try.ntmps22
    go_wp2
    go_ret
    exact ⟨by first | rfl | (simp; done) | (simp [*]; done), by repeat (first | exact Drawn0.refl _ | apply Drawn0.step)⟩
  · rw [if_neg c5] at H
    have c5b0 : ((strOfNums l0).toList == a2.toList) = false := beq_eq_false_iff_ne.mpr c5
    have c5b1 : ((strOfNums l0).toList != a2.toList) = true := bne_iff_ne.mpr c5
    obtain rfl := Option.some.inj H
    have hcv7 := Kd.C_string (P := Try.prog) (A := A0) (c := c0) Try.underlying27 Try.underlying5 Try.underlying9 HR0.out
    go_enter Try.func22, Try.ntmps22
    go_wp2
    go_ret
    exact ⟨by first | rfl | (simp; done) | (simp [*]; done), by repeat (first | exact Drawn0.refl _ | apply Drawn0.step)⟩

/-! ### headgatelaw04_wrong: function 38 -/
/-! ### headgateref04_Word: function 67 -/
def headgateref04_Word.f (k : Nat) (a0 : ByteArray) : Option (ByteArray) := (headgateref04_Num.f k (IntKind.u64.wrap ((a0.size : Int)))).bind fun t105 => (if t105.size + a0.size ≤ 9223372036854775807 then (some (t105 ++ a0)) else (none))
set_option maxHeartbeats 8000000 in
set_option maxRecDepth 100000 in
theorem headgateref04_Word.calls (k : Nat) (a0 : ByteArray) (r : ByteArray) (w : World) (h : headgateref04_Word.f k a0 = some r) :
    Calls Try.prog 67 #[.string a0] w fun e w' => e = .returned (.string r) ∧ Below w.heap.size w w' := by
  have HB := Aside0.mk (Below.refl w.heap.size w)
  have H : ((headgateref04_Num.f k (IntKind.u64.wrap ((a0.size : Int)))).bind fun t105 => (if t105.size + a0.size ≤ 9223372036854775807 then (some (t105 ++ a0)) else (none))) = some r := h
  clear h
  replace H := Option.bind_eq_some_iff.mp H
  obtain ⟨t105, A20, H⟩ := H
  replace H : (if t105.size + a0.size ≤ 9223372036854775807 then (some (t105 ++ a0)) else (none)) = some r := H
  have A2 := Aside0.mk A20
  clear A20
  by_cases c3 : t105.size + a0.size ≤ 9223372036854775807
  · rw [if_pos c3] at H
    have c3b0 := eq_true c3
    have c3b1 : decide (t105.size + a0.size ≤ 9223372036854775807) = true := decide_eq_true c3
    try have c3b2 : (9223372036854775807 < t105.size + a0.size) = False := eq_false (Nat.not_lt.2 c3)
    obtain rfl := Option.some.inj H
    go_enter Try.func67, Try.ntmps67
    go_wp2_with (first | ((with_reducible refine gate_callee (f := 16) rfl ?_); refine goesL_ (some 6) rfl rfl Try.func16 (by kernel_rfl) rfl #[.int .u64 (IntKind.u64.wrap ((a0.size : Int)))] rfl (by (try simp only [List.map_toArray, List.map_cons, List.map_nil]); first | done | rfl | (simp only [List.length_drop, List.length_take]; rfl) | exact congrArg (fun x_ : Int => #[Value.int .u64 x_]) (show _ = _ % (18446744073709551616 : Int) by omega)) ?_; (with_reducible refine (headgateref04_Num.calls k (IntKind.u64.wrap ((a0.size : Int))) t105 _ A2.out).mono ?_); rintro e w4 ⟨rfl, hb⟩; refine ⟨_, rfl, ?_⟩; have n0_ := Aside0.mk (below_step (by repeat (first | (with_reducible first | exact HB.out | apply below_alloc | apply pw_below_drewN | apply below_drew1) | exact HB.out)) hb); clear HB; have HB := n0_; clear n0_; (try clear hb); (try clear hb2); (try clear hk); (try clear hi)))
    go_ret
    exact ⟨by first | rfl | (simp [errW_none, errW_some] <;> rfl) | (simp [*, errW_none, errW_some] <;> rfl), by repeat (first | (with_reducible first | exact HB.out | apply below_alloc | apply pw_below_drewN | apply below_drew1) | exact HB.out)⟩
  · rw [if_neg c3] at H
    exact absurd H (by simp)

/-! ### headgateref04_Value: function 63 -/
def headgateref04_Value.f (k : Nat) (a0_0 : Int) (a0_1 : Int) (a0_2 : ByteArray) : Option (ByteArray) := (some (([(a0_0) % 256] : List Int) : List Int)).bind fun y107 => (if a0_0 = 1 then ((headgateref04_Int.f a0_1).bind fun t110 => ((headgateref04_Num.f k t110).bind fun t111 => (if (strOfNums y107).size + t111.size ≤ 9223372036854775807 then (some ((strOfNums y107) ++ t111)) else (none)))) else (if a0_0 = 2 then ((some (([(a0_1) % 256] : List Int) : List Int)).bind fun y112 => (if (strOfNums y107).size + (strOfNums y112).size ≤ 9223372036854775807 then (some ((strOfNums y107) ++ (strOfNums y112))) else (none))) else (if a0_0 = 3 then ((headgateref04_Word.f k a0_2).bind fun t115 => (if (strOfNums y107).size + t115.size ≤ 9223372036854775807 then (some ((strOfNums y107) ++ t115)) else (none))) else (some (strOfNums y107)))))
set_option maxHeartbeats 8000000 in
set_option maxRecDepth 100000 in
theorem headgateref04_Value.calls (k : Nat) (a0_0 : Int) (a0_1 : Int) (a0_2 : ByteArray) (r : ByteArray) (w : World) (h : headgateref04_Value.f k a0_0 a0_1 a0_2 = some r) :
    Calls Try.prog 63 #[.agg #[.int .i64 a0_0, .int .i64 a0_1, .string a0_2]] w fun e w' => e = .returned (.string r) ∧ Below w.heap.size w w' := by
  have hu116 := Try.underlying116
  have HB := Aside0.mk (Below.refl w.heap.size w)
  have H : ((some (([(a0_0) % 256] : List Int) : List Int)).bind fun y107 => (if a0_0 = 1 then ((headgateref04_Int.f a0_1).bind fun t110 => ((headgateref04_Num.f k t110).bind fun t111 => (if (strOfNums y107).size + t111.size ≤ 9223372036854775807 then (some ((strOfNums y107) ++ t111)) else (none)))) else (if a0_0 = 2 then ((some (([(a0_1) % 256] : List Int) : List Int)).bind fun y112 => (if (strOfNums y107).size + (strOfNums y112).size ≤ 9223372036854775807 then (some ((strOfNums y107) ++ (strOfNums y112))) else (none))) else (if a0_0 = 3 then ((headgateref04_Word.f k a0_2).bind fun t115 => (if (strOfNums y107).size + t115.size ≤ 9223372036854775807 then (some ((strOfNums y107) ++ t115)) else (none))) else (some (strOfNums y107)))))) = some r := h
  clear h
  obtain ⟨y107, hy107⟩ : ∃ y_ : List Int, y_ = (([(a0_0) % 256] : List Int)) := ⟨_, rfl⟩
  replace H : (if a0_0 = 1 then ((headgateref04_Int.f a0_1).bind fun t110 => ((headgateref04_Num.f k t110).bind fun t111 => (if (strOfNums y107).size + t111.size ≤ 9223372036854775807 then (some ((strOfNums y107) ++ t111)) else (none)))) else (if a0_0 = 2 then ((some (([(a0_1) % 256] : List Int) : List Int)).bind fun y112 => (if (strOfNums y107).size + (strOfNums y112).size ≤ 9223372036854775807 then (some ((strOfNums y107) ++ (strOfNums y112))) else (none))) else (if a0_0 = 3 then ((headgateref04_Word.f k a0_2).bind fun t115 => (if (strOfNums y107).size + t115.size ≤ 9223372036854775807 then (some ((strOfNums y107) ++ t115)) else (none))) else (some (strOfNums y107))))) = some r := by first | (rw [hy107]; with_reducible exact H) | (have H2_ := (Option.bind_some _ _).symm.trans H; rw [hy107]; with_reducible exact H2_) | (have H2_ := (Option.bind_some _ _).symm.trans H; with_reducible exact H2_) | with_reducible exact H | (rw [hy107]; exact H) | exact H
  have Ny107 := Aside0.mk hy107
  clear hy107
  by_cases c2 : a0_0 = 1
  · rw [if_pos c2] at H
    have c2b0 : (a0_0 == 1) = true := beq_iff_eq.mpr c2
    have c2b1 : (a0_0 != 1) = false := bne_eq_false_iff_eq.mpr c2
    clear c2
    replace H := Option.bind_eq_some_iff.mp H
    obtain ⟨t110, A30, H⟩ := H
    replace H : ((headgateref04_Num.f k t110).bind fun t111 => (if (strOfNums y107).size + t111.size ≤ 9223372036854775807 then (some ((strOfNums y107) ++ t111)) else (none))) = some r := H
    have A3 := Aside0.mk A30
    clear A30
    replace H := Option.bind_eq_some_iff.mp H
    obtain ⟨t111, A40, H⟩ := H
    replace H : (if (strOfNums y107).size + t111.size ≤ 9223372036854775807 then (some ((strOfNums y107) ++ t111)) else (none)) = some r := H
    have A4 := Aside0.mk A40
    clear A40
    by_cases c5 : (strOfNums y107).size + t111.size ≤ 9223372036854775807
    · rw [if_pos c5] at H
      have c5b0 := eq_true c5
      have c5b1 : decide ((strOfNums y107).size + t111.size ≤ 9223372036854775807) = true := decide_eq_true c5
      try have c5b2 : (9223372036854775807 < (strOfNums y107).size + t111.size) = False := eq_false (Nat.not_lt.2 c5)
      obtain rfl := Option.some.inj H
      go_enter Try.func63, Try.ntmps63
      go_wp2_with (first | ((with_reducible refine gate_dst (N := 1) rfl ?_); refine box_event ?hg (N := 1) ?hd (cs := #[.int .i64 a0_0, .int .i64 a0_1, .string a0_2]) (t := 116) ?hr ?_; (case hd => rfl); (case hg => rfl); (case hr => first | (go_simp; done) | (go_simp; rfl)); intro gb106 hg w6 hbox hb; have n0_ := Aside0.mk (below_step (by repeat (first | (with_reducible first | exact HB.out | apply below_alloc | apply pw_below_drewN | apply below_drew1) | exact HB.out)) hb); have n1_ := Aside0.mk (hbox); have n2_ := Aside0.mk ((by rw [hg]; exact (below_size (by repeat (first | (with_reducible first | exact HB.out | apply below_alloc | apply pw_below_drewN | apply below_drew1) | exact HB.out))) : w.heap.size ≤ gb106)); have n3_ := Aside0.mk ((by rw [hg]; exact (below_size (by repeat (first | (with_reducible first | exact HB.out | apply below_alloc | apply pw_below_drewN | apply below_drew1) | exact HB.out))) : w.heap.size ≤ gb106)); clear HB; have HB := n0_; have BK106 := n1_; have GW106 := n2_; have GE106 := n3_; clear n0_ n1_ n2_ n3_; clear hb hbox hg; obtain ⟨hcz7_0, hcz7_1, hcz7_2, hfz7_0, hfz7_1, hfz7_2⟩ := bf3 BK106.out) | ((with_reducible refine gate_dst (N := 7) rfl ?_); refine Kd.R_lit (Kd.int .u8) _ 5 ?hg (N := 7) ?hd (xs := ([(a0_0) % 256] : List Int)) (inner := [.int .u8 ((a0_0) % 256)]) (ok := fun _ => True) (okp := fun _ => True) ?hr ?hp (fun _ hk => hk) trivial (Below.refl _ _) (Nat.le_refl _) (by simp) ?_; (case hd => rfl); (case hg => rfl); (case hr => first | (go_simp; done) | (go_simp; rfl)); (case hp => exact (Reps.one (show Kd.M (Kd.int .u8) _ _ _ ((a0_0) % 256) [.int .u8 ((a0_0) % 256)] from rfl) (Reps.none _ _))); intro v108 w8 ho9 hb hg_ hnew_; clear hg_ hnew_; (first | rw [← Ny107.out] at ho9 | (simp only [Int.reduceToNat] at ho9; rw [← Ny107.out] at ho9)); have n0_ := Aside0.mk (Kd.R_lower ho9 (below_size (by repeat (first | (with_reducible first | exact HB.out | apply below_alloc | apply pw_below_drewN | apply below_drew1 | refine below_set ?_ GE106.out) | exact HB.out)))); have n1_ := Aside0.mk (blk_below (g := gb106) (o := .cells #[.int .i64 a0_0, .int .i64 a0_1, .string a0_2] 116 (0, 0)) (by (with_reducible repeat (first | refine blk_drewN ?_ _ | refine blk_drew ?_ | refine blk_alloc ?_ _)); exact BK106.out) hb); have n2_ := Aside0.mk (below_step (by repeat (first | (with_reducible first | exact HB.out | apply below_alloc | apply pw_below_drewN | apply below_drew1 | refine below_set ?_ GE106.out) | exact HB.out)) hb); clear BK106; clear HB; have HO109 := n0_; have BK106 := n1_; have HB := n2_; clear n0_ n1_ n2_; clear hb ho9; have hcv10 := own_string (P := Try.prog) Try.underlying27 Try.underlying5 Try.underlying9 (Kd.own_of_R HO109.out); obtain ⟨hcz11_0, hcz11_1, hcz11_2, hfz11_0, hfz11_1, hfz11_2⟩ := bf3 BK106.out) | ((with_reducible refine gate_callee (f := 73) rfl ?_); refine goesL_ (some 16) rfl rfl Try.func73 (by kernel_rfl) rfl #[.int .i64 a0_1] rfl (by (try simp only [List.map_toArray, List.map_cons, List.map_nil]); first | done | rfl | (simp only [List.length_drop, List.length_take]; rfl) | exact congrArg (fun x_ : Int => #[Value.int .u64 x_]) (show _ = _ % (18446744073709551616 : Int) by omega)) ?_; (with_reducible refine (headgateref04_Int.calls a0_1 t110 _ A3.out).mono ?_); rintro e w' ⟨rfl, ⟨nd, rfl⟩⟩; refine ⟨_, rfl, ?_⟩) | ((with_reducible refine gate_callee (f := 16) rfl ?_); refine goesL_ (some 17) rfl rfl Try.func16 (by kernel_rfl) rfl #[.int .u64 t110] rfl (by (try simp only [List.map_toArray, List.map_cons, List.map_nil]); first | done | rfl | (simp only [List.length_drop, List.length_take]; rfl) | exact congrArg (fun x_ : Int => #[Value.int .u64 x_]) (show _ = _ % (18446744073709551616 : Int) by omega)) ?_; (with_reducible refine (headgateref04_Num.calls k t110 t111 _ A4.out).mono ?_); rintro e w12 ⟨rfl, hb⟩; refine ⟨_, rfl, ?_⟩; have n0_ := Aside0.mk (Kd.R_below (by (with_reducible repeat (first | apply Kd.R_alloc | apply Kd.R_drewN | apply Kd.R_drew)); exact HO109.out) hb); have n1_ := Aside0.mk (blk_below (g := gb106) (o := .cells #[.int .i64 a0_0, .int .i64 a0_1, .string a0_2] 116 (0, 0)) (by (with_reducible repeat (first | refine blk_drewN ?_ _ | refine blk_drew ?_ | refine blk_alloc ?_ _)); exact BK106.out) hb); have n2_ := Aside0.mk (below_step (by repeat (first | (with_reducible first | exact HB.out | apply below_alloc | apply pw_below_drewN | apply below_drew1 | refine below_set ?_ GE106.out) | exact HB.out)) hb); clear HO109; clear BK106; clear HB; have HO109 := n0_; have BK106 := n1_; have HB := n2_; clear n0_ n1_ n2_; (try clear hb); (try clear hb2); (try clear hk); (try clear hi)))
      go_ret
      exact ⟨by first | rfl | (simp [errW_none, errW_some] <;> rfl) | (simp [*, errW_none, errW_some] <;> rfl), by repeat (first | (with_reducible first | exact HB.out | apply below_alloc | apply pw_below_drewN | apply below_drew1 | refine below_set ?_ GE106.out) | exact HB.out)⟩
    · rw [if_neg c5] at H
      exact absurd H (by simp)
  · rw [if_neg c2] at H
    have c2b0 : (a0_0 == 1) = false := beq_eq_false_iff_ne.mpr c2
    have c2b1 : (a0_0 != 1) = true := bne_iff_ne.mpr c2
    by_cases c13 : a0_0 = 2
    · rw [if_pos c13] at H
      have c13b0 : (a0_0 == 2) = true := beq_iff_eq.mpr c13
      have c13b1 : (a0_0 != 2) = false := bne_eq_false_iff_eq.mpr c13
      clear c13
      obtain ⟨y112, hy112⟩ : ∃ y_ : List Int, y_ = (([(a0_1) % 256] : List Int)) := ⟨_, rfl⟩
      replace H : (if (strOfNums y107).size + (strOfNums y112).size ≤ 9223372036854775807 then (some ((strOfNums y107) ++ (strOfNums y112))) else (none)) = some r := by first | (rw [hy112]; with_reducible exact H) | (have H2_ := (Option.bind_some _ _).symm.trans H; rw [hy112]; with_reducible exact H2_) | (have H2_ := (Option.bind_some _ _).symm.trans H; with_reducible exact H2_) | with_reducible exact H | (rw [hy112]; exact H) | exact H
      have Ny112 := Aside0.mk hy112
      clear hy112
      by_cases c14 : (strOfNums y107).size + (strOfNums y112).size ≤ 9223372036854775807
      · rw [if_pos c14] at H
        have c14b0 := eq_true c14
        have c14b1 : decide ((strOfNums y107).size + (strOfNums y112).size ≤ 9223372036854775807) = true := decide_eq_true c14
        try have c14b2 : (9223372036854775807 < (strOfNums y107).size + (strOfNums y112).size) = False := eq_false (Nat.not_lt.2 c14)
        obtain rfl := Option.some.inj H
        go_enter Try.func63, Try.ntmps63
        go_wp2_with (first | ((with_reducible refine gate_dst (N := 1) rfl ?_); refine box_event ?hg (N := 1) ?hd (cs := #[.int .i64 a0_0, .int .i64 a0_1, .string a0_2]) (t := 116) ?hr ?_; (case hd => rfl); (case hg => rfl); (case hr => first | (go_simp; done) | (go_simp; rfl)); intro gb106 hg w15 hbox hb; have n0_ := Aside0.mk (below_step (by repeat (first | (with_reducible first | exact HB.out | apply below_alloc | apply pw_below_drewN | apply below_drew1) | exact HB.out)) hb); have n1_ := Aside0.mk (hbox); have n2_ := Aside0.mk ((by rw [hg]; exact (below_size (by repeat (first | (with_reducible first | exact HB.out | apply below_alloc | apply pw_below_drewN | apply below_drew1) | exact HB.out))) : w.heap.size ≤ gb106)); have n3_ := Aside0.mk ((by rw [hg]; exact (below_size (by repeat (first | (with_reducible first | exact HB.out | apply below_alloc | apply pw_below_drewN | apply below_drew1) | exact HB.out))) : w.heap.size ≤ gb106)); clear HB; have HB := n0_; have BK106 := n1_; have GW106 := n2_; have GE106 := n3_; clear n0_ n1_ n2_ n3_; clear hb hbox hg; obtain ⟨hcz16_0, hcz16_1, hcz16_2, hfz16_0, hfz16_1, hfz16_2⟩ := bf3 BK106.out) | ((with_reducible refine gate_dst (N := 7) rfl ?_); refine Kd.R_lit (Kd.int .u8) _ 5 ?hg (N := 7) ?hd (xs := ([(a0_0) % 256] : List Int)) (inner := [.int .u8 ((a0_0) % 256)]) (ok := fun _ => True) (okp := fun _ => True) ?hr ?hp (fun _ hk => hk) trivial (Below.refl _ _) (Nat.le_refl _) (by simp) ?_; (case hd => rfl); (case hg => rfl); (case hr => first | (go_simp; done) | (go_simp; rfl)); (case hp => exact (Reps.one (show Kd.M (Kd.int .u8) _ _ _ ((a0_0) % 256) [.int .u8 ((a0_0) % 256)] from rfl) (Reps.none _ _))); intro v108 w17 ho18 hb hg_ hnew_; clear hg_ hnew_; (first | rw [← Ny107.out] at ho18 | (simp only [Int.reduceToNat] at ho18; rw [← Ny107.out] at ho18)); have n0_ := Aside0.mk (Kd.R_lower ho18 (below_size (by repeat (first | (with_reducible first | exact HB.out | apply below_alloc | apply pw_below_drewN | apply below_drew1 | refine below_set ?_ GE106.out) | exact HB.out)))); have n1_ := Aside0.mk (blk_below (g := gb106) (o := .cells #[.int .i64 a0_0, .int .i64 a0_1, .string a0_2] 116 (0, 0)) (by (with_reducible repeat (first | refine blk_drewN ?_ _ | refine blk_drew ?_ | refine blk_alloc ?_ _)); exact BK106.out) hb); have n2_ := Aside0.mk (below_step (by repeat (first | (with_reducible first | exact HB.out | apply below_alloc | apply pw_below_drewN | apply below_drew1 | refine below_set ?_ GE106.out) | exact HB.out)) hb); clear BK106; clear HB; have HO109 := n0_; have BK106 := n1_; have HB := n2_; clear n0_ n1_ n2_; clear hb ho18; have hcv19 := own_string (P := Try.prog) Try.underlying27 Try.underlying5 Try.underlying9 (Kd.own_of_R HO109.out); obtain ⟨hcz20_0, hcz20_1, hcz20_2, hfz20_0, hfz20_1, hfz20_2⟩ := bf3 BK106.out) | ((with_reducible refine gate_dst (N := 25) rfl ?_); refine Kd.R_lit (Kd.int .u8) _ 5 ?hg (N := 25) ?hd (xs := ([(a0_1) % 256] : List Int)) (inner := [.int .u8 ((a0_1) % 256)]) (ok := fun _ => True) (okp := fun _ => True) ?hr ?hp (fun _ hk => hk) trivial (Below.refl _ _) (Nat.le_refl _) (by simp) ?_; (case hd => rfl); (case hg => rfl); (case hr => first | (go_simp; done) | (go_simp; rfl)); (case hp => exact (Reps.one (show Kd.M (Kd.int .u8) _ _ _ ((a0_1) % 256) [.int .u8 ((a0_1) % 256)] from rfl) (Reps.none _ _))); intro v113 w21 ho22 hb hg_ hnew_; clear hg_ hnew_; (first | rw [← Ny112.out] at ho22 | (simp only [Int.reduceToNat] at ho22; rw [← Ny112.out] at ho22)); have n0_ := Aside0.mk (Kd.R_elder' (by (with_reducible repeat (first | apply Kd.R_alloc | apply Kd.R_drewN | apply Kd.R_drew)); exact HO109.out) (Kd.R_base ho22) hb); have n1_ := Aside0.mk (Kd.R_lower (Kd.R_new' ho22 (Kd.R_lt (by (with_reducible repeat (first | apply Kd.R_alloc | apply Kd.R_drewN | apply Kd.R_drew)); exact HO109.out))) (below_size (by repeat (first | (with_reducible first | exact HB.out | apply below_alloc | apply pw_below_drewN | apply below_drew1 | refine below_set ?_ GE106.out) | exact HB.out)))); have n2_ := Aside0.mk (blk_below (g := gb106) (o := .cells #[.int .i64 a0_0, .int .i64 a0_1, .string a0_2] 116 (0, 0)) (by (with_reducible repeat (first | refine blk_drewN ?_ _ | refine blk_drew ?_ | refine blk_alloc ?_ _)); exact BK106.out) hb); have n3_ := Aside0.mk (below_step (by repeat (first | (with_reducible first | exact HB.out | apply below_alloc | apply pw_below_drewN | apply below_drew1 | refine below_set ?_ GE106.out) | exact HB.out)) hb); clear HO109; clear BK106; clear HB; have HO109 := n0_; have HO114 := n1_; have BK106 := n2_; have HB := n3_; clear n0_ n1_ n2_ n3_; clear hb ho22; have hcv23 := own_string (P := Try.prog) Try.underlying27 Try.underlying5 Try.underlying9 (Kd.own_of_R HO114.out)))
        go_ret
        exact ⟨by first | rfl | (simp [errW_none, errW_some] <;> rfl) | (simp [*, errW_none, errW_some] <;> rfl), by repeat (first | (with_reducible first | exact HB.out | apply below_alloc | apply pw_below_drewN | apply below_drew1 | refine below_set ?_ GE106.out) | exact HB.out)⟩
      · rw [if_neg c14] at H
        exact absurd H (by simp)
    · rw [if_neg c13] at H
      have c13b0 : (a0_0 == 2) = false := beq_eq_false_iff_ne.mpr c13
      have c13b1 : (a0_0 != 2) = true := bne_iff_ne.mpr c13
      by_cases c24 : a0_0 = 3
      · rw [if_pos c24] at H
        have c24b0 : (a0_0 == 3) = true := beq_iff_eq.mpr c24
        have c24b1 : (a0_0 != 3) = false := bne_eq_false_iff_eq.mpr c24
        clear c24
        replace H := Option.bind_eq_some_iff.mp H
        obtain ⟨t115, A250, H⟩ := H
        replace H : (if (strOfNums y107).size + t115.size ≤ 9223372036854775807 then (some ((strOfNums y107) ++ t115)) else (none)) = some r := H
        have A25 := Aside0.mk A250
        clear A250
        by_cases c26 : (strOfNums y107).size + t115.size ≤ 9223372036854775807
        · rw [if_pos c26] at H
          have c26b0 := eq_true c26
          have c26b1 : decide ((strOfNums y107).size + t115.size ≤ 9223372036854775807) = true := decide_eq_true c26
          try have c26b2 : (9223372036854775807 < (strOfNums y107).size + t115.size) = False := eq_false (Nat.not_lt.2 c26)
          obtain rfl := Option.some.inj H
          go_enter Try.func63, Try.ntmps63
          go_wp2_with (first | ((with_reducible refine gate_dst (N := 1) rfl ?_); refine box_event ?hg (N := 1) ?hd (cs := #[.int .i64 a0_0, .int .i64 a0_1, .string a0_2]) (t := 116) ?hr ?_; (case hd => rfl); (case hg => rfl); (case hr => first | (go_simp; done) | (go_simp; rfl)); intro gb106 hg w27 hbox hb; have n0_ := Aside0.mk (below_step (by repeat (first | (with_reducible first | exact HB.out | apply below_alloc | apply pw_below_drewN | apply below_drew1) | exact HB.out)) hb); have n1_ := Aside0.mk (hbox); have n2_ := Aside0.mk ((by rw [hg]; exact (below_size (by repeat (first | (with_reducible first | exact HB.out | apply below_alloc | apply pw_below_drewN | apply below_drew1) | exact HB.out))) : w.heap.size ≤ gb106)); have n3_ := Aside0.mk ((by rw [hg]; exact (below_size (by repeat (first | (with_reducible first | exact HB.out | apply below_alloc | apply pw_below_drewN | apply below_drew1) | exact HB.out))) : w.heap.size ≤ gb106)); clear HB; have HB := n0_; have BK106 := n1_; have GW106 := n2_; have GE106 := n3_; clear n0_ n1_ n2_ n3_; clear hb hbox hg; obtain ⟨hcz28_0, hcz28_1, hcz28_2, hfz28_0, hfz28_1, hfz28_2⟩ := bf3 BK106.out) | ((with_reducible refine gate_dst (N := 7) rfl ?_); refine Kd.R_lit (Kd.int .u8) _ 5 ?hg (N := 7) ?hd (xs := ([(a0_0) % 256] : List Int)) (inner := [.int .u8 ((a0_0) % 256)]) (ok := fun _ => True) (okp := fun _ => True) ?hr ?hp (fun _ hk => hk) trivial (Below.refl _ _) (Nat.le_refl _) (by simp) ?_; (case hd => rfl); (case hg => rfl); (case hr => first | (go_simp; done) | (go_simp; rfl)); (case hp => exact (Reps.one (show Kd.M (Kd.int .u8) _ _ _ ((a0_0) % 256) [.int .u8 ((a0_0) % 256)] from rfl) (Reps.none _ _))); intro v108 w29 ho30 hb hg_ hnew_; clear hg_ hnew_; (first | rw [← Ny107.out] at ho30 | (simp only [Int.reduceToNat] at ho30; rw [← Ny107.out] at ho30)); have n0_ := Aside0.mk (Kd.R_lower ho30 (below_size (by repeat (first | (with_reducible first | exact HB.out | apply below_alloc | apply pw_below_drewN | apply below_drew1 | refine below_set ?_ GE106.out) | exact HB.out)))); have n1_ := Aside0.mk (blk_below (g := gb106) (o := .cells #[.int .i64 a0_0, .int .i64 a0_1, .string a0_2] 116 (0, 0)) (by (with_reducible repeat (first | refine blk_drewN ?_ _ | refine blk_drew ?_ | refine blk_alloc ?_ _)); exact BK106.out) hb); have n2_ := Aside0.mk (below_step (by repeat (first | (with_reducible first | exact HB.out | apply below_alloc | apply pw_below_drewN | apply below_drew1 | refine below_set ?_ GE106.out) | exact HB.out)) hb); clear BK106; clear HB; have HO109 := n0_; have BK106 := n1_; have HB := n2_; clear n0_ n1_ n2_; clear hb ho30; have hcv31 := own_string (P := Try.prog) Try.underlying27 Try.underlying5 Try.underlying9 (Kd.own_of_R HO109.out); obtain ⟨hcz32_0, hcz32_1, hcz32_2, hfz32_0, hfz32_1, hfz32_2⟩ := bf3 BK106.out) | ((with_reducible refine gate_callee (f := 67) rfl ?_); refine goesL_ (some 33) rfl rfl Try.func67 (by kernel_rfl) rfl #[.string a0_2] rfl (by (try simp only [List.map_toArray, List.map_cons, List.map_nil]); first | done | rfl | (simp only [List.length_drop, List.length_take]; rfl) | exact congrArg (fun x_ : Int => #[Value.int .u64 x_]) (show _ = _ % (18446744073709551616 : Int) by omega)) ?_; (with_reducible refine (headgateref04_Word.calls k a0_2 t115 _ A25.out).mono ?_); rintro e w33 ⟨rfl, hb⟩; refine ⟨_, rfl, ?_⟩; have n0_ := Aside0.mk (Kd.R_below (by (with_reducible repeat (first | apply Kd.R_alloc | apply Kd.R_drewN | apply Kd.R_drew)); exact HO109.out) hb); have n1_ := Aside0.mk (blk_below (g := gb106) (o := .cells #[.int .i64 a0_0, .int .i64 a0_1, .string a0_2] 116 (0, 0)) (by (with_reducible repeat (first | refine blk_drewN ?_ _ | refine blk_drew ?_ | refine blk_alloc ?_ _)); exact BK106.out) hb); have n2_ := Aside0.mk (below_step (by repeat (first | (with_reducible first | exact HB.out | apply below_alloc | apply pw_below_drewN | apply below_drew1 | refine below_set ?_ GE106.out) | exact HB.out)) hb); clear HO109; clear BK106; clear HB; have HO109 := n0_; have BK106 := n1_; have HB := n2_; clear n0_ n1_ n2_; (try clear hb); (try clear hb2); (try clear hk); (try clear hi)))
          go_ret
          exact ⟨by first | rfl | (simp [errW_none, errW_some] <;> rfl) | (simp [*, errW_none, errW_some] <;> rfl), by repeat (first | (with_reducible first | exact HB.out | apply below_alloc | apply pw_below_drewN | apply below_drew1 | refine below_set ?_ GE106.out) | exact HB.out)⟩
        · rw [if_neg c26] at H
          exact absurd H (by simp)
      · rw [if_neg c24] at H
        have c24b0 : (a0_0 == 3) = false := beq_eq_false_iff_ne.mpr c24
        have c24b1 : (a0_0 != 3) = true := bne_iff_ne.mpr c24
        obtain rfl := Option.some.inj H
        go_enter Try.func63, Try.ntmps63
        go_wp2_with (first | ((with_reducible refine gate_dst (N := 1) rfl ?_); refine box_event ?hg (N := 1) ?hd (cs := #[.int .i64 a0_0, .int .i64 a0_1, .string a0_2]) (t := 116) ?hr ?_; (case hd => rfl); (case hg => rfl); (case hr => first | (go_simp; done) | (go_simp; rfl)); intro gb106 hg w34 hbox hb; have n0_ := Aside0.mk (below_step (by repeat (first | (with_reducible first | exact HB.out | apply below_alloc | apply pw_below_drewN | apply below_drew1) | exact HB.out)) hb); have n1_ := Aside0.mk (hbox); have n2_ := Aside0.mk ((by rw [hg]; exact (below_size (by repeat (first | (with_reducible first | exact HB.out | apply below_alloc | apply pw_below_drewN | apply below_drew1) | exact HB.out))) : w.heap.size ≤ gb106)); have n3_ := Aside0.mk ((by rw [hg]; exact (below_size (by repeat (first | (with_reducible first | exact HB.out | apply below_alloc | apply pw_below_drewN | apply below_drew1) | exact HB.out))) : w.heap.size ≤ gb106)); clear HB; have HB := n0_; have BK106 := n1_; have GW106 := n2_; have GE106 := n3_; clear n0_ n1_ n2_ n3_; clear hb hbox hg; obtain ⟨hcz35_0, hcz35_1, hcz35_2, hfz35_0, hfz35_1, hfz35_2⟩ := bf3 BK106.out) | ((with_reducible refine gate_dst (N := 7) rfl ?_); refine Kd.R_lit (Kd.int .u8) _ 5 ?hg (N := 7) ?hd (xs := ([(a0_0) % 256] : List Int)) (inner := [.int .u8 ((a0_0) % 256)]) (ok := fun _ => True) (okp := fun _ => True) ?hr ?hp (fun _ hk => hk) trivial (Below.refl _ _) (Nat.le_refl _) (by simp) ?_; (case hd => rfl); (case hg => rfl); (case hr => first | (go_simp; done) | (go_simp; rfl)); (case hp => exact (Reps.one (show Kd.M (Kd.int .u8) _ _ _ ((a0_0) % 256) [.int .u8 ((a0_0) % 256)] from rfl) (Reps.none _ _))); intro v108 w36 ho37 hb hg_ hnew_; clear hg_ hnew_; (first | rw [← Ny107.out] at ho37 | (simp only [Int.reduceToNat] at ho37; rw [← Ny107.out] at ho37)); have n0_ := Aside0.mk (Kd.R_lower ho37 (below_size (by repeat (first | (with_reducible first | exact HB.out | apply below_alloc | apply pw_below_drewN | apply below_drew1 | refine below_set ?_ GE106.out) | exact HB.out)))); have n1_ := Aside0.mk (blk_below (g := gb106) (o := .cells #[.int .i64 a0_0, .int .i64 a0_1, .string a0_2] 116 (0, 0)) (by (with_reducible repeat (first | refine blk_drewN ?_ _ | refine blk_drew ?_ | refine blk_alloc ?_ _)); exact BK106.out) hb); have n2_ := Aside0.mk (below_step (by repeat (first | (with_reducible first | exact HB.out | apply below_alloc | apply pw_below_drewN | apply below_drew1 | refine below_set ?_ GE106.out) | exact HB.out)) hb); clear BK106; clear HB; have HO109 := n0_; have BK106 := n1_; have HB := n2_; clear n0_ n1_ n2_; clear hb ho37; have hcv38 := own_string (P := Try.prog) Try.underlying27 Try.underlying5 Try.underlying9 (Kd.own_of_R HO109.out); obtain ⟨hcz39_0, hcz39_1, hcz39_2, hfz39_0, hfz39_1, hfz39_2⟩ := bf3 BK106.out))
        go_ret
        exact ⟨by first | rfl | (simp [errW_none, errW_some] <;> rfl) | (simp [*, errW_none, errW_some] <;> rfl), by repeat (first | (with_reducible first | exact HB.out | apply below_alloc | apply pw_below_drewN | apply below_drew1 | refine below_set ?_ GE106.out) | exact HB.out)⟩

end Go.Proofs.Ytgihecpobichbaa.Q
/- Whole numbers of 64 bits, quotients and rests, in plain words: no program in it. -/
namespace Go.Proofs.Ytgihecpobichbaa.Q
open Go.RowKit Go.Proofs.YtgihecpobichbaaW.PrintWords Go.Proofs.YtgihecpobichbaaW.PrintLast Go.Proofs.YtgihecpobichbaaW.PrintMore
set_option linter.unusedVariables false
set_option linter.unusedSimpArgs false

def in64 (x : Int) : Prop := -9223372036854775808 ≤ x ∧ x ≤ 9223372036854775807
instance (x : Int) : Decidable (in64 x) := by unfold in64; infer_instance
theorem wrapu (x : Int) : IntKind.u64.wrap x = x % 18446744073709551616 := rfl
theorem wf64 {x : Int} (h : (Lit.int .i64 x).wf = true) : in64 x := by
  have hmin : IntKind.i64.min = -9223372036854775808 := rfl
  have hmax : IntKind.i64.max = 9223372036854775807 := rfl
  simp only [Lit.wf, Bool.and_eq_true, decide_eq_true_eq] at h
  unfold in64
  omega
theorem wrap_in {x : Int} (h : in64 x) : wrap64 x = x := by
  unfold in64 at h
  unfold wrap64
  omega
theorem rd_drop (l : List Int) (j : Int) (h0 : 0 ≤ j) (h1 : j < (l.length : Int)) : l.drop j.toNat = rd l j :: l.drop (j + 1).toNat := by
  have e : (j + 1).toNat = j.toNat + 1 := by omega
  have hl : j.toNat < l.length := by omega
  rw [e, List.drop_eq_getElem_cons hl]
  unfold rd
  rw [List.getD_eq_getElem?_getD, List.getElem?_eq_getElem hl]
  rfl
theorem rd_mem (l : List Int) (j : Int) (h0 : 0 ≤ j) (h1 : j < (l.length : Int)) : rd l j ∈ l := by
  have hl : j.toNat < l.length := by omega
  unfold rd
  rw [List.getD_eq_getElem?_getD, List.getElem?_eq_getElem hl]
  exact List.getElem_mem hl
end Go.Proofs.Ytgihecpobichbaa.Q
-- Written by a program of the session over the translation's print: functions as plain Lean, and that the machine's call comes to them.
namespace Go.Proofs.Ytgihecpobichbaa.Q
open Go.RowKit Go.Proofs.YtgihecpobichbaaW.PrintWords Go.Proofs.YtgihecpobichbaaW.PrintLast Go.Proofs.YtgihecpobichbaaW.PrintMore
attribute [local go_sem] max2_int min2_int max_two min_two max_three min_three max_four min_four   -- for this text's walks alone
set_option linter.unusedVariables false
set_option linter.unusedSimpArgs false

/-! ### code_Unnum: function 13 -/
mutual
def code_Unnum.l0 : Nat → Int → List Int → Int → Int → Option (Int × Int × Int)
  | 0, _, _, _, _ => none
  | k + 1, x5, x8, x9, x10 => if x10 < x9 then (if 0 ≤ x10 then (if x10 < (x8.length : Int) then (if x10 = 9 then (code_Unnum.j1 k x5 x10 (rd x8 x10) x8 x9 x10 (decide ((rd x8 x10) > 1))) else (code_Unnum.j1 k x5 x10 (rd x8 x10) x8 x9 x10 false)) else (none)) else (none)) else (some (0, 0, 41))
def code_Unnum.j1 : Nat → Int → Int → Int → List Int → Int → Int → Bool → Option (Int × Int × Int)
  | 0, _, _, _, _, _, _, _ => none
  | k + 1, x5, x6, x7, x8, x9, x10, x15 => if x15 = true then (code_Unnum.j2 k x5 x6 x7 x8 x9 x10 x15) else (if x6 > 0 then (code_Unnum.j2 k x5 x6 x7 x8 x9 x10 (x7 == 0)) else (code_Unnum.j2 k x5 x6 x7 x8 x9 x10 false))
def code_Unnum.j2 : Nat → Int → Int → Int → List Int → Int → Int → Bool → Option (Int × Int × Int)
  | 0, _, _, _, _, _, _, _ => none
  | k + 1, x5, x6, x7, x8, x9, x10, x15 => if x15 = true then (some (0, 0, 41)) else (if 0 ≤ (wrap64 (7 * x6)) then (if x7 < 128 then (some (Go.bits .or .u64 x5 (shl .u64 (IntKind.u64.wrap (Go.bits .and .u8 x7 127)) (wrap64 (7 * x6))), wrap64 (x6 + 1), 0)) else (code_Unnum.l0 k (Go.bits .or .u64 x5 (shl .u64 (IntKind.u64.wrap (Go.bits .and .u8 x7 127)) (wrap64 (7 * x6)))) x8 x9 (wrap64 (x10 + 1)))) else (none))
end
def code_Unnum.f (k : Nat) (l0 : List Int) : Option (Int × Int × Int) := code_Unnum.l0 k 0 l0 (l0.length : Int) 0
set_option maxHeartbeats 8000000 in
set_option maxRecDepth 100000 in
theorem code_Unnum.calls (k : Nat) (A0 : Option Addr) (c0 : Nat) (l0 : List Int) (r1 : Int) (r2 : Int) (r3 : Int) (w : World) (hr0 : Kd.C (Kd.int .u8) w A0 l0.length l0) (hc0 : l0.length ≤ c0) (h : code_Unnum.f k l0 = some (r1, r2, r3)) :
    Calls Try.prog 13 #[.slice A0 l0.length c0] w fun e w' => e = .returned (.tuple #[.int .u64 r1, .int .i64 r2, .int .i64 r3]) ∧ Drawn0 w w' := by
  have HR0 := Aside0.mk hr0
  have HC0 := Aside0.mk hc0
  clear hr0 hc0
  have H : (code_Unnum.l0 k 0 l0 (l0.length : Int) 0) = some (r1, r2, r3) := h
  clear h
  have H' := Aside0.mk H
  clear H
  go_enter Try.func13, Try.ntmps13
  go_wp2
  go_loopg [5, 10] k (fun kq v5 v10 w' => ∃ (x5_1 : Int) (x10_1 : Int), v5 = .int .u64 x5_1 ∧ v10 = .int .i64 x10_1 ∧ Aside0 (code_Unnum.l0 kq x5_1 l0 (l0.length : Int) x10_1 = some (r1, r2, r3)) ∧ Aside0 (kq ≤ k) ∧ Drawn0 w w')
  case atStart => exact ⟨(0), (0), (by first | rfl | (simp; done) | (simp [*]; done) | (simp; rw [Bool.eq_iff_iff]; simp; done)), (by first | rfl | (simp; done) | (simp [*]; done) | (simp; rw [Bool.eq_iff_iff]; simp; done)), H', ⟨Nat.le_refl _⟩, by repeat (first | exact Drawn0.refl _ | apply Drawn0.step)⟩
  case round =>
    clear H'
    try clear c1
    obtain ⟨x5_1, x10_1, rfl, rfl, HA, HK1, ⟨m1, rfl⟩⟩ := hrel
    cases gk with
    | zero => exact absurd HA.out (by simp [code_Unnum.l0])
    | succ k1 =>
      have H := HA.out
      clear HA
      simp only [code_Unnum.l0] at H
      by_cases c2 : x10_1 < (l0.length : Int)
      · rw [if_pos c2] at H
        have c2b0 : decide (x10_1 < (l0.length : Int)) = true := decide_eq_true c2
        clear c2
        by_cases c3 : 0 ≤ x10_1
        · rw [if_pos c3] at H
          have c3b0 : decide (0 ≤ x10_1) = true := decide_eq_true c3
          clear c3
          by_cases c4 : x10_1 < (l0.length : Int)
          · rw [if_pos c4] at H
            have c4b0 : decide (x10_1 < (l0.length : Int)) = true := decide_eq_true c4
            clear c4
            have HC5 := Aside0.mk H
            clear H
            have p101 : 0 ≤ (x10_1 : Int) := of_decide_eq_true (by first | (with_reducible assumption) | assumption)
            have q101 : x10_1 < (l0.length : Int) := of_decide_eq_true (by first | (with_reducible assumption) | assumption)
            obtain ⟨ad101, e101, hx101_0⟩ := Kd.at_int HR0.out x10_1 p101 q101
            cases e101
            replace p101 := eq_true p101
            replace q101 := eq_true q101
            go_upto_region 5 with (fail)
            go_cut [15] (fun v15 wc => ∃ (kq : Nat) (x15_4 : Bool), v15 = .bool x15_4 ∧ Aside0 (code_Unnum.j1 kq x5_1 x10_1 (rd l0 x10_1) l0 (l0.length : Int) x10_1 x15_4 = some (r1, r2, r3)) ∧ Aside0 (kq ≤ k1) ∧ Drawn0 w wc)
            case first =>
              have H := HC5.out
              clear HC5
              by_cases c6 : x10_1 = 9
              · rw [if_pos c6] at H
                have c6b0 : (x10_1 == 9) = true := beq_iff_eq.mpr c6
                have c6b1 : (x10_1 != 9) = false := bne_eq_false_iff_eq.mpr c6
                clear c6
                (first | rw [c6b0] | (simp only [i64_w, i32_w]; rw [c6b0]) | skip)
                have H' := Aside0.mk H
                clear H
                go_wp2
                go_meet
                case rel => exact ⟨_, (decide ((rd l0 x10_1) > 1)), (by first | rfl | (simp; done) | (simp [*]; done) | (simp; rw [Bool.eq_iff_iff]; simp; done)), H', ⟨by have := HK1.out; first | omega | exact Nat.le_refl _⟩, by repeat (first | exact Drawn0.refl _ | apply Drawn0.step)⟩
              · rw [if_neg c6] at H
                have c6b0 : (x10_1 == 9) = false := beq_eq_false_iff_ne.mpr c6
                have c6b1 : (x10_1 != 9) = true := bne_iff_ne.mpr c6
                (first | rw [c6b0] | (simp only [i64_w, i32_w]; rw [c6b0]) | skip)
                have H' := Aside0.mk H
                clear H
                go_wp2
                go_meet
                case rel => exact ⟨_, (false), (by first | rfl | (simp; done) | (simp [*]; done) | (simp; rw [Bool.eq_iff_iff]; simp; done)), H', ⟨by have := HK1.out; first | omega | exact Nat.le_refl _⟩, by repeat (first | exact Drawn0.refl _ | apply Drawn0.step)⟩
            case rest =>
              clear HC5
              try clear c1
              try clear p1
              try clear q1
              try clear hx1
              try clear c2
              try clear c2b0
              try clear p2
              try clear c3
              try clear c3b0
              try clear c4
              try clear c4b0
              try clear c6
              try clear c6b0
              try clear c6b1
              try clear hx101_0
              try clear p101
              try clear q101
              obtain ⟨kq, x15_4, rfl, HA, HJ4, ⟨mc4, rfl⟩⟩ := hcut
              cases kq with
              | zero => exact absurd HA.out (by simp [code_Unnum.j1])
              | succ kj4 =>
                have H := HA.out
                clear HA
                simp only [code_Unnum.j1] at H
                have HC7 := Aside0.mk H
                clear H
                go_upto_if 15 with (fail)
                go_cut [15] (fun v15 wc => ∃ (kq : Nat) (x15_6 : Bool), v15 = .bool x15_6 ∧ Aside0 (code_Unnum.j2 kq x5_1 x10_1 (rd l0 x10_1) l0 (l0.length : Int) x10_1 x15_6 = some (r1, r2, r3)) ∧ Aside0 (kq ≤ kj4) ∧ Drawn0 w wc)
                case first =>
                  have H := HC7.out
                  clear HC7
                  by_cases c8 : x15_4 = true
                  · subst c8
                    have H1 : (code_Unnum.j2 kj4 x5_1 x10_1 (rd l0 x10_1) l0 (l0.length : Int) x10_1 true) = some (r1, r2, r3) := by rw [if_pos rfl] at H; exact H
                    clear H
                    have H := H1
                    clear H1
                    have H' := Aside0.mk H
                    clear H
                    go_wp2
                    go_meet
                    case rel => exact ⟨_, (true), (by first | rfl | (simp; done) | (simp [*]; done) | (simp; rw [Bool.eq_iff_iff]; simp; done)), H', ⟨by have := HK1.out; have := HJ4.out; first | omega | exact Nat.le_refl _⟩, by repeat (first | exact Drawn0.refl _ | apply Drawn0.step)⟩
                  · replace c8 := Bool.eq_false_iff.mpr c8
                    subst c8
                    have H1 : (if x10_1 > 0 then (code_Unnum.j2 kj4 x5_1 x10_1 (rd l0 x10_1) l0 (l0.length : Int) x10_1 ((rd l0 x10_1) == 0)) else (code_Unnum.j2 kj4 x5_1 x10_1 (rd l0 x10_1) l0 (l0.length : Int) x10_1 false)) = some (r1, r2, r3) := by rw [if_neg (show ¬ (false = true) by decide)] at H; exact H
                    clear H
                    have H := H1
                    clear H1
                    by_cases c9 : x10_1 > 0
                    · rw [if_pos c9] at H
                      have c9b0 : decide (0 < x10_1) = true := decide_eq_true c9
                      clear c9
                      (first | rw [c9b0] | (simp only [i64_w, i32_w]; rw [c9b0]) | skip)
                      have H' := Aside0.mk H
                      clear H
                      go_wp2
                      go_meet
                      case rel => exact ⟨_, (((rd l0 x10_1) == 0)), (by first | rfl | (simp; done) | (simp [*]; done) | (simp; rw [Bool.eq_iff_iff]; simp; done)), H', ⟨by have := HK1.out; have := HJ4.out; first | omega | exact Nat.le_refl _⟩, by repeat (first | exact Drawn0.refl _ | apply Drawn0.step)⟩
                    · rw [if_neg c9] at H
                      have c9b0 : decide (0 < x10_1) = false := decide_eq_false c9
                      clear c9
                      (first | rw [c9b0] | (simp only [i64_w, i32_w]; rw [c9b0]) | skip)
                      have H' := Aside0.mk H
                      clear H
                      go_wp2
                      go_meet
                      case rel => exact ⟨_, (false), (by first | rfl | (simp; done) | (simp [*]; done) | (simp; rw [Bool.eq_iff_iff]; simp; done)), H', ⟨by have := HK1.out; have := HJ4.out; first | omega | exact Nat.le_refl _⟩, by repeat (first | exact Drawn0.refl _ | apply Drawn0.step)⟩
                case rest =>
                  clear HC7
                  try clear c1
                  try clear p1
                  try clear q1
                  try clear hx1
                  try clear c2
                  try clear c2b0
                  try clear p2
                  try clear c3
                  try clear c3b0
                  try clear c4
                  try clear c4b0
                  try clear c6
                  try clear c6b0
                  try clear c6b1
                  try clear c8
                  try clear c9
                  try clear c9b0
                  try clear hx101_0
                  try clear p1
                  try clear p101
                  try clear p2
                  try clear q1
                  try clear q101
                  obtain ⟨kq, x15_6, rfl, HA, HJ6, ⟨mc6, rfl⟩⟩ := hcut
                  cases kq with
                  | zero => exact absurd HA.out (by simp [code_Unnum.j2])
                  | succ kj6 =>
                    have H := HA.out
                    clear HA
                    simp only [code_Unnum.j2] at H
                    by_cases c10 : x15_6 = true
                    · subst c10
                      have H1 : (some (0, 0, 41)) = some (r1, r2, r3) := by rw [if_pos rfl] at H; exact H
                      clear H
                      have H := H1
                      clear H1
                      simp only [Option.some.injEq, Prod.mk.injEq] at H
                      obtain ⟨rfl, rfl, rfl⟩ := H
                      go_wp2
                      go_ret3
                      exact ⟨by first | rfl | (simp; done) | (simp [*]; done), by repeat (first | exact Drawn0.refl _ | apply Drawn0.step)⟩
                    · replace c10 := Bool.eq_false_iff.mpr c10
                      subst c10
                      have H1 : (if 0 ≤ (wrap64 (7 * x10_1)) then (if (rd l0 x10_1) < 128 then (some (Go.bits .or .u64 x5_1 (shl .u64 (IntKind.u64.wrap (Go.bits .and .u8 (rd l0 x10_1) 127)) (wrap64 (7 * x10_1))), wrap64 (x10_1 + 1), 0)) else (code_Unnum.l0 kj6 (Go.bits .or .u64 x5_1 (shl .u64 (IntKind.u64.wrap (Go.bits .and .u8 (rd l0 x10_1) 127)) (wrap64 (7 * x10_1)))) l0 (l0.length : Int) (wrap64 (x10_1 + 1)))) else (none)) = some (r1, r2, r3) := by rw [if_neg (show ¬ (false = true) by decide)] at H; exact H
                      clear H
                      have H := H1
                      clear H1
                      obtain ⟨ji11, hji11⟩ : ∃ j_ : Int, (wrap64 (7 * x10_1)) = j_ := ⟨_, rfl⟩
                      replace H : (if 0 ≤ (ji11) then (if (rd l0 x10_1) < 128 then (some (Go.bits .or .u64 x5_1 (shl .u64 (IntKind.u64.wrap (Go.bits .and .u8 (rd l0 x10_1) 127)) (ji11)), wrap64 (x10_1 + 1), 0)) else (code_Unnum.l0 kj6 (Go.bits .or .u64 x5_1 (shl .u64 (IntKind.u64.wrap (Go.bits .and .u8 (rd l0 x10_1) 127)) (ji11))) l0 (l0.length : Int) (wrap64 (x10_1 + 1)))) else (none)) = some (r1, r2, r3) := by first | (rw [hji11] at H; exact H) | (simp only [hji11] at H ⊢; exact H)
                      have hji11w : (IntKind.i64.wrap (7 * x10_1)) = ji11 := (i64_w _).trans hji11
                      by_cases c12 : 0 ≤ (ji11)
                      · rw [if_pos c12] at H
                        have c12b0 := eq_true c12
                        have c12b1 : decide (0 ≤ (ji11)) = true := decide_eq_true c12
                        clear c12
                        obtain ⟨ji13, hji13⟩ : ∃ j_ : Int, (shl .u64 (IntKind.u64.wrap (Go.bits .and .u8 (rd l0 x10_1) 127)) (ji11)) = j_ := ⟨_, rfl⟩
                        replace H : (if (rd l0 x10_1) < 128 then (some (Go.bits .or .u64 x5_1 (ji13), wrap64 (x10_1 + 1), 0)) else (code_Unnum.l0 kj6 (Go.bits .or .u64 x5_1 (ji13)) l0 (l0.length : Int) (wrap64 (x10_1 + 1)))) = some (r1, r2, r3) := by first | (rw [hji13] at H; exact H) | (simp only [hji13] at H ⊢; exact H)
                        have hji13_ : (IntKind.u64.wrap ((IntKind.u64.wrap (Go.bits .and .u8 (rd l0 x10_1) 127)) * 2 ^ min (ji11).toNat 64)) = ji13 := hji13
                        have hji13z : (ji11) ≤ 64 → (IntKind.u64.wrap ((IntKind.u64.wrap (Go.bits .and .u8 (rd l0 x10_1) 127)) * 2 ^ (ji11).toNat)) = ji13 := shl_small hji13
                        by_cases c14 : (rd l0 x10_1) < 128
                        · rw [if_pos c14] at H
                          have c14b0 : decide ((rd l0 x10_1) < 128) = true := decide_eq_true c14
                          clear c14
                          simp only [Option.some.injEq, Prod.mk.injEq] at H
                          obtain ⟨rfl, rfl, rfl⟩ := H
                          go_wp2
                          go_ret3
                          exact ⟨by first | rfl | (simp; done) | (simp only [← hji11, ← hji13] <;> (first | rfl | simp)) | (simp [*]; done), by repeat (first | exact Drawn0.refl _ | apply Drawn0.step)⟩
                        · rw [if_neg c14] at H
                          have c14b0 : decide ((rd l0 x10_1) < 128) = false := decide_eq_false c14
                          clear c14
                          have H' := Aside0.mk H
                          clear H
                          go_wp2
                          go_roundg kj6
                          case measure => have := HK1.out; have := HJ4.out; have := HJ6.out; omega
                          case rel => exact ⟨(Go.bits .or .u64 x5_1 (ji13)), (wrap64 (x10_1 + 1)), (by first | rfl | (simp; done) | (simp only [← hji13] <;> (first | rfl | simp)) | (simp [*]; done)), (by first | rfl | (simp; done) | (simp [*]; done) | (simp; rw [Bool.eq_iff_iff]; simp; done)), H', ⟨by have := HK1.out; have := HJ4.out; have := HJ6.out; omega⟩, by repeat (first | exact Drawn0.refl _ | apply Drawn0.step)⟩
                      · rw [if_neg c12] at H
                        exact absurd H (by simp)
          · rw [if_neg c4] at H
            exact absurd H (by simp)
        · rw [if_neg c3] at H
          exact absurd H (by simp)
      · rw [if_neg c2] at H
        have c2b0 : decide (x10_1 < (l0.length : Int)) = false := decide_eq_false c2
        clear c2
        simp only [Option.some.injEq, Prod.mk.injEq] at H
        obtain ⟨rfl, rfl, rfl⟩ := H
        go_wp2
        go_ret3
        exact ⟨by first | rfl | (simp; done) | (simp [*]; done), by repeat (first | exact Drawn0.refl _ | apply Drawn0.step)⟩

/-! ### headgateref04_Unnum: function 14 -/
/-! ### headgateref04_Unint: function 96 -/
/-! ### headgateref04_Unnums: function 36 -/
end Go.Proofs.Ytgihecpobichbaa.Q
/- The number at the beginning of some bytes, in plain words: what code.Unnum's printed function comes to; no machine in it. -/
namespace Go.Proofs.Ytgihecpobichbaa.Q
open Go.RowKit Go.Proofs.YtgihecpobichbaaW.PrintWords Go.Proofs.YtgihecpobichbaaW.PrintLast Go.Proofs.YtgihecpobichbaaW.PrintMore
set_option linter.unusedVariables false
set_option linter.unusedSimpArgs false

/-- What Unnum makes of a byte c at place i. -/
def unAdd (i : Nat) (n c : Int) : Int := bits .or .u64 n (shl .u64 (IntKind.u64.wrap (bits .and .u8 c 127)) (7 * (i : Int)))
def unBad (i : Nat) (c : Int) : Bool := (i == 9 && decide (c > 1)) || (decide (i > 0) && c == 0)
def unS : Nat → Int → List Int → Int × Int × Int
  | _, _, [] => (0, 0, 41)
  | i, n, c :: l => if unBad i c = true then (0, 0, 41) else if c < 128 then (unAdd i n c, (i : Int) + 1, 0) else unS (i + 1) (unAdd i n c) l
def un (l : List Int) : Int × Int × Int := unS 0 0 l
theorem unS_le : ∀ (l : List Int) (i : Nat) (n : Int), 0 ≤ (unS i n l).2.1 ∧ (unS i n l).2.1 ≤ (i : Int) + l.length
  | [], i, n => by
    show 0 ≤ (0 : Int) ∧ (0 : Int) ≤ (i : Int) + ([] : List Int).length
    simp
  | c :: l, i, n => by
    unfold unS
    split
    · simp; omega
    · split
      · simp; omega
      · have := unS_le l (i + 1) (unAdd i n c)
        simp at this ⊢
        omega
theorem unS_ev (l : List Int) (hl : l.length ≤ 1000000000000000000) : ∀ (d i : Nat) (n : Int), i + d = l.length → Ev (fun k => code_Unnum.l0 k n l (l.length : Int) (i : Int)) (unS i n (l.drop i)) := by
  intro d
  induction d with
  | zero =>
    intro i n h
    rw [List.drop_of_length_le (by omega)]
    exact Ev.step (f := fun _ => some (0, 0, 41)) (fun k => by simp only [code_Unnum.l0]; rw [if_neg (by omega)]) (Ev.now _)
  | succ d ih =>
    intro i n h
    have hd := rd_drop l (i : Int) (by omega) (by omega)
    rw [show ((i : Int) + 1).toNat = i + 1 by omega, Int.toNat_natCast] at hd
    rw [hd]
    obtain ⟨c, hc⟩ : ∃ c, rd l (i : Int) = c := ⟨_, rfl⟩
    rw [hc]
    have e7 : wrap64 (7 * (i : Int)) = 7 * (i : Int) := wrap_in (by unfold in64; omega)
    have e1 : wrap64 ((i : Int) + 1) = (i : Int) + 1 := wrap_in (by unfold in64; omega)
    have hj2 : ∀ b : Bool, b = unBad i c → Ev (fun k => code_Unnum.j2 k n (i : Int) c l (l.length : Int) (i : Int) b) (unS i n (c :: l.drop (i + 1))) := by
      intro b hb
      unfold unS
      cases hv : unBad i c with
      | true =>
        rw [hv] at hb
        subst hb
        rw [if_pos rfl]
        exact Ev.step (f := fun _ => some (0, 0, 41)) (fun k => by simp only [code_Unnum.j2]; rw [if_pos trivial]) (Ev.now _)
      | false =>
        rw [hv] at hb
        subst hb
        rw [if_neg (by simp)]
        by_cases h1 : c < 128
        · rw [if_pos h1]
          refine Ev.step (f := fun _ => some (unAdd i n c, (i : Int) + 1, 0)) (fun k => ?_) (Ev.now _)
          simp only [code_Unnum.j2]
          rw [if_neg (by simp), e7, if_pos (by omega), if_pos h1, e1]
          rfl
        · rw [if_neg h1]
          refine Ev.step (fun k => ?_) (ih (i + 1) (unAdd i n c) (by omega))
          simp only [code_Unnum.j2]
          rw [if_neg (by simp), e7, if_pos (by omega), if_neg h1, e1]
          rfl
    have hj1 : ∀ b : Bool, b = (i == 9 && decide (c > 1)) → Ev (fun k => code_Unnum.j1 k n (i : Int) c l (l.length : Int) (i : Int) b) (unS i n (c :: l.drop (i + 1))) := by
      intro b hb
      cases b with
      | true => exact Ev.step (fun k => by simp only [code_Unnum.j1]; rw [if_pos trivial]) (hj2 true (by unfold unBad; rw [← hb]; rfl))
      | false =>
        by_cases h0 : (i : Int) > 0
        · exact Ev.step (fun k => by simp only [code_Unnum.j1]; rw [if_neg (by simp), if_pos h0]) (hj2 (c == 0) (by unfold unBad; rw [← hb, decide_eq_true (show i > 0 by omega)]; simp))
        · exact Ev.step (fun k => by simp only [code_Unnum.j1]; rw [if_neg (by simp), if_neg h0]) (hj2 false (by unfold unBad; rw [← hb, decide_eq_false (show ¬ i > 0 by omega)]; simp))
    by_cases h9 : (i : Int) = 9
    · have h9' : (i == 9) = true := by simp; omega
      refine Ev.step (fun k => ?_) (hj1 (decide (c > 1)) (by rw [h9', Bool.true_and]))
      simp only [code_Unnum.l0]
      rw [if_pos (by omega), if_pos (by omega), if_pos (by omega), if_pos h9, hc]
    · have h9' : (i == 9) = false := by simp; omega
      refine Ev.step (fun k => ?_) (hj1 false (by rw [h9', Bool.false_and]))
      simp only [code_Unnum.l0]
      rw [if_pos (by omega), if_pos (by omega), if_pos (by omega), if_neg h9, hc]
theorem un_ev (l : List Int) (hl : l.length ≤ 1000000000000000000) : Ev (fun k => code_Unnum.f k l) (un l) := unS_ev l hl l.length 0 0 (by omega)
/-- So many items, one behind the other: what they are, and what is left; or none. -/
def readN {α : Type} (item : List Int → Option (α × List Int)) : Nat → List Int → Option (List α × List Int)
  | 0, l => some ([], l)
  | m + 1, l => (item l).bind fun p => (readN item m p.2).map fun q => (p.1 :: q.1, q.2)
def readItems {α : Type} (item : List Int → Option (α × List Int)) (l : List Int) : Option (List α × List Int) :=
  if (un l).2.2 = 0 then (if (un l).1 > ((l.drop (un l).2.1.toNat).length : Int) then none else readN item (un l).1.toNat (l.drop (un l).2.1.toNat)) else none
def unz (n : Int) : Int := bits .xor .i64 (wrap64 (n / 2)) (wrap64 (-wrap64 (bits .and .u64 n 1)))
def itemI (l : List Int) : Option (Int × List Int) := if (un l).2.2 = 0 then some (unz (un l).1, l.drop (un l).2.1.toNat) else none
end Go.Proofs.Ytgihecpobichbaa.Q
/- The reader of package code: a number, the next bytes: walked. -/
namespace Go.Proofs.Ytgihecpobichbaa.Q
open Go.RowKit Go.Proofs.YtgihecpobichbaaW.PrintWords Go.Proofs.YtgihecpobichbaaW.PrintLast Go.Proofs.YtgihecpobichbaaW.PrintMore
set_option linter.unusedVariables false
set_option linter.unusedSimpArgs false

theorem dr_cell {w w' : World} (h : Drawn0 w w') (a : Addr) : w'.cell? a = w.cell? a := by
  obtain ⟨n, rfl⟩ := h.out
  rfl
theorem dr_frozen {w w' : World} (h : Drawn0 w w') (a : Addr) : w'.frozen? a = w.frozen? a := by
  obtain ⟨n, rfl⟩ := h.out
  rfl
theorem dr_below {w w' : World} (h : Drawn0 w w') (B : Nat) : Below B w w' := by
  obtain ⟨n, rfl⟩ := h.out
  exact ⟨rfl, rfl, rfl, Nat.le_refl _, fun _ _ => rfl⟩
theorem dr_box {w w' : World} (h : Drawn0 w w') {G : Nat} {t : TypeId} {v : Value} (hb : Boxed w G t v) : Boxed w' G t v := by
  obtain ⟨n, rfl⟩ := h.out
  exact hb
/-- What the package throws. -/
def badP : List PanicEntry := [{ v := .iface 134 (.agg #[]), recovered := false }]
/-- A reader in block G, made since the world w0: what is left to read. -/
structure Rd (w0 w : World) (G : Nat) (l : List Int) (A : Option Addr) (c : Nat) : Prop where
  box : Boxed w G 168 (.slice A l.length c)
  has : Kd.C (Kd.int .u8) w0 A l.length l
  below : Below w0.heap.size w0 w
  young : w0.heap.size ≤ G
  room : l.length ≤ c
theorem Rd.now {w0 w : World} {G : Nat} {l : List Int} {A : Option Addr} {c : Nat} (h : Rd w0 w G l A c) : Kd.C (Kd.int .u8) w A l.length l := Kd.C_below h.has h.below
/-- Some reader of l in block G. -/
def RdS (w0 w : World) (G : Nat) (l : List Int) : Prop := ∃ A c, Rd w0 w G l A c
theorem dr_grown {w w' : World} (h : Drawn0 w w') (row : Option Nat) : w.grownBy w' row := by
  obtain ⟨n, rfl⟩ := h.out
  exact ⟨rfl, rfl, rfl, Nat.le_refl _, fun _ _ _ => rfl⟩
theorem gb_trans {w w1 w2 : World} {row : Option Nat} (h1 : w.grownBy w1 row) (h2 : w1.grownBy w2 row) : w.grownBy w2 row := by
  obtain ⟨a1, a2, a3, a4, a5⟩ := h1
  obtain ⟨b1, b2, b3, b4, b5⟩ := h2
  exact ⟨b1.trans a1, b2.trans a2, b3.trans a3, Nat.le_trans a4 b4, fun k hk hne => (b5 k (Nat.lt_of_lt_of_le hk a4) hne).trans (a5 k hk hne)⟩
theorem infoU8 : (Try.prog.info? 5).map (fun i => (i.zero, i.size, i.bytes)) = some (some (.int .u8 0), 1, 1) := by kernel_rfl

set_option maxHeartbeats 4000000 in
set_option maxRecDepth 100000 in
theorem num_calls (k : Nat) (G : Nat) (l : List Int) (n j e : Int) (w0 w : World) (hs : RdS w0 w G l) (hf : code_Unnum.f k l = some (n, j, e)) (hj : 0 ≤ j ∧ j ≤ (l.length : Int)) :
    Calls Try.prog 111 #[.pointer (some ⟨G, 0, none⟩)] w fun E w' => (e = 0 → E = .returned (.int .u64 n) ∧ RdS w0 w' G (l.drop j.toNat)) ∧ (¬ e = 0 → E = .panicked badP) ∧ w.grownBy w' (some G) := by
  obtain ⟨A, c, h⟩ := hs
  have hc := h.box.cell
  have hz := h.box.frozen
  have hlt := h.box.lt
  have hnow := h.now
  have hroom := h.room
  obtain ⟨i0, hi0, _, hsz, _⟩ := info_parts infoU8
  have hcut := cut_from (P := Try.prog) 27 5 .i64 (by kernel_rfl) hi0 1 hsz A l.length c j hj.1 hj.2
  have hdrop := Kd.C_drop (m := j.toNat) h.has (by omega) hroom
  obtain ⟨A', hA'⟩ : ∃ A', A' = (if c = j.toNat then A else A.map (·.add (j.toNat * 1))) := ⟨_, rfl⟩
  replace hdrop : Kd.C (Kd.int .u8) w0 A' (l.drop j.toNat).length (l.drop j.toNat) := by rw [hA']; exact hdrop
  obtain ⟨n', hn'⟩ : ∃ n', n' = l.length - j.toNat := ⟨_, rfl⟩
  obtain ⟨c', hc'⟩ : ∃ c', c' = c - j.toNat := ⟨_, rfl⟩
  rw [← hA', ← hn', ← hc'] at hcut
  have hlen : (l.drop j.toNat).length = n' := by rw [List.length_drop, hn']
  obtain ⟨R, hR⟩ : ∃ R : World → Prop, R = fun w' => RdS w0 w' G (l.drop j.toNat) := ⟨_, rfl⟩
  have hR' : ∀ w', Boxed w' G 168 (.slice A' n' c') → Below w0.heap.size w0 w' → R w' := by
    intro w' hb hbl
    rw [hR]
    exact ⟨A', c', by rw [hlen]; exact hb, hdrop, hbl, h.young, by omega⟩
  suffices hx : Calls Try.prog 111 #[.pointer (some ⟨G, 0, none⟩)] w fun E w' => (e = 0 → E = .returned (.int .u64 n) ∧ R w') ∧ (¬ e = 0 → E = .panicked badP) ∧ w.grownBy w' (some G) by
    rw [hR] at hx
    exact hx
  clear hA' hn' hc' hR hdrop hlen
  go_enter Try.func111, Try.ntmps111
  by_cases he : e = 0
  · subst he
    go_wp2_with (go_at_call 13; refine (code_Unnum.calls k A c l n j 0 _ hnow hroom hf).mono ?_; rintro E w1 ⟨rfl, hd1⟩; have hc1 := (dr_cell hd1 _).trans hc; have hz1 := (dr_frozen hd1 _).trans hz)
    have hg : Below G w1 (w1.setCell ⟨G, 0, none⟩ (.slice A' n' c')) := (Below.refl _ w1).grown (grownBy_setCell' _ _ _) (by have := (dr_below hd1 G).size; omega) (fun k e => by cases e; exact Nat.le_refl _)
    have hb1 := hR' _ ((dr_box hd1 h.box).set (.slice A' n' c')) (h.below.trans (((dr_below hd1 G).trans hg).mono h.young))
    have hb2 : w.grownBy (w1.setCell ⟨G, 0, none⟩ (.slice A' n' c')) (some G) := gb_trans (dr_grown hd1 _) (grownBy_setCell' _ _ _)
    go_ret
    first
      | exact ⟨fun _ => ⟨rfl, hb1⟩, fun z => absurd rfl z, hb2⟩
      | exact ⟨⟨rfl, hb1⟩, hb2⟩
      | exact ⟨hb1, hb2⟩
  · have hb : (e != 0) = true := by simpa using he
    go_wp2_with (go_at_call 13; refine (code_Unnum.calls k A c l n j e _ hnow hroom hf).mono ?_; rintro E w1 ⟨rfl, hd1⟩; have hc1 := (dr_cell hd1 _).trans hc; have hz1 := (dr_frozen hd1 _).trans hz)
    exact ⟨rfl, fun z => absurd z he, fun _ => rfl, dr_grown hd1 _⟩
set_option maxHeartbeats 4000000 in
set_option maxRecDepth 100000 in
theorem whole_calls (k : Nat) (G : Nat) (l : List Int) (n j e : Int) (w0 w : World) (hs : RdS w0 w G l) (hf : code_Unnum.f k l = some (n, j, e)) (hj : 0 ≤ j ∧ j ≤ (l.length : Int)) :
    Calls Try.prog 93 #[.pointer (some ⟨G, 0, none⟩)] w fun E w' => (e = 0 → E = .returned (.int .i64 (unz n)) ∧ RdS w0 w' G (l.drop j.toNat)) ∧ (¬ e = 0 → E = .panicked badP) ∧ w.grownBy w' (some G) := by
  have hn := num_calls k G l n j e w0 w hs hf hj
  obtain ⟨R, hR⟩ : ∃ R : World → Prop, R = fun w' => RdS w0 w' G (l.drop j.toNat) := ⟨_, rfl⟩
  replace hn : Calls Try.prog 111 #[.pointer (some ⟨G, 0, none⟩)] w fun E w' => (e = 0 → E = .returned (.int .u64 n) ∧ R w') ∧ (¬ e = 0 → E = .panicked badP) ∧ w.grownBy w' (some G) := by rw [hR]; exact hn
  suffices hx : Calls Try.prog 93 #[.pointer (some ⟨G, 0, none⟩)] w fun E w' => (e = 0 → E = .returned (.int .i64 (unz n)) ∧ R w') ∧ (¬ e = 0 → E = .panicked badP) ∧ w.grownBy w' (some G) by
    rw [hR] at hx
    exact hx
  clear hR hs hf
  go_enter Try.func93, Try.ntmps93
  by_cases he : e = 0
  · go_wp2_with (go_at_call 111; refine hn.mono ?_; rintro E w1 ⟨h1, h2, h3⟩; obtain ⟨rfl, h1'⟩ := h1 he)
    go_ret
    exact ⟨fun _ => ⟨rfl, h1'⟩, fun z => absurd he z, h3⟩
  · go_wp2_with (go_at_call 111; refine hn.mono ?_; rintro E w1 ⟨h1, h2, h3⟩; obtain rfl := h2 he)
    exact ⟨rfl, fun z => absurd z he, fun _ => rfl, h3⟩
theorem num_un (G : Nat) (l : List Int) (hl : l.length ≤ 1000000000000000000) (w0 w : World) (hs : RdS w0 w G l) :
    Calls Try.prog 111 #[.pointer (some ⟨G, 0, none⟩)] w fun E w' => ((un l).2.2 = 0 → E = .returned (.int .u64 (un l).1) ∧ RdS w0 w' G (l.drop (un l).2.1.toNat)) ∧ (¬ (un l).2.2 = 0 → E = .panicked badP) ∧ w.grownBy w' (some G) := by
  obtain ⟨k, hk⟩ := (un_ev l hl).rounds
  have := unS_le l 0 0
  exact num_calls k G l _ _ _ w0 w hs hk ⟨this.1, by have := this.2; simpa [un] using this⟩
theorem whole_un (G : Nat) (l : List Int) (hl : l.length ≤ 1000000000000000000) (w0 w : World) (hs : RdS w0 w G l) :
    Calls Try.prog 93 #[.pointer (some ⟨G, 0, none⟩)] w fun E w' => ((un l).2.2 = 0 → E = .returned (.int .i64 (unz (un l).1)) ∧ RdS w0 w' G (l.drop (un l).2.1.toNat)) ∧ (¬ (un l).2.2 = 0 → E = .panicked badP) ∧ w.grownBy w' (some G) := by
  obtain ⟨k, hk⟩ := (un_ev l hl).rounds
  have := unS_le l 0 0
  exact whole_calls k G l _ _ _ w0 w hs hk ⟨this.1, by have := this.2; simpa [un] using this⟩
end Go.Proofs.Ytgihecpobichbaa.Q
/- The list of ints of package code's reader: walked: items, read with its recover, Unnums. -/
namespace Go.Proofs.Ytgihecpobichbaa.Q
open Go.RowKit Go.Proofs.YtgihecpobichbaaW.PrintWords Go.Proofs.YtgihecpobichbaaW.PrintLast Go.Proofs.YtgihecpobichbaaW.PrintMore
set_option linter.unusedVariables false
set_option linter.unusedSimpArgs false

theorem mkf : ∀ (fn : Fn) (first cap : Array Value) (w : World), (Instr.makeFunc fn first cap).run Try.prog w = .ok (.func fn first cap) w := fun _ _ _ _ => rfl
/-- What a reader's method leaves: what it read, or its panic. -/
def RdOut {α : Type} (w0 w : World) (G : Nat) (r : Option (α × List Int)) (ret : α → Value) (E : Ending) (w' : World) : Prop :=
  (∀ x l', r = some (x, l') → E = .returned (ret x) ∧ RdS w0 w' G l') ∧ (r = none → E = .panicked badP) ∧ w.grownBy w' (some G)
theorem whole_item (G : Nat) (l : List Int) (hl : l.length ≤ 1000000000000000000) (w0 w : World) (hs : RdS w0 w G l) :
    Calls Try.prog 93 #[.pointer (some ⟨G, 0, none⟩)] w (RdOut w0 w G (itemI l) (Value.int .i64)) := by
  refine (whole_un G l hl w0 w hs).mono ?_
  rintro E w' ⟨h1, h2, h3⟩
  unfold RdOut itemI
  refine ⟨fun x l' h => ?_, fun h => ?_, h3⟩
  · split at h
    · rename_i h0
      simp only [Option.some.injEq, Prod.mk.injEq] at h
      obtain ⟨rfl, rfl⟩ := h
      exact h1 h0
    · cases h
  · split at h
    · cases h
    · rename_i h0
      exact h2 h0
/-- The reader's world, a step on. -/
theorem RdS.step {w0 w w' : World} {G : Nat} {l : List Int} (h : RdS w0 w G l) {row : Option Nat} (hg : w.grownBy w' row) (hne : some G ≠ row) (hr : ∀ k, row = some k → w0.heap.size ≤ k) : RdS w0 w' G l := by
  obtain ⟨A, c, h⟩ := h
  have hlt := h.box.lt
  have hy := h.young
  exact ⟨A, c, h.box.kept hg hne, h.has, h.below.grown hg (by omega) hr, h.young, h.room⟩
theorem RdS.lt {w0 w : World} {G : Nat} {l : List Int} (h : RdS w0 w G l) : G < w.heap.size ∧ w0.heap.size ≤ G := by
  obtain ⟨A, c, h⟩ := h
  exact ⟨h.box.lt, h.young⟩
theorem gb_new {w w1 w2 : World} {r row : Option Nat} (h1 : w.grownBy w1 r) (h2 : w1.grownBy w2 row) (hn : ∀ k, row = some k → w.heap.size ≤ k) : w.grownBy w2 r := by
  obtain ⟨a1, a2, a3, a4, a5⟩ := h1
  obtain ⟨b1, b2, b3, b4, b5⟩ := h2
  exact ⟨b1.trans a1, b2.trans a2, b3.trans a3, Nat.le_trans a4 b4, fun k hk hne => (b5 k (Nat.lt_of_lt_of_le hk a4) (fun e => by have := hn k e.symm; omega)).trans (a5 k hk hne)⟩
theorem R_past {α : Type} {d : Kd α} {e : Nat} {w w1 : World} {base : Nat} {v : Value} {xs : List α} {G : Nat} (h : d.R e w base (fun _ => True) v xs) (hg : w.grownBy w1 (some G)) (hG : G < base) : d.R e w1 base (fun _ => True) v xs :=
  Kd.R_mono (Kd.R_grown (Kd.R_bound h) hg (fun k hk e => by injection e with e; have := hk.2.1; omega)) (fun _ hk => hk.1)
theorem bits_u64 (op : BinOp) (a b : Int) : 0 ≤ bits op .u64 a b ∧ bits op .u64 a b < 18446744073709551616 := by
  unfold bits
  show 0 ≤ _ % (18446744073709551616 : Int) ∧ _ % (18446744073709551616 : Int) < 18446744073709551616
  omega
theorem unS_range : ∀ (l : List Int) (i : Nat) (n : Int), 0 ≤ (unS i n l).1 ∧ (unS i n l).1 < 18446744073709551616
  | [], i, n => by
    show 0 ≤ (0 : Int) ∧ (0 : Int) < 18446744073709551616
    omega
  | c :: l, i, n => by
    unfold unS
    split
    · show 0 ≤ (0 : Int) ∧ (0 : Int) < 18446744073709551616
      omega
    · split
      · show 0 ≤ unAdd i n c ∧ unAdd i n c < 18446744073709551616
        unfold unAdd
        exact bits_u64 _ _ _
      · exact unS_range l (i + 1) (unAdd i n c)
theorem un_range (l : List Int) (hl : l.length ≤ 1000000000000000000) : 0 ≤ (un l).1 := (unS_range l 0 0).1
set_option maxHeartbeats 4000000 in
set_option maxRecDepth 100000 in
theorem items_calls (G : Nat) (l : List Int) (hl : l.length ≤ 1000000000) (w0 w : World) (hs : RdS w0 w G l) (RR : Option (List Int × List Int)) (hRR : readItems itemI l = RR) :
    Calls Try.prog 92 #[.pointer (some ⟨G, 0, none⟩), .func (.func 93) #[.pointer (some ⟨G, 0, none⟩)] #[]] w fun E w' =>
      (∀ xs l', RR = some (xs, l') → ∃ v, E = .returned v ∧ Kd.R (Kd.int .i64) 2 w' w.heap.size (fun _ => True) v xs ∧ RdS w0 w' G l') ∧ (RR = none → E = .panicked badP) ∧ w.grownBy w' (some G) := by
  have hG := hs.lt
  have hnum := num_un G l (by omega) w0 w hs
  obtain ⟨Q, hQ⟩ : ∃ Q : Ending → World → Prop, Q = fun E w' => (∀ xs l', RR = some (xs, l') → ∃ v, E = .returned v ∧ Kd.R (Kd.int .i64) 2 w' w.heap.size (fun _ => True) v xs ∧ RdS w0 w' G l') ∧ (RR = none → E = .panicked badP) ∧ w.grownBy w' (some G) := ⟨_, rfl⟩
  rw [← hQ]
  have hno : ∀ w', RR = none → w.grownBy w' (some G) → Q (.panicked badP) w' := by
    intro w' h1 h2
    rw [hQ]
    exact ⟨fun xs l' h => (by rw [h1] at h; cases h), fun _ => rfl, h2⟩
  have hyes : ∀ w' v xs l', RR = some (xs, l') → Kd.R (Kd.int .i64) 2 w' w.heap.size (fun _ => True) v xs → RdS w0 w' G l' → w.grownBy w' (some G) → Q (.returned v) w' := by
    intro w' v xs l' h1 h2 h3 h4
    rw [hQ]
    refine ⟨fun xs' l'' h => ?_, fun h => (by rw [h1] at h; cases h), h4⟩
    rw [h1] at h
    simp only [Option.some.injEq, Prod.mk.injEq] at h
    obtain ⟨rfl, rfl⟩ := h
    exact ⟨v, rfl, h2, h3⟩
  clear hQ
  unfold readItems at hRR
  have hun := unS_le l 0 0
  have hj : 0 ≤ (un l).2.1 ∧ (un l).2.1 ≤ (l.length : Int) := ⟨hun.1, by simpa [un] using hun.2⟩
  obtain ⟨n, hn⟩ : ∃ n, (un l).1 = n := ⟨_, rfl⟩
  have hn0 : 0 ≤ n := hn ▸ un_range l (by omega)
  obtain ⟨l1, hl1⟩ : ∃ l1, l.drop (un l).2.1.toNat = l1 := ⟨_, rfl⟩
  have hl1' : l1.length ≤ 1000000000 := by rw [← hl1, List.length_drop]; omega
  by_cases he : (un l).2.2 = 0
  · rw [if_pos he, hn, hl1] at hRR
    rw [hn, hl1] at hnum
    have hc : Calls Try.prog 111 #[.pointer (some ⟨G, 0, none⟩)] w fun E w' => E = .returned (.int .u64 n) ∧ RdS w0 w' G l1 ∧ w.grownBy w' (some G) := hnum.mono fun E w' ⟨h1, _, h3⟩ => ⟨(h1 he).1, (h1 he).2, h3⟩
    clear hnum hn hl1 hun hj he hs
    go_enter Try.func92, Try.ntmps92
    go_wp2_with fail
    refine hc.mono ?_
    rintro E w1 ⟨rfl, hs1, hg1⟩
    have hG1 := hs1.lt
    obtain ⟨A1, c1, h1⟩ := hs1
    have hcell := h1.box.cell
    have hfz := h1.box.frozen
    have hlen : (l1.length : Int) ≤ 18446744073709551615 := by omega
    by_cases hbig : n > (l1.length : Int)
    · rw [if_pos hbig] at hRR
      have HR := Aside0.mk hRR
      clear hRR hc
      go_wp2
      exact ⟨rfl, hno _ HR.out.symm hg1⟩
    · rw [if_neg hbig] at hRR
      have HR := Aside0.mk hRR
      have HS1 := Aside0.mk (⟨A1, c1, h1⟩ : RdS w0 w1 G l1)
      have HG1 := Aside0.mk hg1
      clear hRR hc h1 hg1
      go_wp2_with fail
      have hnle : n ≤ 1000000000 := by omega
      have HB := Aside0.mk hbig
      clear hbig hcell hfz
      go_loopg [6, 20] (n.toNat) (fun kq v6 v20 wr => ∃ (i : Nat) (xs l2 : List Int), v20 = .int .u64 i ∧ Aside0 ((i : Int) + kq = n) ∧ Aside0 (((readN itemI kq l2).map fun q => (xs ++ q.1, q.2)) = RR) ∧ Aside0 (xs.length = i) ∧ Aside0 (Kd.R (Kd.int .i64) 2 wr w.heap.size (fun _ => True) v6 xs) ∧ Aside0 (RdS w0 wr G l2) ∧ Aside0 (w.grownBy wr (some G)) ∧ Aside0 (l2.length ≤ 1000000000))
      case atStart => exact ⟨0, [], l1, rfl, ⟨by omega⟩, ⟨by rw [← HR.out]; cases readN itemI n.toNat l1 <;> rfl⟩, ⟨rfl⟩, ⟨Kd.R_nil _ _ _ _ _⟩, HS1, HG1, ⟨hl1'⟩⟩
      case round =>
        clear HR HS1 HG1
        obtain ⟨i, xs, l2, rfl, HI, HF, HX, HO, HS, HG, HL⟩ := hrel
        cases gk with
        | zero =>
          have hlb : decide ((i : Int) < n) = false := decide_eq_false (by have := HI.out; omega)
          have hF := HF.out
          simp only [readN, Option.map_some, List.append_nil] at hF
          have HF2 := Aside0.mk hF
          clear hF HF
          go_wp2
          first
            | exact hyes _ _ _ _ HF2.out.symm HO.out HS.out HG.out
            | (go_ret; exact hyes _ _ _ _ HF2.out.symm HO.out HS.out HG.out)
        | succ k1 =>
          have hlb : decide ((i : Int) < n) = true := decide_eq_true (by have := HI.out; omega)
          have hi1 : (i : Int) + 1 ≤ 1000000001 := by have := HI.out; omega
          have hcw := whole_item G l2 (by have := HL.out; omega) w0 wr HS.out
          cases hit : itemI l2 with
          | none =>
            have hcn : Calls Try.prog 93 #[.pointer (some ⟨G, 0, none⟩)] wr fun E w' => E = .panicked badP ∧ wr.grownBy w' (some G) := hcw.mono fun E w' ⟨_, h2, h3⟩ => ⟨h2 hit, h3⟩
            have hRn : RR = none := by rw [← HF.out, readN, hit]; rfl
            have HRn := Aside0.mk hRn
            clear hcw hit hRn
            go_wp2_with fail
            refine hcn.mono ?_
            rintro E w2 ⟨rfl, hg2⟩
            go_wp2
            exact ⟨rfl, hno _ HRn.out (gb_trans HG.out hg2)⟩
          | some p =>
            obtain ⟨x, l3⟩ := p
            have hcs : Calls Try.prog 93 #[.pointer (some ⟨G, 0, none⟩)] wr fun E w' => E = .returned (.int .i64 x) ∧ RdS w0 w' G l3 ∧ wr.grownBy w' (some G) := hcw.mono fun E w' ⟨h1, _, h3⟩ => ⟨(h1 x l3 hit).1, (h1 x l3 hit).2, h3⟩
            have hF2 : ((readN itemI k1 l3).map fun q => ((xs ++ [x]) ++ q.1, q.2)) = RR := by
              rw [← HF.out, readN, hit]
              simp only [Option.bind_some]
              cases readN itemI k1 l3 with
              | none => rfl
              | some q => simp
            have hl3 : l3.length ≤ l2.length := by
              unfold itemI at hit
              split at hit
              · simp only [Option.some.injEq, Prod.mk.injEq] at hit
                rw [← hit.2, List.length_drop]
                omega
              · cases hit
            have HF3 := Aside0.mk hF2
            have HL3 := Aside0.mk (show l3.length ≤ 1000000000 by have := HL.out; omega)
            clear hcw hit hF2 hl3 HF HL
            go_wp2_with fail
            refine hcs.mono ?_
            rintro E w2 ⟨rfl, hs2, hg2⟩
            have HG2 := Aside0.mk (gb_trans HG.out hg2)
            have HO2 := Aside0.mk (R_past HO.out hg2 hG.1)
            have HS2 := Aside0.mk hs2
            have HZ := Aside0.mk (show w.heap.size ≤ w2.heap.size from HG2.out.4)
            clear hg2 hs2 HO HS HG
            go_wp2_with (first | ((with_reducible refine gate_builtin (b := .append) (xs := #[.tmp 22, .tmp 25]) rfl ?_); (try (refine gate_guard (by rfl) ?_; dsimp only)); at_builtin; refine Kd.R_append (Kd.int .i64) (w0 := w2) w.heap.size rfl (.tmp 22) (.tmp 25) 40 2 (.int .i64 0) 8 rfl Try.underlying40 info2 rfl (by decide) (by omega) u6 xs x [.int .i64 x] (fun _ => True) (fun _ => False) rfl rfl ?aP (fun _ hk => hk.elim) ?aF ?aO ?aB ?aS ?aL ?_; (case aP => exact rfl); (case aB => exact Below.refl _ _); (case aF => exact (fun _ _ => trivial)); (case aO => exact HO2.out); (case aS => exact HZ.out); (case aL => have := HX.out; omega); intro v1 w3 ho hb hg hat; have HO3 := Aside0.mk ho; have HGr := Aside0.mk hg; clear ho hb hg hat))
            have hne : ∀ k, u6.ownBlock = some k → w.heap.size ≤ k := Kd.R_base HO2.out
            have HS3 := Aside0.mk (HS2.out.step HGr.out (fun e => by have := hne G e.symm; omega) (fun k e => by have := hne k e; omega))
            have HG3 := Aside0.mk (gb_new HG2.out HGr.out hne)
            clear hne
            go_roundg k1
            case measure => omega
            case rel => exact ⟨i + 1, xs ++ [x], l3, by congr 1, ⟨by have := HI.out; omega⟩, HF3, ⟨by rw [List.length_append, HX.out]; rfl⟩, HO3, HS3, HG3, HL3⟩
  · rw [if_neg he] at hRR
    have hc : Calls Try.prog 111 #[.pointer (some ⟨G, 0, none⟩)] w fun E w' => E = .panicked badP ∧ w.grownBy w' (some G) := hnum.mono fun E w' ⟨_, h2, h3⟩ => ⟨h2 he, h3⟩
    have HR := Aside0.mk hRR
    clear hnum hn hl1 hun hj he hs hRR
    go_enter Try.func92, Try.ntmps92
    go_wp2_with fail
    refine hc.mono ?_
    rintro E w1 ⟨rfl, hg1⟩
    go_wp2
    exact ⟨rfl, hno _ HR.out.symm hg1⟩
end Go.Proofs.Ytgihecpobichbaa.Q
/- code.Unnums: read with its deferred recover: walked. -/
namespace Go.Proofs.Ytgihecpobichbaa.Q
open Go.RowKit Go.Proofs.YtgihecpobichbaaW.PrintWords Go.Proofs.YtgihecpobichbaaW.PrintLast Go.Proofs.YtgihecpobichbaaW.PrintMore
set_option linter.unusedVariables false
set_option linter.unusedSimpArgs false

theorem bad_ne (w : World) : (binOp .neq 20 (.iface 134 (.agg #[])) .nilIface).run Try.prog w = .ok (.bool true) w := by kernel_rfl
theorem assert_bad (w : World) : (Instr.typeAssert (.iface 134 (.agg #[])) 20 134 true).run Try.prog w = .ok (.tuple #[.agg #[], .bool true]) w := by kernel_rfl
set_option maxHeartbeats 1000000 in
theorem catch_bad_I (bl be : Nat) (hne : bl ≠ be) (v0 : Value) (e0 : Int) (w : World) (hl : Boxed w bl 40 v0) (he : Boxed w be 24 (.int .i64 e0)) :
    CallsD Try.prog 115 #[.pointer (some ⟨bl, 0, none⟩), .pointer (some ⟨be, 0, none⟩)] (.panicking badP) w fun e u' w' =>
      e = .returned (.tuple #[]) ∧ u' = .panicking [{ v := .iface 134 (.agg #[]), recovered := true }] ∧ w' = ((w.setCell ⟨bl, 0, none⟩ (.slice none 0 0)).setCell ⟨be, 0, none⟩ (.int .i64 41)).alloc (.cells #[] 134) := by
  have l1 := hl.lt
  have l2 := he.lt
  have m1 := hl.cell
  have f1 := hl.frozen
  have m2 := he.cell
  have f2 := he.frozen
  have m3 := (he.other (Ne.symm hne) (.slice none 0 0)).cell
  have f3 := (he.other (Ne.symm hne) (.slice none 0 0)).frozen
  refine callsD_of_wpS Try.func115 rfl fun c₀ cs hu => ?_
  unfold badP at hu
  apply wpS_seq
  apply wpS_region
  simp [wpOpsS, go_sem, recoverD, hu, Try.ntmps115, Exit.thenS]
  have k1 := bad_ne
  have k2 := assert_bad
  refine wpS_of_wp ?_
  simp only [Array.replicate_succ, Array.replicate_zero, List.push_toArray, List.append_toArray, List.nil_append, List.cons_append, List.setIfInBounds_toArray, List.set_cons_succ, List.set_cons_zero]
  go_wp2
  simp [bodyPostS, results, Try.results115]
theorem catch_idle_I (p q : Addr) (w : World) :
    CallsD Try.prog 115 #[.pointer (some p), .pointer (some q)] .returning w fun e u' w' => e = .returned (.tuple #[]) ∧ u' = .returning ∧ w = w' := by
  have k3 : ∀ w : World, (binOp .neq 20 .nilIface .nilIface).run Try.prog w = .ok (.bool false) w := fun _ => by kernel_rfl
  refine callsD_of_wpS Try.func115 rfl fun c₀ cs hu => ?_
  apply wpS_seq
  apply wpS_region
  simp [wpOpsS, go_sem, recoverD, hu, Try.ntmps115, Exit.thenS]
  refine wpS_of_wp ?_
  simp only [Array.replicate_succ, Array.replicate_zero, List.push_toArray, List.append_toArray, List.nil_append, List.cons_append, List.setIfInBounds_toArray, List.set_cons_succ, List.set_cons_zero]
  go_wp2
  cases c₀
  simp_all [bodyPostS, results, Try.results115]
def ItemsOut (w0 w : World) (G : Nat) (RR : Option (List Int × List Int)) (E : Ending) (w' : World) : Prop :=
  (∀ xs l', RR = some (xs, l') → ∃ v, E = .returned v ∧ Kd.R (Kd.int .i64) 2 w' w.heap.size (fun _ => True) v xs ∧ RdS w0 w' G l') ∧ (RR = none → E = .panicked badP) ∧ w.grownBy w' (some G)
set_option maxHeartbeats 1000000 in
theorem unn1_calls (G : Nat) (l : List Int) (hl : l.length ≤ 1000000000) (w0 w : World) (hs : RdS w0 w G l) :
    Calls Try.prog 91 #[.pointer (some ⟨G, 0, none⟩)] w (ItemsOut w0 w G (readItems itemI l)) := by
  have mf := mkf
  obtain ⟨RR, hRR⟩ : ∃ RR, readItems itemI l = RR := ⟨_, rfl⟩
  have hc := items_calls G l hl w0 w hs RR hRR
  rw [hRR]
  obtain ⟨Q, hQ⟩ : ∃ Q : Ending → World → Prop, Q = ItemsOut w0 w G RR := ⟨_, rfl⟩
  rw [← hQ]
  have hQ' : ∀ E w', ItemsOut w0 w G RR E w' → Q E w' := fun E w' h => by rw [hQ]; exact h
  clear hQ hs hRR
  go_enter Try.func91, Try.ntmps91
  go_wp2_with fail
  refine hc.mono ?_
  rintro E w1 ⟨h1, h2, h3⟩
  cases hR : RR with
  | none =>
    obtain rfl := h2 hR
    have H := hQ' (.panicked badP) w1 ⟨h1, h2, h3⟩
    clear h1 h2 hQ' hc
    go_wp2
    exact ⟨rfl, H⟩
  | some p =>
    obtain ⟨xs, l'⟩ := p
    obtain ⟨v, rfl, h4, h5⟩ := h1 xs l' hR
    have H := hQ' (.returned v) w1 ⟨h1, h2, h3⟩
    clear h1 h2 hQ' hc h4 h5
    go_wp2
    first | exact H | (go_ret; exact H)
/-- What code.Unnums comes to. -/
def readI (l : List Int) : List Int × Int :=
  match readItems itemI l with
  | some (xs, l') => if l'.length > 0 ∨ l.length > 16777216 then ([], 41) else (xs, 0)
  | none => ([], 41)
set_option maxHeartbeats 4000000 in
set_option maxRecDepth 100000 in
theorem read_calls (A : Option Addr) (c : Nat) (l : List Int) (hl : l.length ≤ 1000000000) (w : World) (hr : Kd.C (Kd.int .u8) w A l.length l) (hc : l.length ≤ c) (r1 : List Int) (r2 : Int) (hrr : readI l = (r1, r2)) :
    Calls Try.prog 90 #[.slice A l.length c, .func (.func 91) #[] #[]] w fun e w' => ∃ v0_ : Value, e = .returned (.tuple #[v0_, .int .i64 r2]) ∧ Kd.R (Kd.int .i64) 2 w' w.heap.size (fun _ => True) v0_ r1 ∧ Below w.heap.size w w' := by
  have mf := mkf
  have HR := Aside0.mk hr
  clear hr
  go_enter_defers Try.func90, Try.ntmps90
  go_wp2_with fail
  have bg := Boxed.new ((w.alloc (.cells #[.slice none 0 0] 40)).alloc (.cells #[.int .i64 0] 24)) 168 (.slice A l.length c)
  rw [World.size_alloc, World.size_alloc] at bg
  have bl := ((Boxed.new w 40 (.slice none 0 0)).alloc (.cells #[.int .i64 0] 24)).alloc (.cells #[.slice A l.length c] 168)
  have be := (Boxed.new (w.alloc (.cells #[.slice none 0 0] 40)) 24 (.int .i64 0)).alloc (.cells #[.slice A l.length c] 168)
  rw [World.size_alloc] at be
  have hb3 : Below w.heap.size w (((w.alloc (.cells #[.slice none 0 0] 40)).alloc (.cells #[.int .i64 0] 24)).alloc (.cells #[.slice A l.length c] 168)) := below_alloc (below_alloc (below_alloc (Below.refl _ _) _) _) _
  have hs3 : (((w.alloc (.cells #[.slice none 0 0] 40)).alloc (.cells #[.int .i64 0] 24)).alloc (.cells #[.slice A l.length c] 168)).heap.size = w.heap.size + 1 + 1 + 1 := by rw [World.size_alloc, World.size_alloc, World.size_alloc]
  generalize ((w.alloc (.cells #[.slice none 0 0] 40)).alloc (.cells #[.int .i64 0] 24)).alloc (.cells #[.slice A l.length c] 168) = W3 at bg bl be hb3 hs3 ⊢
  refine (unn1_calls (w.heap.size + 1 + 1) l hl w W3 ⟨A, c, ⟨bg, HR.out, hb3, by omega, hc⟩⟩).mono ?_
  rintro E w1 ⟨h1, h2, h3⟩
  have bl1 := bl.kept h3 (fun e => by injection e with e; omega)
  have be1 := be.kept h3 (fun e => by injection e with e; omega)
  have hb1 : Below w.heap.size w w1 := hb3.grown h3 (by omega) (fun k hk => by injection hk with hk; omega)
  have HB1 := Aside0.mk hb1
  have BL := Aside0.mk bl1
  have BE := Aside0.mk be1
  have hlt := h3.size
  rw [hs3] at hlt
  cases hR : readItems itemI l with
  | none =>
    obtain rfl := h2 hR
    have hI : readI l = ([], 41) := by unfold readI; rw [hR]
    rw [hI] at hrr
    simp only [Prod.mk.injEq] at hrr
    obtain ⟨rfl, rfl⟩ := hrr
    clear h1 h2 h3 bg bl be hb3 bl1 be1 hb1 hR hI
    unfold badP
    go_wp2
    refine leaves_cons (f := 115) (args := #[.pointer (some ⟨w.heap.size, 0, none⟩), .pointer (some ⟨w.heap.size + 1, 0, none⟩)]) (by simp) (by simp [go_sem]) ?_
    refine (catch_bad_I w.heap.size (w.heap.size + 1) (by omega) (.slice none 0 0) 0 w1 BL.out BE.out).mono ?_
    rintro e u' w'' ⟨rfl, rfl, rfl⟩
    have xl := ((BL.out.set (.slice none 0 0)).other (show w.heap.size ≠ w.heap.size + 1 by omega) (.int .i64 41)).alloc (.cells #[] 134)
    have xe := ((BE.out.other (show w.heap.size + 1 ≠ w.heap.size by omega) (.slice none 0 0)).set (.int .i64 41)).alloc (.cells #[] 134)
    have yl := xl.cell
    have ye := xe.cell
    have hB : Below w.heap.size w (((w1.setCell ⟨w.heap.size, 0, none⟩ (.slice none 0 0)).setCell ⟨w.heap.size + 1, 0, none⟩ (.int .i64 41)).alloc (.cells #[] 134)) := below_alloc (below_set (below_set HB1.out (by omega)) (by omega)) _
    generalize ((w1.setCell ⟨w.heap.size, 0, none⟩ (.slice none 0 0)).setCell ⟨w.heap.size + 1, 0, none⟩ (.int .i64 41)).alloc (.cells #[] 134) = W4 at xl xe yl ye hB ⊢
    simp [Leaves, settle, results, Try.results90, go_sem]
    refine ⟨.tuple #[.slice none 0 0, .int .i64 41], by simp [yl, ye, go_sem], _, rfl, Kd.R_nil _ _ _ _ _, hB⟩
  | some p =>
    obtain ⟨xs, l'⟩ := p
    obtain ⟨v, rfl, h4, h5⟩ := h1 xs l' hR
    obtain ⟨A', c', hd⟩ := h5
    obtain ⟨A2, c2, rfl⟩ := Kd.R_slice h4
    have bx := hd.box
    have H4 := Aside0.mk h4
    have hI : readI l = (if l'.length > 0 ∨ l.length > 16777216 then ([], 41) else (xs, 0)) := by unfold readI; rw [hR]
    rw [hI] at hrr
    have cg : (w1.setCell ⟨w.heap.size, 0, none⟩ (.slice A2 xs.length c2)).cell? ⟨w.heap.size + 1 + 1, 0, none⟩ = some (.slice A' l'.length c') := (bx.other (by omega) (.slice A2 xs.length c2)).cell
    have BL2 : Aside0 (Boxed (w1.setCell ⟨w.heap.size, 0, none⟩ (.slice A2 xs.length c2)) w.heap.size 40 (.slice A2 xs.length c2)) := ⟨BL.out.set _⟩
    have BE2 : Aside0 (Boxed (w1.setCell ⟨w.heap.size, 0, none⟩ (.slice A2 xs.length c2)) (w.heap.size + 1) 24 (.int .i64 0)) := ⟨BE.out.other (by omega) _⟩
    have HB2 : Aside0 (Below w.heap.size w (w1.setCell ⟨w.heap.size, 0, none⟩ (.slice A2 xs.length c2))) := ⟨below_set HB1.out (by omega)⟩
    have cl1 : w1.cell? ⟨w.heap.size, 0, none⟩ = some (.slice none 0 0) := bl1.cell
    have fl1 : w1.frozen? ⟨w.heap.size, 0, none⟩ = false := bl1.frozen
    have ce1 : w1.cell? ⟨w.heap.size + 1, 0, none⟩ = some (.int .i64 0) := be1.cell
    have fe1 : w1.frozen? ⟨w.heap.size + 1, 0, none⟩ = false := be1.frozen
    clear h1 h2 h3 bg bl be hb3 bl1 be1 hb1 hR hI h4 hd bx
    by_cases hx : l'.length > 0
    · rw [if_pos (.inl hx)] at hrr
      simp only [Prod.mk.injEq] at hrr
      obtain ⟨rfl, rfl⟩ := hrr
      have d1 : decide (0 < (l'.length : Int)) = true := decide_eq_true (by omega)
      have d2 : decide (0 < l'.length) = true := decide_eq_true hx
      clear hx
      go_wp2
      refine leaves_cons (f := 115) (args := #[.pointer (some ⟨w.heap.size, 0, none⟩), .pointer (some ⟨w.heap.size + 1, 0, none⟩)]) (by simp) (by simp [go_sem]) ?_
      refine (catch_bad_I w.heap.size (w.heap.size + 1) (by omega) (.slice A2 xs.length c2) 0 (w1.setCell ⟨w.heap.size, 0, none⟩ (.slice A2 xs.length c2)) BL2.out BE2.out).mono ?_
      rintro e u' w'' ⟨rfl, rfl, rfl⟩
      have xl := ((BL2.out.set (.slice none 0 0)).other (show w.heap.size ≠ w.heap.size + 1 by omega) (.int .i64 41)).alloc (.cells #[] 134)
      have xe := ((BE2.out.other (show w.heap.size + 1 ≠ w.heap.size by omega) (.slice none 0 0)).set (.int .i64 41)).alloc (.cells #[] 134)
      have yl := xl.cell
      have ye := xe.cell
      have hB : Below w.heap.size w ((((w1.setCell ⟨w.heap.size, 0, none⟩ (.slice A2 xs.length c2)).setCell ⟨w.heap.size, 0, none⟩ (.slice none 0 0)).setCell ⟨w.heap.size + 1, 0, none⟩ (.int .i64 41)).alloc (.cells #[] 134)) := below_alloc (below_set (below_set HB2.out (by omega)) (by omega)) _
      generalize (((w1.setCell ⟨w.heap.size, 0, none⟩ (.slice A2 xs.length c2)).setCell ⟨w.heap.size, 0, none⟩ (.slice none 0 0)).setCell ⟨w.heap.size + 1, 0, none⟩ (.int .i64 41)).alloc (.cells #[] 134) = W4 at xl xe yl ye hB ⊢
      simp [Leaves, settle, results, Try.results90, go_sem]
      refine ⟨.tuple #[.slice none 0 0, .int .i64 41], by simp [yl, ye, go_sem], _, rfl, Kd.R_nil _ _ _ _ _, hB⟩
    · have d1 : decide (0 < (l'.length : Int)) = false := decide_eq_false (by omega)
      have d2 : decide (0 < l'.length) = false := decide_eq_false hx
      by_cases hy : l.length > 16777216
      · rw [if_pos (.inr hy)] at hrr
        simp only [Prod.mk.injEq] at hrr
        obtain ⟨rfl, rfl⟩ := hrr
        have e1 : decide (16777216 < (l.length : Int)) = true := decide_eq_true (by omega)
        have e2 : decide (16777216 < l.length) = true := decide_eq_true hy
        clear hx hy
        go_wp2
        refine leaves_cons (f := 115) (args := #[.pointer (some ⟨w.heap.size, 0, none⟩), .pointer (some ⟨w.heap.size + 1, 0, none⟩)]) (by simp) (by simp [go_sem]) ?_
        refine (catch_bad_I w.heap.size (w.heap.size + 1) (by omega) (.slice A2 xs.length c2) 0 (w1.setCell ⟨w.heap.size, 0, none⟩ (.slice A2 xs.length c2)) BL2.out BE2.out).mono ?_
        rintro e u' w'' ⟨rfl, rfl, rfl⟩
        have xl := ((BL2.out.set (.slice none 0 0)).other (show w.heap.size ≠ w.heap.size + 1 by omega) (.int .i64 41)).alloc (.cells #[] 134)
        have xe := ((BE2.out.other (show w.heap.size + 1 ≠ w.heap.size by omega) (.slice none 0 0)).set (.int .i64 41)).alloc (.cells #[] 134)
        have yl := xl.cell
        have ye := xe.cell
        have hB : Below w.heap.size w ((((w1.setCell ⟨w.heap.size, 0, none⟩ (.slice A2 xs.length c2)).setCell ⟨w.heap.size, 0, none⟩ (.slice none 0 0)).setCell ⟨w.heap.size + 1, 0, none⟩ (.int .i64 41)).alloc (.cells #[] 134)) := below_alloc (below_set (below_set HB2.out (by omega)) (by omega)) _
        generalize (((w1.setCell ⟨w.heap.size, 0, none⟩ (.slice A2 xs.length c2)).setCell ⟨w.heap.size, 0, none⟩ (.slice none 0 0)).setCell ⟨w.heap.size + 1, 0, none⟩ (.int .i64 41)).alloc (.cells #[] 134) = W4 at xl xe yl ye hB ⊢
        simp [Leaves, settle, results, Try.results90, go_sem]
        refine ⟨.tuple #[.slice none 0 0, .int .i64 41], by simp [yl, ye, go_sem], _, rfl, Kd.R_nil _ _ _ _ _, hB⟩
      · rw [if_neg (by omega)] at hrr
        simp only [Prod.mk.injEq] at hrr
        obtain ⟨rfl, rfl⟩ := hrr
        have e1 : decide (16777216 < (l.length : Int)) = false := decide_eq_false (by omega)
        have e2 : decide (16777216 < l.length) = false := decide_eq_false hy
        clear hx hy
        go_wp2
        refine leaves_cons (f := 115) (args := #[.pointer (some ⟨w.heap.size, 0, none⟩), .pointer (some ⟨w.heap.size + 1, 0, none⟩)]) (by simp) (by simp [go_sem]) ?_
        refine (catch_idle_I ⟨w.heap.size, 0, none⟩ ⟨w.heap.size + 1, 0, none⟩ _).mono ?_
        rintro e u' w'' ⟨rfl, rfl, rfl⟩
        have VV : ∃ v : Value, v = .slice A2 xs.length c2 := ⟨_, rfl⟩
        have x1 := (BL2.out.set (.slice A2 xs.length c2)).other (show w.heap.size ≠ w.heap.size + 1 by omega) (.int .i64 0)
        have x2 := (BE2.out.other (show w.heap.size + 1 ≠ w.heap.size by omega) (.slice A2 xs.length c2)).set (.int .i64 0)
        have yl := x1.cell
        have ye := x2.cell
        have hB : Below w.heap.size w (((w1.setCell ⟨w.heap.size, 0, none⟩ (.slice A2 xs.length c2)).setCell ⟨w.heap.size, 0, none⟩ (.slice A2 xs.length c2)).setCell ⟨w.heap.size + 1, 0, none⟩ (.int .i64 0)) := below_set (below_set HB2.out (by omega)) (by omega)
        have q1 := R_past H4.out (grownBy_setCell' w1 w.heap.size (.slice A2 xs.length c2)) (by omega)
        have q2 := R_past q1 (grownBy_setCell' _ w.heap.size (.slice A2 xs.length c2)) (by omega)
        have q3 := Kd.R_lower (base' := w.heap.size) (R_past q2 (grownBy_setCell' _ (w.heap.size + 1) (.int .i64 0)) (by omega)) (by omega)
        generalize ((w1.setCell ⟨w.heap.size, 0, none⟩ (.slice A2 xs.length c2)).setCell ⟨w.heap.size, 0, none⟩ (.slice A2 xs.length c2)).setCell ⟨w.heap.size + 1, 0, none⟩ (.int .i64 0) = W4 at x1 x2 yl ye hB q3 ⊢
        simp [Leaves, settle, results, Try.results90, go_sem]
        refine ⟨.tuple #[.slice A2 xs.length c2, .int .i64 0], by simp [yl, ye, go_sem], _, rfl, q3, hB⟩
def code_Unnums.f (k : Nat) (l0 : List Int) : Option (List Int × Int) := if l0.length ≤ 1000000000 then some (readI l0) else none
theorem code_Unnums.mono : ∀ a0 k, LeO (code_Unnums.f k a0) (code_Unnums.f (k + 1) a0) := fun a0 k => LeO.refl _
set_option maxHeartbeats 1000000 in
theorem code_Unnums.calls (k : Nat) (A0 : Option Addr) (c0 : Nat) (l0 : List Int) (r1 : List Int) (r2 : Int) (w : World) (hr0 : Kd.C (Kd.int .u8) w A0 l0.length l0) (hc0 : l0.length ≤ c0) (h : code_Unnums.f k l0 = some (r1, r2)) :
    Calls Try.prog 32 #[.slice A0 l0.length c0] w fun e w' => ∃ v0_ : Value, e = .returned (.tuple #[v0_, .int .i64 r2]) ∧ Kd.R (Kd.int .i64) 2 w' w.heap.size (fun _ => True) v0_ r1 ∧ Below w.heap.size w w' := by
  unfold code_Unnums.f at h
  split at h
  · rename_i hl
    have hrr := Option.some.inj h
    have hc := read_calls A0 c0 l0 hl w hr0 hc0 r1 r2 hrr
    clear hr0 h hrr
    go_enter Try.func32, Try.ntmps32
    go_wp2_with fail
    refine hc.mono ?_
    rintro e w1 ⟨v, rfl, hR, hb⟩
    go_wp2
    go_ret2
    exact ⟨v, rfl, hR, hb⟩
  · cases h
end Go.Proofs.Ytgihecpobichbaa.Q
-- Written by a program of the session over the translation's print: functions as plain Lean, and that the machine's call comes to them.
namespace Go.Proofs.Ytgihecpobichbaa.Q
open Go.RowKit Go.Proofs.YtgihecpobichbaaW.PrintWords Go.Proofs.YtgihecpobichbaaW.PrintLast Go.Proofs.YtgihecpobichbaaW.PrintMore
attribute [local go_sem] max2_int min2_int max_two min_two max_three min_three max_four min_four   -- for this text's walks alone
set_option linter.unusedVariables false
set_option linter.unusedSimpArgs false

-- NOT PRINTED: function 111 (code_reader_num)

-- NOT PRINTED: function 92 (code_items_int64)

-- NOT PRINTED: function 91 (code_Unnums_1)

-- NOT PRINTED: function 90 (code_read_int64)

/-! ### headgatelaw04_alive: function 12 -/
def headgatelaw04_alive.f (k : Nat)  : Option (Bool) := (code_Nums.f k (([(-1), 1] : List Int))).bind fun bt107 => ((code_Unnums.f k (([2, 1, 2] : List Int))).bind fun bt114 => ((code_Num.f k 300).bind fun t118 => (if (strOfNums t118).toList = ([172, 2] : List UInt8) then (if (strOfNums bt107.1).toList = ([2, 1, 2] : List UInt8) then (if bt107.2 = 0 then (if bt114.2 = 0 then (if (bt114.1.length : Int) = 2 then (if 0 < (bt114.1.length : Int) then (some ((rd bt114.1 0) == (-1))) else (none)) else (some false)) else (some false)) else (some false)) else (some false)) else (some false))))
theorem headgatelaw04_alive.mono : ∀ k, LeO (headgatelaw04_alive.f k ) (headgatelaw04_alive.f (k + 1) ) := by
  intro  k
  unfold headgatelaw04_alive.f
  repeat' first
      | (with_reducible exact code_Num.mono _ _)
      | (with_reducible exact code_Nums.mono _ _)
      | (with_reducible exact code_Unnums.mono _ _)
      | (with_reducible exact LeO.refl _)
      | (with_reducible exact LeO.none _)
      | (with_reducible refine LeO.ite ?_ ?_)
      | (with_reducible refine LeO.bind ?_ (fun _ => ?_))
      | exact code_Num.mono _ _
      | exact code_Nums.mono _ _
      | exact code_Unnums.mono _ _
      | exact LeO.none _
      | refine LeO.ite ?_ ?_
      | refine LeO.bind ?_ (fun _ => ?_)
set_option maxHeartbeats 8000000 in
set_option maxRecDepth 100000 in
theorem headgatelaw04_alive.calls (k : Nat)  (r : Bool) (w : World) (h : headgatelaw04_alive.f k  = some r) :
    Calls Try.prog 12 #[] w fun e w' => e = .returned (.bool r) ∧ Below w.heap.size w w' := by
  have HB := Aside0.mk (Below.refl w.heap.size w)
  have H : ((code_Nums.f k (([(-1), 1] : List Int))).bind fun bt107 => ((code_Unnums.f k (([2, 1, 2] : List Int))).bind fun bt114 => ((code_Num.f k 300).bind fun t118 => (if (strOfNums t118).toList = ([172, 2] : List UInt8) then (if (strOfNums bt107.1).toList = ([2, 1, 2] : List UInt8) then (if bt107.2 = 0 then (if bt114.2 = 0 then (if (bt114.1.length : Int) = 2 then (if 0 < (bt114.1.length : Int) then (some ((rd bt114.1 0) == (-1))) else (none)) else (some false)) else (some false)) else (some false)) else (some false)) else (some false))))) = some r := h
  clear h
  obtain ⟨y104, hy104⟩ : ∃ y_ : List Int, y_ = (([(-1), 1] : List Int)) := ⟨_, rfl⟩
  replace H : ((code_Nums.f k y104).bind fun bt107 => ((code_Unnums.f k (([2, 1, 2] : List Int))).bind fun bt114 => ((code_Num.f k 300).bind fun t118 => (if (strOfNums t118).toList = ([172, 2] : List UInt8) then (if (strOfNums bt107.1).toList = ([2, 1, 2] : List UInt8) then (if bt107.2 = 0 then (if bt114.2 = 0 then (if (bt114.1.length : Int) = 2 then (if 0 < (bt114.1.length : Int) then (some ((rd bt114.1 0) == (-1))) else (none)) else (some false)) else (some false)) else (some false)) else (some false)) else (some false))))) = some r := by first | (rw [hy104]; with_reducible exact H) | (have H2_ := (Option.bind_some _ _).symm.trans H; rw [hy104]; with_reducible exact H2_) | (have H2_ := (Option.bind_some _ _).symm.trans H; with_reducible exact H2_) | with_reducible exact H | (rw [hy104]; exact H) | exact H
  have Ny104 := Aside0.mk hy104
  clear hy104
  replace H := Option.bind_eq_some_iff.mp H
  obtain ⟨⟨t107, t108⟩, A10, H⟩ := H
  replace H : ((code_Unnums.f k (([2, 1, 2] : List Int))).bind fun bt114 => ((code_Num.f k 300).bind fun t118 => (if (strOfNums t118).toList = ([172, 2] : List UInt8) then (if (strOfNums t107).toList = ([2, 1, 2] : List UInt8) then (if t108 = 0 then (if bt114.2 = 0 then (if (bt114.1.length : Int) = 2 then (if 0 < (bt114.1.length : Int) then (some ((rd bt114.1 0) == (-1))) else (none)) else (some false)) else (some false)) else (some false)) else (some false)) else (some false)))) = some r := H
  have A1 := Aside0.mk A10
  clear A10
  obtain ⟨y111, hy111⟩ : ∃ y_ : List Int, y_ = (([2, 1, 2] : List Int)) := ⟨_, rfl⟩
  replace H : ((code_Unnums.f k y111).bind fun bt114 => ((code_Num.f k 300).bind fun t118 => (if (strOfNums t118).toList = ([172, 2] : List UInt8) then (if (strOfNums t107).toList = ([2, 1, 2] : List UInt8) then (if t108 = 0 then (if bt114.2 = 0 then (if (bt114.1.length : Int) = 2 then (if 0 < (bt114.1.length : Int) then (some ((rd bt114.1 0) == (-1))) else (none)) else (some false)) else (some false)) else (some false)) else (some false)) else (some false)))) = some r := by first | (rw [hy111]; with_reducible exact H) | (have H2_ := (Option.bind_some _ _).symm.trans H; rw [hy111]; with_reducible exact H2_) | (have H2_ := (Option.bind_some _ _).symm.trans H; with_reducible exact H2_) | with_reducible exact H | (rw [hy111]; exact H) | exact H
  have Ny111 := Aside0.mk hy111
  clear hy111
  replace H := Option.bind_eq_some_iff.mp H
  obtain ⟨⟨t114, t115⟩, A20, H⟩ := H
  replace H : ((code_Num.f k 300).bind fun t118 => (if (strOfNums t118).toList = ([172, 2] : List UInt8) then (if (strOfNums t107).toList = ([2, 1, 2] : List UInt8) then (if t108 = 0 then (if t115 = 0 then (if (t114.length : Int) = 2 then (if 0 < (t114.length : Int) then (some ((rd t114 0) == (-1))) else (none)) else (some false)) else (some false)) else (some false)) else (some false)) else (some false))) = some r := H
  have A2 := Aside0.mk A20
  clear A20
  replace H := Option.bind_eq_some_iff.mp H
  obtain ⟨t118, A30, H⟩ := H
  replace H : (if (strOfNums t118).toList = ([172, 2] : List UInt8) then (if (strOfNums t107).toList = ([2, 1, 2] : List UInt8) then (if t108 = 0 then (if t115 = 0 then (if (t114.length : Int) = 2 then (if 0 < (t114.length : Int) then (some ((rd t114 0) == (-1))) else (none)) else (some false)) else (some false)) else (some false)) else (some false)) else (some false)) = some r := H
  have A3 := Aside0.mk A30
  clear A30
  by_cases c4 : (strOfNums t118).toList = ([172, 2] : List UInt8)
  · rw [if_pos c4] at H
    have c4b0 : ((strOfNums t118).toList == ([172, 2] : List UInt8)) = true := beq_iff_eq.mpr c4
    have c4b1 : ((strOfNums t118).toList != ([172, 2] : List UInt8)) = false := bne_eq_false_iff_eq.mpr c4
    clear c4
    by_cases c5 : (strOfNums t107).toList = ([2, 1, 2] : List UInt8)
    · rw [if_pos c5] at H
      have c5b0 : ((strOfNums t107).toList == ([2, 1, 2] : List UInt8)) = true := beq_iff_eq.mpr c5
      have c5b1 : ((strOfNums t107).toList != ([2, 1, 2] : List UInt8)) = false := bne_eq_false_iff_eq.mpr c5
      clear c5
      by_cases c6 : t108 = 0
      · rw [if_pos c6] at H
        have c6b0 : (t108 == 0) = true := beq_iff_eq.mpr c6
        have c6b1 : (t108 != 0) = false := bne_eq_false_iff_eq.mpr c6
        clear c6
        by_cases c7 : t115 = 0
        · rw [if_pos c7] at H
          have c7b0 : (t115 == 0) = true := beq_iff_eq.mpr c7
          have c7b1 : (t115 != 0) = false := bne_eq_false_iff_eq.mpr c7
          clear c7
          by_cases c8 : (t114.length : Int) = 2
          · rw [if_pos c8] at H
            have c8b0 : ((t114.length : Int) == 2) = true := beq_iff_eq.mpr c8
            have c8b1 : ((t114.length : Int) != 2) = false := bne_eq_false_iff_eq.mpr c8
            clear c8
            by_cases c9 : 0 < (t114.length : Int)
            · rw [if_pos c9] at H
              have c9b0 : decide (0 < (t114.length : Int)) = true := decide_eq_true c9
              have c9b1 : decide (0 < t114.length) = true := decide_eq_true (by omega)
              clear c9
              obtain rfl := Option.some.inj H
              go_enter Try.func12, Try.ntmps12
              go_wp2_with (first | ((with_reducible refine gate_dst (N := 6) rfl ?_); (try (refine gate_guard (by rfl) ?_; dsimp only)); refine Kd.R_lit (Kd.int .i64) _ 2 ?hg (N := 6) ?hd (xs := ([(-1), 1] : List Int)) (inner := [.int .i64 (-1), .int .i64 1]) (ok := fun _ => True) (okp := fun _ => True) ?hr ?hp (fun _ hk => hk) trivial (Below.refl _ _) (Nat.le_refl _) (by simp) ?_; (case hd => rfl); (case hg => rfl); (case hr => first | (go_simp; done) | (go_simp; rfl)); (case hp => exact (Reps.one (show Kd.M (Kd.int .i64) _ _ _ (-1) [.int .i64 (-1)] from rfl) (Reps.one (show Kd.M (Kd.int .i64) _ _ _ 1 [.int .i64 1] from rfl) (Reps.none _ _)))); intro v105 w10 ho11 hb hg_ hnew_; clear hg_ hnew_; (first | rw [← Ny104.out] at ho11 | (simp only [Int.reduceToNat] at ho11; rw [← Ny104.out] at ho11)); have n0_ := Aside0.mk (Kd.R_lower ho11 (below_size (by repeat (first | (with_reducible first | exact HB.out | apply below_alloc | apply pw_below_drewN | apply below_drew1) | exact HB.out)))); have n1_ := Aside0.mk (below_step (by repeat (first | (with_reducible first | exact HB.out | apply below_alloc | apply pw_below_drewN | apply below_drew1) | exact HB.out)) hb); clear HB; have HO106 := n0_; have HB := n1_; clear n0_ n1_; clear hb ho11; obtain ⟨Ao12, co12, eo12⟩ := Kd.R_slice HO106.out; subst eo12) | ((with_reducible refine gate_callee (f := 27) rfl ?_); refine goesL_ (some 7) rfl rfl Try.func27 (by kernel_rfl) rfl #[.slice Ao12 y104.length co12] rfl (by (try simp only [List.map_toArray, List.map_cons, List.map_nil]); first | done | rfl | (simp only [List.length_drop, List.length_take]; rfl) | exact congrArg (fun x_ : Int => #[Value.int .u64 x_]) (show _ = _ % (18446744073709551616 : Int) by omega)) ?_; (with_reducible refine (code_Nums.calls k _ _ y104 t107 t108 _ ?side1 ?side2 A1.out).mono ?_); (case side1 => repeat (first | exact (Kd.R_reads' HO106.out).2.2 | (with_reducible refine Kd.C_alloc ?_ _) | (with_reducible refine Kd.C_drewN ?_ _) | (with_reducible refine Kd.C_drew ?_))); (case side2 => exact (Kd.R_reads' HO106.out).2.1); rintro e w13 ⟨v109, rfl, ho0, hb⟩; refine ⟨_, rfl, ?_⟩; have n0_ := Aside0.mk (Kd.R_below (by (with_reducible repeat (first | apply Kd.R_alloc | apply Kd.R_drewN | apply Kd.R_drew)); exact HO106.out) hb); have n1_ := Aside0.mk (Kd.R_lower ho0 (below_size (by repeat (first | (with_reducible first | exact HB.out | apply below_alloc | apply pw_below_drewN | apply below_drew1) | exact HB.out)))); have n2_ := Aside0.mk (below_step (by repeat (first | (with_reducible first | exact HB.out | apply below_alloc | apply pw_below_drewN | apply below_drew1) | exact HB.out)) hb); clear HO106; clear HB; have HO106 := n0_; have HO110 := n1_; have HB := n2_; clear n0_ n1_ n2_; (try clear hb); (try clear hb2); (try clear hk); (try clear hi); (try clear ho0)) | ((with_reducible refine gate_dst (N := 11) rfl ?_); (try (refine gate_guard (by rfl) ?_; dsimp only)); refine Kd.R_lit (Kd.int .u8) _ 5 ?hg (N := 11) ?hd (xs := ([2, 1, 2] : List Int)) (inner := [.int .u8 2, .int .u8 1, .int .u8 2]) (ok := fun _ => True) (okp := fun _ => True) ?hr ?hp (fun _ hk => hk) trivial (Below.refl _ _) (Nat.le_refl _) (by simp) ?_; (case hd => rfl); (case hg => rfl); (case hr => first | (go_simp; done) | (go_simp; rfl)); (case hp => exact (Reps.one (show Kd.M (Kd.int .u8) _ _ _ 2 [.int .u8 2] from rfl) (Reps.one (show Kd.M (Kd.int .u8) _ _ _ 1 [.int .u8 1] from rfl) (Reps.one (show Kd.M (Kd.int .u8) _ _ _ 2 [.int .u8 2] from rfl) (Reps.none _ _))))); intro v112 w14 ho15 hb hg_ hnew_; clear hg_ hnew_; (first | rw [← Ny111.out] at ho15 | (simp only [Int.reduceToNat] at ho15; rw [← Ny111.out] at ho15)); have n0_ := Aside0.mk (Kd.R_below (by (with_reducible repeat (first | apply Kd.R_alloc | apply Kd.R_drewN | apply Kd.R_drew)); exact HO106.out) hb); have n1_ := Aside0.mk (Kd.R_elder' (by (with_reducible repeat (first | apply Kd.R_alloc | apply Kd.R_drewN | apply Kd.R_drew)); exact HO110.out) (Kd.R_base ho15) hb); have n2_ := Aside0.mk (Kd.R_lower (Kd.R_new' ho15 (Kd.R_lt (by (with_reducible repeat (first | apply Kd.R_alloc | apply Kd.R_drewN | apply Kd.R_drew)); exact HO110.out))) (below_size (by repeat (first | (with_reducible first | exact HB.out | apply below_alloc | apply pw_below_drewN | apply below_drew1) | exact HB.out)))); have n3_ := Aside0.mk (below_step (by repeat (first | (with_reducible first | exact HB.out | apply below_alloc | apply pw_below_drewN | apply below_drew1) | exact HB.out)) hb); clear HO106; clear HO110; clear HB; have HO106 := n0_; have HO110 := n1_; have HO113 := n2_; have HB := n3_; clear n0_ n1_ n2_ n3_; clear hb ho15; obtain ⟨Ao16, co16, eo16⟩ := Kd.R_slice HO113.out; subst eo16) | ((with_reducible refine gate_callee (f := 32) rfl ?_); refine goesL_ (some 12) rfl rfl Try.func32 (by kernel_rfl) rfl #[.slice Ao16 y111.length co16] rfl (by (try simp only [List.map_toArray, List.map_cons, List.map_nil]); first | done | rfl | (simp only [List.length_drop, List.length_take]; rfl) | exact congrArg (fun x_ : Int => #[Value.int .u64 x_]) (show _ = _ % (18446744073709551616 : Int) by omega)) ?_; (with_reducible refine (code_Unnums.calls k _ _ y111 t114 t115 _ ?side1 ?side2 A2.out).mono ?_); (case side1 => repeat (first | exact (Kd.R_reads' HO113.out).2.2 | (with_reducible refine Kd.C_alloc ?_ _) | (with_reducible refine Kd.C_drewN ?_ _) | (with_reducible refine Kd.C_drew ?_))); (case side2 => exact (Kd.R_reads' HO113.out).2.1); rintro e w17 ⟨v116, rfl, ho0, hb⟩; refine ⟨_, rfl, ?_⟩; have n0_ := Aside0.mk (Kd.R_elder' (by (with_reducible repeat (first | apply Kd.R_alloc | apply Kd.R_drewN | apply Kd.R_drew)); exact HO106.out) (Kd.R_base ho0) hb); have n1_ := Aside0.mk (Kd.R_below (by (with_reducible repeat (first | apply Kd.R_alloc | apply Kd.R_drewN | apply Kd.R_drew)); exact HO110.out) hb); have n2_ := Aside0.mk (Kd.R_below (by (with_reducible repeat (first | apply Kd.R_alloc | apply Kd.R_drewN | apply Kd.R_drew)); exact HO113.out) hb); have n3_ := Aside0.mk (Kd.R_lower (Kd.R_new' ho0 (Kd.R_lt (by (with_reducible repeat (first | apply Kd.R_alloc | apply Kd.R_drewN | apply Kd.R_drew)); exact HO106.out))) (below_size (by repeat (first | (with_reducible first | exact HB.out | apply below_alloc | apply pw_below_drewN | apply below_drew1) | exact HB.out)))); have n4_ := Aside0.mk (below_step (by repeat (first | (with_reducible first | exact HB.out | apply below_alloc | apply pw_below_drewN | apply below_drew1) | exact HB.out)) hb); clear HO106; clear HO110; clear HO113; clear HB; have HO106 := n0_; have HO110 := n1_; have HO113 := n2_; have HO117 := n3_; have HB := n4_; clear n0_ n1_ n2_ n3_ n4_; (try clear hb); (try clear hb2); (try clear hk); (try clear hi); (try clear ho0)) | ((with_reducible refine gate_callee (f := 15) rfl ?_); refine goesL_ (some 15) rfl rfl Try.func15 (by kernel_rfl) rfl #[.int .u64 300] rfl (by (try simp only [List.map_toArray, List.map_cons, List.map_nil]); first | done | rfl | (simp only [List.length_drop, List.length_take]; rfl) | exact congrArg (fun x_ : Int => #[Value.int .u64 x_]) (show _ = _ % (18446744073709551616 : Int) by omega)) ?_; (with_reducible refine (code_Num.calls k 300 t118 _ A3.out).mono ?_); rintro e w18 ⟨v119, rfl, ho0, hb⟩; refine ⟨_, rfl, ?_⟩; have n0_ := Aside0.mk (Kd.R_below (by (with_reducible repeat (first | apply Kd.R_alloc | apply Kd.R_drewN | apply Kd.R_drew)); exact HO106.out) hb); have n1_ := Aside0.mk (Kd.R_elder' (by (with_reducible repeat (first | apply Kd.R_alloc | apply Kd.R_drewN | apply Kd.R_drew)); exact HO110.out) (Kd.R_base ho0) hb); have n2_ := Aside0.mk (Kd.R_elder' (by (with_reducible repeat (first | apply Kd.R_alloc | apply Kd.R_drewN | apply Kd.R_drew)); exact HO113.out) (Kd.R_base ho0) hb); have n3_ := Aside0.mk (Kd.R_below (by (with_reducible repeat (first | apply Kd.R_alloc | apply Kd.R_drewN | apply Kd.R_drew)); exact HO117.out) hb); have n4_ := Aside0.mk (Kd.R_lower (Kd.R_new' (Kd.R_new' ho0 (Kd.R_lt (by (with_reducible repeat (first | apply Kd.R_alloc | apply Kd.R_drewN | apply Kd.R_drew)); exact HO110.out))) (Kd.R_lt (by (with_reducible repeat (first | apply Kd.R_alloc | apply Kd.R_drewN | apply Kd.R_drew)); exact HO113.out))) (below_size (by repeat (first | (with_reducible first | exact HB.out | apply below_alloc | apply pw_below_drewN | apply below_drew1) | exact HB.out)))); have n5_ := Aside0.mk (below_step (by repeat (first | (with_reducible first | exact HB.out | apply below_alloc | apply pw_below_drewN | apply below_drew1) | exact HB.out)) hb); clear HO106; clear HO110; clear HO113; clear HO117; clear HB; have HO106 := n0_; have HO110 := n1_; have HO113 := n2_; have HO117 := n3_; have HO120 := n4_; have HB := n5_; clear n0_ n1_ n2_ n3_ n4_ n5_; (try clear hb); (try clear hb2); (try clear hk); (try clear hi); (try clear ho0); have hcv19 := own_string (P := Try.prog) Try.underlying27 Try.underlying5 Try.underlying9 (Kd.own_of_R HO120.out); have hcv20 := own_string (P := Try.prog) Try.underlying27 Try.underlying5 Try.underlying9 (Kd.own_of_R HO110.out); obtain ⟨Ao21, co21, eo21⟩ := Kd.R_slice HO117.out; subst eo21; have p121 : 0 ≤ (0 : Int) := (by omega); have q121 : 0 < (t114.length : Int) := of_decide_eq_true (by first | (with_reducible assumption) | assumption); obtain ⟨ad121, e121, hx121_0⟩ := Kd.at_int (Kd.R_reads' HO117.out).2.2 0 p121 q121; cases e121; have qi121 : (0 < t114.length) = True := eq_true (by omega); (try rw [show ((0 : Int)).toNat = 0 from rfl] at hx121_0); (try rw [Addr.add_zero'] at hx121_0); replace p121 := eq_true p121; replace q121 := eq_true q121))
              go_ret
              exact ⟨by first | rfl | (simp [errW_none, errW_some] <;> rfl) | (simp [*, errW_none, errW_some] <;> rfl), by repeat (first | (with_reducible first | exact HB.out | apply below_alloc | apply pw_below_drewN | apply below_drew1) | exact HB.out)⟩
            · rw [if_neg c9] at H
              exact absurd H (by simp)
          · rw [if_neg c8] at H
            have c8b0 : ((t114.length : Int) == 2) = false := beq_eq_false_iff_ne.mpr c8
            have c8b1 : ((t114.length : Int) != 2) = true := bne_iff_ne.mpr c8
            obtain rfl := Option.some.inj H
            go_enter Try.func12, Try.ntmps12
            go_wp2_with (first | ((with_reducible refine gate_dst (N := 6) rfl ?_); (try (refine gate_guard (by rfl) ?_; dsimp only)); refine Kd.R_lit (Kd.int .i64) _ 2 ?hg (N := 6) ?hd (xs := ([(-1), 1] : List Int)) (inner := [.int .i64 (-1), .int .i64 1]) (ok := fun _ => True) (okp := fun _ => True) ?hr ?hp (fun _ hk => hk) trivial (Below.refl _ _) (Nat.le_refl _) (by simp) ?_; (case hd => rfl); (case hg => rfl); (case hr => first | (go_simp; done) | (go_simp; rfl)); (case hp => exact (Reps.one (show Kd.M (Kd.int .i64) _ _ _ (-1) [.int .i64 (-1)] from rfl) (Reps.one (show Kd.M (Kd.int .i64) _ _ _ 1 [.int .i64 1] from rfl) (Reps.none _ _)))); intro v105 w22 ho23 hb hg_ hnew_; clear hg_ hnew_; (first | rw [← Ny104.out] at ho23 | (simp only [Int.reduceToNat] at ho23; rw [← Ny104.out] at ho23)); have n0_ := Aside0.mk (Kd.R_lower ho23 (below_size (by repeat (first | (with_reducible first | exact HB.out | apply below_alloc | apply pw_below_drewN | apply below_drew1) | exact HB.out)))); have n1_ := Aside0.mk (below_step (by repeat (first | (with_reducible first | exact HB.out | apply below_alloc | apply pw_below_drewN | apply below_drew1) | exact HB.out)) hb); clear HB; have HO106 := n0_; have HB := n1_; clear n0_ n1_; clear hb ho23; obtain ⟨Ao24, co24, eo24⟩ := Kd.R_slice HO106.out; subst eo24) | ((with_reducible refine gate_callee (f := 27) rfl ?_); refine goesL_ (some 7) rfl rfl Try.func27 (by kernel_rfl) rfl #[.slice Ao24 y104.length co24] rfl (by (try simp only [List.map_toArray, List.map_cons, List.map_nil]); first | done | rfl | (simp only [List.length_drop, List.length_take]; rfl) | exact congrArg (fun x_ : Int => #[Value.int .u64 x_]) (show _ = _ % (18446744073709551616 : Int) by omega)) ?_; (with_reducible refine (code_Nums.calls k _ _ y104 t107 t108 _ ?side1 ?side2 A1.out).mono ?_); (case side1 => repeat (first | exact (Kd.R_reads' HO106.out).2.2 | (with_reducible refine Kd.C_alloc ?_ _) | (with_reducible refine Kd.C_drewN ?_ _) | (with_reducible refine Kd.C_drew ?_))); (case side2 => exact (Kd.R_reads' HO106.out).2.1); rintro e w25 ⟨v109, rfl, ho0, hb⟩; refine ⟨_, rfl, ?_⟩; have n0_ := Aside0.mk (Kd.R_below (by (with_reducible repeat (first | apply Kd.R_alloc | apply Kd.R_drewN | apply Kd.R_drew)); exact HO106.out) hb); have n1_ := Aside0.mk (Kd.R_lower ho0 (below_size (by repeat (first | (with_reducible first | exact HB.out | apply below_alloc | apply pw_below_drewN | apply below_drew1) | exact HB.out)))); have n2_ := Aside0.mk (below_step (by repeat (first | (with_reducible first | exact HB.out | apply below_alloc | apply pw_below_drewN | apply below_drew1) | exact HB.out)) hb); clear HO106; clear HB; have HO106 := n0_; have HO110 := n1_; have HB := n2_; clear n0_ n1_ n2_; (try clear hb); (try clear hb2); (try clear hk); (try clear hi); (try clear ho0)) | ((with_reducible refine gate_dst (N := 11) rfl ?_); (try (refine gate_guard (by rfl) ?_; dsimp only)); refine Kd.R_lit (Kd.int .u8) _ 5 ?hg (N := 11) ?hd (xs := ([2, 1, 2] : List Int)) (inner := [.int .u8 2, .int .u8 1, .int .u8 2]) (ok := fun _ => True) (okp := fun _ => True) ?hr ?hp (fun _ hk => hk) trivial (Below.refl _ _) (Nat.le_refl _) (by simp) ?_; (case hd => rfl); (case hg => rfl); (case hr => first | (go_simp; done) | (go_simp; rfl)); (case hp => exact (Reps.one (show Kd.M (Kd.int .u8) _ _ _ 2 [.int .u8 2] from rfl) (Reps.one (show Kd.M (Kd.int .u8) _ _ _ 1 [.int .u8 1] from rfl) (Reps.one (show Kd.M (Kd.int .u8) _ _ _ 2 [.int .u8 2] from rfl) (Reps.none _ _))))); intro v112 w26 ho27 hb hg_ hnew_; clear hg_ hnew_; (first | rw [← Ny111.out] at ho27 | (simp only [Int.reduceToNat] at ho27; rw [← Ny111.out] at ho27)); have n0_ := Aside0.mk (Kd.R_below (by (with_reducible repeat (first | apply Kd.R_alloc | apply Kd.R_drewN | apply Kd.R_drew)); exact HO106.out) hb); have n1_ := Aside0.mk (Kd.R_elder' (by (with_reducible repeat (first | apply Kd.R_alloc | apply Kd.R_drewN | apply Kd.R_drew)); exact HO110.out) (Kd.R_base ho27) hb); have n2_ := Aside0.mk (Kd.R_lower (Kd.R_new' ho27 (Kd.R_lt (by (with_reducible repeat (first | apply Kd.R_alloc | apply Kd.R_drewN | apply Kd.R_drew)); exact HO110.out))) (below_size (by repeat (first | (with_reducible first | exact HB.out | apply below_alloc | apply pw_below_drewN | apply below_drew1) | exact HB.out)))); have n3_ := Aside0.mk (below_step (by repeat (first | (with_reducible first | exact HB.out | apply below_alloc | apply pw_below_drewN | apply below_drew1) | exact HB.out)) hb); clear HO106; clear HO110; clear HB; have HO106 := n0_; have HO110 := n1_; have HO113 := n2_; have HB := n3_; clear n0_ n1_ n2_ n3_; clear hb ho27; obtain ⟨Ao28, co28, eo28⟩ := Kd.R_slice HO113.out; subst eo28) | ((with_reducible refine gate_callee (f := 32) rfl ?_); refine goesL_ (some 12) rfl rfl Try.func32 (by kernel_rfl) rfl #[.slice Ao28 y111.length co28] rfl (by (try simp only [List.map_toArray, List.map_cons, List.map_nil]); first | done | rfl | (simp only [List.length_drop, List.length_take]; rfl) | exact congrArg (fun x_ : Int => #[Value.int .u64 x_]) (show _ = _ % (18446744073709551616 : Int) by omega)) ?_; (with_reducible refine (code_Unnums.calls k _ _ y111 t114 t115 _ ?side1 ?side2 A2.out).mono ?_); (case side1 => repeat (first | exact (Kd.R_reads' HO113.out).2.2 | (with_reducible refine Kd.C_alloc ?_ _) | (with_reducible refine Kd.C_drewN ?_ _) | (with_reducible refine Kd.C_drew ?_))); (case side2 => exact (Kd.R_reads' HO113.out).2.1); rintro e w29 ⟨v116, rfl, ho0, hb⟩; refine ⟨_, rfl, ?_⟩; have n0_ := Aside0.mk (Kd.R_elder' (by (with_reducible repeat (first | apply Kd.R_alloc | apply Kd.R_drewN | apply Kd.R_drew)); exact HO106.out) (Kd.R_base ho0) hb); have n1_ := Aside0.mk (Kd.R_below (by (with_reducible repeat (first | apply Kd.R_alloc | apply Kd.R_drewN | apply Kd.R_drew)); exact HO110.out) hb); have n2_ := Aside0.mk (Kd.R_below (by (with_reducible repeat (first | apply Kd.R_alloc | apply Kd.R_drewN | apply Kd.R_drew)); exact HO113.out) hb); have n3_ := Aside0.mk (Kd.R_lower (Kd.R_new' ho0 (Kd.R_lt (by (with_reducible repeat (first | apply Kd.R_alloc | apply Kd.R_drewN | apply Kd.R_drew)); exact HO106.out))) (below_size (by repeat (first | (with_reducible first | exact HB.out | apply below_alloc | apply pw_below_drewN | apply below_drew1) | exact HB.out)))); have n4_ := Aside0.mk (below_step (by repeat (first | (with_reducible first | exact HB.out | apply below_alloc | apply pw_below_drewN | apply below_drew1) | exact HB.out)) hb); clear HO106; clear HO110; clear HO113; clear HB; have HO106 := n0_; have HO110 := n1_; have HO113 := n2_; have HO117 := n3_; have HB := n4_; clear n0_ n1_ n2_ n3_ n4_; (try clear hb); (try clear hb2); (try clear hk); (try clear hi); (try clear ho0)) | ((with_reducible refine gate_callee (f := 15) rfl ?_); refine goesL_ (some 15) rfl rfl Try.func15 (by kernel_rfl) rfl #[.int .u64 300] rfl (by (try simp only [List.map_toArray, List.map_cons, List.map_nil]); first | done | rfl | (simp only [List.length_drop, List.length_take]; rfl) | exact congrArg (fun x_ : Int => #[Value.int .u64 x_]) (show _ = _ % (18446744073709551616 : Int) by omega)) ?_; (with_reducible refine (code_Num.calls k 300 t118 _ A3.out).mono ?_); rintro e w30 ⟨v119, rfl, ho0, hb⟩; refine ⟨_, rfl, ?_⟩; have n0_ := Aside0.mk (Kd.R_below (by (with_reducible repeat (first | apply Kd.R_alloc | apply Kd.R_drewN | apply Kd.R_drew)); exact HO106.out) hb); have n1_ := Aside0.mk (Kd.R_elder' (by (with_reducible repeat (first | apply Kd.R_alloc | apply Kd.R_drewN | apply Kd.R_drew)); exact HO110.out) (Kd.R_base ho0) hb); have n2_ := Aside0.mk (Kd.R_elder' (by (with_reducible repeat (first | apply Kd.R_alloc | apply Kd.R_drewN | apply Kd.R_drew)); exact HO113.out) (Kd.R_base ho0) hb); have n3_ := Aside0.mk (Kd.R_below (by (with_reducible repeat (first | apply Kd.R_alloc | apply Kd.R_drewN | apply Kd.R_drew)); exact HO117.out) hb); have n4_ := Aside0.mk (Kd.R_lower (Kd.R_new' (Kd.R_new' ho0 (Kd.R_lt (by (with_reducible repeat (first | apply Kd.R_alloc | apply Kd.R_drewN | apply Kd.R_drew)); exact HO110.out))) (Kd.R_lt (by (with_reducible repeat (first | apply Kd.R_alloc | apply Kd.R_drewN | apply Kd.R_drew)); exact HO113.out))) (below_size (by repeat (first | (with_reducible first | exact HB.out | apply below_alloc | apply pw_below_drewN | apply below_drew1) | exact HB.out)))); have n5_ := Aside0.mk (below_step (by repeat (first | (with_reducible first | exact HB.out | apply below_alloc | apply pw_below_drewN | apply below_drew1) | exact HB.out)) hb); clear HO106; clear HO110; clear HO113; clear HO117; clear HB; have HO106 := n0_; have HO110 := n1_; have HO113 := n2_; have HO117 := n3_; have HO120 := n4_; have HB := n5_; clear n0_ n1_ n2_ n3_ n4_ n5_; (try clear hb); (try clear hb2); (try clear hk); (try clear hi); (try clear ho0); have hcv31 := own_string (P := Try.prog) Try.underlying27 Try.underlying5 Try.underlying9 (Kd.own_of_R HO120.out); have hcv32 := own_string (P := Try.prog) Try.underlying27 Try.underlying5 Try.underlying9 (Kd.own_of_R HO110.out); obtain ⟨Ao33, co33, eo33⟩ := Kd.R_slice HO117.out; subst eo33))
            go_ret
            exact ⟨by first | rfl | (simp [errW_none, errW_some] <;> rfl) | (simp [*, errW_none, errW_some] <;> rfl), by repeat (first | (with_reducible first | exact HB.out | apply below_alloc | apply pw_below_drewN | apply below_drew1) | exact HB.out)⟩
        · rw [if_neg c7] at H
          have c7b0 : (t115 == 0) = false := beq_eq_false_iff_ne.mpr c7
          have c7b1 : (t115 != 0) = true := bne_iff_ne.mpr c7
          obtain rfl := Option.some.inj H
          go_enter Try.func12, Try.ntmps12
          go_wp2_with (first | ((with_reducible refine gate_dst (N := 6) rfl ?_); (try (refine gate_guard (by rfl) ?_; dsimp only)); refine Kd.R_lit (Kd.int .i64) _ 2 ?hg (N := 6) ?hd (xs := ([(-1), 1] : List Int)) (inner := [.int .i64 (-1), .int .i64 1]) (ok := fun _ => True) (okp := fun _ => True) ?hr ?hp (fun _ hk => hk) trivial (Below.refl _ _) (Nat.le_refl _) (by simp) ?_; (case hd => rfl); (case hg => rfl); (case hr => first | (go_simp; done) | (go_simp; rfl)); (case hp => exact (Reps.one (show Kd.M (Kd.int .i64) _ _ _ (-1) [.int .i64 (-1)] from rfl) (Reps.one (show Kd.M (Kd.int .i64) _ _ _ 1 [.int .i64 1] from rfl) (Reps.none _ _)))); intro v105 w34 ho35 hb hg_ hnew_; clear hg_ hnew_; (first | rw [← Ny104.out] at ho35 | (simp only [Int.reduceToNat] at ho35; rw [← Ny104.out] at ho35)); have n0_ := Aside0.mk (Kd.R_lower ho35 (below_size (by repeat (first | (with_reducible first | exact HB.out | apply below_alloc | apply pw_below_drewN | apply below_drew1) | exact HB.out)))); have n1_ := Aside0.mk (below_step (by repeat (first | (with_reducible first | exact HB.out | apply below_alloc | apply pw_below_drewN | apply below_drew1) | exact HB.out)) hb); clear HB; have HO106 := n0_; have HB := n1_; clear n0_ n1_; clear hb ho35; obtain ⟨Ao36, co36, eo36⟩ := Kd.R_slice HO106.out; subst eo36) | ((with_reducible refine gate_callee (f := 27) rfl ?_); refine goesL_ (some 7) rfl rfl Try.func27 (by kernel_rfl) rfl #[.slice Ao36 y104.length co36] rfl (by (try simp only [List.map_toArray, List.map_cons, List.map_nil]); first | done | rfl | (simp only [List.length_drop, List.length_take]; rfl) | exact congrArg (fun x_ : Int => #[Value.int .u64 x_]) (show _ = _ % (18446744073709551616 : Int) by omega)) ?_; (with_reducible refine (code_Nums.calls k _ _ y104 t107 t108 _ ?side1 ?side2 A1.out).mono ?_); (case side1 => repeat (first | exact (Kd.R_reads' HO106.out).2.2 | (with_reducible refine Kd.C_alloc ?_ _) | (with_reducible refine Kd.C_drewN ?_ _) | (with_reducible refine Kd.C_drew ?_))); (case side2 => exact (Kd.R_reads' HO106.out).2.1); rintro e w37 ⟨v109, rfl, ho0, hb⟩; refine ⟨_, rfl, ?_⟩; have n0_ := Aside0.mk (Kd.R_below (by (with_reducible repeat (first | apply Kd.R_alloc | apply Kd.R_drewN | apply Kd.R_drew)); exact HO106.out) hb); have n1_ := Aside0.mk (Kd.R_lower ho0 (below_size (by repeat (first | (with_reducible first | exact HB.out | apply below_alloc | apply pw_below_drewN | apply below_drew1) | exact HB.out)))); have n2_ := Aside0.mk (below_step (by repeat (first | (with_reducible first | exact HB.out | apply below_alloc | apply pw_below_drewN | apply below_drew1) | exact HB.out)) hb); clear HO106; clear HB; have HO106 := n0_; have HO110 := n1_; have HB := n2_; clear n0_ n1_ n2_; (try clear hb); (try clear hb2); (try clear hk); (try clear hi); (try clear ho0)) | ((with_reducible refine gate_dst (N := 11) rfl ?_); (try (refine gate_guard (by rfl) ?_; dsimp only)); refine Kd.R_lit (Kd.int .u8) _ 5 ?hg (N := 11) ?hd (xs := ([2, 1, 2] : List Int)) (inner := [.int .u8 2, .int .u8 1, .int .u8 2]) (ok := fun _ => True) (okp := fun _ => True) ?hr ?hp (fun _ hk => hk) trivial (Below.refl _ _) (Nat.le_refl _) (by simp) ?_; (case hd => rfl); (case hg => rfl); (case hr => first | (go_simp; done) | (go_simp; rfl)); (case hp => exact (Reps.one (show Kd.M (Kd.int .u8) _ _ _ 2 [.int .u8 2] from rfl) (Reps.one (show Kd.M (Kd.int .u8) _ _ _ 1 [.int .u8 1] from rfl) (Reps.one (show Kd.M (Kd.int .u8) _ _ _ 2 [.int .u8 2] from rfl) (Reps.none _ _))))); intro v112 w38 ho39 hb hg_ hnew_; clear hg_ hnew_; (first | rw [← Ny111.out] at ho39 | (simp only [Int.reduceToNat] at ho39; rw [← Ny111.out] at ho39)); have n0_ := Aside0.mk (Kd.R_below (by (with_reducible repeat (first | apply Kd.R_alloc | apply Kd.R_drewN | apply Kd.R_drew)); exact HO106.out) hb); have n1_ := Aside0.mk (Kd.R_elder' (by (with_reducible repeat (first | apply Kd.R_alloc | apply Kd.R_drewN | apply Kd.R_drew)); exact HO110.out) (Kd.R_base ho39) hb); have n2_ := Aside0.mk (Kd.R_lower (Kd.R_new' ho39 (Kd.R_lt (by (with_reducible repeat (first | apply Kd.R_alloc | apply Kd.R_drewN | apply Kd.R_drew)); exact HO110.out))) (below_size (by repeat (first | (with_reducible first | exact HB.out | apply below_alloc | apply pw_below_drewN | apply below_drew1) | exact HB.out)))); have n3_ := Aside0.mk (below_step (by repeat (first | (with_reducible first | exact HB.out | apply below_alloc | apply pw_below_drewN | apply below_drew1) | exact HB.out)) hb); clear HO106; clear HO110; clear HB; have HO106 := n0_; have HO110 := n1_; have HO113 := n2_; have HB := n3_; clear n0_ n1_ n2_ n3_; clear hb ho39; obtain ⟨Ao40, co40, eo40⟩ := Kd.R_slice HO113.out; subst eo40) | ((with_reducible refine gate_callee (f := 32) rfl ?_); refine goesL_ (some 12) rfl rfl Try.func32 (by kernel_rfl) rfl #[.slice Ao40 y111.length co40] rfl (by (try simp only [List.map_toArray, List.map_cons, List.map_nil]); first | done | rfl | (simp only [List.length_drop, List.length_take]; rfl) | exact congrArg (fun x_ : Int => #[Value.int .u64 x_]) (show _ = _ % (18446744073709551616 : Int) by omega)) ?_; (with_reducible refine (code_Unnums.calls k _ _ y111 t114 t115 _ ?side1 ?side2 A2.out).mono ?_); (case side1 => repeat (first | exact (Kd.R_reads' HO113.out).2.2 | (with_reducible refine Kd.C_alloc ?_ _) | (with_reducible refine Kd.C_drewN ?_ _) | (with_reducible refine Kd.C_drew ?_))); (case side2 => exact (Kd.R_reads' HO113.out).2.1); rintro e w41 ⟨v116, rfl, ho0, hb⟩; refine ⟨_, rfl, ?_⟩; have n0_ := Aside0.mk (Kd.R_elder' (by (with_reducible repeat (first | apply Kd.R_alloc | apply Kd.R_drewN | apply Kd.R_drew)); exact HO106.out) (Kd.R_base ho0) hb); have n1_ := Aside0.mk (Kd.R_below (by (with_reducible repeat (first | apply Kd.R_alloc | apply Kd.R_drewN | apply Kd.R_drew)); exact HO110.out) hb); have n2_ := Aside0.mk (Kd.R_below (by (with_reducible repeat (first | apply Kd.R_alloc | apply Kd.R_drewN | apply Kd.R_drew)); exact HO113.out) hb); have n3_ := Aside0.mk (Kd.R_lower (Kd.R_new' ho0 (Kd.R_lt (by (with_reducible repeat (first | apply Kd.R_alloc | apply Kd.R_drewN | apply Kd.R_drew)); exact HO106.out))) (below_size (by repeat (first | (with_reducible first | exact HB.out | apply below_alloc | apply pw_below_drewN | apply below_drew1) | exact HB.out)))); have n4_ := Aside0.mk (below_step (by repeat (first | (with_reducible first | exact HB.out | apply below_alloc | apply pw_below_drewN | apply below_drew1) | exact HB.out)) hb); clear HO106; clear HO110; clear HO113; clear HB; have HO106 := n0_; have HO110 := n1_; have HO113 := n2_; have HO117 := n3_; have HB := n4_; clear n0_ n1_ n2_ n3_ n4_; (try clear hb); (try clear hb2); (try clear hk); (try clear hi); (try clear ho0)) | ((with_reducible refine gate_callee (f := 15) rfl ?_); refine goesL_ (some 15) rfl rfl Try.func15 (by kernel_rfl) rfl #[.int .u64 300] rfl (by (try simp only [List.map_toArray, List.map_cons, List.map_nil]); first | done | rfl | (simp only [List.length_drop, List.length_take]; rfl) | exact congrArg (fun x_ : Int => #[Value.int .u64 x_]) (show _ = _ % (18446744073709551616 : Int) by omega)) ?_; (with_reducible refine (code_Num.calls k 300 t118 _ A3.out).mono ?_); rintro e w42 ⟨v119, rfl, ho0, hb⟩; refine ⟨_, rfl, ?_⟩; have n0_ := Aside0.mk (Kd.R_below (by (with_reducible repeat (first | apply Kd.R_alloc | apply Kd.R_drewN | apply Kd.R_drew)); exact HO106.out) hb); have n1_ := Aside0.mk (Kd.R_elder' (by (with_reducible repeat (first | apply Kd.R_alloc | apply Kd.R_drewN | apply Kd.R_drew)); exact HO110.out) (Kd.R_base ho0) hb); have n2_ := Aside0.mk (Kd.R_elder' (by (with_reducible repeat (first | apply Kd.R_alloc | apply Kd.R_drewN | apply Kd.R_drew)); exact HO113.out) (Kd.R_base ho0) hb); have n3_ := Aside0.mk (Kd.R_below (by (with_reducible repeat (first | apply Kd.R_alloc | apply Kd.R_drewN | apply Kd.R_drew)); exact HO117.out) hb); have n4_ := Aside0.mk (Kd.R_lower (Kd.R_new' (Kd.R_new' ho0 (Kd.R_lt (by (with_reducible repeat (first | apply Kd.R_alloc | apply Kd.R_drewN | apply Kd.R_drew)); exact HO110.out))) (Kd.R_lt (by (with_reducible repeat (first | apply Kd.R_alloc | apply Kd.R_drewN | apply Kd.R_drew)); exact HO113.out))) (below_size (by repeat (first | (with_reducible first | exact HB.out | apply below_alloc | apply pw_below_drewN | apply below_drew1) | exact HB.out)))); have n5_ := Aside0.mk (below_step (by repeat (first | (with_reducible first | exact HB.out | apply below_alloc | apply pw_below_drewN | apply below_drew1) | exact HB.out)) hb); clear HO106; clear HO110; clear HO113; clear HO117; clear HB; have HO106 := n0_; have HO110 := n1_; have HO113 := n2_; have HO117 := n3_; have HO120 := n4_; have HB := n5_; clear n0_ n1_ n2_ n3_ n4_ n5_; (try clear hb); (try clear hb2); (try clear hk); (try clear hi); (try clear ho0); have hcv43 := own_string (P := Try.prog) Try.underlying27 Try.underlying5 Try.underlying9 (Kd.own_of_R HO120.out); have hcv44 := own_string (P := Try.prog) Try.underlying27 Try.underlying5 Try.underlying9 (Kd.own_of_R HO110.out)))
          go_ret
          exact ⟨by first | rfl | (simp [errW_none, errW_some] <;> rfl) | (simp [*, errW_none, errW_some] <;> rfl), by repeat (first | (with_reducible first | exact HB.out | apply below_alloc | apply pw_below_drewN | apply below_drew1) | exact HB.out)⟩
      · rw [if_neg c6] at H
        have c6b0 : (t108 == 0) = false := beq_eq_false_iff_ne.mpr c6
        have c6b1 : (t108 != 0) = true := bne_iff_ne.mpr c6
        obtain rfl := Option.some.inj H
        go_enter Try.func12, Try.ntmps12
        go_wp2_with (first | ((with_reducible refine gate_dst (N := 6) rfl ?_); (try (refine gate_guard (by rfl) ?_; dsimp only)); refine Kd.R_lit (Kd.int .i64) _ 2 ?hg (N := 6) ?hd (xs := ([(-1), 1] : List Int)) (inner := [.int .i64 (-1), .int .i64 1]) (ok := fun _ => True) (okp := fun _ => True) ?hr ?hp (fun _ hk => hk) trivial (Below.refl _ _) (Nat.le_refl _) (by simp) ?_; (case hd => rfl); (case hg => rfl); (case hr => first | (go_simp; done) | (go_simp; rfl)); (case hp => exact (Reps.one (show Kd.M (Kd.int .i64) _ _ _ (-1) [.int .i64 (-1)] from rfl) (Reps.one (show Kd.M (Kd.int .i64) _ _ _ 1 [.int .i64 1] from rfl) (Reps.none _ _)))); intro v105 w45 ho46 hb hg_ hnew_; clear hg_ hnew_; (first | rw [← Ny104.out] at ho46 | (simp only [Int.reduceToNat] at ho46; rw [← Ny104.out] at ho46)); have n0_ := Aside0.mk (Kd.R_lower ho46 (below_size (by repeat (first | (with_reducible first | exact HB.out | apply below_alloc | apply pw_below_drewN | apply below_drew1) | exact HB.out)))); have n1_ := Aside0.mk (below_step (by repeat (first | (with_reducible first | exact HB.out | apply below_alloc | apply pw_below_drewN | apply below_drew1) | exact HB.out)) hb); clear HB; have HO106 := n0_; have HB := n1_; clear n0_ n1_; clear hb ho46; obtain ⟨Ao47, co47, eo47⟩ := Kd.R_slice HO106.out; subst eo47) | ((with_reducible refine gate_callee (f := 27) rfl ?_); refine goesL_ (some 7) rfl rfl Try.func27 (by kernel_rfl) rfl #[.slice Ao47 y104.length co47] rfl (by (try simp only [List.map_toArray, List.map_cons, List.map_nil]); first | done | rfl | (simp only [List.length_drop, List.length_take]; rfl) | exact congrArg (fun x_ : Int => #[Value.int .u64 x_]) (show _ = _ % (18446744073709551616 : Int) by omega)) ?_; (with_reducible refine (code_Nums.calls k _ _ y104 t107 t108 _ ?side1 ?side2 A1.out).mono ?_); (case side1 => repeat (first | exact (Kd.R_reads' HO106.out).2.2 | (with_reducible refine Kd.C_alloc ?_ _) | (with_reducible refine Kd.C_drewN ?_ _) | (with_reducible refine Kd.C_drew ?_))); (case side2 => exact (Kd.R_reads' HO106.out).2.1); rintro e w48 ⟨v109, rfl, ho0, hb⟩; refine ⟨_, rfl, ?_⟩; have n0_ := Aside0.mk (Kd.R_below (by (with_reducible repeat (first | apply Kd.R_alloc | apply Kd.R_drewN | apply Kd.R_drew)); exact HO106.out) hb); have n1_ := Aside0.mk (Kd.R_lower ho0 (below_size (by repeat (first | (with_reducible first | exact HB.out | apply below_alloc | apply pw_below_drewN | apply below_drew1) | exact HB.out)))); have n2_ := Aside0.mk (below_step (by repeat (first | (with_reducible first | exact HB.out | apply below_alloc | apply pw_below_drewN | apply below_drew1) | exact HB.out)) hb); clear HO106; clear HB; have HO106 := n0_; have HO110 := n1_; have HB := n2_; clear n0_ n1_ n2_; (try clear hb); (try clear hb2); (try clear hk); (try clear hi); (try clear ho0)) | ((with_reducible refine gate_dst (N := 11) rfl ?_); (try (refine gate_guard (by rfl) ?_; dsimp only)); refine Kd.R_lit (Kd.int .u8) _ 5 ?hg (N := 11) ?hd (xs := ([2, 1, 2] : List Int)) (inner := [.int .u8 2, .int .u8 1, .int .u8 2]) (ok := fun _ => True) (okp := fun _ => True) ?hr ?hp (fun _ hk => hk) trivial (Below.refl _ _) (Nat.le_refl _) (by simp) ?_; (case hd => rfl); (case hg => rfl); (case hr => first | (go_simp; done) | (go_simp; rfl)); (case hp => exact (Reps.one (show Kd.M (Kd.int .u8) _ _ _ 2 [.int .u8 2] from rfl) (Reps.one (show Kd.M (Kd.int .u8) _ _ _ 1 [.int .u8 1] from rfl) (Reps.one (show Kd.M (Kd.int .u8) _ _ _ 2 [.int .u8 2] from rfl) (Reps.none _ _))))); intro v112 w49 ho50 hb hg_ hnew_; clear hg_ hnew_; (first | rw [← Ny111.out] at ho50 | (simp only [Int.reduceToNat] at ho50; rw [← Ny111.out] at ho50)); have n0_ := Aside0.mk (Kd.R_below (by (with_reducible repeat (first | apply Kd.R_alloc | apply Kd.R_drewN | apply Kd.R_drew)); exact HO106.out) hb); have n1_ := Aside0.mk (Kd.R_elder' (by (with_reducible repeat (first | apply Kd.R_alloc | apply Kd.R_drewN | apply Kd.R_drew)); exact HO110.out) (Kd.R_base ho50) hb); have n2_ := Aside0.mk (Kd.R_lower (Kd.R_new' ho50 (Kd.R_lt (by (with_reducible repeat (first | apply Kd.R_alloc | apply Kd.R_drewN | apply Kd.R_drew)); exact HO110.out))) (below_size (by repeat (first | (with_reducible first | exact HB.out | apply below_alloc | apply pw_below_drewN | apply below_drew1) | exact HB.out)))); have n3_ := Aside0.mk (below_step (by repeat (first | (with_reducible first | exact HB.out | apply below_alloc | apply pw_below_drewN | apply below_drew1) | exact HB.out)) hb); clear HO106; clear HO110; clear HB; have HO106 := n0_; have HO110 := n1_; have HO113 := n2_; have HB := n3_; clear n0_ n1_ n2_ n3_; clear hb ho50; obtain ⟨Ao51, co51, eo51⟩ := Kd.R_slice HO113.out; subst eo51) | ((with_reducible refine gate_callee (f := 32) rfl ?_); refine goesL_ (some 12) rfl rfl Try.func32 (by kernel_rfl) rfl #[.slice Ao51 y111.length co51] rfl (by (try simp only [List.map_toArray, List.map_cons, List.map_nil]); first | done | rfl | (simp only [List.length_drop, List.length_take]; rfl) | exact congrArg (fun x_ : Int => #[Value.int .u64 x_]) (show _ = _ % (18446744073709551616 : Int) by omega)) ?_; (with_reducible refine (code_Unnums.calls k _ _ y111 t114 t115 _ ?side1 ?side2 A2.out).mono ?_); (case side1 => repeat (first | exact (Kd.R_reads' HO113.out).2.2 | (with_reducible refine Kd.C_alloc ?_ _) | (with_reducible refine Kd.C_drewN ?_ _) | (with_reducible refine Kd.C_drew ?_))); (case side2 => exact (Kd.R_reads' HO113.out).2.1); rintro e w52 ⟨v116, rfl, ho0, hb⟩; refine ⟨_, rfl, ?_⟩; have n0_ := Aside0.mk (Kd.R_elder' (by (with_reducible repeat (first | apply Kd.R_alloc | apply Kd.R_drewN | apply Kd.R_drew)); exact HO106.out) (Kd.R_base ho0) hb); have n1_ := Aside0.mk (Kd.R_below (by (with_reducible repeat (first | apply Kd.R_alloc | apply Kd.R_drewN | apply Kd.R_drew)); exact HO110.out) hb); have n2_ := Aside0.mk (Kd.R_below (by (with_reducible repeat (first | apply Kd.R_alloc | apply Kd.R_drewN | apply Kd.R_drew)); exact HO113.out) hb); have n3_ := Aside0.mk (Kd.R_lower (Kd.R_new' ho0 (Kd.R_lt (by (with_reducible repeat (first | apply Kd.R_alloc | apply Kd.R_drewN | apply Kd.R_drew)); exact HO106.out))) (below_size (by repeat (first | (with_reducible first | exact HB.out | apply below_alloc | apply pw_below_drewN | apply below_drew1) | exact HB.out)))); have n4_ := Aside0.mk (below_step (by repeat (first | (with_reducible first | exact HB.out | apply below_alloc | apply pw_below_drewN | apply below_drew1) | exact HB.out)) hb); clear HO106; clear HO110; clear HO113; clear HB; have HO106 := n0_; have HO110 := n1_; have HO113 := n2_; have HO117 := n3_; have HB := n4_; clear n0_ n1_ n2_ n3_ n4_; (try clear hb); (try clear hb2); (try clear hk); (try clear hi); (try clear ho0)) | ((with_reducible refine gate_callee (f := 15) rfl ?_); refine goesL_ (some 15) rfl rfl Try.func15 (by kernel_rfl) rfl #[.int .u64 300] rfl (by (try simp only [List.map_toArray, List.map_cons, List.map_nil]); first | done | rfl | (simp only [List.length_drop, List.length_take]; rfl) | exact congrArg (fun x_ : Int => #[Value.int .u64 x_]) (show _ = _ % (18446744073709551616 : Int) by omega)) ?_; (with_reducible refine (code_Num.calls k 300 t118 _ A3.out).mono ?_); rintro e w53 ⟨v119, rfl, ho0, hb⟩; refine ⟨_, rfl, ?_⟩; have n0_ := Aside0.mk (Kd.R_below (by (with_reducible repeat (first | apply Kd.R_alloc | apply Kd.R_drewN | apply Kd.R_drew)); exact HO106.out) hb); have n1_ := Aside0.mk (Kd.R_elder' (by (with_reducible repeat (first | apply Kd.R_alloc | apply Kd.R_drewN | apply Kd.R_drew)); exact HO110.out) (Kd.R_base ho0) hb); have n2_ := Aside0.mk (Kd.R_elder' (by (with_reducible repeat (first | apply Kd.R_alloc | apply Kd.R_drewN | apply Kd.R_drew)); exact HO113.out) (Kd.R_base ho0) hb); have n3_ := Aside0.mk (Kd.R_below (by (with_reducible repeat (first | apply Kd.R_alloc | apply Kd.R_drewN | apply Kd.R_drew)); exact HO117.out) hb); have n4_ := Aside0.mk (Kd.R_lower (Kd.R_new' (Kd.R_new' ho0 (Kd.R_lt (by (with_reducible repeat (first | apply Kd.R_alloc | apply Kd.R_drewN | apply Kd.R_drew)); exact HO110.out))) (Kd.R_lt (by (with_reducible repeat (first | apply Kd.R_alloc | apply Kd.R_drewN | apply Kd.R_drew)); exact HO113.out))) (below_size (by repeat (first | (with_reducible first | exact HB.out | apply below_alloc | apply pw_below_drewN | apply below_drew1) | exact HB.out)))); have n5_ := Aside0.mk (below_step (by repeat (first | (with_reducible first | exact HB.out | apply below_alloc | apply pw_below_drewN | apply below_drew1) | exact HB.out)) hb); clear HO106; clear HO110; clear HO113; clear HO117; clear HB; have HO106 := n0_; have HO110 := n1_; have HO113 := n2_; have HO117 := n3_; have HO120 := n4_; have HB := n5_; clear n0_ n1_ n2_ n3_ n4_ n5_; (try clear hb); (try clear hb2); (try clear hk); (try clear hi); (try clear ho0); have hcv54 := own_string (P := Try.prog) Try.underlying27 Try.underlying5 Try.underlying9 (Kd.own_of_R HO120.out); have hcv55 := own_string (P := Try.prog) Try.underlying27 Try.underlying5 Try.underlying9 (Kd.own_of_R HO110.out)))
        go_ret
        exact ⟨by first | rfl | (simp [errW_none, errW_some] <;> rfl) | (simp [*, errW_none, errW_some] <;> rfl), by repeat (first | (with_reducible first | exact HB.out | apply below_alloc | apply pw_below_drewN | apply below_drew1) | exact HB.out)⟩
    · rw [if_neg c5] at H
      have c5b0 : ((strOfNums t107).toList == ([2, 1, 2] : List UInt8)) = false := beq_eq_false_iff_ne.mpr c5
      have c5b1 : ((strOfNums t107).toList != ([2, 1, 2] : List UInt8)) = true := bne_iff_ne.mpr c5
      obtain rfl := Option.some.inj H
      go_enter Try.func12, Try.ntmps12
      go_wp2_with (first | ((with_reducible refine gate_dst (N := 6) rfl ?_); (try (refine gate_guard (by rfl) ?_; dsimp only)); refine Kd.R_lit (Kd.int .i64) _ 2 ?hg (N := 6) ?hd (xs := ([(-1), 1] : List Int)) (inner := [.int .i64 (-1), .int .i64 1]) (ok := fun _ => True) (okp := fun _ => True) ?hr ?hp (fun _ hk => hk) trivial (Below.refl _ _) (Nat.le_refl _) (by simp) ?_; (case hd => rfl); (case hg => rfl); (case hr => first | (go_simp; done) | (go_simp; rfl)); (case hp => exact (Reps.one (show Kd.M (Kd.int .i64) _ _ _ (-1) [.int .i64 (-1)] from rfl) (Reps.one (show Kd.M (Kd.int .i64) _ _ _ 1 [.int .i64 1] from rfl) (Reps.none _ _)))); intro v105 w56 ho57 hb hg_ hnew_; clear hg_ hnew_; (first | rw [← Ny104.out] at ho57 | (simp only [Int.reduceToNat] at ho57; rw [← Ny104.out] at ho57)); have n0_ := Aside0.mk (Kd.R_lower ho57 (below_size (by repeat (first | (with_reducible first | exact HB.out | apply below_alloc | apply pw_below_drewN | apply below_drew1) | exact HB.out)))); have n1_ := Aside0.mk (below_step (by repeat (first | (with_reducible first | exact HB.out | apply below_alloc | apply pw_below_drewN | apply below_drew1) | exact HB.out)) hb); clear HB; have HO106 := n0_; have HB := n1_; clear n0_ n1_; clear hb ho57; obtain ⟨Ao58, co58, eo58⟩ := Kd.R_slice HO106.out; subst eo58) | ((with_reducible refine gate_callee (f := 27) rfl ?_); refine goesL_ (some 7) rfl rfl Try.func27 (by kernel_rfl) rfl #[.slice Ao58 y104.length co58] rfl (by (try simp only [List.map_toArray, List.map_cons, List.map_nil]); first | done | rfl | (simp only [List.length_drop, List.length_take]; rfl) | exact congrArg (fun x_ : Int => #[Value.int .u64 x_]) (show _ = _ % (18446744073709551616 : Int) by omega)) ?_; (with_reducible refine (code_Nums.calls k _ _ y104 t107 t108 _ ?side1 ?side2 A1.out).mono ?_); (case side1 => repeat (first | exact (Kd.R_reads' HO106.out).2.2 | (with_reducible refine Kd.C_alloc ?_ _) | (with_reducible refine Kd.C_drewN ?_ _) | (with_reducible refine Kd.C_drew ?_))); (case side2 => exact (Kd.R_reads' HO106.out).2.1); rintro e w59 ⟨v109, rfl, ho0, hb⟩; refine ⟨_, rfl, ?_⟩; have n0_ := Aside0.mk (Kd.R_below (by (with_reducible repeat (first | apply Kd.R_alloc | apply Kd.R_drewN | apply Kd.R_drew)); exact HO106.out) hb); have n1_ := Aside0.mk (Kd.R_lower ho0 (below_size (by repeat (first | (with_reducible first | exact HB.out | apply below_alloc | apply pw_below_drewN | apply below_drew1) | exact HB.out)))); have n2_ := Aside0.mk (below_step (by repeat (first | (with_reducible first | exact HB.out | apply below_alloc | apply pw_below_drewN | apply below_drew1) | exact HB.out)) hb); clear HO106; clear HB; have HO106 := n0_; have HO110 := n1_; have HB := n2_; clear n0_ n1_ n2_; (try clear hb); (try clear hb2); (try clear hk); (try clear hi); (try clear ho0)) | ((with_reducible refine gate_dst (N := 11) rfl ?_); (try (refine gate_guard (by rfl) ?_; dsimp only)); refine Kd.R_lit (Kd.int .u8) _ 5 ?hg (N := 11) ?hd (xs := ([2, 1, 2] : List Int)) (inner := [.int .u8 2, .int .u8 1, .int .u8 2]) (ok := fun _ => True) (okp := fun _ => True) ?hr ?hp (fun _ hk => hk) trivial (Below.refl _ _) (Nat.le_refl _) (by simp) ?_; (case hd => rfl); (case hg => rfl); (case hr => first | (go_simp; done) | (go_simp; rfl)); (case hp => exact (Reps.one (show Kd.M (Kd.int .u8) _ _ _ 2 [.int .u8 2] from rfl) (Reps.one (show Kd.M (Kd.int .u8) _ _ _ 1 [.int .u8 1] from rfl) (Reps.one (show Kd.M (Kd.int .u8) _ _ _ 2 [.int .u8 2] from rfl) (Reps.none _ _))))); intro v112 w60 ho61 hb hg_ hnew_; clear hg_ hnew_; (first | rw [← Ny111.out] at ho61 | (simp only [Int.reduceToNat] at ho61; rw [← Ny111.out] at ho61)); have n0_ := Aside0.mk (Kd.R_below (by (with_reducible repeat (first | apply Kd.R_alloc | apply Kd.R_drewN | apply Kd.R_drew)); exact HO106.out) hb); have n1_ := Aside0.mk (Kd.R_elder' (by (with_reducible repeat (first | apply Kd.R_alloc | apply Kd.R_drewN | apply Kd.R_drew)); exact HO110.out) (Kd.R_base ho61) hb); have n2_ := Aside0.mk (Kd.R_lower (Kd.R_new' ho61 (Kd.R_lt (by (with_reducible repeat (first | apply Kd.R_alloc | apply Kd.R_drewN | apply Kd.R_drew)); exact HO110.out))) (below_size (by repeat (first | (with_reducible first | exact HB.out | apply below_alloc | apply pw_below_drewN | apply below_drew1) | exact HB.out)))); have n3_ := Aside0.mk (below_step (by repeat (first | (with_reducible first | exact HB.out | apply below_alloc | apply pw_below_drewN | apply below_drew1) | exact HB.out)) hb); clear HO106; clear HO110; clear HB; have HO106 := n0_; have HO110 := n1_; have HO113 := n2_; have HB := n3_; clear n0_ n1_ n2_ n3_; clear hb ho61; obtain ⟨Ao62, co62, eo62⟩ := Kd.R_slice HO113.out; subst eo62) | ((with_reducible refine gate_callee (f := 32) rfl ?_); refine goesL_ (some 12) rfl rfl Try.func32 (by kernel_rfl) rfl #[.slice Ao62 y111.length co62] rfl (by (try simp only [List.map_toArray, List.map_cons, List.map_nil]); first | done | rfl | (simp only [List.length_drop, List.length_take]; rfl) | exact congrArg (fun x_ : Int => #[Value.int .u64 x_]) (show _ = _ % (18446744073709551616 : Int) by omega)) ?_; (with_reducible refine (code_Unnums.calls k _ _ y111 t114 t115 _ ?side1 ?side2 A2.out).mono ?_); (case side1 => repeat (first | exact (Kd.R_reads' HO113.out).2.2 | (with_reducible refine Kd.C_alloc ?_ _) | (with_reducible refine Kd.C_drewN ?_ _) | (with_reducible refine Kd.C_drew ?_))); (case side2 => exact (Kd.R_reads' HO113.out).2.1); rintro e w63 ⟨v116, rfl, ho0, hb⟩; refine ⟨_, rfl, ?_⟩; have n0_ := Aside0.mk (Kd.R_elder' (by (with_reducible repeat (first | apply Kd.R_alloc | apply Kd.R_drewN | apply Kd.R_drew)); exact HO106.out) (Kd.R_base ho0) hb); have n1_ := Aside0.mk (Kd.R_below (by (with_reducible repeat (first | apply Kd.R_alloc | apply Kd.R_drewN | apply Kd.R_drew)); exact HO110.out) hb); have n2_ := Aside0.mk (Kd.R_below (by (with_reducible repeat (first | apply Kd.R_alloc | apply Kd.R_drewN | apply Kd.R_drew)); exact HO113.out) hb); have n3_ := Aside0.mk (Kd.R_lower (Kd.R_new' ho0 (Kd.R_lt (by (with_reducible repeat (first | apply Kd.R_alloc | apply Kd.R_drewN | apply Kd.R_drew)); exact HO106.out))) (below_size (by repeat (first | (with_reducible first | exact HB.out | apply below_alloc | apply pw_below_drewN | apply below_drew1) | exact HB.out)))); have n4_ := Aside0.mk (below_step (by repeat (first | (with_reducible first | exact HB.out | apply below_alloc | apply pw_below_drewN | apply below_drew1) | exact HB.out)) hb); clear HO106; clear HO110; clear HO113; clear HB; have HO106 := n0_; have HO110 := n1_; have HO113 := n2_; have HO117 := n3_; have HB := n4_; clear n0_ n1_ n2_ n3_ n4_; (try clear hb); (try clear hb2); (try clear hk); (try clear hi); (try clear ho0)) | ((with_reducible refine gate_callee (f := 15) rfl ?_); refine goesL_ (some 15) rfl rfl Try.func15 (by kernel_rfl) rfl #[.int .u64 300] rfl (by (try simp only [List.map_toArray, List.map_cons, List.map_nil]); first | done | rfl | (simp only [List.length_drop, List.length_take]; rfl) | exact congrArg (fun x_ : Int => #[Value.int .u64 x_]) (show _ = _ % (18446744073709551616 : Int) by omega)) ?_; (with_reducible refine (code_Num.calls k 300 t118 _ A3.out).mono ?_); rintro e w64 ⟨v119, rfl, ho0, hb⟩; refine ⟨_, rfl, ?_⟩; have n0_ := Aside0.mk (Kd.R_below (by (with_reducible repeat (first | apply Kd.R_alloc | apply Kd.R_drewN | apply Kd.R_drew)); exact HO106.out) hb); have n1_ := Aside0.mk (Kd.R_elder' (by (with_reducible repeat (first | apply Kd.R_alloc | apply Kd.R_drewN | apply Kd.R_drew)); exact HO110.out) (Kd.R_base ho0) hb); have n2_ := Aside0.mk (Kd.R_elder' (by (with_reducible repeat (first | apply Kd.R_alloc | apply Kd.R_drewN | apply Kd.R_drew)); exact HO113.out) (Kd.R_base ho0) hb); have n3_ := Aside0.mk (Kd.R_below (by (with_reducible repeat (first | apply Kd.R_alloc | apply Kd.R_drewN | apply Kd.R_drew)); exact HO117.out) hb); have n4_ := Aside0.mk (Kd.R_lower (Kd.R_new' (Kd.R_new' ho0 (Kd.R_lt (by (with_reducible repeat (first | apply Kd.R_alloc | apply Kd.R_drewN | apply Kd.R_drew)); exact HO110.out))) (Kd.R_lt (by (with_reducible repeat (first | apply Kd.R_alloc | apply Kd.R_drewN | apply Kd.R_drew)); exact HO113.out))) (below_size (by repeat (first | (with_reducible first | exact HB.out | apply below_alloc | apply pw_below_drewN | apply below_drew1) | exact HB.out)))); have n5_ := Aside0.mk (below_step (by repeat (first | (with_reducible first | exact HB.out | apply below_alloc | apply pw_below_drewN | apply below_drew1) | exact HB.out)) hb); clear HO106; clear HO110; clear HO113; clear HO117; clear HB; have HO106 := n0_; have HO110 := n1_; have HO113 := n2_; have HO117 := n3_; have HO120 := n4_; have HB := n5_; clear n0_ n1_ n2_ n3_ n4_ n5_; (try clear hb); (try clear hb2); (try clear hk); (try clear hi); (try clear ho0); have hcv65 := own_string (P := Try.prog) Try.underlying27 Try.underlying5 Try.underlying9 (Kd.own_of_R HO120.out); have hcv66 := own_string (P := Try.prog) Try.underlying27 Try.underlying5 Try.underlying9 (Kd.own_of_R HO110.out)))
      go_ret
      exact ⟨by first | rfl | (simp [errW_none, errW_some] <;> rfl) | (simp [*, errW_none, errW_some] <;> rfl), by repeat (first | (with_reducible first | exact HB.out | apply below_alloc | apply pw_below_drewN | apply below_drew1) | exact HB.out)⟩
  · rw [if_neg c4] at H
    have c4b0 : ((strOfNums t118).toList == ([172, 2] : List UInt8)) = false := beq_eq_false_iff_ne.mpr c4
    have c4b1 : ((strOfNums t118).toList != ([172, 2] : List UInt8)) = true := bne_iff_ne.mpr c4
    obtain rfl := Option.some.inj H
    go_enter Try.func12, Try.ntmps12
    go_wp2_with (first | ((with_reducible refine gate_dst (N := 6) rfl ?_); (try (refine gate_guard (by rfl) ?_; dsimp only)); refine Kd.R_lit (Kd.int .i64) _ 2 ?hg (N := 6) ?hd (xs := ([(-1), 1] : List Int)) (inner := [.int .i64 (-1), .int .i64 1]) (ok := fun _ => True) (okp := fun _ => True) ?hr ?hp (fun _ hk => hk) trivial (Below.refl _ _) (Nat.le_refl _) (by simp) ?_; (case hd => rfl); (case hg => rfl); (case hr => first | (go_simp; done) | (go_simp; rfl)); (case hp => exact (Reps.one (show Kd.M (Kd.int .i64) _ _ _ (-1) [.int .i64 (-1)] from rfl) (Reps.one (show Kd.M (Kd.int .i64) _ _ _ 1 [.int .i64 1] from rfl) (Reps.none _ _)))); intro v105 w67 ho68 hb hg_ hnew_; clear hg_ hnew_; (first | rw [← Ny104.out] at ho68 | (simp only [Int.reduceToNat] at ho68; rw [← Ny104.out] at ho68)); have n0_ := Aside0.mk (Kd.R_lower ho68 (below_size (by repeat (first | (with_reducible first | exact HB.out | apply below_alloc | apply pw_below_drewN | apply below_drew1) | exact HB.out)))); have n1_ := Aside0.mk (below_step (by repeat (first | (with_reducible first | exact HB.out | apply below_alloc | apply pw_below_drewN | apply below_drew1) | exact HB.out)) hb); clear HB; have HO106 := n0_; have HB := n1_; clear n0_ n1_; clear hb ho68; obtain ⟨Ao69, co69, eo69⟩ := Kd.R_slice HO106.out; subst eo69) | ((with_reducible refine gate_callee (f := 27) rfl ?_); refine goesL_ (some 7) rfl rfl Try.func27 (by kernel_rfl) rfl #[.slice Ao69 y104.length co69] rfl (by (try simp only [List.map_toArray, List.map_cons, List.map_nil]); first | done | rfl | (simp only [List.length_drop, List.length_take]; rfl) | exact congrArg (fun x_ : Int => #[Value.int .u64 x_]) (show _ = _ % (18446744073709551616 : Int) by omega)) ?_; (with_reducible refine (code_Nums.calls k _ _ y104 t107 t108 _ ?side1 ?side2 A1.out).mono ?_); (case side1 => repeat (first | exact (Kd.R_reads' HO106.out).2.2 | (with_reducible refine Kd.C_alloc ?_ _) | (with_reducible refine Kd.C_drewN ?_ _) | (with_reducible refine Kd.C_drew ?_))); (case side2 => exact (Kd.R_reads' HO106.out).2.1); rintro e w70 ⟨v109, rfl, ho0, hb⟩; refine ⟨_, rfl, ?_⟩; have n0_ := Aside0.mk (Kd.R_below (by (with_reducible repeat (first | apply Kd.R_alloc | apply Kd.R_drewN | apply Kd.R_drew)); exact HO106.out) hb); have n1_ := Aside0.mk (Kd.R_lower ho0 (below_size (by repeat (first | (with_reducible first | exact HB.out | apply below_alloc | apply pw_below_drewN | apply below_drew1) | exact HB.out)))); have n2_ := Aside0.mk (below_step (by repeat (first | (with_reducible first | exact HB.out | apply below_alloc | apply pw_below_drewN | apply below_drew1) | exact HB.out)) hb); clear HO106; clear HB; have HO106 := n0_; have HO110 := n1_; have HB := n2_; clear n0_ n1_ n2_; (try clear hb); (try clear hb2); (try clear hk); (try clear hi); (try clear ho0)) | ((with_reducible refine gate_dst (N := 11) rfl ?_); (try (refine gate_guard (by rfl) ?_; dsimp only)); refine Kd.R_lit (Kd.int .u8) _ 5 ?hg (N := 11) ?hd (xs := ([2, 1, 2] : List Int)) (inner := [.int .u8 2, .int .u8 1, .int .u8 2]) (ok := fun _ => True) (okp := fun _ => True) ?hr ?hp (fun _ hk => hk) trivial (Below.refl _ _) (Nat.le_refl _) (by simp) ?_; (case hd => rfl); (case hg => rfl); (case hr => first | (go_simp; done) | (go_simp; rfl)); (case hp => exact (Reps.one (show Kd.M (Kd.int .u8) _ _ _ 2 [.int .u8 2] from rfl) (Reps.one (show Kd.M (Kd.int .u8) _ _ _ 1 [.int .u8 1] from rfl) (Reps.one (show Kd.M (Kd.int .u8) _ _ _ 2 [.int .u8 2] from rfl) (Reps.none _ _))))); intro v112 w71 ho72 hb hg_ hnew_; clear hg_ hnew_; (first | rw [← Ny111.out] at ho72 | (simp only [Int.reduceToNat] at ho72; rw [← Ny111.out] at ho72)); have n0_ := Aside0.mk (Kd.R_below (by (with_reducible repeat (first | apply Kd.R_alloc | apply Kd.R_drewN | apply Kd.R_drew)); exact HO106.out) hb); have n1_ := Aside0.mk (Kd.R_elder' (by (with_reducible repeat (first | apply Kd.R_alloc | apply Kd.R_drewN | apply Kd.R_drew)); exact HO110.out) (Kd.R_base ho72) hb); have n2_ := Aside0.mk (Kd.R_lower (Kd.R_new' ho72 (Kd.R_lt (by (with_reducible repeat (first | apply Kd.R_alloc | apply Kd.R_drewN | apply Kd.R_drew)); exact HO110.out))) (below_size (by repeat (first | (with_reducible first | exact HB.out | apply below_alloc | apply pw_below_drewN | apply below_drew1) | exact HB.out)))); have n3_ := Aside0.mk (below_step (by repeat (first | (with_reducible first | exact HB.out | apply below_alloc | apply pw_below_drewN | apply below_drew1) | exact HB.out)) hb); clear HO106; clear HO110; clear HB; have HO106 := n0_; have HO110 := n1_; have HO113 := n2_; have HB := n3_; clear n0_ n1_ n2_ n3_; clear hb ho72; obtain ⟨Ao73, co73, eo73⟩ := Kd.R_slice HO113.out; subst eo73) | ((with_reducible refine gate_callee (f := 32) rfl ?_); refine goesL_ (some 12) rfl rfl Try.func32 (by kernel_rfl) rfl #[.slice Ao73 y111.length co73] rfl (by (try simp only [List.map_toArray, List.map_cons, List.map_nil]); first | done | rfl | (simp only [List.length_drop, List.length_take]; rfl) | exact congrArg (fun x_ : Int => #[Value.int .u64 x_]) (show _ = _ % (18446744073709551616 : Int) by omega)) ?_; (with_reducible refine (code_Unnums.calls k _ _ y111 t114 t115 _ ?side1 ?side2 A2.out).mono ?_); (case side1 => repeat (first | exact (Kd.R_reads' HO113.out).2.2 | (with_reducible refine Kd.C_alloc ?_ _) | (with_reducible refine Kd.C_drewN ?_ _) | (with_reducible refine Kd.C_drew ?_))); (case side2 => exact (Kd.R_reads' HO113.out).2.1); rintro e w74 ⟨v116, rfl, ho0, hb⟩; refine ⟨_, rfl, ?_⟩; have n0_ := Aside0.mk (Kd.R_elder' (by (with_reducible repeat (first | apply Kd.R_alloc | apply Kd.R_drewN | apply Kd.R_drew)); exact HO106.out) (Kd.R_base ho0) hb); have n1_ := Aside0.mk (Kd.R_below (by (with_reducible repeat (first | apply Kd.R_alloc | apply Kd.R_drewN | apply Kd.R_drew)); exact HO110.out) hb); have n2_ := Aside0.mk (Kd.R_below (by (with_reducible repeat (first | apply Kd.R_alloc | apply Kd.R_drewN | apply Kd.R_drew)); exact HO113.out) hb); have n3_ := Aside0.mk (Kd.R_lower (Kd.R_new' ho0 (Kd.R_lt (by (with_reducible repeat (first | apply Kd.R_alloc | apply Kd.R_drewN | apply Kd.R_drew)); exact HO106.out))) (below_size (by repeat (first | (with_reducible first | exact HB.out | apply below_alloc | apply pw_below_drewN | apply below_drew1) | exact HB.out)))); have n4_ := Aside0.mk (below_step (by repeat (first | (with_reducible first | exact HB.out | apply below_alloc | apply pw_below_drewN | apply below_drew1) | exact HB.out)) hb); clear HO106; clear HO110; clear HO113; clear HB; have HO106 := n0_; have HO110 := n1_; have HO113 := n2_; have HO117 := n3_; have HB := n4_; clear n0_ n1_ n2_ n3_ n4_; (try clear hb); (try clear hb2); (try clear hk); (try clear hi); (try clear ho0)) | ((with_reducible refine gate_callee (f := 15) rfl ?_); refine goesL_ (some 15) rfl rfl Try.func15 (by kernel_rfl) rfl #[.int .u64 300] rfl (by (try simp only [List.map_toArray, List.map_cons, List.map_nil]); first | done | rfl | (simp only [List.length_drop, List.length_take]; rfl) | exact congrArg (fun x_ : Int => #[Value.int .u64 x_]) (show _ = _ % (18446744073709551616 : Int) by omega)) ?_; (with_reducible refine (code_Num.calls k 300 t118 _ A3.out).mono ?_); rintro e w75 ⟨v119, rfl, ho0, hb⟩; refine ⟨_, rfl, ?_⟩; have n0_ := Aside0.mk (Kd.R_below (by (with_reducible repeat (first | apply Kd.R_alloc | apply Kd.R_drewN | apply Kd.R_drew)); exact HO106.out) hb); have n1_ := Aside0.mk (Kd.R_elder' (by (with_reducible repeat (first | apply Kd.R_alloc | apply Kd.R_drewN | apply Kd.R_drew)); exact HO110.out) (Kd.R_base ho0) hb); have n2_ := Aside0.mk (Kd.R_elder' (by (with_reducible repeat (first | apply Kd.R_alloc | apply Kd.R_drewN | apply Kd.R_drew)); exact HO113.out) (Kd.R_base ho0) hb); have n3_ := Aside0.mk (Kd.R_below (by (with_reducible repeat (first | apply Kd.R_alloc | apply Kd.R_drewN | apply Kd.R_drew)); exact HO117.out) hb); have n4_ := Aside0.mk (Kd.R_lower (Kd.R_new' (Kd.R_new' ho0 (Kd.R_lt (by (with_reducible repeat (first | apply Kd.R_alloc | apply Kd.R_drewN | apply Kd.R_drew)); exact HO110.out))) (Kd.R_lt (by (with_reducible repeat (first | apply Kd.R_alloc | apply Kd.R_drewN | apply Kd.R_drew)); exact HO113.out))) (below_size (by repeat (first | (with_reducible first | exact HB.out | apply below_alloc | apply pw_below_drewN | apply below_drew1) | exact HB.out)))); have n5_ := Aside0.mk (below_step (by repeat (first | (with_reducible first | exact HB.out | apply below_alloc | apply pw_below_drewN | apply below_drew1) | exact HB.out)) hb); clear HO106; clear HO110; clear HO113; clear HO117; clear HB; have HO106 := n0_; have HO110 := n1_; have HO113 := n2_; have HO117 := n3_; have HO120 := n4_; have HB := n5_; clear n0_ n1_ n2_ n3_ n4_ n5_; (try clear hb); (try clear hb2); (try clear hk); (try clear hi); (try clear ho0); have hcv76 := own_string (P := Try.prog) Try.underlying27 Try.underlying5 Try.underlying9 (Kd.own_of_R HO120.out)))
    go_ret
    exact ⟨by first | rfl | (simp [errW_none, errW_some] <;> rfl) | (simp [*, errW_none, errW_some] <;> rfl), by repeat (first | (with_reducible first | exact HB.out | apply below_alloc | apply pw_below_drewN | apply below_drew1) | exact HB.out)⟩

end Go.Proofs.Ytgihecpobichbaa.Q
/- A row of bytes that a conversion of a string lays, and what is appended to it: the row's mark stands where nothing is written. -/
namespace Go.Proofs.Ytgihecpobichbaa.Q
open Go.RowKit Go.Proofs.YtgihecpobichbaaW.PrintWords Go.Proofs.YtgihecpobichbaaW.PrintLast Go.Proofs.YtgihecpobichbaaW.PrintMore
set_option linter.unusedVariables false
set_option linter.unusedSimpArgs false

/-- v owns the bytes xs, in a block from base on. -/
def OwnB (w : World) (base : Nat) (e : TypeId) (v : Value) (xs : List Int) : Prop :=
  ∃ g cap cur fz, v = .slice (some ⟨g, 0, none⟩) xs.length cap ∧ base ≤ g ∧ w.heap[g]? = some (.cells cur e fz) ∧ (fz.2 ≤ xs.length ∨ cap ≤ fz.1) ∧ xs.length ≤ cap ∧ cap ≤ maxLen ∧ cur.size = cap ∧ cur.toList.take xs.length = nums .u8 xs
theorem nums_bytesOf (s : ByteArray) : nums .u8 (bytesOf s) = Lib.strCells s := by
  simp [nums, bytesOf, Lib.strCells]
theorem ownB_bytes (W : World) (base : Nat) (e : TypeId) (s : ByteArray) (hb : base ≤ W.heap.size) (hs : s.size ≤ maxLen) :
    OwnB (Lib.bytesWorld W e s) base e (.slice (some ⟨W.heap.size, 0, none⟩) s.size (grownCap W s.size 0 e)) (bytesOf s) := by
  have hl := bytesOf_length s
  have hge := grownCap_ge W s.size 0 e
  have hle := grownCap_le_maxLen W s.size 0 e hs
  have hsz : (Lib.bytesCells W e s).size = grownCap W s.size 0 e := by
    unfold Lib.bytesCells
    have : s.data.size = s.size := rfl
    simp
    omega
  refine ⟨W.heap.size, grownCap W s.size 0 e, Lib.bytesCells W e s, _, by rw [hl], hb, Lib.bytesWorld_at_new W e s, .inr ?_, by omega, hle, hsz, ?_⟩
  · rw [hsz]
    exact Nat.le_refl _
  · rw [nums_bytesOf, hl]
    unfold Lib.bytesCells
    have h : (s.data.map fun b => Value.int .u8 b.toNat).toList = Lib.strCells s := by simp [Lib.strCells]
    rw [Array.toList_append, h]
    have hl2 : s.size = (Lib.strCells s).length := (Lib.strCells_length s).symm
    conv => lhs; arg 1; rw [hl2]
    exact List.take_left
theorem OwnB.slice {w : World} {base : Nat} {e : TypeId} {v : Value} {xs : List Int} (h : OwnB w base e v xs) : ∃ A c, v = .slice A xs.length c := by
  obtain ⟨g, cap, cur, fz, h, _⟩ := h
  exact ⟨_, _, h⟩
theorem OwnB.lt {w : World} {base : Nat} {e : TypeId} {v : Value} {xs : List Int} (h : OwnB w base e v xs) : ∀ k, v.ownBlock = some k → base ≤ k ∧ k < w.heap.size := by
  intro k hk
  obtain ⟨g, cap, cur, fz, rfl, hb, hg, _⟩ := h
  simp [Value.ownBlock] at hk
  subst hk
  exact ⟨hb, (Array.getElem?_eq_some_iff.1 hg).1⟩
theorem OwnB.kept {w w' : World} {base : Nat} {e : TypeId} {v : Value} {xs : List Int} (h : OwnB w base e v xs) (hb : Below w.heap.size w w') : OwnB w' base e v xs := by
  obtain ⟨g, cap, cur, fz, rfl, h1, hg, rest⟩ := h
  refine ⟨g, cap, cur, fz, rfl, h1, ?_, rest⟩
  rw [hb.block g (Array.getElem?_eq_some_iff.1 hg).1]
  exact hg
theorem OwnB.cells {w : World} {base : Nat} {e : TypeId} {v : Value} {xs : List Int} (h : OwnB w base e v xs) {g : Nat} (hg : v.ownBlock = some g) : ∀ j u, (nums .u8 xs)[j]? = some u → w.cell? ((⟨g, 0, none⟩ : Addr).add j) = some u := by
  intro j u hu
  obtain ⟨g', cap, cur, fz, rfl, _, hgg, _, _, _, _, htake⟩ := h
  simp [Value.ownBlock] at hg
  subst hg
  have hadd : (⟨g', 0, none⟩ : Addr).add j = ⟨g', j, none⟩ := by unfold Addr.add; split <;> simp_all
  rw [hadd, cell_of_row w g' j cur e fz hgg]
  rw [← htake, List.getElem?_take] at hu
  split at hu
  · simpa using hu
  · cases hu
theorem OwnB.string {P : Program} {w : World} {base : Nat} {e' src dst e : TypeId} {v : Value} {xs : List Int} (hs : P.underlying src = some (.slice e)) (he : P.underlying e = some (.int .u8)) (hd : P.underlying dst = some .string)
    (h : OwnB w base e' v xs) : (convert src dst v).run P w = .ok (.string (strOfNums xs)) w := by
  have hc := fun g => h.cells (g := g)
  obtain ⟨g, cap, cur, fz, rfl, _⟩ := h
  refine run_convert_bytes_arg w src e hs he g 0 xs.length cap xs rfl (fun i hi => ?_) dst hd
  have hc := hc g rfl i (.int .u8 (xs.getD i 0)) (by simp [nums, List.getElem?_eq_getElem (show i < xs.length by omega), List.getD_eq_getElem?_getD])
  have ha : (⟨g, 0, none⟩ : Addr).add i = ⟨g, 0 + i, none⟩ := by unfold Addr.add; split <;> simp_all
  rwa [ha] at hc
/-- Cells are written where no mark stands. -/
theorem store_between (P : Program) (g o : Nat) (t : TypeId) (fz : Nat × Nat) : ∀ (vs : List Value) (i : Nat) (cur : Array Value) (w : World), w.heap[g]? = some (.cells cur t fz) → (fz.2 ≤ o + i ∨ cur.size ≤ fz.1) → o + i + vs.length ≤ cur.size → (∀ v ∈ vs, v.oneCell' = true) →
    (storeCells ⟨g, o, none⟩ vs i).run P w = .ok () (w.setRow g (cur.toList.take (o + i) ++ vs ++ cur.toList.drop (o + i + vs.length)).toArray)
  | [], i, cur, w, hg, _, _, _ => by
    simp only [storeCells, List.append_nil, List.length_nil, Nat.add_zero, List.take_append_drop, Array.toArray_toList]
    rw [setRow_self w g cur t fz hg]
    rfl
  | v :: rest, i, cur, w, hg, hfz, hl, h1 => by
    have hi : o + i < cur.size := by simp at hl; omega
    have hadd : (⟨g, o, none⟩ : Addr).add i = ⟨g, o + i, none⟩ := by unfold Addr.add; split <;> simp_all
    have hcell : w.cell? ⟨g, o + i, none⟩ = some cur[o + i] := by simp [World.cell?, hg, hi]
    have hfro : w.frozen? ⟨g, o + i, none⟩ = false := by
      obtain ⟨lo, hi'⟩ := fz
      simp only [World.frozen?, hg, Bool.and_eq_false_iff, decide_eq_false_iff_not]
      simp only at hfz
      omega
    have hst : (store ((⟨g, o, none⟩ : Addr).add i) v).run P w = .ok () (w.setRow g (cur.setIfInBounds (o + i) v)) := by
      rw [hadd, run_store P w _ v _ (h1 v (by simp)), hcell]
      simp [hfro, setCell_eq_setRow w g (o + i) cur t fz v hg]
    have ih := store_between P g o t fz rest (i + 1) (cur.setIfInBounds (o + i) v) (w.setRow g (cur.setIfInBounds (o + i) v)) (setRow_heap w g cur _ t _ hg) (by rw [Array.size_setIfInBounds]; omega) (by simp at hl ⊢; omega) (fun x hx => h1 x (by simp [hx]))
    simp only [storeCells, Sem.run_bind, hst, Result.andThen_ok, ih, setRow_setRow]
    congr 3
    have e := list_seg_step cur.toList (o + i) v rest (by simp at hl ⊢; omega)
    simpa [Array.toList_setIfInBounds, Nat.add_assoc] using e
section
variable {P : Program} {ops : Array Oper} {rest : List Oper} {o : Oper} {a : Act} {Q : Exit → Act → World → Prop}
theorem run_append_ownB (w : World) (base : Nat) (t u ty e : TypeId) (i : TypeInfo) (ht : P.underlying t = some (.slice e)) (hu : P.underlying u = some .string) (hi : P.info? e = some i) (hz : i.zero = some (.int .u8 0))
    (hsize : i.size = 1) (hby : i.bytes = 1) (v : Value) (xs : List Int) (hown : OwnB w base e v xs) (s : ByteArray) (hbytes : xs.length + s.size ≤ 140737488355328) (hbase : base ≤ w.heap.size) :
    ∃ v' w', (Builtin.append_ #[t, u] ty #[v, .string s]).run P w = .ok v' w' ∧ OwnB w' base e v' (xs ++ bytesOf s) ∧ w.grownBy w' v.ownBlock := by
  have hc := fun g => hown.cells (g := g)
  obtain ⟨g, cap, cur, fz, rfl, hbg, hg, hfz, hnc, hcm, hcs, htake⟩ := hown
  have hlen : (nums .u8 xs ++ Lib.strCells s).length = xs.length + s.size := by rw [List.length_append, nums_length, Lib.strCells_length]
  have hl2 : (xs ++ bytesOf s).length = xs.length + s.size := by rw [List.length_append, bytesOf_length]
  have hn2 : nums .u8 (xs ++ bytesOf s) = nums .u8 xs ++ Lib.strCells s := by rw [← nums_bytesOf]; simp [nums]
  by_cases hroom : xs.length + s.size ≤ cap
  · have hf := Lib.run_firstCells_string (P := P) w 1 s
    have hst := store_between P g xs.length e fz (Lib.strCells s) 0 cur w hg (by rw [hcs]; simpa using hfz) (by rw [Lib.strCells_length]; omega) (Lib.strCells_oneCell s)
    simp only [Nat.add_zero, Lib.strCells_length] at hst
    refine ⟨_, _, (by simp [Builtin.append_, run_underlying ht, run_underlying hu, sizeOf, typeInfo, hi, hsize, Builtin.lenOf, hroom, hf, Addr.add_lit, hst] : (Builtin.append_ #[t, u] ty #[.slice (some ⟨g, 0, none⟩) xs.length cap, .string s]).run P w = .ok (.slice (some ⟨g, 0, none⟩) (xs.length + s.size) cap) (w.setRow g (cur.toList.take xs.length ++ Lib.strCells s ++ cur.toList.drop (xs.length + s.size)).toArray)), ⟨g, cap, _, fz, by rw [hl2], hbg, setRow_heap w g cur _ e _ hg, ?_, by omega, hcm, ?_, ?_⟩, ⟨rfl, rfl, rfl, by simp, fun k _ hk => setRow_other w g k _ (fun e => hk (by simp [Value.ownBlock, e]))⟩⟩
    · rcases hfz with h | h
      · exact .inl (by omega)
      · exact .inr h
    · simp only [List.size_toArray, List.length_append, List.length_take, List.length_drop, Array.length_toList, Lib.strCells_length]
      omega
    · rw [htake, hl2, hn2, ← hlen]
      exact List.take_left
  · have hm : xs.length + s.size ≤ maxLen := by simp only [maxLen]; omega
    have hr := Lib.run_append_grow_string (P := P) w t u ty e i (.int .u8 0) ht hu hi hz ⟨g, 0, none⟩ xs.length cap (nums .u8 xs) (by rw [hsize, nums_length]; omega) (hc g rfl) s (by omega) (by simp only [maxLen] at hm; omega) (by rw [hby]; exact growslice_fits (by omega) (by omega))
    have hge := grownCap_ge w (xs.length + s.size) cap e
    have hcm2 : grownCap w (xs.length + s.size) cap e ≤ maxLen := grownCap_le_maxLen w (xs.length + s.size) cap e hm
    refine ⟨_, _, hr, ⟨w.heap.size, _, _, (0, 0), by rw [hl2], hbase, heap_alloc_new w.drew _, .inl (Nat.zero_le _), by omega, hcm2, ?_, ?_⟩, ⟨rfl, rfl, rfl, by simp, fun k hk _ => heap_alloc_old w.drew _ hk⟩⟩
    · have hz1 : (Value.int IntKind.u8 0).cells.size = 1 := rfl
      simp only [Array.size_append, List.size_toArray, size_zeroCells, hz1, nums_length, Lib.strCells_length]
      omega
    · simp only [Array.toList_append, List.append_assoc]
      rw [← List.append_assoc, hl2, hn2, ← hlen]
      exact List.take_left
/-- The operation, for the walk: behind 'at_builtin'. -/
theorem wp_append_ownB (w0 w : World) (base : Nat) (hgd : o.guard = none) (sl x : Operand) (t u e : TypeId)
    (ho : o.op = .call { callee := .builtin .append, args := #[sl, x], argTypes := #[t, u] })
    (ht : P.underlying t = some (.slice e)) (hu : P.underlying u = some .string) (hinfo : (P.info? e).map (fun i => (i.zero, i.size, i.bytes)) = some (some (.int .u8 0), 1, 1))
    (v : Value) (xs : List Int) (hs : a.eval sl = v) (hown : OwnB w base e v xs) (s : ByteArray) (hx : a.eval x = .string s) (hbytes : xs.length + s.size ≤ 140737488355328) (hB : Below base w0 w) (hbase : base ≤ w.heap.size)
    (h : ∀ v' w', OwnB w' base e v' (xs ++ bytesOf s) → Below base w0 w' → base ≤ w'.heap.size → wpList P ops Q rest (a.put o.dst v') w') : wpList P ops Q (o :: rest) a w := by
  obtain ⟨i0, hi, hzz⟩ := Option.map_eq_some_iff.1 hinfo
  simp only [Prod.mk.injEq] at hzz
  obtain ⟨hz0, hz1, hz2⟩ := hzz
  refine wpList_plain hgd fun K hK => ?_
  obtain ⟨v', w', hr, h2, h3⟩ := run_append_ownB (P := P) w base t u o.type e i0 ht hu hi hz0 hz1 hz2 v xs hown s hbytes hbase
  unfold Oper.wp execOp
  simp only [ho, resolve, invoke, builtin, Sem.run_bind, Sem.run_pure, Result.andThen_ok, List.map_toArray, List.map_cons, List.map_nil, hs, hx, hr]
  exact hK _ _ (h v' w' h2 (hB.grown h3 hbase (fun k hk => (hown.lt k hk).1)) (by have := h3.size; omega))
end
theorem strNums_bytesOf (s : ByteArray) : strOfNums (bytesOf s) = s := by
  apply ByteArray.ext
  apply Array.ext'
  unfold strOfNums bytesOf
  simp [List.map_map]
  conv => rhs; rw [← List.map_id s.data.toList]
  apply List.map_congr_left
  intro b _
  have := b.toNat_lt
  apply UInt8.toNat_inj.1
  simp
end Go.Proofs.Ytgihecpobichbaa.Q
/- A number's bytes: the package's and the document's are the same. -/
namespace Go.Proofs.Ytgihecpobichbaa.Q
open Go.RowKit Go.Proofs.YtgihecpobichbaaW.PrintWords Go.Proofs.YtgihecpobichbaaW.PrintLast Go.Proofs.YtgihecpobichbaaW.PrintMore
set_option linter.unusedVariables false
set_option linter.unusedSimpArgs false

theorem or_fin : ∀ x : Fin 256, bits .or .u8 ((x.val : Nat) : Int) 128 = ((x.val % 128 + 128 : Nat) : Int) := by decide +kernel
theorem or_128 (x : Int) (h0 : 0 ≤ x) (h1 : x < 256) : bits .or .u8 x 128 = x % 128 + 128 := by
  obtain ⟨n, rfl⟩ := Int.eq_ofNat_of_zero_le h0
  have := or_fin ⟨n, by omega⟩
  simp only at this
  rw [this]
  omega
/-- A number's bytes, seven bits each. -/
def numR : Nat → Int → List Int
  | 0, n => [n % 256]
  | f + 1, n => if n ≥ 128 then (n % 128 + 128) :: numR f (n / 128) else [n % 256]
theorem num_loop : ∀ (f g : Nat) (n : Int) (xs : List Int), 0 ≤ n → n < 128 ^ (f + 1) → xs.length + f ≤ 1000 → code_Num.l0 (f + 1 + g) n xs = some (xs ++ numR f n)
  | 0, g, n, xs, h0, h1, hx => by
    rw [show 0 + 1 + g = g + 1 by omega]
    simp only [code_Num.l0]
    rw [if_neg (by omega), if_pos (by omega)]
    rfl
  | f + 1, g, n, xs, h0, h1, hx => by
    rw [show f + 1 + 1 + g = (f + 1 + g) + 1 by omega]
    simp only [code_Num.l0]
    unfold numR
    by_cases hn : n ≥ 128
    · rw [if_pos hn, if_pos hn, if_pos (by omega)]
      have hp : n / 128 < 128 ^ (f + 1) := by
        have e : (128 : Int) ^ (f + 1 + 1) = 128 ^ (f + 1) * 128 := Int.pow_succ 128 (f + 1)
        rw [e] at h1
        exact Int.ediv_lt_of_lt_mul (by omega) h1
      rw [num_loop f g (n / 128) _ (by omega) hp (by rw [List.length_append]; simp; omega), or_128 _ (by omega) (by omega)]
      have e2 : n % 256 % 128 + 128 = n % 128 + 128 := by omega
      rw [e2]
      simp
    · rw [if_neg hn, if_neg hn, if_pos (by omega)]
theorem code_Num_eq (n : Int) (h0 : 0 ≤ n) (h1 : n < 18446744073709551616) (g : Nat) : code_Num.f (10 + g) n = some (numR 9 n) := by
  unfold code_Num.f
  have := num_loop 9 g n [] h0 (by have : (128 : Int) ^ 10 = 1180591620717411303424 := by decide
                                   omega) (by simp)
  simpa using this
theorem str_cons (a : Int) (l : List Int) : strOfNums [a] ++ strOfNums l = strOfNums (a :: l) := by
  apply ByteArray.ext
  simp [strOfNums]
theorem numR_len : ∀ (f : Nat) (n : Int), (numR f n).length ≤ f + 1
  | 0, n => by simp [numR]
  | f + 1, n => by
    unfold numR
    split
    · have := numR_len f (n / 128)
      simp only [List.length_cons]
      omega
    · simp
theorem str_size (l : List Int) : (strOfNums l).size = l.length := by
  simp [strOfNums, ByteArray.size]
theorem ref_Num_eq : ∀ (f g : Nat) (n : Int), 0 ≤ n → n < 18446744073709551616 → n < 128 ^ (f + 1) → f ≤ 1000 → headgateref04_Num.f (f + 1 + g) n = some (strOfNums (numR f n))
  | 0, g, n, h0, h6, h1, hf => by
    rw [show 0 + 1 + g = g + 1 by omega]
    unfold headgateref04_Num.f
    rw [if_pos (by omega)]
    rfl
  | f + 1, g, n, h0, h6, h1, hf => by
    rw [show f + 1 + 1 + g = (f + 1 + g) + 1 by omega]
    unfold headgateref04_Num.f numR
    by_cases hn : n < 128
    · rw [if_pos hn, if_neg (by omega)]
    · rw [if_neg hn, if_pos (by omega)]
      have hp : n / 128 < 128 ^ (f + 1) := by
        have e : (128 : Int) ^ (f + 1 + 1) = 128 ^ (f + 1) * 128 := Int.pow_succ 128 (f + 1)
        rw [e] at h1
        exact Int.ediv_lt_of_lt_mul (by omega) h1
      have e1 : Int.tmod n 128 = n % 128 := Int.tmod_eq_emod_of_nonneg h0
      have e2 : Int.tdiv n 128 = n / 128 := Int.tdiv_eq_ediv_of_nonneg h0
      have e3 : IntKind.u64.wrap (n / 128) = n / 128 := by
        show n / 128 % 18446744073709551616 = n / 128
        omega
      have e4 : IntKind.u64.wrap (n % 128 + 128) % 256 = n % 128 + 128 := by
        show (n % 128 + 128) % 18446744073709551616 % 256 = n % 128 + 128
        omega
      simp only [Option.bind_some]
      rw [e1, e2, e3, e4, ref_Num_eq f g (n / 128) (by omega) (by omega) hp (by omega)]
      simp only [Option.bind_some]
      have hl := numR_len f (n / 128)
      rw [if_pos (by rw [str_size, str_size]; simp; omega), str_cons]
end Go.Proofs.Ytgihecpobichbaa.Q
/- The number at the beginning of some bytes: the package's and the document's are the same. -/
namespace Go.Proofs.Ytgihecpobichbaa.Q
open Go.RowKit Go.Proofs.YtgihecpobichbaaW.PrintWords Go.Proofs.YtgihecpobichbaaW.PrintLast Go.Proofs.YtgihecpobichbaaW.PrintMore
set_option linter.unusedVariables false
set_option linter.unusedSimpArgs false

theorem wrap_u (x : Int) (h0 : 0 ≤ x) (h1 : x < 18446744073709551616) : IntKind.u64.wrap x = x := by
  show x % 18446744073709551616 = x
  omega
end Go.Proofs.Ytgihecpobichbaa.Q
/- Numbers as bytes and back, in plain words: no program in it. -/
namespace Go.Proofs.Ytgihecpobichbaa.Q
open Go.RowKit Go.Proofs.YtgihecpobichbaaW.PrintWords Go.Proofs.YtgihecpobichbaaW.PrintLast Go.Proofs.YtgihecpobichbaaW.PrintMore
set_option linter.unusedVariables false
set_option linter.unusedSimpArgs false

/-- An int as a number. -/
def zig (n : Int) : Int := if n < 0 then -2 * n - 1 else 2 * n
theorem zig_range {n : Int} (h : in64 n) : 0 ≤ zig n ∧ zig n < 18446744073709551616 := by
  unfold in64 at h
  unfold zig
  split <;> omega
theorem xor_zero (x : Int) (h0 : 0 ≤ x) (h1 : x < 18446744073709551616) : bits .xor .u64 x 0 = x := by
  rw [u64_xor x 0 h0 h1 (by omega) (by omega)]
  simp
  omega
theorem xor_all (x : Int) (h0 : 0 ≤ x) (h1 : x < 18446744073709551616) : bits .xor .u64 x 18446744073709551615 = 18446744073709551615 - x := by
  rw [u64_xor x _ h0 h1 (by omega) (by omega)]
  have e : (18446744073709551615 : Int).toNat = 2 ^ 64 - 1 := by decide
  rw [e, Nat.xor_comm, Lib.xor_ones64 _ (by omega)]
  omega
theorem whole_zig {a : Int} (h : in64 a) : code_whole.f a = some (zig a) := by
  unfold in64 at h
  unfold code_whole.f zig
  congr 1
  have e1 : IntKind.u64.wrap (wrap64 (a * 2)) = if a < 0 then 2 * a + 18446744073709551616 else 2 * a := by
    rw [wrapu]
    unfold wrap64
    split <;> omega
  have e2 : IntKind.u64.wrap (a / 9223372036854775808) = if a < 0 then 18446744073709551615 else 0 := by
    rw [wrapu]
    split <;> omega
  rw [e1, e2]
  by_cases hn : a < 0
  · rw [if_pos hn, if_pos hn, if_pos hn, xor_all _ (by omega) (by omega)]
    omega
  · rw [if_neg hn, if_neg hn, if_neg hn, xor_zero _ (by omega) (by omega)]
theorem numR_bytes : ∀ (f : Nat) (n : Int), 0 ≤ n → ∀ x ∈ numR f n, 0 ≤ x ∧ x ≤ 255
  | 0, n, h0, x, hx => by
    simp [numR] at hx
    omega
  | f + 1, n, h0, x, hx => by
    unfold numR at hx
    split at hx
    · rcases List.mem_cons.1 hx with h | h
      · omega
      · exact numR_bytes f (n / 128) (by omega) x h
    · simp at hx
      omega
theorem bytes_strNums {l : List Int} (h : ∀ x ∈ l, 0 ≤ x ∧ x ≤ 255) : bytesOf (strOfNums l) = l := by
  unfold bytesOf strOfNums
  simp only [List.map_map]
  conv => rhs; rw [← List.map_id l]
  apply List.map_congr_left
  intro x hx
  have := h x hx
  simp
  omega
theorem bytesOf_range (s : ByteArray) : ∀ x ∈ bytesOf s, 0 ≤ x ∧ x ≤ 255 := by
  intro x hx
  unfold bytesOf at hx
  obtain ⟨b, _, rfl⟩ := List.mem_map.1 hx
  have := b.toNat_lt
  omega
end Go.Proofs.Ytgihecpobichbaa.Q
/- headgateref04.Nums: walked: the bytes of so many ints. -/
namespace Go.Proofs.Ytgihecpobichbaa.Q
open Go.RowKit Go.Proofs.YtgihecpobichbaaW.PrintWords Go.Proofs.YtgihecpobichbaaW.PrintLast Go.Proofs.YtgihecpobichbaaW.PrintMore
set_option linter.unusedVariables false
set_option linter.unusedSimpArgs false

theorem refInt_zig {n : Int} (h : in64 n) : headgateref04_Int.f n = some (zig n) := by
  unfold in64 at h
  unfold headgateref04_Int.f zig
  simp only [wrapu]
  by_cases hn : n < 0
  · rw [if_pos hn, if_pos hn, wrap_in (x := n + 1) (by unfold in64; omega), wrap_in (x := -(n + 1)) (by unfold in64; omega)]
    congr 1
    omega
  · rw [if_neg hn, if_neg hn]
    congr 1
    omega
theorem refNum_of {n : Int} (h0 : 0 ≤ n) (h1 : n < 18446744073709551616) : headgateref04_Num.f 10 n = some (strOfNums (numR 9 n)) :=
  ref_Num_eq 9 0 n h0 h1 (by have : (128 : Int) ^ 10 = 1180591620717411303424 := by decide
                             omega) (by omega)
/-- The numbers' bytes, one behind the other. -/
def numsB : List Int → List Int
  | [] => []
  | n :: l => numR 9 (zig n) ++ numsB l
theorem numsB_append : ∀ (a b : List Int), numsB (a ++ b) = numsB a ++ numsB b
  | [], b => rfl
  | n :: a, b => by
    show numR 9 (zig n) ++ numsB (a ++ b) = numR 9 (zig n) ++ numsB a ++ numsB b
    rw [numsB_append a b, List.append_assoc]
theorem numsB_len : ∀ (l : List Int), (numsB l).length ≤ 10 * l.length
  | [] => by simp [numsB]
  | n :: l => by
    have h1 := numR_len 9 (zig n)
    have h2 := numsB_len l
    simp only [numsB, List.length_append, List.length_cons]
    omega
def numsAll (l : List Int) : List Int := numR 9 (l.length : Int) ++ numsB l
def refNums (l : List Int) : ByteArray × Int := if (numsAll l).length > 16777216 then (⟨#[]⟩, 42) else (strOfNums (numsAll l), 0)
set_option maxHeartbeats 4000000 in
set_option maxRecDepth 100000 in
theorem refNums_walk (A : Option Addr) (c : Nat) (l : List Int) (hl : l.length ≤ 1000000) (hin : ∀ x ∈ l, in64 x) (w : World) (hr : Kd.C (Kd.int .i64) w A l.length l) (hc : l.length ≤ c) :
    Calls Try.prog 28 #[.slice A l.length c] w fun e w' => e = .returned (.tuple #[.string (refNums l).1, .int .i64 (refNums l).2]) ∧ Below w.heap.size w w' := by
  have HR := Aside0.mk hr
  have HIN := Aside0.mk hin
  have hN := refNum_of (n := (l.length : Int)) (by omega) (by omega)
  have hS := bytes_strNums (numR_bytes 9 (l.length : Int) (by omega))
  have hlen1 := numR_len 9 (l.length : Int)
  obtain ⟨s0, hs0⟩ : ∃ s0, s0 = strOfNums (numR 9 (l.length : Int)) := ⟨_, rfl⟩
  rw [← hs0] at hN hS
  have hsz : s0.size ≤ 10 := by rw [← bytesOf_length, hS]; exact hlen1
  obtain ⟨R, hRR⟩ : ∃ R : ByteArray × Int, R = refNums l := ⟨_, rfl⟩
  rw [← hRR]
  have HS := Aside0.mk hS
  have HRR := Aside0.mk hRR
  have kb := fun W => print_bytes (P := Try.prog) 9 27 5 Try.underlying9 Try.underlying27 Try.underlying5 s0 W
  have hlw : IntKind.u64.wrap (l.length : Int) = (l.length : Int) := by rw [wrapu]; omega
  clear hr hin hs0 hS hRR
  go_enter Try.func28, Try.ntmps28
  go_wp2_with (go_at_call 16; (try rw [hlw]); refine (headgateref04_Num.calls 10 (l.length : Int) s0 _ hN).mono ?_; rintro e w1 ⟨rfl, hb1⟩; have HO := Aside0.mk (ownB_bytes w1 w.heap.size 5 s0 hb1.size (by simp only [maxLen]; omega)); have HB := Aside0.mk (bytes_below hb1 hb1.size 5 s0); have HZ := Aside0.mk (show w.heap.size ≤ (Lib.bytesWorld w1 5 s0).heap.size by rw [Lib.bytesWorld_size]; have := hb1.size; omega); clear hb1)
  go_loopg [4, 5] l.length (fun kq v4 v5 wr => ∃ (i : Nat), v5 = .int .i64 i ∧ Aside0 (i + kq = l.length) ∧ Aside0 (OwnB wr w.heap.size 5 v4 (numR 9 (l.length : Int) ++ numsB (l.take i))) ∧ Aside0 (Below w.heap.size w wr) ∧ Aside0 (w.heap.size ≤ wr.heap.size))
  case atStart => exact ⟨0, rfl, ⟨by omega⟩, ⟨by have h := HO.out; rw [HS.out] at h; simpa [numsB] using h⟩, HB, HZ⟩
  case round =>
    clear HO HB HZ HS
    obtain ⟨i, rfl, HI, HO, HB, HZ⟩ := hrel
    cases gk with
    | zero =>
      have hi : i = l.length := HI.out
      have hlb : decide ((i : Int) < (l.length : Int)) = false := decide_eq_false (by omega)
      have hlb2 : decide (i < l.length) = false := decide_eq_false (by omega)
      have hO : OwnB wr w.heap.size 5 u4 (numsAll l) := by
        have h := HO.out
        rwa [hi, List.take_length] at h
      obtain ⟨A4, c4, rfl⟩ := hO.slice
      have hcv := hO.string (P := Try.prog) Try.underlying27 Try.underlying5 Try.underlying9
      obtain ⟨bs, hbs⟩ : ∃ bs, bs = numsAll l := ⟨_, rfl⟩
      have hR := HRR.out
      unfold refNums at hR
      rw [← hbs] at hO hcv hR ⊢
      clear hbs hi
      by_cases hbig : bs.length > 16777216
      · rw [if_pos hbig] at hR
        subst hR
        have hb1 : decide (16777216 < (bs.length : Int)) = true := decide_eq_true (by omega)
        have hb2 : decide (16777216 < bs.length) = true := decide_eq_true (by omega)
        clear hO HO hbig
        go_wp2
        go_ret2
        first | exact ⟨rfl, HB.out⟩ | exact HB.out
      · rw [if_neg hbig] at hR
        subst hR
        have hb1 : decide (16777216 < (bs.length : Int)) = false := decide_eq_false (by omega)
        have hb2 : decide (16777216 < bs.length) = false := decide_eq_false (by omega)
        clear hO HO hbig
        go_wp2
        go_ret2
        first | exact ⟨rfl, HB.out⟩ | exact HB.out
    | succ k1 =>
      have hlt : i < l.length := by have := HI.out; omega
      have hlb : decide ((i : Int) < (l.length : Int)) = true := decide_eq_true (by omega)
      have hlb2 : decide (i < l.length) = true := decide_eq_true hlt
      obtain ⟨ad, rfl, hcell⟩ := Kd.at_int (Kd.C_below HR.out HB.out) (i : Int) (by omega) (by omega)
      obtain ⟨n, hn⟩ : ∃ n, rd l (i : Int) = n := ⟨_, rfl⟩
      have hx : in64 n := by rw [← hn]; exact HIN.out _ (rd_mem l (i : Int) (by omega) (by omega))
      have htk : l.take (i + 1) = l.take i ++ [n] := by
        rw [List.take_add_one, List.getElem?_eq_getElem hlt, ← hn]
        unfold rd
        simp [List.getD_eq_getElem?_getD, List.getElem?_eq_getElem hlt]
      have hz := zig_range hx
      have hI := refInt_zig hx
      have hM := refNum_of hz.1 hz.2
      have hB := bytes_strNums (numR_bytes 9 (zig n) hz.1)
      have hln := numR_len 9 (zig n)
      have hln2 := numsB_len (l.take i)
      have hln3 : (l.take i).length ≤ i := List.length_take_le _ _
      obtain ⟨s1, hs1⟩ : ∃ s1, s1 = strOfNums (numR 9 (zig n)) := ⟨_, rfl⟩
      rw [← hs1] at hM hB
      have hsz1 : s1.size ≤ 10 := by rw [← bytesOf_length, hB]; exact hln
      have hn2 : numR 9 (l.length : Int) ++ numsB (l.take i) ++ bytesOf s1 = numR 9 (l.length : Int) ++ numsB (l.take (i + 1)) := by
        rw [hB, htk, numsB_append, List.append_assoc]
        simp [numsB]
      have HN2 := Aside0.mk hn2
      have HL2 := Aside0.mk (show (numR 9 (l.length : Int) ++ numsB (l.take i)).length + s1.size ≤ 140737488355328 by rw [List.length_append]; omega)
      rw [hn, Int.toNat_natCast] at hcell
      obtain ⟨z, hz'⟩ : ∃ z, z = zig n := ⟨_, rfl⟩
      rw [← hz'] at hI hM
      clear hn2 htk hB hln hln2 hln3 hs1 hz hz' hsz1
      go_wp2_with (first
        | (go_at_call 73; refine (headgateref04_Int.calls n z _ hI).mono ?_; rintro e w2 ⟨rfl, hd2⟩; have HO2 : Aside0 (OwnB w2 w.heap.size 5 u4 (numR 9 (l.length : Int) ++ numsB (l.take i))) := ⟨HO.out.kept (dr_below hd2 _)⟩; have HB2 := Aside0.mk (HB.out.trans (dr_below hd2 _)); clear hd2)
        | (go_at_call 16; refine (headgateref04_Num.calls 10 z s1 _ hM).mono ?_; rintro e w3 ⟨rfl, hb3⟩; have HO3 : Aside0 (OwnB w3 w.heap.size 5 u4 (numR 9 (l.length : Int) ++ numsB (l.take i))) := ⟨HO2.out.kept hb3⟩; have HB3 := Aside0.mk (below_step HB2.out hb3); have HZ3 := Aside0.mk (show w.heap.size ≤ w3.heap.size from HB3.out.size); clear hb3)
        | ((with_reducible refine gate_builtin (b := .append) (xs := #[.tmp 17, .tmp 23]) rfl ?_); (try (refine gate_guard (by rfl) ?_; dsimp only)); at_builtin; refine wp_append_ownB w w3 w.heap.size rfl (.tmp 17) (.tmp 23) 27 9 5 rfl Try.underlying27 Try.underlying9 info5 u4 _ rfl HO3.out s1 rfl HL2.out HB3.out HZ3.out ?_; intro v' w4 ho hb hz; have HO4 := Aside0.mk (HN2.out ▸ ho); have HB4 := Aside0.mk hb; have HZ4 := Aside0.mk hz; clear ho hb hz))
      go_roundg k1
      case measure => omega
      case rel => exact ⟨i + 1, by congr 1, ⟨by have := HI.out; omega⟩, HO4, HB4, HZ4⟩
def headgateref04_Nums.f (k : Nat) (l0 : List Int) : Option (ByteArray × Int) := if l0.length ≤ 1000000 ∧ ∀ x ∈ l0, in64 x then some (refNums l0) else none
theorem headgateref04_Nums.calls (k : Nat) (A0 : Option Addr) (c0 : Nat) (l0 : List Int) (r1 : ByteArray) (r2 : Int) (w : World) (hr0 : Kd.C (Kd.int .i64) w A0 l0.length l0) (hc0 : l0.length ≤ c0) (h : headgateref04_Nums.f k l0 = some (r1, r2)) :
    Calls Try.prog 28 #[.slice A0 l0.length c0] w fun e w' => e = .returned (.tuple #[.string r1, .int .i64 r2]) ∧ Below w.heap.size w w' := by
  unfold headgateref04_Nums.f at h
  split at h
  · rename_i hl
    have h2 := refNums_walk A0 c0 l0 hl.1 hl.2 w hr0 hc0
    rw [Option.some.inj h] at h2
    exact h2
  · cases h
end Go.Proofs.Ytgihecpobichbaa.Q
/- The reader of package code: so many bytes, a byte, a text: walked. -/
namespace Go.Proofs.Ytgihecpobichbaa.Q
open Go.RowKit Go.Proofs.YtgihecpobichbaaW.PrintWords Go.Proofs.YtgihecpobichbaaW.PrintLast Go.Proofs.YtgihecpobichbaaW.PrintMore
set_option linter.unusedVariables false
set_option linter.unusedSimpArgs false

theorem RdS.below {w0 w : World} {G : Nat} {l : List Int} (h : RdS w0 w G l) : Below w0.heap.size w0 w := by
  obtain ⟨A, c, h⟩ := h
  exact h.below
end Go.Proofs.Ytgihecpobichbaa.Q
/- Lists as bytes and back, and the document's numbers at any place, in plain words: no program in it. -/
namespace Go.Proofs.Ytgihecpobichbaa.Q
open Go.RowKit Go.Proofs.YtgihecpobichbaaW.PrintWords Go.Proofs.YtgihecpobichbaaW.PrintLast Go.Proofs.YtgihecpobichbaaW.PrintMore
set_option linter.unusedVariables false
set_option linter.unusedSimpArgs false

def Bytes (l : List Int) : Prop := ∀ x ∈ l, 0 ≤ x ∧ x ≤ 255
theorem Bytes.left {a b : List Int} (h : Bytes (a ++ b)) : Bytes a := fun x hx => h x (List.mem_append.2 (.inl hx))
theorem Bytes.app {a b : List Int} (ha : Bytes a) (hb : Bytes b) : Bytes (a ++ b) := fun x hx => (List.mem_append.1 hx).elim (ha x) (hb x)
theorem Bytes.nil : Bytes [] := fun x hx => absurd hx (by simp)
def flat {α : Type} (enc : α → List Int) : List α → List Int
  | [] => []
  | a :: l => enc a ++ flat enc l
theorem flat_append {α : Type} (enc : α → List Int) : ∀ (a b : List α), flat enc (a ++ b) = flat enc a ++ flat enc b
  | [], b => rfl
  | n :: a, b => by
    show enc n ++ flat enc (a ++ b) = enc n ++ flat enc a ++ flat enc b
    rw [flat_append enc a b, List.append_assoc]
/-- Ints. -/
def encI (a : Int) : List Int := numR 9 (zig a)
end Go.Proofs.Ytgihecpobichbaa.Q
/- What package code's lists of pairs and of columns read one by one: walked. Printed by wip/gen/readp.py. -/
namespace Go.Proofs.Ytgihecpobichbaa.Q
open Go.RowKit Go.Proofs.YtgihecpobichbaaW.PrintWords Go.Proofs.YtgihecpobichbaaW.PrintLast Go.Proofs.YtgihecpobichbaaW.PrintMore
set_option linter.unusedVariables false
set_option linter.unusedSimpArgs false
theorem RdS.lt2 {w0 w : World} {G : Nat} {l : List Int} (h : RdS w0 w G l) : G < w.heap.size := h.lt.1
/-- The box that a closure holds: the reader's address. -/
def PBox (w : World) (p G : Nat) : Prop := w.heap[p]? = some (.cells #[.pointer (some ⟨G, 0, none⟩)] 129 (0, 0))
theorem PBox.cell {w : World} {p G : Nat} (h : PBox w p G) : w.cell? ⟨p, 0, none⟩ = some (.pointer (some ⟨G, 0, none⟩)) := (blk_cell h 0).trans rfl
theorem PBox.grown {w w' : World} {p G : Nat} (h : PBox w p G) (hg : w.grownBy w' (some G)) (hne : p ≠ G) : PBox w' p G := blk_grown h hg (fun e => by injection e with e; exact hne e)
end Go.Proofs.Ytgihecpobichbaa.Q
/- What package code's reader makes of a value: walked. -/
namespace Go.Proofs.Ytgihecpobichbaa.Q
open Go.RowKit Go.Proofs.YtgihecpobichbaaW.PrintWords Go.Proofs.YtgihecpobichbaaW.PrintLast Go.Proofs.YtgihecpobichbaaW.PrintMore
set_option linter.unusedVariables false
set_option linter.unusedSimpArgs false

/-- What is wrong with a value. -/
def chkV (v : S116) : Int :=
  if v.f0 = 0 then (if v.f1 = 0 ∧ v.f2.toList = [] then 0 else 31)
  else if v.f0 = 1 then (if v.f2.toList = [] then 0 else 31)
  else if v.f0 = 2 then (if (v.f1 = 0 ∨ v.f1 = 1) ∧ v.f2.toList = [] then 0 else 31)
  else if v.f0 = 3 then (if v.f1 = 0 ∧ v.f2.size ≤ 200 then 0 else 31) else 30
theorem chk_ev (v : S116) : Ev (fun k => value_Check.f k v.f0 v.f1 v.f2) (chkV v) := by
  obtain ⟨k0, n, s⟩ := v
  unfold value_Check.f chkV
  simp only
  have hj1 : ∀ b : Bool, Ev (fun k => value_Check.j1 k b) (if b = true then 31 else 0) := by
    intro b
    refine Ev.step (f := fun _ => some (if b = true then 31 else 0)) (fun k => ?_) (Ev.now _)
    simp only [value_Check.j1]
    split <;> rfl
  have hj0 : ∀ (g : Bool), Ev (fun k => value_Check.j0 k g k0 n s) (if g = true then (if k0 = 3 then 0 else (if s.toList = [] then 0 else 31)) else 31) := by
    intro g
    cases g with
    | false =>
      refine Ev.step (fun k => ?_) (hj1 true)
      simp only [value_Check.j0]
      rw [if_neg (by simp)]
    | true =>
      by_cases h3 : k0 = 3
      · simp only [if_true, if_pos h3]
        refine Ev.step (fun k => ?_) (hj1 false)
        simp only [value_Check.j0]
        rw [if_pos trivial, if_pos h3]
      · simp only [if_true, if_neg h3]
        have h := hj1 (s.toList != [])
        have e : (if (s.toList != []) = true then (31 : Int) else 0) = (if s.toList = [] then 0 else 31) := by
          by_cases hs : s.toList = []
          · rw [if_neg (by simp [hs]), if_pos hs]
          · rw [if_pos (by simp [hs]), if_neg hs]
        rw [e] at h
        refine Ev.step (fun k => ?_) h
        simp only [value_Check.j0]
        rw [if_pos trivial, if_neg h3]
  by_cases h0 : k0 = 0
  · rw [if_pos h0]
    refine Ev.congr (fun k => if_pos h0) ?_
    have h := hj0 (n == 0)
    rw [if_neg (show ¬ k0 = 3 by omega)] at h
    by_cases hn : n = 0
    · rw [if_pos (by simp [hn])] at h
      have e : (if n = 0 ∧ s.toList = [] then (0 : Int) else 31) = (if s.toList = [] then 0 else 31) := by simp [hn]
      rw [e]
      exact h
    · rw [if_neg (by simp [hn])] at h
      rw [if_neg (fun z => hn z.1)]
      exact h
  · rw [if_neg h0]
    refine Ev.congr (fun k => if_neg h0) ?_
    by_cases h1 : k0 = 1
    · rw [if_pos h1]
      refine Ev.congr (fun k => if_pos h1) ?_
      have h := hj0 true
      rw [if_pos rfl, if_neg (show ¬ k0 = 3 by omega)] at h
      exact h
    · rw [if_neg h1]
      refine Ev.congr (fun k => if_neg h1) ?_
      by_cases h2 : k0 = 2
      · rw [if_pos h2]
        refine Ev.congr (fun k => if_pos h2) ?_
        by_cases hn : n = 0
        · refine Ev.congr (fun k => if_pos hn) ?_
          have h := hj0 true
          rw [if_pos rfl, if_neg (show ¬ k0 = 3 by omega)] at h
          have e : (if (n = 0 ∨ n = 1) ∧ s.toList = [] then (0 : Int) else 31) = (if s.toList = [] then 0 else 31) := by simp [hn]
          rw [e]
          exact h
        · refine Ev.congr (fun k => if_neg hn) ?_
          have h := hj0 (n == 1)
          rw [if_neg (show ¬ k0 = 3 by omega)] at h
          by_cases hn1 : n = 1
          · rw [if_pos (by simp [hn1])] at h
            have e : (if (n = 0 ∨ n = 1) ∧ s.toList = [] then (0 : Int) else 31) = (if s.toList = [] then 0 else 31) := by simp [hn1]
            rw [e]
            exact h
          · rw [if_neg (by simp [hn1])] at h
            rw [if_neg (fun z => by omega)]
            exact h
      · rw [if_neg h2]
        refine Ev.congr (fun k => if_neg h2) ?_
        by_cases h3 : k0 = 3
        · rw [if_pos h3]
          refine Ev.congr (fun k => if_pos h3) ?_
          by_cases hn : n = 0
          · refine Ev.congr (fun k => if_pos hn) ?_
            have h := hj0 (decide ((s.size : Int) ≤ 200))
            rw [if_pos h3] at h
            by_cases hs : s.size ≤ 200
            · rw [if_pos (by simp; omega)] at h
              rw [if_pos ⟨hn, hs⟩]
              exact h
            · rw [if_neg (by simp; omega)] at h
              rw [if_neg (fun z => hs z.2)]
              exact h
          · refine Ev.congr (fun k => if_neg hn) ?_
            have h := hj0 false
            rw [if_neg (by simp)] at h
            rw [if_neg (fun z => hn z.1)]
            exact h
        · rw [if_neg h3]
          exact Ev.congr (fun k => if_neg h3) (Ev.now _)
end Go.Proofs.Ytgihecpobichbaa.Q
/- package code's rows, one by one: walked. Printed by wip/gen/readx.py. -/
namespace Go.Proofs.Ytgihecpobichbaa.Q
open Go.RowKit Go.Proofs.YtgihecpobichbaaW.PrintWords Go.Proofs.YtgihecpobichbaaW.PrintLast Go.Proofs.YtgihecpobichbaaW.PrintMore
set_option linter.unusedVariables false
set_option linter.unusedSimpArgs false
/-- Is a row right? -/
def rowOk (xs : List S116) : Bool := decide (xs.length ≤ 12) && xs.all (fun v => chkV v == 0)
theorem rdV_drop (l : List S116) (j : Int) (h0 : 0 ≤ j) (h1 : j < (l.length : Int)) : l.drop j.toNat = rd_T116 l j :: l.drop (j + 1).toNat := by
  have e : (j + 1).toNat = j.toNat + 1 := by omega
  have hl : j.toNat < l.length := by omega
  rw [e, List.drop_eq_getElem_cons hl]
  unfold rd_T116
  rw [List.getD_eq_getElem?_getD, List.getElem?_eq_getElem hl]
  rfl
theorem row_loop (l : List S116) (hl : l.length ≤ 9223372036854775806) : ∀ (d : Nat) (i : Int), 0 ≤ i → i ≤ 12 → i + d = l.length → Ev (fun k => value_Row.l0 k l (l.length : Int) i) (decide (l.length ≤ 12) && (l.drop i.toNat).all (fun v => chkV v == 0)) := by
  intro d
  induction d with
  | zero =>
    intro i h0 h12 h1
    rw [List.drop_of_length_le (by omega), decide_eq_true (by omega)]
    exact Ev.step (f := fun _ => some true) (fun k => by simp only [value_Row.l0]; rw [if_neg (by omega)]) (Ev.now _)
  | succ d ih =>
    intro i h0 h12 h1
    have e2 : wrap64 (i + 1) = i + 1 := wrap_in (by unfold in64; omega)
    rw [rdV_drop l i h0 (by omega), List.all_cons]
    obtain ⟨y, hy⟩ : ∃ y, rd_T116 l i = y := ⟨_, rfl⟩
    by_cases h : i = 12
    · rw [decide_eq_false (by omega), Bool.false_and]
      refine Ev.step (f := fun _ => some false) (fun k => ?_) (Ev.now _)
      simp only [value_Row.l0]
      rw [if_pos (by omega), if_pos h0, if_pos (by omega), if_pos h]
    · rw [hy]
      by_cases hc : chkV y = 0
      · have hb : (chkV y == 0) = true := by simp [hc]
        rw [hb, Bool.true_and]
        refine Ev.step (fun k => ?_) (Ev.bind (f := fun k t168 => (if t168 = 0 then (value_Row.l0 k l (l.length : Int) (wrap64 (i + 1))) else (some false))) (chk_ev y) (Ev.congr (fun k => if_pos hc) (by rw [e2]; exact ih (i + 1) (by omega) (by omega) (by omega))))
        simp only [value_Row.l0]
        rw [if_pos (by omega), if_pos h0, if_pos (by omega), if_neg h, hy]
      · have hb : (chkV y == 0) = false := by simpa using hc
        rw [hb, Bool.false_and, Bool.and_false]
        refine Ev.step (fun k => ?_) (Ev.bind (f := fun k t168 => (if t168 = 0 then (value_Row.l0 k l (l.length : Int) (wrap64 (i + 1))) else (some false))) (chk_ev y) (Ev.congr (fun k => if_neg hc) (Ev.now _)))
        simp only [value_Row.l0]
        rw [if_pos (by omega), if_pos h0, if_pos (by omega), if_neg h, hy]
theorem row_ev (l : List S116) (hl : l.length ≤ 9223372036854775806) : Ev (fun k => value_Row.f k l) (rowOk l) := row_loop l hl l.length 0 (by omega) (by omega) (by omega)
end Go.Proofs.Ytgihecpobichbaa.Q
/- package code's Unrows: walked. Printed by wip/gen/readx.py. -/
namespace Go.Proofs.Ytgihecpobichbaa.Q
open Go.RowKit Go.Proofs.YtgihecpobichbaaW.PrintWords Go.Proofs.YtgihecpobichbaaW.PrintLast Go.Proofs.YtgihecpobichbaaW.PrintMore
set_option linter.unusedVariables false
set_option linter.unusedSimpArgs false
end Go.Proofs.Ytgihecpobichbaa.Q
/- package code's Unpairs: walked. Printed by wip/gen/readx.py. -/
namespace Go.Proofs.Ytgihecpobichbaa.Q
open Go.RowKit Go.Proofs.YtgihecpobichbaaW.PrintWords Go.Proofs.YtgihecpobichbaaW.PrintLast Go.Proofs.YtgihecpobichbaaW.PrintMore
set_option linter.unusedVariables false
set_option linter.unusedSimpArgs false
end Go.Proofs.Ytgihecpobichbaa.Q
/- package code's Uncols: walked. Printed by wip/gen/readx.py. -/
namespace Go.Proofs.Ytgihecpobichbaa.Q
open Go.RowKit Go.Proofs.YtgihecpobichbaaW.PrintWords Go.Proofs.YtgihecpobichbaaW.PrintLast Go.Proofs.YtgihecpobichbaaW.PrintMore
set_option linter.unusedVariables false
set_option linter.unusedSimpArgs false
end Go.Proofs.Ytgihecpobichbaa.Q
/- Ints as bytes and back: the package's and the document's, in plain words: no program in it. -/
namespace Go.Proofs.Ytgihecpobichbaa.Q
open Go.RowKit Go.Proofs.YtgihecpobichbaaW.PrintWords Go.Proofs.YtgihecpobichbaaW.PrintLast Go.Proofs.YtgihecpobichbaaW.PrintMore
set_option linter.unusedVariables false
set_option linter.unusedSimpArgs false

/-- What the package tells of ints. -/
def codeNums (l : List Int) : List Int × Int := if (numsAll l).length > 16777216 then ([], 42) else (numsAll l, 0)
theorem codeNums_loop (l : List Int) (hl : l.length ≤ 1000000) (hin : ∀ x ∈ l, in64 x) : ∀ (d i : Nat) (xs : List Int), i + d = l.length → xs.length ≤ 10 * (i + 1) →
    Ev (fun k => code_List_int64.l0 k xs l (l.length : Int) (i : Int)) (xs ++ numsB (l.drop i)) := by
  intro d
  induction d with
  | zero =>
    intro i xs hi hx
    rw [List.drop_of_length_le (by omega)]
    refine Ev.step (f := fun _ => some (xs ++ [])) (fun k => ?_) (Ev.now _)
    simp only [code_List_int64.l0, List.append_nil]
    rw [if_neg (by omega)]
  | succ d ih =>
    intro i xs hi hx
    have hlt : i < l.length := by omega
    have hd := rd_drop l (i : Int) (by omega) (by omega)
    rw [show ((i : Int) + 1).toNat = i + 1 by omega, Int.toNat_natCast] at hd
    have hm := rd_mem l (i : Int) (by omega) (by omega)
    obtain ⟨n, hn⟩ : ∃ n, rd l (i : Int) = n := ⟨_, rfl⟩
    rw [hn] at hd hm
    have h64 := hin n hm
    have hz := zig_range h64
    have hlen := numR_len 9 (zig n)
    have h1 : Ev (fun k => code_Nums_1.f k n) (numR 9 (zig n)) := by
      unfold code_Nums_1.f
      rw [whole_zig h64]
      simp only [Option.bind_some]
      refine Ev.congr (f := fun k => code_Num.f k (zig n)) (fun k => ?_) (Ev.of (fun k => code_Num.mono _ k) (code_Num_eq (zig n) hz.1 hz.2 0))
      cases code_Num.f k (zig n) <;> rfl
    have hw : wrap64 ((i : Int) + 1) = ((i + 1 : Nat) : Int) := by
      have h : wrap64 ((i : Int) + 1) = (i : Int) + 1 := wrap_in (by unfold in64; omega)
      rw [h]
      omega
    have h2 := ih (i + 1) (xs ++ numR 9 (zig n)) (by omega) (by rw [List.length_append]; omega)
    rw [hd]
    have hfin : xs ++ numR 9 (zig n) ++ numsB (l.drop (i + 1)) = xs ++ numsB (n :: l.drop (i + 1)) := by
      rw [List.append_assoc]
      rfl
    rw [hfin] at h2
    refine Ev.step (fun k => ?_) (Ev.bind h1 (f := fun k y => if xs.length + y.length < 140737488355328 then code_List_int64.l0 k (xs ++ y) l (l.length : Int) (wrap64 ((i : Int) + 1)) else none) (by rw [hw]; exact Ev.congr (fun k => if_pos (by omega)) h2))
    simp only [code_List_int64.l0]
    rw [if_pos (by omega), if_pos (by omega), if_pos (by omega), hn]
theorem codeNums_ev (l : List Int) (hl : l.length ≤ 1000000) (hin : ∀ x ∈ l, in64 x) : Ev (fun k => code_Nums.f k l) (codeNums l) := by
  unfold code_Nums.f
  refine Ev.bind (a := numsAll l) ?_ ?_
  · unfold code_List_int64.f
    have hw : IntKind.u64.wrap (l.length : Int) = (l.length : Int) := wrap_u _ (by omega) (by omega)
    rw [hw]
    refine Ev.bind (Ev.of (fun k => code_Num.mono _ k) (code_Num_eq (l.length : Int) (by omega) (by omega) 0)) ?_
    have hlen := numR_len 9 (l.length : Int)
    have := codeNums_loop l hl hin l.length 0 (numR 9 (l.length : Int)) (by omega) (by omega)
    rw [List.drop_zero] at this
    exact this
  · unfold code_told.f codeNums
    by_cases h : (numsAll l).length > 16777216
    · rw [if_pos h, if_pos (by omega)]
      exact Ev.now _
    · rw [if_neg h, if_neg (by omega)]
      exact Ev.now _
end Go.Proofs.Ytgihecpobichbaa.Q
/- Texts, values, rows, columns and pairs as bytes and back, in plain words: no program in it. -/
namespace Go.Proofs.Ytgihecpobichbaa.Q
open Go.RowKit Go.Proofs.YtgihecpobichbaaW.PrintWords Go.Proofs.YtgihecpobichbaaW.PrintLast Go.Proofs.YtgihecpobichbaaW.PrintMore
set_option linter.unusedVariables false
set_option linter.unusedSimpArgs false

abbrev Va := S116
abbrev Co := S43
abbrev Pa := S74
def encW (s : ByteArray) : List Int := numR 9 (s.size : Int) ++ bytesOf s
def encV (v : Va) : List Int := [v.f0 % 256] ++ (if v.f0 = 1 then encI v.f1 else if v.f0 = 2 then [v.f1 % 256] else if v.f0 = 3 then encW v.f2 else [])
def encR (r : List Va) : List Int := numR 9 (r.length : Int) ++ flat encV r
def encC (c : Co) : List Int := encW c.f0 ++ [c.f1 % 256]
def encP (p : Pa) : List Int := encW p.f0 ++ encW p.f1
theorem encW_bytes (s : ByteArray) : Bytes (encW s) := Bytes.app (numR_bytes 9 _ (by omega)) (bytesOf_range s)
theorem byte_bytes (x : Int) : Bytes [x % 256] := by
  intro y hy
  simp at hy
  omega
/-- Is a value one that may be told? -/
def goodV (v : Va) : Prop := chkV v = 0 ∧ in64 v.f1
theorem encV_bytes (v : Va) (h : in64 v.f1) : Bytes (encV v) := by
  unfold encV
  refine Bytes.app (byte_bytes _) ?_
  split
  · exact numR_bytes 9 _ (zig_range h).1
  · split
    · exact byte_bytes _
    · split
      · exact encW_bytes _
      · exact Bytes.nil
theorem chk_parts {v : Va} (h : chkV v = 0) : (v.f0 = 0 ∧ v.f1 = 0 ∧ v.f2.toList = []) ∨ (v.f0 = 1 ∧ v.f2.toList = []) ∨ (v.f0 = 2 ∧ (v.f1 = 0 ∨ v.f1 = 1) ∧ v.f2.toList = []) ∨ (v.f0 = 3 ∧ v.f1 = 0 ∧ v.f2.size ≤ 200) := by
  unfold chkV at h
  by_cases h0 : v.f0 = 0
  · rw [if_pos h0] at h
    split at h
    · rename_i hc
      exact .inl ⟨h0, hc.1, hc.2⟩
    · omega
  · rw [if_neg h0] at h
    by_cases h1 : v.f0 = 1
    · rw [if_pos h1] at h
      split at h
      · rename_i hc
        exact .inr (.inl ⟨h1, hc⟩)
      · omega
    · rw [if_neg h1] at h
      by_cases h2 : v.f0 = 2
      · rw [if_pos h2] at h
        split at h
        · rename_i hc
          exact .inr (.inr (.inl ⟨h2, hc.1, hc.2⟩))
        · omega
      · rw [if_neg h2] at h
        by_cases h3 : v.f0 = 3
        · rw [if_pos h3] at h
          split at h
          · rename_i hc
            exact .inr (.inr (.inr ⟨h3, hc.1, hc.2⟩))
          · omega
        · rw [if_neg h3] at h
          omega
theorem toList_nil {s : ByteArray} (h : s.toList = []) : s = ⟨#[]⟩ := by
  apply ByteArray.ext
  have h2 : s.data.toList = [] := by
    rw [← Lib.toList_data]
    exact h
  apply Array.ext'
  rw [h2]
def goodR (r : List Va) : Prop := rowOk r = true ∧ ∀ v ∈ r, in64 v.f1
theorem goodR_parts {r : List Va} (h : goodR r) : r.length ≤ 12 ∧ ∀ v ∈ r, goodV v := by
  obtain ⟨h1, h2⟩ := h
  unfold rowOk at h1
  rw [Bool.and_eq_true] at h1
  refine ⟨of_decide_eq_true h1.1, fun v hv => ⟨?_, h2 v hv⟩⟩
  have := List.all_eq_true.1 h1.2 v hv
  simpa using this
end Go.Proofs.Ytgihecpobichbaa.Q
-- Written by a program of the session over the translation's print: functions as plain Lean, and that the machine's call comes to them.
namespace Go.Proofs.Ytgihecpobichbaa.Q
open Go.RowKit Go.Proofs.YtgihecpobichbaaW.PrintWords Go.Proofs.YtgihecpobichbaaW.PrintLast Go.Proofs.YtgihecpobichbaaW.PrintMore
attribute [local go_sem] max2_int min2_int max_two min_two max_three min_three max_four min_four   -- for this text's walks alone
set_option linter.unusedVariables false
set_option linter.unusedSimpArgs false

end Go.Proofs.Ytgihecpobichbaa.Q
/- What package code tells of lists, in plain words: no program in it. -/
namespace Go.Proofs.Ytgihecpobichbaa.Q
open Go.RowKit Go.Proofs.YtgihecpobichbaaW.PrintWords Go.Proofs.YtgihecpobichbaaW.PrintLast Go.Proofs.YtgihecpobichbaaW.PrintMore
set_option linter.unusedVariables false
set_option linter.unusedSimpArgs false

theorem word_ev (s : ByteArray) (hs : s.size ≤ 1000000000) : Ev (fun k => code_word.f k s) (encW s) := by
  unfold code_word.f
  have hw : IntKind.u64.wrap (s.size : Int) = (s.size : Int) := wrap_u _ (by omega) (by omega)
  rw [hw]
  have hl := numR_len 9 (s.size : Int)
  exact Ev.bind (Ev.of (fun k => code_Num.mono _ k) (code_Num_eq (s.size : Int) (by omega) (by omega) 0)) (Ev.congr (fun k => if_pos (by omega)) (Ev.now _))
theorem encW_len (s : ByteArray) : (encW s).length ≤ s.size + 10 := by
  have h1 := numR_len 9 (s.size : Int)
  have h2 := bytesOf_length s
  unfold encW
  rw [List.length_append]
  omega
theorem one_ev (v : Va) (hs : v.f2.size ≤ 1000000000) (h : in64 v.f1) : Ev (fun k => code_one.f k v.f0 v.f1 v.f2) (encV v) := by
  unfold code_one.f encV
  simp only [Option.bind_some]
  by_cases h1 : v.f0 = 1
  · rw [if_pos h1]
    refine Ev.congr (fun k => if_pos h1) ?_
    have hz := zig_range h
    have hl := numR_len 9 (zig v.f1)
    rw [whole_zig h]
    simp only [Option.bind_some]
    exact Ev.bind (Ev.of (fun k => code_Num.mono _ k) (code_Num_eq (zig v.f1) hz.1 hz.2 0)) (Ev.congr (fun k => if_pos (by simp only [List.length_cons, List.length_nil]; omega)) (Ev.now _))
  · rw [if_neg h1]
    refine Ev.congr (fun k => if_neg h1) ?_
    by_cases h2 : v.f0 = 2
    · rw [if_pos h2]
      refine Ev.congr (fun k => if_pos h2) ?_
      exact Ev.congr (fun k => if_pos (by simp)) (Ev.now _)
    · rw [if_neg h2]
      refine Ev.congr (fun k => if_neg h2) ?_
      by_cases h3 : v.f0 = 3
      · rw [if_pos h3]
        refine Ev.congr (fun k => if_pos h3) ?_
        have := encW_len v.f2
        exact Ev.bind (word_ev v.f2 hs) (Ev.congr (fun k => if_pos (by simp only [List.length_cons, List.length_nil]; omega)) (Ev.now _))
      · rw [if_neg h3]
        refine Ev.congr (fun k => if_neg h3) ?_
        rw [List.append_nil]
        exact Ev.now _
theorem list_loop {α : Type} (enc : α → List Int) (rdf : List α → Int → α) (hrd : ∀ (l : List α) (j : Int), 0 ≤ j → j < (l.length : Int) → l.drop j.toNat = rdf l j :: l.drop (j + 1).toNat) (one : Nat → α → Option (List Int)) (L : Nat → List Int → List α → Int → Int → Option (List Int))
    (hL : ∀ k xs l n i, L (k + 1) xs l n i = if i < n then (if 0 ≤ i then (if i < (l.length : Int) then ((one k (rdf l i)).bind fun t => (if xs.length + t.length < 140737488355328 then L k (xs ++ t) l n (wrap64 (i + 1)) else none)) else none) else none) else some xs)
    (l : List α) (hlen : l.length ≤ 1000000000) (hone : ∀ x ∈ l, Ev (fun k => one k x) (enc x)) : ∀ (d : Nat) (i : Int) (xs : List Int), 0 ≤ i → i + d = l.length → (xs ++ flat enc (l.drop i.toNat)).length < 140737488355328 → Ev (fun k => L k xs l (l.length : Int) i) (xs ++ flat enc (l.drop i.toNat)) := by
  intro d
  induction d with
  | zero =>
    intro i xs h0 hi hb
    rw [List.drop_of_length_le (by omega)]
    refine Ev.step (f := fun _ => some (xs ++ [])) (fun k => ?_) (Ev.now _)
    rw [hL, if_neg (by omega), List.append_nil]
  | succ d ih =>
    intro i xs h0 hi hb
    have hd := hrd l i h0 (by omega)
    have e2 : wrap64 (i + 1) = i + 1 := wrap_in (by unfold in64; omega)
    obtain ⟨y, hy⟩ : ∃ y, rdf l i = y := ⟨_, rfl⟩
    rw [hy] at hd
    have hm : y ∈ l := by
      have : y ∈ l.drop i.toNat := by rw [hd]; simp
      exact List.mem_of_mem_drop this
    rw [hd] at hb ⊢
    have hfl : xs ++ flat enc (y :: l.drop (i + 1).toNat) = (xs ++ enc y) ++ flat enc (l.drop (i + 1).toNat) := by
      rw [List.append_assoc]
      rfl
    rw [hfl] at hb ⊢
    have h2 := ih (i + 1) (xs ++ enc y) (by omega) (by omega) hb
    rw [List.length_append, List.length_append] at hb
    refine Ev.step (fun k => ?_) (Ev.bind (f := fun k t => if xs.length + t.length < 140737488355328 then L k (xs ++ t) l (l.length : Int) (wrap64 (i + 1)) else none) (hone y hm) (Ev.congr (fun k => if_pos (by omega)) (by rw [e2]; exact h2)))
    rw [hL, if_pos (by omega), if_pos h0, if_pos (by omega), hy]
/-- What List makes of some items. -/
def listB {α : Type} (enc : α → List Int) (l : List α) : List Int := numR 9 (l.length : Int) ++ flat enc l
theorem list_ev {α : Type} (enc : α → List Int) (rdf : List α → Int → α) (hrd : ∀ (l : List α) (j : Int), 0 ≤ j → j < (l.length : Int) → l.drop j.toNat = rdf l j :: l.drop (j + 1).toNat) (one : Nat → α → Option (List Int)) (L : Nat → List Int → List α → Int → Int → Option (List Int))
    (hL : ∀ k xs l n i, L (k + 1) xs l n i = if i < n then (if 0 ≤ i then (if i < (l.length : Int) then ((one k (rdf l i)).bind fun t => (if xs.length + t.length < 140737488355328 then L k (xs ++ t) l n (wrap64 (i + 1)) else none)) else none) else none) else some xs)
    (l : List α) (hlen : l.length ≤ 1000000000) (hone : ∀ x ∈ l, Ev (fun k => one k x) (enc x)) (hb : (listB enc l).length < 140737488355328) :
    Ev (fun k => (code_Num.f k (IntKind.u64.wrap (l.length : Int))).bind fun t => L k t l (l.length : Int) 0) (listB enc l) := by
  have hw : IntKind.u64.wrap (l.length : Int) = (l.length : Int) := wrap_u _ (by omega) (by omega)
  rw [hw]
  refine Ev.bind (Ev.of (fun k => code_Num.mono _ k) (code_Num_eq (l.length : Int) (by omega) (by omega) 0)) ?_
  have := list_loop enc rdf hrd one L hL l hlen hone l.length 0 (numR 9 (l.length : Int)) (by omega) (by omega) hb
  exact this
def toldB (b : List Int) : List Int × Int := if b.length > 16777216 then ([], 42) else (b, 0)
theorem told_eq (b : List Int) : code_told.f b = some (toldB b) := by
  unfold code_told.f toldB
  by_cases h : b.length > 16777216
  · rw [if_pos h, if_pos (by omega)]
  · rw [if_neg h, if_neg (by omega)]
theorem rdC_drop (l : List Co) (j : Int) (h0 : 0 ≤ j) (h1 : j < (l.length : Int)) : l.drop j.toNat = rd_T43 l j :: l.drop (j + 1).toNat := by
  have e : (j + 1).toNat = j.toNat + 1 := by omega
  have hl : j.toNat < l.length := by omega
  rw [e, List.drop_eq_getElem_cons hl]
  unfold rd_T43
  rw [List.getD_eq_getElem?_getD, List.getElem?_eq_getElem hl]
  rfl
theorem rdP_drop (l : List Pa) (j : Int) (h0 : 0 ≤ j) (h1 : j < (l.length : Int)) : l.drop j.toNat = rd_T74 l j :: l.drop (j + 1).toNat := by
  have e : (j + 1).toNat = j.toNat + 1 := by omega
  have hl : j.toNat < l.length := by omega
  rw [e, List.drop_eq_getElem_cons hl]
  unfold rd_T74
  rw [List.getD_eq_getElem?_getD, List.getElem?_eq_getElem hl]
  rfl
theorem rdR_drop (l : List (List Va)) (j : Int) (h0 : 0 ≤ j) (h1 : j < (l.length : Int)) : l.drop j.toNat = rd_L12 l j :: l.drop (j + 1).toNat := by
  have e : (j + 1).toNat = j.toNat + 1 := by omega
  have hl : j.toNat < l.length := by omega
  rw [e, List.drop_eq_getElem_cons hl]
  unfold rd_L12
  rw [List.getD_eq_getElem?_getD, List.getElem?_eq_getElem hl]
  rfl
/-- Sizes: nothing that is told here is greater than this. -/
theorem flat_le {α : Type} (enc : α → List Int) (m : Nat) : ∀ (l : List α), (∀ x ∈ l, (enc x).length ≤ m) → (flat enc l).length ≤ m * l.length
  | [], _ => by simp [flat]
  | a :: l, h => by
    have h1 := h a (by simp)
    have h2 := flat_le enc m l (fun x hx => h x (by simp [hx]))
    simp only [flat, List.length_append, List.length_cons]
    rw [Nat.mul_add, Nat.mul_one]
    omega
theorem listB_le {α : Type} (enc : α → List Int) (m : Nat) (l : List α) (h : ∀ x ∈ l, (enc x).length ≤ m) : (listB enc l).length ≤ m * l.length + 10 := by
  have h1 := numR_len 9 (l.length : Int)
  have h2 := flat_le enc m l h
  unfold listB
  rw [List.length_append]
  omega
theorem encV_len (v : Va) : (encV v).length ≤ v.f2.size + 20 := by
  have h1 := numR_len 9 (zig v.f1)
  have h2 := encW_len v.f2
  unfold encV encI
  split
  · simp only [List.length_append, List.length_cons, List.length_nil]
    omega
  · split
    · simp
    · split
      · simp only [List.length_append, List.length_cons, List.length_nil]
        omega
      · simp
/-- Rows. -/
def codeRows (l : List (List Va)) : List Int × Int := if l.all rowOk = true then toldB (listB encR l) else ([], 41)
theorem rowB_ev (r : List Va) (hr : goodR r) : Ev (fun k => code_Rows_1.f k r) (encR r) := by
  have hp := goodR_parts hr
  have hlen : ∀ v ∈ r, (encV v).length ≤ 400 := by
    intro v hv
    have h1 := encV_len v
    have h2 := chk_parts (hp.2 v hv).1
    have h3 : v.f2.size ≤ 200 := by
      rcases h2 with ⟨_, _, h⟩ | ⟨_, h⟩ | ⟨_, _, h⟩ | ⟨_, _, h⟩
      · rw [toList_nil h]; exact Nat.zero_le _
      · rw [toList_nil h]; exact Nat.zero_le _
      · rw [toList_nil h]; exact Nat.zero_le _
      · exact h
    omega
  have hsz := listB_le encV 400 r hlen
  unfold code_Rows_1.f
  refine Ev.congr (f := fun k => api_Value_60.f k r ()) (fun k => by cases api_Value_60.f k r () <;> rfl) ?_
  unfold api_Value_60.f
  refine list_ev encV rd_T116 rdV_drop (fun k v => code_one.f k v.f0 v.f1 v.f2) api_Value_60.l0 (fun k xs l n i => by rw [api_Value_60.l0]) r (by omega) (fun v hv => ?_) (by omega)
  have h2 := hlen v hv
  have h3 := encV_len v
  refine one_ev v ?_ (hr.2 v hv)
  have h2 := chk_parts (hp.2 v hv).1
  rcases h2 with ⟨_, _, h⟩ | ⟨_, h⟩ | ⟨_, _, h⟩ | ⟨_, _, h⟩
  · rw [toList_nil h]; exact Nat.zero_le _
  · rw [toList_nil h]; exact Nat.zero_le _
  · rw [toList_nil h]; exact Nat.zero_le _
  · omega
theorem encR_len (r : List Va) (hr : goodR r) : (encR r).length ≤ 5000 := by
  have hp := goodR_parts hr
  have hlen : ∀ v ∈ r, (encV v).length ≤ 400 := by
    intro v hv
    have h1 := encV_len v
    have h2 := chk_parts (hp.2 v hv).1
    have h3 : v.f2.size ≤ 200 := by
      rcases h2 with ⟨_, _, h⟩ | ⟨_, h⟩ | ⟨_, _, h⟩ | ⟨_, _, h⟩
      · rw [toList_nil h]; exact Nat.zero_le _
      · rw [toList_nil h]; exact Nat.zero_le _
      · rw [toList_nil h]; exact Nat.zero_le _
      · exact h
    omega
  have hsz := listB_le encV 400 r hlen
  have : (encR r).length = (listB encV r).length := rfl
  omega
theorem codeRows_loop (l : List (List Va)) (hlen : l.length ≤ 1000000000) (hin : ∀ r ∈ l, r.length ≤ 9223372036854775806 ∧ ∀ v ∈ r, in64 v.f1) : ∀ (d : Nat) (i : Int), 0 ≤ i → i + d = l.length → (∀ r ∈ l.take i.toNat, rowOk r = true) →
    Ev (fun k => code_Rows.l0 k l l (l.length : Int) i) (codeRows l) := by
  intro d
  induction d with
  | zero =>
    intro i h0 hi hok
    rw [List.take_of_length_le (by omega)] at hok
    have hall : l.all rowOk = true := List.all_eq_true.2 hok
    unfold codeRows
    rw [if_pos hall]
    have hg : ∀ r ∈ l, goodR r := fun r hr => ⟨hok r hr, (hin r hr).2⟩
    have hsz := listB_le encR 5000 l (fun r hr => encR_len r (hg r hr))
    have hA : Ev (fun k => api_Value_58.f k l ()) (listB encR l) := by
      unfold api_Value_58.f
      exact list_ev encR rd_L12 rdR_drop (fun k r => code_Rows_1.f k r) api_Value_58.l0 (fun k xs l n i => by rw [api_Value_58.l0]) l hlen (fun r hr => rowB_ev r (hg r hr)) (by omega)
    refine Ev.step (f := fun k => (api_Value_58.f k l ()).bind fun t215 => ((code_told.f t215).bind fun bt218 => (some (bt218.1, bt218.2)))) (fun k => ?_) (Ev.bind hA ?_)
    · simp only [code_Rows.l0]
      rw [if_neg (by omega)]
    · rw [told_eq]
      exact Ev.now _
  | succ d ih =>
    intro i h0 hi hok
    have hd := rdR_drop l i h0 (by omega)
    have e2 : wrap64 (i + 1) = i + 1 := wrap_in (by unfold in64; omega)
    obtain ⟨y, hy⟩ : ∃ y, rd_L12 l i = y := ⟨_, rfl⟩
    rw [hy] at hd
    have hm : y ∈ l := by
      have : y ∈ l.drop i.toNat := by rw [hd]; simp
      exact List.mem_of_mem_drop this
    cases hr : rowOk y with
    | false =>
      have hall : ¬ l.all rowOk = true := fun h => by
        have := List.all_eq_true.1 h y hm
        rw [hr] at this
        cases this
      unfold codeRows
      rw [if_neg hall]
      refine Ev.step (fun k => ?_) (Ev.bind (f := fun k t214 => (if t214 = true then (code_Rows.l0 k l l (l.length : Int) (wrap64 (i + 1))) else (some (([] : List Int), 41)))) (row_ev y (hin y hm).1) (by rw [hr]; exact Ev.congr (fun k => if_neg (by simp)) (Ev.now _)))
      simp only [code_Rows.l0]
      rw [if_pos (by omega), if_pos h0, if_pos (by omega), hy]
    | true =>
      have h2 := ih (i + 1) (by omega) (by omega) (by
        have e : l.take (i + 1).toNat = l.take i.toNat ++ [y] := by
          have h1 : (i + 1).toNat = i.toNat + 1 := by omega
          have hl : i.toNat < l.length := by omega
          have h3 : l[i.toNat] = y := by
            rw [← hy]
            unfold rd_L12
            rw [List.getD_eq_getElem?_getD, List.getElem?_eq_getElem hl]
            rfl
          rw [h1, List.take_add_one, List.getElem?_eq_getElem hl, h3]
          rfl
        rw [e]
        intro r hr'
        rcases List.mem_append.1 hr' with h | h
        · exact hok r h
        · rw [List.mem_singleton.1 h]; exact hr)
      refine Ev.step (fun k => ?_) (Ev.bind (f := fun k t214 => (if t214 = true then (code_Rows.l0 k l l (l.length : Int) (wrap64 (i + 1))) else (some (([] : List Int), 41)))) (row_ev y (hin y hm).1) (by rw [hr]; exact Ev.congr (fun k => if_pos rfl) (by rw [e2]; exact h2)))
      simp only [code_Rows.l0]
      rw [if_pos (by omega), if_pos h0, if_pos (by omega), hy]
theorem codeRows_ev (l : List (List Va)) (hlen : l.length ≤ 1000000000) (hin : ∀ r ∈ l, r.length ≤ 9223372036854775806 ∧ ∀ v ∈ r, in64 v.f1) : Ev (fun k => code_Rows.f k l) (codeRows l) :=
  codeRows_loop l hlen hin l.length 0 (by omega) (by omega) (by simp)
/-- Pairs. -/
theorem encP_len (p : Pa) : (encP p).length ≤ p.f0.size + p.f1.size + 20 := by
  have h1 := encW_len p.f0
  have h2 := encW_len p.f1
  unfold encP
  rw [List.length_append]
  omega
theorem codePairs_ev (l : List Pa) (hlen : l.length ≤ 20000) (hs : ∀ p ∈ l, p.f0.size ≤ 1000000 ∧ p.f1.size ≤ 1000000) : Ev (fun k => code_Pairs.f k l) (toldB (listB encP l)) := by
  have hsz := listB_le encP 2000020 l (fun p hp => by have := encP_len p; have := hs p hp; omega)
  unfold code_Pairs.f
  refine Ev.bind (a := listB encP l) ?_ (by rw [told_eq]; exact Ev.now _)
  unfold api_Pair_68.f
  refine list_ev encP rd_T74 rdP_drop (fun k p => code_Pairs_1.f k p.f0 p.f1) api_Pair_68.l0 (fun k xs l n i => by rw [api_Pair_68.l0]) l (by omega) (fun p hp => ?_) (by omega)
  have h := hs p hp
  have e1 := encW_len p.f0
  have e2 := encW_len p.f1
  unfold code_Pairs_1.f
  exact Ev.bind (word_ev p.f0 (by omega)) (Ev.bind (word_ev p.f1 (by omega)) (Ev.congr (fun k => if_pos (by omega)) (Ev.now _)))
/-- Columns. -/
def okC (c : Co) : Bool := decide (0 ≤ c.f1 ∧ c.f1 ≤ 255)
def codeCols (l : List Co) : List Int × Int := if l.all okC = true then toldB (listB encC l) else ([], 41)
theorem encC_len (c : Co) : (encC c).length ≤ c.f0.size + 20 := by
  have h1 := encW_len c.f0
  unfold encC
  simp only [List.length_append, List.length_cons, List.length_nil]
  omega
theorem codeCols_loop (l : List Co) (hlen : l.length ≤ 20000) (hs : ∀ c ∈ l, c.f0.size ≤ 1000000) : ∀ (d : Nat) (i : Int), 0 ≤ i → i + d = l.length → (∀ c ∈ l.take i.toNat, okC c = true) →
    Ev (fun k => code_Cols.l0 k l l (l.length : Int) i) (codeCols l) := by
  have hsz := listB_le encC 1000020 l (fun c hc => by have := encC_len c; have := hs c hc; omega)
  have hA : Ev (fun k => api_Column_64.f k l ()) (listB encC l) := by
    unfold api_Column_64.f
    refine list_ev encC rd_T43 rdC_drop (fun k c => code_Cols_1.f k c.f0 c.f1) api_Column_64.l0 (fun k xs l n i => by rw [api_Column_64.l0]) l (by omega) (fun c hc => ?_) (by omega)
    have h := hs c hc
    have e1 := encW_len c.f0
    unfold code_Cols_1.f
    simp only [Option.bind_some]
    exact Ev.bind (word_ev c.f0 (by omega)) (Ev.congr (fun k => if_pos (by simp only [List.length_cons, List.length_nil]; omega)) (Ev.now _))
  intro d
  induction d with
  | zero =>
    intro i h0 hi hok
    rw [List.take_of_length_le (by omega)] at hok
    have hall : l.all okC = true := List.all_eq_true.2 hok
    unfold codeCols
    rw [if_pos hall]
    refine Ev.step (f := fun k => (api_Column_64.f k l ()).bind fun t130 => ((code_told.f t130).bind fun bt133 => (some (bt133.1, bt133.2)))) (fun k => ?_) (Ev.bind hA ?_)
    · simp only [code_Cols.l0]
      rw [if_neg (by omega)]
    · rw [told_eq]
      exact Ev.now _
  | succ d ih =>
    intro i h0 hi hok
    have hd := rdC_drop l i h0 (by omega)
    have e2 : wrap64 (i + 1) = i + 1 := wrap_in (by unfold in64; omega)
    obtain ⟨y, hy⟩ : ∃ y, rd_T43 l i = y := ⟨_, rfl⟩
    rw [hy] at hd
    have hm : y ∈ l := by
      have : y ∈ l.drop i.toNat := by rw [hd]; simp
      exact List.mem_of_mem_drop this
    by_cases hc : 0 ≤ y.f1 ∧ y.f1 ≤ 255
    · have h2 := ih (i + 1) (by omega) (by omega) (by
        have e : l.take (i + 1).toNat = l.take i.toNat ++ [y] := by
          have h1 : (i + 1).toNat = i.toNat + 1 := by omega
          have hl : i.toNat < l.length := by omega
          have h3 : l[i.toNat] = y := by
            rw [← hy]
            unfold rd_T43
            rw [List.getD_eq_getElem?_getD, List.getElem?_eq_getElem hl]
            rfl
          rw [h1, List.take_add_one, List.getElem?_eq_getElem hl, h3]
          rfl
        rw [e]
        intro r hr'
        rcases List.mem_append.1 hr' with h | h
        · exact hok r h
        · rw [List.mem_singleton.1 h]; exact decide_eq_true hc)
      refine Ev.step (fun k => ?_) h2
      simp only [code_Cols.l0]
      rw [if_pos (by omega), if_pos h0, if_pos (by omega), hy, if_neg (by omega), if_neg (by omega), e2]
    · have hall : ¬ l.all okC = true := fun h => by
        have := of_decide_eq_true (List.all_eq_true.1 h y hm)
        exact hc this
      unfold codeCols
      rw [if_neg hall]
      refine Ev.step (f := fun _ => some ([], 41)) (fun k => ?_) (Ev.now _)
      simp only [code_Cols.l0]
      rw [if_pos (by omega), if_pos h0, if_pos (by omega), hy]
      by_cases hn : y.f1 < 0
      · rw [if_pos hn]
      · rw [if_neg hn, if_pos (by omega)]
theorem codeCols_ev (l : List Co) (hlen : l.length ≤ 20000) (hs : ∀ c ∈ l, c.f0.size ≤ 1000000) : Ev (fun k => code_Cols.f k l) (codeCols l) :=
  codeCols_loop l hlen hs l.length 0 (by omega) (by omega) (by simp)
end Go.Proofs.Ytgihecpobichbaa.Q
/- headgateref04.Pairs: walked: the bytes of pairs. -/
namespace Go.Proofs.Ytgihecpobichbaa.Q
open Go.RowKit Go.Proofs.YtgihecpobichbaaW.PrintWords Go.Proofs.YtgihecpobichbaaW.PrintLast Go.Proofs.YtgihecpobichbaaW.PrintMore
set_option linter.unusedVariables false
set_option linter.unusedSimpArgs false

theorem str_append (a b : List Int) : strOfNums (a ++ b) = strOfNums a ++ strOfNums b := by
  apply ByteArray.ext
  simp [strOfNums]
def refTold (b : List Int) : ByteArray × Int := if b.length > 16777216 then (⟨#[]⟩, 42) else (strOfNums b, 0)
theorem refWord_ev (s : ByteArray) (hs : s.size ≤ 1000000000) : Ev (fun k => headgateref04_Word.f k s) (strOfNums (encW s)) := by
  unfold headgateref04_Word.f
  have hw : IntKind.u64.wrap (s.size : Int) = (s.size : Int) := wrap_u _ (by omega) (by omega)
  rw [hw]
  have hN := refNum_of (n := (s.size : Int)) (by omega) (by omega)
  have hl := numR_len 9 (s.size : Int)
  refine Ev.bind (Ev.of (fun k => headgateref04_Num.mono _ k) hN) ?_
  have e : strOfNums (encW s) = strOfNums (numR 9 (s.size : Int)) ++ s := by
    unfold encW
    rw [str_append, strNums_bytesOf]
  rw [e]
  exact Ev.congr (fun k => if_pos (by rw [str_size]; omega)) (Ev.now _)
theorem flat_snoc {α : Type} (enc : α → List Int) (l : List α) (x : α) : flat enc (l ++ [x]) = flat enc l ++ enc x := by
  rw [flat_append]
  simp [flat]
set_option maxHeartbeats 4000000 in
set_option maxRecDepth 100000 in
theorem refPairsT_walk (A : Option Addr) (c : Nat) (l : List Pa) (hl : l.length ≤ 300) (hin : ∀ x ∈ l, x.f0.size ≤ 2000 ∧ x.f1.size ≤ 2000) (w : World) (hr : Kd.C k74 w A l.length l) (hc : l.length ≤ c) :
    Calls Try.prog 26 #[.slice A l.length c] w fun e w' => e = .returned (.tuple #[.string (refTold (listB encP l)).1, .int .i64 (refTold (listB encP l)).2]) ∧ Below w.heap.size w w' := by
  have HR := Aside0.mk hr
  have HIN := Aside0.mk hin
  have hN := refNum_of (n := (l.length : Int)) (by omega) (by omega)
  have hS := bytes_strNums (numR_bytes 9 (l.length : Int) (by omega))
  have hlen1 := numR_len 9 (l.length : Int)
  obtain ⟨s0, hs0⟩ : ∃ s0, s0 = strOfNums (numR 9 (l.length : Int)) := ⟨_, rfl⟩
  rw [← hs0] at hN hS
  have hsz : s0.size ≤ 10 := by rw [← bytesOf_length, hS]; exact hlen1
  obtain ⟨R, hRR⟩ : ∃ R : ByteArray × Int, R = refTold (listB encP l) := ⟨_, rfl⟩
  rw [← hRR]
  have HS := Aside0.mk hS
  have HRR := Aside0.mk hRR
  have kb := fun W => print_bytes (P := Try.prog) 9 27 5 Try.underlying9 Try.underlying27 Try.underlying5 s0 W
  have hlw : IntKind.u64.wrap (l.length : Int) = (l.length : Int) := by rw [wrapu]; omega
  clear hr hin hs0 hS hRR
  go_enter Try.func26, Try.ntmps26
  go_wp2_with (go_at_call 16; (try rw [hlw]); refine (headgateref04_Num.calls 10 (l.length : Int) s0 _ hN).mono ?_; rintro e w1 ⟨rfl, hb1⟩; have HO := Aside0.mk (ownB_bytes w1 w.heap.size 5 s0 hb1.size (by simp only [maxLen]; omega)); have HB := Aside0.mk (bytes_below hb1 hb1.size 5 s0); have HZ := Aside0.mk (show w.heap.size ≤ (Lib.bytesWorld w1 5 s0).heap.size by rw [Lib.bytesWorld_size]; have := hb1.size; omega); clear hb1)
  go_loopg [4, 5] l.length (fun kq v4 v5 wr => ∃ (i : Nat), v5 = .int .i64 i ∧ Aside0 (i + kq = l.length) ∧ Aside0 (OwnB wr w.heap.size 5 v4 (numR 9 (l.length : Int) ++ flat encP (l.take i))) ∧ Aside0 (Below w.heap.size w wr) ∧ Aside0 (w.heap.size ≤ wr.heap.size))
  case atStart => exact ⟨0, rfl, ⟨by omega⟩, ⟨by have h := HO.out; rw [HS.out] at h; simpa [flat] using h⟩, HB, HZ⟩
  case round =>
    clear HO HB HZ HS
    obtain ⟨i, rfl, HI, HO, HB, HZ⟩ := hrel
    cases gk with
    | zero =>
      have hi : i = l.length := HI.out
      have hlb : decide ((i : Int) < (l.length : Int)) = false := decide_eq_false (by omega)
      have hlb2 : decide (i < l.length) = false := decide_eq_false (by omega)
      have hO : OwnB wr w.heap.size 5 u4 (listB encP l) := by
        have h := HO.out
        rwa [hi, List.take_length] at h
      obtain ⟨A4, c4, rfl⟩ := hO.slice
      have hcv := hO.string (P := Try.prog) Try.underlying27 Try.underlying5 Try.underlying9
      obtain ⟨bs, hbs⟩ : ∃ bs, bs = listB encP l := ⟨_, rfl⟩
      have hR := HRR.out
      unfold refTold at hR
      rw [← hbs] at hO hcv hR ⊢
      clear hbs hi
      by_cases hbig : bs.length > 16777216
      · rw [if_pos hbig] at hR
        subst hR
        have hb1 : decide (16777216 < (bs.length : Int)) = true := decide_eq_true (by omega)
        have hb2 : decide (16777216 < bs.length) = true := decide_eq_true (by omega)
        clear hO HO hbig
        go_wp2
        go_ret2
        first | exact ⟨rfl, HB.out⟩ | exact HB.out
      · rw [if_neg hbig] at hR
        subst hR
        have hb1 : decide (16777216 < (bs.length : Int)) = false := decide_eq_false (by omega)
        have hb2 : decide (16777216 < bs.length) = false := decide_eq_false (by omega)
        clear hO HO hbig
        go_wp2
        go_ret2
        first | exact ⟨rfl, HB.out⟩ | exact HB.out
    | succ k1 =>
      have hlt : i < l.length := by have := HI.out; omega
      have hlb : decide ((i : Int) < (l.length : Int)) = true := decide_eq_true (by omega)
      have hlb2 : decide (i < l.length) = true := decide_eq_true hlt
      obtain ⟨ad, rfl, x0, x1⟩ := at_T74 (Kd.C_below HR.out HB.out) (i : Int) (by omega) (by omega)
      have hmem : rd_T74 l (i : Int) ∈ l := by
        have hd := rdP_drop l (i : Int) (by omega) (by omega)
        have : rd_T74 l (i : Int) ∈ l.drop (i : Int).toNat := by rw [hd]; simp
        exact List.mem_of_mem_drop this
      have htk : l.take (i + 1) = l.take i ++ [rd_T74 l (i : Int)] := by
        rw [List.take_add_one, List.getElem?_eq_getElem hlt]
        unfold rd_T74
        simp [List.getD_eq_getElem?_getD, List.getElem?_eq_getElem hlt]
      obtain ⟨y, hy⟩ : ∃ y, rd_T74 l (i : Int) = y := ⟨_, rfl⟩
      have HE := Aside0.mk hy
      rw [hy] at x0 x1 hmem htk
      clear hy
      rw [Int.toNat_natCast] at x0 x1
      have hyy := HIN.out y hmem
      obtain ⟨K0, hW0⟩ := (refWord_ev y.f0 (by omega)).rounds
      obtain ⟨K1, hW1⟩ := (refWord_ev y.f1 (by omega)).rounds
      have hb0 := bytes_strNums (encW_bytes y.f0)
      have hb1 := bytes_strNums (encW_bytes y.f1)
      have hn0 := encW_len y.f0
      have hn1 := encW_len y.f1
      obtain ⟨s1, hs1⟩ : ∃ s1, s1 = strOfNums (encW y.f0) := ⟨_, rfl⟩
      obtain ⟨s2, hs2⟩ : ∃ s2, s2 = strOfNums (encW y.f1) := ⟨_, rfl⟩
      rw [← hs1] at hW0 hb0
      rw [← hs2] at hW1 hb1
      have hz1 : s1.size ≤ 2010 := by rw [← bytesOf_length, hb0]; omega
      have hz2 : s2.size ≤ 2010 := by rw [← bytesOf_length, hb1]; omega
      have hfl := flat_le encP 4020 (l.take i) (fun p hp => by have := encP_len p; have := HIN.out p (List.mem_of_mem_take hp); omega)
      have hti : (l.take i).length ≤ i := List.length_take_le _ _
      have HN2 : Aside0 (numR 9 (l.length : Int) ++ flat encP (l.take i) ++ bytesOf s1 ++ bytesOf s2 = numR 9 (l.length : Int) ++ flat encP (l.take (i + 1))) := ⟨by
        rw [hb0, hb1, htk, flat_snoc]
        simp [encP]⟩
      have hbase : (numR 9 (l.length : Int) ++ flat encP (l.take i)).length ≤ 10 + 4020 * 300 := by
        rw [List.length_append]
        have : 4020 * (l.take i).length ≤ 4020 * 300 := Nat.mul_le_mul_left _ (by omega)
        omega
      have HL1 := Aside0.mk (show (numR 9 (l.length : Int) ++ flat encP (l.take i)).length + s1.size ≤ 140737488355328 by omega)
      have HL2 := Aside0.mk (show (numR 9 (l.length : Int) ++ flat encP (l.take i) ++ bytesOf s1).length + s2.size ≤ 140737488355328 by rw [List.length_append, bytesOf_length]; omega)
      clear htk hb0 hb1 hn0 hn1 hs1 hs2 hfl hti hbase hyy hmem
      have HW1 := Aside0.mk hW1
      clear hW1 x1
      go_upto_region 6 with (first
        | (go_at_call 67; refine (headgateref04_Word.calls K0 y.f0 s1 _ hW0).mono ?_; rintro e w3 ⟨rfl, hb3⟩; have HO3 : Aside0 (OwnB w3 w.heap.size 5 u4 (numR 9 (l.length : Int) ++ flat encP (l.take i))) := ⟨HO.out.kept hb3⟩; have HB3 := Aside0.mk (below_step HB.out hb3); have HZ3 := Aside0.mk (show w.heap.size ≤ w3.heap.size from HB3.out.size); clear hb3)
        | ((with_reducible refine gate_builtin (b := .append) (xs := #[.tmp 17, .tmp 23]) rfl ?_); (try (refine gate_guard (by rfl) ?_; dsimp only)); at_builtin; refine wp_append_ownB w w3 w.heap.size rfl (.tmp 17) (.tmp 23) 27 9 5 rfl Try.underlying27 Try.underlying9 info5 u4 _ rfl HO3.out s1 rfl HL1.out HB3.out HZ3.out ?_; intro v' w4 ho hb hz; have HO4 := Aside0.mk ho; have HB4 := Aside0.mk hb; have HZ4 := Aside0.mk hz; clear ho hb hz HO HB HZ HO3 HB3 HZ3))
      obtain ⟨ad2, e2, z0, z1⟩ := at_T74 (Kd.C_below HR.out HB4.out) (i : Int) (by omega) (by omega)
      obtain rfl := Option.some.inj e2
      rw [HE.out, Int.toNat_natCast] at z1
      clear z0 x0 hW0
      go_wp2_with (first
        | (go_at_call 67; refine (headgateref04_Word.calls K1 y.f1 s2 _ HW1.out).mono ?_; rintro e w5 ⟨rfl, hb5⟩; have HO5 := Aside0.mk (HO4.out.kept hb5); have HB5 := Aside0.mk (below_step HB4.out hb5); have HZ5 := Aside0.mk (show w.heap.size ≤ w5.heap.size from HB5.out.size); clear hb5)
        | ((with_reducible refine gate_builtin (b := .append) (xs := #[.tmp 25, .tmp 31]) rfl ?_); (try (refine gate_guard (by rfl) ?_; dsimp only)); at_builtin; refine wp_append_ownB w w5 w.heap.size rfl (.tmp 25) (.tmp 31) 27 9 5 rfl Try.underlying27 Try.underlying9 info5 v' _ rfl HO5.out s2 rfl HL2.out HB5.out HZ5.out ?_; intro v6 w6 ho hb hz; have HO6 := Aside0.mk (HN2.out ▸ ho); have HB6 := Aside0.mk hb; have HZ6 := Aside0.mk hz; clear ho hb hz))
      go_roundg k1
      case measure => omega
      case rel => exact ⟨i + 1, by congr 1, ⟨by have := HI.out; omega⟩, HO6, HB6, HZ6⟩
end Go.Proofs.Ytgihecpobichbaa.Q
-- Written by a program of the session over the translation's print: functions as plain Lean, and that the machine's call comes to them.
namespace Go.Proofs.Ytgihecpobichbaa.Q
open Go.RowKit Go.Proofs.YtgihecpobichbaaW.PrintWords Go.Proofs.YtgihecpobichbaaW.PrintLast Go.Proofs.YtgihecpobichbaaW.PrintMore
attribute [local go_sem] max2_int min2_int max_two min_two max_three min_three max_four min_four   -- for this text's walks alone
set_option linter.unusedVariables false
set_option linter.unusedSimpArgs false

/-! ### headgateref04_Unword: function 95 -/
/-! ### headgateref03_Check: function 109 -/
mutual
def headgateref03_Check.j0 : Nat → Bool → Int → Int → ByteArray → Option (Int)
  | 0, _, _, _, _ => none
  | k + 1, x10, x104000, x104001, x104002 => if x10 = true then (some 30) else (if x104000 = 3 then (if x104001 = 0 then (if (x104002.size : Int) > 200 then (some 31) else (some 0)) else (some 31)) else (if x104002.toList = ([] : List UInt8) then (if x104000 = 0 then (if x104001 = 0 then (if x104000 = 2 then (headgateref03_Check.j1 k false) else (headgateref03_Check.j1 k false)) else (headgateref03_Check.j1 k true)) else (if x104000 = 2 then (if x104001 = 0 then (headgateref03_Check.j1 k false) else (headgateref03_Check.j1 k (x104001 != 1))) else (headgateref03_Check.j1 k false))) else (headgateref03_Check.j1 k true)))
def headgateref03_Check.j1 : Nat → Bool → Option (Int)
  | 0, _ => none
  | k + 1, x50 => if x50 = true then (some 31) else (some 0)
end
def headgateref03_Check.f (k : Nat) (a0_0 : Int) (a0_1 : Int) (a0_2 : ByteArray) : Option (Int) := if a0_0 < 0 then (headgateref03_Check.j0 k true a0_0 a0_1 a0_2) else (headgateref03_Check.j0 k (decide (a0_0 > 3)) a0_0 a0_1 a0_2)
set_option maxHeartbeats 8000000 in
set_option maxRecDepth 100000 in
theorem headgateref03_Check.calls (k : Nat) (a0_0 : Int) (a0_1 : Int) (a0_2 : ByteArray) (r : Int) (w : World) (h : headgateref03_Check.f k a0_0 a0_1 a0_2 = some r) :
    Calls Try.prog 109 #[.agg #[.int .i64 a0_0, .int .i64 a0_1, .string a0_2]] w fun e w' => e = .returned (.int .i64 r) ∧ Below w.heap.size w w' := by
  have hu116 := Try.underlying116
  have HB := Aside0.mk (Below.refl w.heap.size w)
  have H : (if a0_0 < 0 then (headgateref03_Check.j0 k true a0_0 a0_1 a0_2) else (headgateref03_Check.j0 k (decide (a0_0 > 3)) a0_0 a0_1 a0_2)) = some r := h
  clear h
  have HC2 := Aside0.mk H
  clear H
  go_enter Try.func109, Try.ntmps109
  go_upto_region 1 with (first | ((with_reducible refine gate_dst (N := 1) rfl ?_); (try (refine gate_guard (by rfl) ?_; dsimp only)); refine box_event ?hg (N := 1) ?hd (cs := #[.int .i64 a0_0, .int .i64 a0_1, .string a0_2]) (t := 116) ?hr ?_; (case hd => rfl); (case hg => rfl); (case hr => first | (go_simp; done) | (go_simp; rfl)); intro gb103 hg w3 hbox hb; have n0_ := Aside0.mk (below_step (by repeat (first | (with_reducible first | exact HB.out | apply below_alloc | apply pw_below_drewN | apply below_drew1) | exact HB.out)) hb); have n1_ := Aside0.mk (hbox); have n2_ := Aside0.mk ((by rw [hg]; exact (below_size (by repeat (first | (with_reducible first | exact HB.out | apply below_alloc | apply pw_below_drewN | apply below_drew1) | exact HB.out))) : w.heap.size ≤ gb103)); have n3_ := Aside0.mk ((by rw [hg]; exact (below_size (by repeat (first | (with_reducible first | exact HB.out | apply below_alloc | apply pw_below_drewN | apply below_drew1) | exact HB.out))) : w.heap.size ≤ gb103)); clear HB; have HB := n0_; have BK103 := n1_; have GW103 := n2_; have GE103 := n3_; clear n0_ n1_ n2_ n3_; clear hb hbox hg))
  (try simp only [Act.put, List.setIfInBounds_toArray, List.set_cons_zero, List.set_cons_succ])
  go_cut [10] (fun v10 wc => ∃ (kq : Nat) (x10_1 : Bool), v10 = .bool x10_1 ∧ Aside0 (headgateref03_Check.j0 kq x10_1 a0_0 a0_1 a0_2 = some r) ∧ Aside0 (kq ≤ k) ∧ Aside0 (wc.heap[gb103]? = some (.cells #[.int .i64 a0_0, .int .i64 a0_1, .string a0_2] 116 (0, 0))) ∧ Aside0 (Below w.heap.size w wc))
  case first =>
    have H := HC2.out
    clear HC2
    by_cases c4 : a0_0 < 0
    · rw [if_pos c4] at H
      have c4b0 : decide (a0_0 < 0) = true := decide_eq_true c4
      clear c4
      (first | rw [c4b0] | (simp only [i64_w, i32_w]; rw [c4b0]) | skip)
      have H' := Aside0.mk H
      clear H
      obtain ⟨hcz5_0, hcz5_1, hcz5_2, hfz5_0, hfz5_1, hfz5_2⟩ := bf3 BK103.out
      go_wp2
      go_meet
      case rel => exact ⟨_, (true), (by first | rfl | (simp; done) | (simp [*]; done) | (simp; rw [Bool.eq_iff_iff]; simp; done)), H', ⟨by first | omega | exact Nat.le_refl _⟩, ⟨by (with_reducible repeat (first | refine blk_drewN ?_ _ | refine blk_drew ?_ | refine blk_alloc ?_ _)); exact BK103.out⟩, ⟨by repeat (first | (with_reducible first | exact HB.out | apply below_alloc | apply pw_below_drewN | apply below_drew1 | refine below_set ?_ GE103.out) | exact HB.out)⟩⟩
    · rw [if_neg c4] at H
      have c4b0 : decide (a0_0 < 0) = false := decide_eq_false c4
      clear c4
      (first | rw [c4b0] | (simp only [i64_w, i32_w]; rw [c4b0]) | skip)
      have H' := Aside0.mk H
      clear H
      obtain ⟨hcz6_0, hcz6_1, hcz6_2, hfz6_0, hfz6_1, hfz6_2⟩ := bf3 BK103.out
      go_wp2
      go_meet
      case rel => exact ⟨_, (decide (a0_0 > 3)), (by first | rfl | (simp; done) | (simp [*]; done) | (simp; rw [Bool.eq_iff_iff]; simp; done)), H', ⟨by first | omega | exact Nat.le_refl _⟩, ⟨by (with_reducible repeat (first | refine blk_drewN ?_ _ | refine blk_drew ?_ | refine blk_alloc ?_ _)); exact BK103.out⟩, ⟨by repeat (first | (with_reducible first | exact HB.out | apply below_alloc | apply pw_below_drewN | apply below_drew1 | refine below_set ?_ GE103.out) | exact HB.out)⟩⟩
  case rest =>
    clear HC2
    try clear c1
    try clear p2
    try clear c4
    try clear c4b0
    try clear hcz5_0
    try clear hcz5_1
    try clear hcz5_2
    try clear hcz6_0
    try clear hcz6_1
    try clear hcz6_2
    try clear hfz5_0
    try clear hfz5_1
    try clear hfz5_2
    try clear hfz6_0
    try clear hfz6_1
    try clear hfz6_2
    obtain ⟨kq, x10_1, rfl, HA, HJ1, BK103, HB⟩ := hcut
    cases kq with
    | zero => exact absurd HA.out (by simp [headgateref03_Check.j0])
    | succ kj1 =>
      have H := HA.out
      clear HA
      simp only [headgateref03_Check.j0] at H
      by_cases c7 : x10_1 = true
      · subst c7
        have H1 : (some 30) = some r := by rw [if_pos rfl] at H; exact H
        clear H
        have H := H1
        clear H1
        obtain rfl := Option.some.inj H
        go_wp2
        go_ret
        exact ⟨by first | rfl | (simp [errW_none, errW_some] <;> rfl) | (simp [*, errW_none, errW_some] <;> rfl), by repeat (first | (with_reducible first | exact HB.out | apply below_alloc | apply pw_below_drewN | apply below_drew1 | refine below_set ?_ GE103.out) | exact HB.out)⟩
      · replace c7 := Bool.eq_false_iff.mpr c7
        subst c7
        have H1 : (if a0_0 = 3 then (if a0_1 = 0 then (if (a0_2.size : Int) > 200 then (some 31) else (some 0)) else (some 31)) else (if a0_2.toList = ([] : List UInt8) then (if a0_0 = 0 then (if a0_1 = 0 then (if a0_0 = 2 then (headgateref03_Check.j1 kj1 false) else (headgateref03_Check.j1 kj1 false)) else (headgateref03_Check.j1 kj1 true)) else (if a0_0 = 2 then (if a0_1 = 0 then (headgateref03_Check.j1 kj1 false) else (headgateref03_Check.j1 kj1 (a0_1 != 1))) else (headgateref03_Check.j1 kj1 false))) else (headgateref03_Check.j1 kj1 true))) = some r := by rw [if_neg (show ¬ (false = true) by decide)] at H; exact H
        clear H
        have H := H1
        clear H1
        by_cases c8 : a0_0 = 3
        · rw [if_pos c8] at H
          have c8b0 : (a0_0 == 3) = true := beq_iff_eq.mpr c8
          have c8b1 : (a0_0 != 3) = false := bne_eq_false_iff_eq.mpr c8
          clear c8
          by_cases c9 : a0_1 = 0
          · rw [if_pos c9] at H
            have c9b0 : (a0_1 == 0) = true := beq_iff_eq.mpr c9
            have c9b1 : (a0_1 != 0) = false := bne_eq_false_iff_eq.mpr c9
            clear c9
            by_cases c10 : (a0_2.size : Int) > 200
            · rw [if_pos c10] at H
              have c10b0 : decide (200 < (a0_2.size : Int)) = true := decide_eq_true c10
              have c10b1 : decide (200 < a0_2.size) = true := decide_eq_true (by omega)
              clear c10
              obtain rfl := Option.some.inj H
              obtain ⟨hcz11_0, hcz11_1, hcz11_2, hfz11_0, hfz11_1, hfz11_2⟩ := bf3 BK103.out
              go_wp2
              go_ret
              exact ⟨by first | rfl | (simp [errW_none, errW_some] <;> rfl) | (simp [*, errW_none, errW_some] <;> rfl), by repeat (first | (with_reducible first | exact HB.out | apply below_alloc | apply pw_below_drewN | apply below_drew1 | refine below_set ?_ GE103.out) | exact HB.out)⟩
            · rw [if_neg c10] at H
              have c10b0 : decide (200 < (a0_2.size : Int)) = false := decide_eq_false c10
              have c10b1 : decide (200 < a0_2.size) = false := decide_eq_false (by omega)
              clear c10
              obtain rfl := Option.some.inj H
              obtain ⟨hcz12_0, hcz12_1, hcz12_2, hfz12_0, hfz12_1, hfz12_2⟩ := bf3 BK103.out
              go_wp2
              go_ret
              exact ⟨by first | rfl | (simp [errW_none, errW_some] <;> rfl) | (simp [*, errW_none, errW_some] <;> rfl), by repeat (first | (with_reducible first | exact HB.out | apply below_alloc | apply pw_below_drewN | apply below_drew1 | refine below_set ?_ GE103.out) | exact HB.out)⟩
          · rw [if_neg c9] at H
            have c9b0 : (a0_1 == 0) = false := beq_eq_false_iff_ne.mpr c9
            have c9b1 : (a0_1 != 0) = true := bne_iff_ne.mpr c9
            obtain rfl := Option.some.inj H
            obtain ⟨hcz13_0, hcz13_1, hcz13_2, hfz13_0, hfz13_1, hfz13_2⟩ := bf3 BK103.out
            go_wp2
            go_ret
            exact ⟨by first | rfl | (simp [errW_none, errW_some] <;> rfl) | (simp [*, errW_none, errW_some] <;> rfl), by repeat (first | (with_reducible first | exact HB.out | apply below_alloc | apply pw_below_drewN | apply below_drew1 | refine below_set ?_ GE103.out) | exact HB.out)⟩
        · rw [if_neg c8] at H
          have c8b0 : (a0_0 == 3) = false := beq_eq_false_iff_ne.mpr c8
          have c8b1 : (a0_0 != 3) = true := bne_iff_ne.mpr c8
          have HC14 := Aside0.mk H
          clear H
          obtain ⟨hcz15_0, hcz15_1, hcz15_2, hfz15_0, hfz15_1, hfz15_2⟩ := bf3 BK103.out
          go_upto_region 7 with (fail)
          go_cut [50] (fun v50 wc => ∃ (kq : Nat) (x50_13 : Bool), v50 = .bool x50_13 ∧ Aside0 (headgateref03_Check.j1 kq x50_13 = some r) ∧ Aside0 (kq ≤ kj1) ∧ Aside0 (wc.heap[gb103]? = some (.cells #[.int .i64 a0_0, .int .i64 a0_1, .string a0_2] 116 (0, 0))) ∧ Aside0 (Below w.heap.size w wc))
          case first =>
            have H := HC14.out
            clear HC14
            by_cases c16 : a0_2.toList = ([] : List UInt8)
            · rw [if_pos c16] at H
              have c16b0 : (a0_2.toList == ([] : List UInt8)) = true := beq_iff_eq.mpr c16
              have c16b1 : (a0_2.toList != ([] : List UInt8)) = false := bne_eq_false_iff_eq.mpr c16
              clear c16
              (first | rw [c16b0] | (simp only [i64_w, i32_w]; rw [c16b0]) | skip)
              by_cases c17 : a0_0 = 0
              · rw [if_pos c17] at H
                have c17b0 : (a0_0 == 0) = true := beq_iff_eq.mpr c17
                have c17b1 : (a0_0 != 0) = false := bne_eq_false_iff_eq.mpr c17
                clear c17
                by_cases c18 : a0_1 = 0
                · rw [if_pos c18] at H
                  have c18b0 : (a0_1 == 0) = true := beq_iff_eq.mpr c18
                  have c18b1 : (a0_1 != 0) = false := bne_eq_false_iff_eq.mpr c18
                  clear c18
                  by_cases c19 : a0_0 = 2
                  · rw [if_pos c19] at H
                    have c19b0 : (a0_0 == 2) = true := beq_iff_eq.mpr c19
                    have c19b1 : (a0_0 != 2) = false := bne_eq_false_iff_eq.mpr c19
                    clear c19
                    have H' := Aside0.mk H
                    clear H
                    obtain ⟨hcz20_0, hcz20_1, hcz20_2, hfz20_0, hfz20_1, hfz20_2⟩ := bf3 BK103.out
                    go_wp2
                    go_meet
                    case rel => exact ⟨_, (false), (by first | rfl | (simp; done) | (simp [*]; done) | (simp; rw [Bool.eq_iff_iff]; simp; done)), H', ⟨by have := HJ1.out; first | omega | exact Nat.le_refl _⟩, ⟨by (with_reducible repeat (first | refine blk_drewN ?_ _ | refine blk_drew ?_ | refine blk_alloc ?_ _)); exact BK103.out⟩, ⟨by repeat (first | (with_reducible first | exact HB.out | apply below_alloc | apply pw_below_drewN | apply below_drew1 | refine below_set ?_ GE103.out) | exact HB.out)⟩⟩
                  · rw [if_neg c19] at H
                    have c19b0 : (a0_0 == 2) = false := beq_eq_false_iff_ne.mpr c19
                    have c19b1 : (a0_0 != 2) = true := bne_iff_ne.mpr c19
                    have H' := Aside0.mk H
                    clear H
                    obtain ⟨hcz21_0, hcz21_1, hcz21_2, hfz21_0, hfz21_1, hfz21_2⟩ := bf3 BK103.out
                    go_wp2
                    go_meet
                    case rel => exact ⟨_, (false), (by first | rfl | (simp; done) | (simp [*]; done) | (simp; rw [Bool.eq_iff_iff]; simp; done)), H', ⟨by have := HJ1.out; first | omega | exact Nat.le_refl _⟩, ⟨by (with_reducible repeat (first | refine blk_drewN ?_ _ | refine blk_drew ?_ | refine blk_alloc ?_ _)); exact BK103.out⟩, ⟨by repeat (first | (with_reducible first | exact HB.out | apply below_alloc | apply pw_below_drewN | apply below_drew1 | refine below_set ?_ GE103.out) | exact HB.out)⟩⟩
                · rw [if_neg c18] at H
                  have c18b0 : (a0_1 == 0) = false := beq_eq_false_iff_ne.mpr c18
                  have c18b1 : (a0_1 != 0) = true := bne_iff_ne.mpr c18
                  have H' := Aside0.mk H
                  clear H
                  obtain ⟨hcz22_0, hcz22_1, hcz22_2, hfz22_0, hfz22_1, hfz22_2⟩ := bf3 BK103.out
                  go_wp2
                  go_meet
                  case rel => exact ⟨_, (true), (by first | rfl | (simp; done) | (simp [*]; done) | (simp; rw [Bool.eq_iff_iff]; simp; done)), H', ⟨by have := HJ1.out; first | omega | exact Nat.le_refl _⟩, ⟨by (with_reducible repeat (first | refine blk_drewN ?_ _ | refine blk_drew ?_ | refine blk_alloc ?_ _)); exact BK103.out⟩, ⟨by repeat (first | (with_reducible first | exact HB.out | apply below_alloc | apply pw_below_drewN | apply below_drew1 | refine below_set ?_ GE103.out) | exact HB.out)⟩⟩
              · rw [if_neg c17] at H
                have c17b0 : (a0_0 == 0) = false := beq_eq_false_iff_ne.mpr c17
                have c17b1 : (a0_0 != 0) = true := bne_iff_ne.mpr c17
                by_cases c23 : a0_0 = 2
                · rw [if_pos c23] at H
                  have c23b0 : (a0_0 == 2) = true := beq_iff_eq.mpr c23
                  have c23b1 : (a0_0 != 2) = false := bne_eq_false_iff_eq.mpr c23
                  clear c23
                  by_cases c24 : a0_1 = 0
                  · rw [if_pos c24] at H
                    have c24b0 : (a0_1 == 0) = true := beq_iff_eq.mpr c24
                    have c24b1 : (a0_1 != 0) = false := bne_eq_false_iff_eq.mpr c24
                    clear c24
                    have H' := Aside0.mk H
                    clear H
                    obtain ⟨hcz25_0, hcz25_1, hcz25_2, hfz25_0, hfz25_1, hfz25_2⟩ := bf3 BK103.out
                    go_wp2
                    go_meet
                    case rel => exact ⟨_, (false), (by first | rfl | (simp; done) | (simp [*]; done) | (simp; rw [Bool.eq_iff_iff]; simp; done)), H', ⟨by have := HJ1.out; first | omega | exact Nat.le_refl _⟩, ⟨by (with_reducible repeat (first | refine blk_drewN ?_ _ | refine blk_drew ?_ | refine blk_alloc ?_ _)); exact BK103.out⟩, ⟨by repeat (first | (with_reducible first | exact HB.out | apply below_alloc | apply pw_below_drewN | apply below_drew1 | refine below_set ?_ GE103.out) | exact HB.out)⟩⟩
                  · rw [if_neg c24] at H
                    have c24b0 : (a0_1 == 0) = false := beq_eq_false_iff_ne.mpr c24
                    have c24b1 : (a0_1 != 0) = true := bne_iff_ne.mpr c24
                    have H' := Aside0.mk H
                    clear H
                    obtain ⟨hcz26_0, hcz26_1, hcz26_2, hfz26_0, hfz26_1, hfz26_2⟩ := bf3 BK103.out
                    go_wp2
                    go_meet
                    case rel => exact ⟨_, ((a0_1 != 1)), (by first | rfl | (simp; done) | (simp [*]; done) | (simp; rw [Bool.eq_iff_iff]; simp; done)), H', ⟨by have := HJ1.out; first | omega | exact Nat.le_refl _⟩, ⟨by (with_reducible repeat (first | refine blk_drewN ?_ _ | refine blk_drew ?_ | refine blk_alloc ?_ _)); exact BK103.out⟩, ⟨by repeat (first | (with_reducible first | exact HB.out | apply below_alloc | apply pw_below_drewN | apply below_drew1 | refine below_set ?_ GE103.out) | exact HB.out)⟩⟩
                · rw [if_neg c23] at H
                  have c23b0 : (a0_0 == 2) = false := beq_eq_false_iff_ne.mpr c23
                  have c23b1 : (a0_0 != 2) = true := bne_iff_ne.mpr c23
                  have H' := Aside0.mk H
                  clear H
                  obtain ⟨hcz27_0, hcz27_1, hcz27_2, hfz27_0, hfz27_1, hfz27_2⟩ := bf3 BK103.out
                  go_wp2
                  go_meet
                  case rel => exact ⟨_, (false), (by first | rfl | (simp; done) | (simp [*]; done) | (simp; rw [Bool.eq_iff_iff]; simp; done)), H', ⟨by have := HJ1.out; first | omega | exact Nat.le_refl _⟩, ⟨by (with_reducible repeat (first | refine blk_drewN ?_ _ | refine blk_drew ?_ | refine blk_alloc ?_ _)); exact BK103.out⟩, ⟨by repeat (first | (with_reducible first | exact HB.out | apply below_alloc | apply pw_below_drewN | apply below_drew1 | refine below_set ?_ GE103.out) | exact HB.out)⟩⟩
            · rw [if_neg c16] at H
              have c16b0 : (a0_2.toList == ([] : List UInt8)) = false := beq_eq_false_iff_ne.mpr c16
              have c16b1 : (a0_2.toList != ([] : List UInt8)) = true := bne_iff_ne.mpr c16
              (first | rw [c16b0] | (simp only [i64_w, i32_w]; rw [c16b0]) | skip)
              have H' := Aside0.mk H
              clear H
              obtain ⟨hcz28_0, hcz28_1, hcz28_2, hfz28_0, hfz28_1, hfz28_2⟩ := bf3 BK103.out
              go_wp2
              go_meet
              case rel => exact ⟨_, (true), (by first | rfl | (simp; done) | (simp [*]; done) | (simp; rw [Bool.eq_iff_iff]; simp; done)), H', ⟨by have := HJ1.out; first | omega | exact Nat.le_refl _⟩, ⟨by (with_reducible repeat (first | refine blk_drewN ?_ _ | refine blk_drew ?_ | refine blk_alloc ?_ _)); exact BK103.out⟩, ⟨by repeat (first | (with_reducible first | exact HB.out | apply below_alloc | apply pw_below_drewN | apply below_drew1 | refine below_set ?_ GE103.out) | exact HB.out)⟩⟩
          case rest =>
            clear HC14
            try clear c1
            try clear c2
            try clear p2
            try clear c4
            try clear c4b0
            try clear c7
            try clear c8
            try clear c8b0
            try clear c8b1
            try clear c9
            try clear c9b0
            try clear c9b1
            try clear c10
            try clear c10b0
            try clear c10b1
            try clear c16
            try clear c16b0
            try clear c16b1
            try clear c17
            try clear c17b0
            try clear c17b1
            try clear c18
            try clear c18b0
            try clear c18b1
            try clear c19
            try clear c19b0
            try clear c19b1
            try clear c23
            try clear c23b0
            try clear c23b1
            try clear c24
            try clear c24b0
            try clear c24b1
            try clear hcz11_0
            try clear hcz11_1
            try clear hcz11_2
            try clear hcz12_0
            try clear hcz12_1
            try clear hcz12_2
            try clear hcz13_0
            try clear hcz13_1
            try clear hcz13_2
            try clear hcz15_0
            try clear hcz15_1
            try clear hcz15_2
            try clear hcz20_0
            try clear hcz20_1
            try clear hcz20_2
            try clear hcz21_0
            try clear hcz21_1
            try clear hcz21_2
            try clear hcz22_0
            try clear hcz22_1
            try clear hcz22_2
            try clear hcz25_0
            try clear hcz25_1
            try clear hcz25_2
            try clear hcz26_0
            try clear hcz26_1
            try clear hcz26_2
            try clear hcz27_0
            try clear hcz27_1
            try clear hcz27_2
            try clear hcz28_0
            try clear hcz28_1
            try clear hcz28_2
            try clear hcz5_0
            try clear hcz5_1
            try clear hcz5_2
            try clear hcz6_0
            try clear hcz6_1
            try clear hcz6_2
            try clear hfz11_0
            try clear hfz11_1
            try clear hfz11_2
            try clear hfz12_0
            try clear hfz12_1
            try clear hfz12_2
            try clear hfz13_0
            try clear hfz13_1
            try clear hfz13_2
            try clear hfz15_0
            try clear hfz15_1
            try clear hfz15_2
            try clear hfz20_0
            try clear hfz20_1
            try clear hfz20_2
            try clear hfz21_0
            try clear hfz21_1
            try clear hfz21_2
            try clear hfz22_0
            try clear hfz22_1
            try clear hfz22_2
            try clear hfz25_0
            try clear hfz25_1
            try clear hfz25_2
            try clear hfz26_0
            try clear hfz26_1
            try clear hfz26_2
            try clear hfz27_0
            try clear hfz27_1
            try clear hfz27_2
            try clear hfz28_0
            try clear hfz28_1
            try clear hfz28_2
            try clear hfz5_0
            try clear hfz5_1
            try clear hfz5_2
            try clear hfz6_0
            try clear hfz6_1
            try clear hfz6_2
            try clear p2
            obtain ⟨kq, x50_13, rfl, HA, HJ13, BK103, HB⟩ := hcut
            cases kq with
            | zero => exact absurd HA.out (by simp [headgateref03_Check.j1])
            | succ kj13 =>
              have H := HA.out
              clear HA
              simp only [headgateref03_Check.j1] at H
              by_cases c29 : x50_13 = true
              · subst c29
                have H1 : (some 31) = some r := by rw [if_pos rfl] at H; exact H
                clear H
                have H := H1
                clear H1
                obtain rfl := Option.some.inj H
                go_wp2
                go_ret
                exact ⟨by first | rfl | (simp [errW_none, errW_some] <;> rfl) | (simp [*, errW_none, errW_some] <;> rfl), by repeat (first | (with_reducible first | exact HB.out | apply below_alloc | apply pw_below_drewN | apply below_drew1 | refine below_set ?_ GE103.out) | exact HB.out)⟩
              · replace c29 := Bool.eq_false_iff.mpr c29
                subst c29
                have H1 : (some 0) = some r := by rw [if_neg (show ¬ (false = true) by decide)] at H; exact H
                clear H
                have H := H1
                clear H1
                obtain rfl := Option.some.inj H
                go_wp2
                go_ret
                exact ⟨by first | rfl | (simp [errW_none, errW_some] <;> rfl) | (simp [*, errW_none, errW_some] <;> rfl), by repeat (first | (with_reducible first | exact HB.out | apply below_alloc | apply pw_below_drewN | apply below_drew1 | refine below_set ?_ GE103.out) | exact HB.out)⟩

end Go.Proofs.Ytgihecpobichbaa.Q
/- The document's readers of texts and of lists, in plain words: no program in it. -/
namespace Go.Proofs.Ytgihecpobichbaa.Q
open Go.RowKit Go.Proofs.YtgihecpobichbaaW.PrintWords Go.Proofs.YtgihecpobichbaaW.PrintLast Go.Proofs.YtgihecpobichbaaW.PrintMore
set_option linter.unusedVariables false
set_option linter.unusedSimpArgs false

end Go.Proofs.Ytgihecpobichbaa.Q
-- Written by a program of the session over the translation's print: functions as plain Lean, and that the machine's call comes to them.
namespace Go.Proofs.Ytgihecpobichbaa.Q
open Go.RowKit Go.Proofs.YtgihecpobichbaaW.PrintWords Go.Proofs.YtgihecpobichbaaW.PrintLast Go.Proofs.YtgihecpobichbaaW.PrintMore
attribute [local go_sem] max2_int min2_int max_two min_two max_three min_three max_four min_four   -- for this text's walks alone
set_option linter.unusedVariables false
set_option linter.unusedSimpArgs false

/-! ### headgateref04_Unvalue: function 94 -/
/-! ### headgateref04_Unrows: function 33 -/
end Go.Proofs.Ytgihecpobichbaa.Q
