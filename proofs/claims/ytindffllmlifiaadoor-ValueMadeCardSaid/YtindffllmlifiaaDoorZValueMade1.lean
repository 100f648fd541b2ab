/- Texts of the claim, put together. -/
import Derived.Test.YtindffllmlifiaaDoorK
import Derived.Lib.AppendStr
import Derived.OwnWalkIn
import Derived.Maps.AppendAt
import Derived.Test.YtindffllmlifiaaDoorWMore
import Derived.Laws.Externs
import Derived.Lib.Bytealg
import Derived.Lib.Strings
import Derived.WalkMore
import Derived.ScopeJumps
import Derived.RangeFuncNested
import Derived.RangeFuncBox
import Derived.RangeFuncLeaves
import Derived.Shelf.Abstract
import Derived.WalkKit
import Derived.TacticsInMore
import Derived.LoopNIn
import Derived.LoopIn
import Derived.RangeFuncOwn
import Derived.Shelf.Strings.Builder1
import Derived.Shelf.Strings.Builder2
import Derived.Shelf.Small.Strs
import Derived.Shelf.Strings.Search3
import Derived.Shelf.Strings.Count
import Derived.Shelf.Strings.Replace
import Derived.Ground.Names2Prog
import Derived.Test.YtindffllmlifiaaDoorProg
import Derived.Lib.ReplaceLaws
import Derived.Deep.LoopGhost
import Derived.RangeFuncWrites
import Derived.RangeFuncCalls
import Derived.OrdersIn
-- Written by a program of the session over the translation's print: functions as plain Lean, and that the machine's call comes to them.
namespace Go.Proofs.YtindffllmlifiaaDoor.Q
open Go.RowKit Go.Proofs.YtindffllmlifiaaDoorW.PrintWords Go.Proofs.YtindffllmlifiaaDoorW.PrintLast Go.Proofs.YtindffllmlifiaaDoorW.PrintMore
attribute [local go_sem] max2_int min2_int max_two min_two max_three min_three max_four min_four   -- for this text's walks alone
set_option linter.unusedVariables false
set_option linter.unusedSimpArgs false

/-! ### value_Check: function 11 -/
mutual
def value_Check.j0 : Nat → Bool → Int → Int → ByteArray → Option (Int)
  | 0, _, _, _, _ => none
  | k + 1, x3, x102000, x102001, x102002 => if x3 = true then (if x102000 = 3 then (value_Check.j1 k false) else (value_Check.j1 k (x102002.toList != ([] : List UInt8)))) else (value_Check.j1 k true)
def value_Check.j1 : Nat → Bool → Option (Int)
  | 0, _ => none
  | k + 1, x45 => if x45 = true then (some 31) else (some 0)
end
def value_Check.f (k : Nat) (a0_0 : Int) (a0_1 : Int) (a0_2 : ByteArray) : Option (Int) := if a0_0 = 0 then (value_Check.j0 k (a0_1 == 0) a0_0 a0_1 a0_2) else (if a0_0 = 1 then (value_Check.j0 k true a0_0 a0_1 a0_2) else (if a0_0 = 2 then (if a0_1 = 0 then (value_Check.j0 k true a0_0 a0_1 a0_2) else (value_Check.j0 k (a0_1 == 1) a0_0 a0_1 a0_2)) else (if a0_0 = 3 then (if a0_1 = 0 then (value_Check.j0 k (decide ((a0_2.size : Int) ≤ 200)) a0_0 a0_1 a0_2) else (value_Check.j0 k false a0_0 a0_1 a0_2)) else (some 30))))
set_option maxHeartbeats 8000000 in
set_option maxRecDepth 100000 in
theorem value_Check.calls (k : Nat) (a0_0 : Int) (a0_1 : Int) (a0_2 : ByteArray) (r : Int) (w : World) (h : value_Check.f k a0_0 a0_1 a0_2 = some r) :
    Calls Tryd.prog 11 #[.agg #[.int .i64 a0_0, .int .i64 a0_1, .string a0_2]] w fun e w' => e = .returned (.int .i64 r) ∧ Below w.heap.size w w' := by
  have hu23 := Tryd.underlying23
  have HB := Aside0.mk (Below.refl w.heap.size w)
  have H : (if a0_0 = 0 then (value_Check.j0 k (a0_1 == 0) a0_0 a0_1 a0_2) else (if a0_0 = 1 then (value_Check.j0 k true a0_0 a0_1 a0_2) else (if a0_0 = 2 then (if a0_1 = 0 then (value_Check.j0 k true a0_0 a0_1 a0_2) else (value_Check.j0 k (a0_1 == 1) a0_0 a0_1 a0_2)) else (if a0_0 = 3 then (if a0_1 = 0 then (value_Check.j0 k (decide ((a0_2.size : Int) ≤ 200)) a0_0 a0_1 a0_2) else (value_Check.j0 k false a0_0 a0_1 a0_2)) else (some 30))))) = some r := h
  clear h
  have HC2 := Aside0.mk H
  clear H
  go_enter Tryd.func11, Tryd.ntmps11
  go_upto_block 0 with (first | ((with_reducible refine gate_dst (N := 1) rfl ?_); (try (refine gate_guard (by rfl) ?_; dsimp only)); refine box_event ?hg (N := 1) ?hd (cs := #[.int .i64 a0_0, .int .i64 a0_1, .string a0_2]) (t := 23) ?hr ?_; (case hd => rfl); (case hg => rfl); (case hr => first | (go_simp; done) | (go_simp; rfl)); intro gb101 hg w3 hbox hb; have n0_ := Aside0.mk (below_step (by repeat (first | (with_reducible first | exact HB.out | apply below_alloc | apply pw_below_drewN | apply below_drew1) | exact HB.out)) hb); have n1_ := Aside0.mk (hbox); have n2_ := Aside0.mk ((by rw [hg]; exact (below_size (by repeat (first | (with_reducible first | exact HB.out | apply below_alloc | apply pw_below_drewN | apply below_drew1) | exact HB.out))) : w.heap.size ≤ gb101)); have n3_ := Aside0.mk ((by rw [hg]; exact (below_size (by repeat (first | (with_reducible first | exact HB.out | apply below_alloc | apply pw_below_drewN | apply below_drew1) | exact HB.out))) : w.heap.size ≤ gb101)); clear HB; have HB := n0_; have BK101 := n1_; have GW101 := n2_; have GE101 := n3_; clear n0_ n1_ n2_ n3_; clear hb hbox hg; obtain ⟨hcz4_0, hcz4_1, hcz4_2, hfz4_0, hfz4_1, hfz4_2⟩ := bf3 BK101.out))
  (try simp only [Act.put, List.setIfInBounds_toArray, List.set_cons_zero, List.set_cons_succ])
  go_cut [3] (fun v3 wc => ∃ (kq : Nat) (x3_1 : Bool), v3 = .bool x3_1 ∧ Aside0 (value_Check.j0 kq x3_1 a0_0 a0_1 a0_2 = some r) ∧ Aside0 (kq ≤ k) ∧ Aside0 (wc.heap[gb101]? = some (.cells #[.int .i64 a0_0, .int .i64 a0_1, .string a0_2] 23 (0, 0))) ∧ Aside0 (Below w.heap.size w wc))
  case first =>
    have H := HC2.out
    clear HC2
    by_cases c5 : a0_0 = 0
    · rw [if_pos c5] at H
      have c5b0 : (a0_0 == 0) = true := beq_iff_eq.mpr c5
      have c5b1 : (a0_0 != 0) = false := bne_eq_false_iff_eq.mpr c5
      clear c5
      (first | rw [c5b0] | (simp only [i64_w, i32_w]; rw [c5b0]) | skip)
      have H' := Aside0.mk H
      clear H
      obtain ⟨hcz6_0, hcz6_1, hcz6_2, hfz6_0, hfz6_1, hfz6_2⟩ := bf3 BK101.out
      go_wp2
      go_meet
      case rel => exact ⟨_, ((a0_1 == 0)), (by first | rfl | (simp; done) | (simp [*]; done) | (simp; rw [Bool.eq_iff_iff]; simp; done)), H', ⟨by first | omega | exact Nat.le_refl _⟩, ⟨by (with_reducible repeat (first | refine blk_drewN ?_ _ | refine blk_drew ?_ | refine blk_alloc ?_ _)); exact BK101.out⟩, ⟨by repeat (first | (with_reducible first | exact HB.out | apply below_alloc | apply pw_below_drewN | apply below_drew1 | refine below_set ?_ GE101.out) | exact HB.out)⟩⟩
    · rw [if_neg c5] at H
      have c5b0 : (a0_0 == 0) = false := beq_eq_false_iff_ne.mpr c5
      have c5b1 : (a0_0 != 0) = true := bne_iff_ne.mpr c5
      (first | rw [c5b0] | (simp only [i64_w, i32_w]; rw [c5b0]) | skip)
      by_cases c7 : a0_0 = 1
      · rw [if_pos c7] at H
        have c7b0 : (a0_0 == 1) = true := beq_iff_eq.mpr c7
        have c7b1 : (a0_0 != 1) = false := bne_eq_false_iff_eq.mpr c7
        clear c7
        have H' := Aside0.mk H
        clear H
        go_wp2
        go_meet
        case rel => exact ⟨_, (true), (by first | rfl | (simp; done) | (simp [*]; done) | (simp; rw [Bool.eq_iff_iff]; simp; done)), H', ⟨by first | omega | exact Nat.le_refl _⟩, ⟨by (with_reducible repeat (first | refine blk_drewN ?_ _ | refine blk_drew ?_ | refine blk_alloc ?_ _)); exact BK101.out⟩, ⟨by repeat (first | (with_reducible first | exact HB.out | apply below_alloc | apply pw_below_drewN | apply below_drew1 | refine below_set ?_ GE101.out) | exact HB.out)⟩⟩
      · rw [if_neg c7] at H
        have c7b0 : (a0_0 == 1) = false := beq_eq_false_iff_ne.mpr c7
        have c7b1 : (a0_0 != 1) = true := bne_iff_ne.mpr c7
        by_cases c8 : a0_0 = 2
        · rw [if_pos c8] at H
          have c8b0 : (a0_0 == 2) = true := beq_iff_eq.mpr c8
          have c8b1 : (a0_0 != 2) = false := bne_eq_false_iff_eq.mpr c8
          clear c8
          by_cases c9 : a0_1 = 0
          · rw [if_pos c9] at H
            have c9b0 : (a0_1 == 0) = true := beq_iff_eq.mpr c9
            have c9b1 : (a0_1 != 0) = false := bne_eq_false_iff_eq.mpr c9
            clear c9
            have H' := Aside0.mk H
            clear H
            obtain ⟨hcz10_0, hcz10_1, hcz10_2, hfz10_0, hfz10_1, hfz10_2⟩ := bf3 BK101.out
            go_wp2
            go_meet
            case rel => exact ⟨_, (true), (by first | rfl | (simp; done) | (simp [*]; done) | (simp; rw [Bool.eq_iff_iff]; simp; done)), H', ⟨by first | omega | exact Nat.le_refl _⟩, ⟨by (with_reducible repeat (first | refine blk_drewN ?_ _ | refine blk_drew ?_ | refine blk_alloc ?_ _)); exact BK101.out⟩, ⟨by repeat (first | (with_reducible first | exact HB.out | apply below_alloc | apply pw_below_drewN | apply below_drew1 | refine below_set ?_ GE101.out) | exact HB.out)⟩⟩
          · rw [if_neg c9] at H
            have c9b0 : (a0_1 == 0) = false := beq_eq_false_iff_ne.mpr c9
            have c9b1 : (a0_1 != 0) = true := bne_iff_ne.mpr c9
            have H' := Aside0.mk H
            clear H
            obtain ⟨hcz11_0, hcz11_1, hcz11_2, hfz11_0, hfz11_1, hfz11_2⟩ := bf3 BK101.out
            go_wp2
            go_meet
            case rel => exact ⟨_, ((a0_1 == 1)), (by first | rfl | (simp; done) | (simp [*]; done) | (simp; rw [Bool.eq_iff_iff]; simp; done)), H', ⟨by first | omega | exact Nat.le_refl _⟩, ⟨by (with_reducible repeat (first | refine blk_drewN ?_ _ | refine blk_drew ?_ | refine blk_alloc ?_ _)); exact BK101.out⟩, ⟨by repeat (first | (with_reducible first | exact HB.out | apply below_alloc | apply pw_below_drewN | apply below_drew1 | refine below_set ?_ GE101.out) | exact HB.out)⟩⟩
        · rw [if_neg c8] at H
          have c8b0 : (a0_0 == 2) = false := beq_eq_false_iff_ne.mpr c8
          have c8b1 : (a0_0 != 2) = true := bne_iff_ne.mpr c8
          by_cases c12 : a0_0 = 3
          · rw [if_pos c12] at H
            have c12b0 : (a0_0 == 3) = true := beq_iff_eq.mpr c12
            have c12b1 : (a0_0 != 3) = false := bne_eq_false_iff_eq.mpr c12
            clear c12
            by_cases c13 : a0_1 = 0
            · rw [if_pos c13] at H
              have c13b0 : (a0_1 == 0) = true := beq_iff_eq.mpr c13
              have c13b1 : (a0_1 != 0) = false := bne_eq_false_iff_eq.mpr c13
              clear c13
              have H' := Aside0.mk H
              clear H
              obtain ⟨hcz14_0, hcz14_1, hcz14_2, hfz14_0, hfz14_1, hfz14_2⟩ := bf3 BK101.out
              go_wp2
              go_meet
              case rel => exact ⟨_, (decide ((a0_2.size : Int) ≤ 200)), (by first | rfl | (simp; done) | (simp [*]; done) | (simp; rw [Bool.eq_iff_iff]; simp; done)), H', ⟨by first | omega | exact Nat.le_refl _⟩, ⟨by (with_reducible repeat (first | refine blk_drewN ?_ _ | refine blk_drew ?_ | refine blk_alloc ?_ _)); exact BK101.out⟩, ⟨by repeat (first | (with_reducible first | exact HB.out | apply below_alloc | apply pw_below_drewN | apply below_drew1 | refine below_set ?_ GE101.out) | exact HB.out)⟩⟩
            · rw [if_neg c13] at H
              have c13b0 : (a0_1 == 0) = false := beq_eq_false_iff_ne.mpr c13
              have c13b1 : (a0_1 != 0) = true := bne_iff_ne.mpr c13
              have H' := Aside0.mk H
              clear H
              obtain ⟨hcz15_0, hcz15_1, hcz15_2, hfz15_0, hfz15_1, hfz15_2⟩ := bf3 BK101.out
              go_wp2
              go_meet
              case rel => exact ⟨_, (false), (by first | rfl | (simp; done) | (simp [*]; done) | (simp; rw [Bool.eq_iff_iff]; simp; done)), H', ⟨by first | omega | exact Nat.le_refl _⟩, ⟨by (with_reducible repeat (first | refine blk_drewN ?_ _ | refine blk_drew ?_ | refine blk_alloc ?_ _)); exact BK101.out⟩, ⟨by repeat (first | (with_reducible first | exact HB.out | apply below_alloc | apply pw_below_drewN | apply below_drew1 | refine below_set ?_ GE101.out) | exact HB.out)⟩⟩
          · rw [if_neg c12] at H
            have c12b0 : (a0_0 == 3) = false := beq_eq_false_iff_ne.mpr c12
            have c12b1 : (a0_0 != 3) = true := bne_iff_ne.mpr c12
            obtain rfl := Option.some.inj H
            go_wp2
            go_ret
            exact ⟨by first | rfl | (simp [errW_none, errW_some] <;> rfl) | (simp [*, errW_none, errW_some] <;> rfl), by repeat (first | (with_reducible first | exact HB.out | apply below_alloc | apply pw_below_drewN | apply below_drew1 | refine below_set ?_ GE101.out) | exact HB.out)⟩
  case rest =>
    clear HC2
    try clear c1
    try clear p2
    try clear c5
    try clear c5b0
    try clear c5b1
    try clear c7
    try clear c7b0
    try clear c7b1
    try clear c8
    try clear c8b0
    try clear c8b1
    try clear c9
    try clear c9b0
    try clear c9b1
    try clear c11
    try clear c12
    try clear c12b0
    try clear c12b1
    try clear c13
    try clear c13b0
    try clear c13b1
    try clear hcz10_0
    try clear hcz10_1
    try clear hcz10_2
    try clear hcz11_0
    try clear hcz11_1
    try clear hcz11_2
    try clear hcz14_0
    try clear hcz14_1
    try clear hcz14_2
    try clear hcz15_0
    try clear hcz15_1
    try clear hcz15_2
    try clear hcz4_0
    try clear hcz4_1
    try clear hcz4_2
    try clear hcz6_0
    try clear hcz6_1
    try clear hcz6_2
    try clear hfz10_0
    try clear hfz10_1
    try clear hfz10_2
    try clear hfz11_0
    try clear hfz11_1
    try clear hfz11_2
    try clear hfz14_0
    try clear hfz14_1
    try clear hfz14_2
    try clear hfz15_0
    try clear hfz15_1
    try clear hfz15_2
    try clear hfz4_0
    try clear hfz4_1
    try clear hfz4_2
    try clear hfz6_0
    try clear hfz6_1
    try clear hfz6_2
    obtain ⟨kq, x3_1, rfl, HA, HJ1, BK101, HB⟩ := hcut
    cases kq with
    | zero => exact absurd HA.out (by simp [value_Check.j0])
    | succ kj1 =>
      have H := HA.out
      clear HA
      simp only [value_Check.j0] at H
      have HC16 := Aside0.mk H
      clear H
      go_upto_region 11 with (fail)
      go_cut [45] (fun v45 wc => ∃ (kq : Nat) (x45_15 : Bool), v45 = .bool x45_15 ∧ Aside0 (value_Check.j1 kq x45_15 = some r) ∧ Aside0 (kq ≤ kj1) ∧ Aside0 (wc.heap[gb101]? = some (.cells #[.int .i64 a0_0, .int .i64 a0_1, .string a0_2] 23 (0, 0))) ∧ Aside0 (Below w.heap.size w wc))
      case first =>
        have H := HC16.out
        clear HC16
        by_cases c17 : x3_1 = true
        · subst c17
          have H1 : (if a0_0 = 3 then (value_Check.j1 kj1 false) else (value_Check.j1 kj1 (a0_2.toList != ([] : List UInt8)))) = some r := by rw [if_pos rfl] at H; exact H
          clear H
          have H := H1
          clear H1
          by_cases c18 : a0_0 = 3
          · rw [if_pos c18] at H
            have c18b0 : (a0_0 == 3) = true := beq_iff_eq.mpr c18
            have c18b1 : (a0_0 != 3) = false := bne_eq_false_iff_eq.mpr c18
            clear c18
            (first | rw [c18b0] | (simp only [i64_w, i32_w]; rw [c18b0]) | skip)
            have H' := Aside0.mk H
            clear H
            obtain ⟨hcz19_0, hcz19_1, hcz19_2, hfz19_0, hfz19_1, hfz19_2⟩ := bf3 BK101.out
            go_wp2
            go_meet
            case rel => exact ⟨_, (false), (by first | rfl | (simp; done) | (simp [*]; done) | (simp; rw [Bool.eq_iff_iff]; simp; done)), H', ⟨by have := HJ1.out; first | omega | exact Nat.le_refl _⟩, ⟨by (with_reducible repeat (first | refine blk_drewN ?_ _ | refine blk_drew ?_ | refine blk_alloc ?_ _)); exact BK101.out⟩, ⟨by repeat (first | (with_reducible first | exact HB.out | apply below_alloc | apply pw_below_drewN | apply below_drew1 | refine below_set ?_ GE101.out) | exact HB.out)⟩⟩
          · rw [if_neg c18] at H
            have c18b0 : (a0_0 == 3) = false := beq_eq_false_iff_ne.mpr c18
            have c18b1 : (a0_0 != 3) = true := bne_iff_ne.mpr c18
            (first | rw [c18b0] | (simp only [i64_w, i32_w]; rw [c18b0]) | skip)
            have H' := Aside0.mk H
            clear H
            obtain ⟨hcz20_0, hcz20_1, hcz20_2, hfz20_0, hfz20_1, hfz20_2⟩ := bf3 BK101.out
            go_wp2
            go_meet
            case rel => exact ⟨_, ((a0_2.toList != ([] : List UInt8))), (by first | rfl | (simp; done) | (simp [*]; done) | (simp; rw [Bool.eq_iff_iff]; simp; done)), H', ⟨by have := HJ1.out; first | omega | exact Nat.le_refl _⟩, ⟨by (with_reducible repeat (first | refine blk_drewN ?_ _ | refine blk_drew ?_ | refine blk_alloc ?_ _)); exact BK101.out⟩, ⟨by repeat (first | (with_reducible first | exact HB.out | apply below_alloc | apply pw_below_drewN | apply below_drew1 | refine below_set ?_ GE101.out) | exact HB.out)⟩⟩
        · replace c17 := Bool.eq_false_iff.mpr c17
          subst c17
          have H1 : (value_Check.j1 kj1 true) = some r := by rw [if_neg (show ¬ (false = true) by decide)] at H; exact H
          clear H
          have H := H1
          clear H1
          have H' := Aside0.mk H
          clear H
          go_wp2
          go_meet
          case rel => exact ⟨_, (true), (by first | rfl | (simp; done) | (simp [*]; done) | (simp; rw [Bool.eq_iff_iff]; simp; done)), H', ⟨by have := HJ1.out; first | omega | exact Nat.le_refl _⟩, ⟨by (with_reducible repeat (first | refine blk_drewN ?_ _ | refine blk_drew ?_ | refine blk_alloc ?_ _)); exact BK101.out⟩, ⟨by repeat (first | (with_reducible first | exact HB.out | apply below_alloc | apply pw_below_drewN | apply below_drew1 | refine below_set ?_ GE101.out) | exact HB.out)⟩⟩
      case rest =>
        clear HC16
        try clear c1
        try clear p2
        try clear c5
        try clear c5b0
        try clear c5b1
        try clear c7
        try clear c7b0
        try clear c7b1
        try clear c8
        try clear c8b0
        try clear c8b1
        try clear c9
        try clear c9b0
        try clear c9b1
        try clear c11
        try clear c12
        try clear c12b0
        try clear c12b1
        try clear c13
        try clear c13b0
        try clear c13b1
        try clear c17
        try clear c18
        try clear c18b0
        try clear c18b1
        try clear hcz10_0
        try clear hcz10_1
        try clear hcz10_2
        try clear hcz11_0
        try clear hcz11_1
        try clear hcz11_2
        try clear hcz14_0
        try clear hcz14_1
        try clear hcz14_2
        try clear hcz15_0
        try clear hcz15_1
        try clear hcz15_2
        try clear hcz19_0
        try clear hcz19_1
        try clear hcz19_2
        try clear hcz20_0
        try clear hcz20_1
        try clear hcz20_2
        try clear hcz4_0
        try clear hcz4_1
        try clear hcz4_2
        try clear hcz6_0
        try clear hcz6_1
        try clear hcz6_2
        try clear hfz10_0
        try clear hfz10_1
        try clear hfz10_2
        try clear hfz11_0
        try clear hfz11_1
        try clear hfz11_2
        try clear hfz14_0
        try clear hfz14_1
        try clear hfz14_2
        try clear hfz15_0
        try clear hfz15_1
        try clear hfz15_2
        try clear hfz19_0
        try clear hfz19_1
        try clear hfz19_2
        try clear hfz20_0
        try clear hfz20_1
        try clear hfz20_2
        try clear hfz4_0
        try clear hfz4_1
        try clear hfz4_2
        try clear hfz6_0
        try clear hfz6_1
        try clear hfz6_2
        try clear p2
        obtain ⟨kq, x45_15, rfl, HA, HJ15, BK101, HB⟩ := hcut
        cases kq with
        | zero => exact absurd HA.out (by simp [value_Check.j1])
        | succ kj15 =>
          have H := HA.out
          clear HA
          simp only [value_Check.j1] at H
          by_cases c21 : x45_15 = true
          · subst c21
            have H1 : (some 31) = some r := by rw [if_pos rfl] at H; exact H
            clear H
            have H := H1
            clear H1
            obtain rfl := Option.some.inj H
            go_wp2
            go_ret
            exact ⟨by first | rfl | (simp [errW_none, errW_some] <;> rfl) | (simp [*, errW_none, errW_some] <;> rfl), by repeat (first | (with_reducible first | exact HB.out | apply below_alloc | apply pw_below_drewN | apply below_drew1 | refine below_set ?_ GE101.out) | exact HB.out)⟩
          · replace c21 := Bool.eq_false_iff.mpr c21
            subst c21
            have H1 : (some 0) = some r := by rw [if_neg (show ¬ (false = true) by decide)] at H; exact H
            clear H
            have H := H1
            clear H1
            obtain rfl := Option.some.inj H
            go_wp2
            go_ret
            exact ⟨by first | rfl | (simp [errW_none, errW_some] <;> rfl) | (simp [*, errW_none, errW_some] <;> rfl), by repeat (first | (with_reducible first | exact HB.out | apply below_alloc | apply pw_below_drewN | apply below_drew1 | refine below_set ?_ GE101.out) | exact HB.out)⟩

/-! ### headgateref03_Check: function 12 -/
end Go.Proofs.YtindffllmlifiaaDoor.Q
-- Written by a program of the session over the translation's print: functions as plain Lean, and that the machine's call comes to them.
namespace Go.Proofs.YtindffllmlifiaaDoor.Q
open Go.RowKit Go.Proofs.YtindffllmlifiaaDoorW.PrintWords Go.Proofs.YtindffllmlifiaaDoorW.PrintLast Go.Proofs.YtindffllmlifiaaDoorW.PrintMore
attribute [local go_sem] max2_int min2_int max_two min_two max_three min_three max_four min_four   -- for this text's walks alone
set_option linter.unusedVariables false
set_option linter.unusedSimpArgs false

/-! ### value_Row: function 13 -/
def value_Row.l0 : Nat → List (S23) → Int → Int → Option (Bool)
  | 0, _, _, _ => none
  | k + 1, x5, x6, x7 => if x7 < x6 then (if 0 ≤ x7 then (if x7 < (x5.length : Int) then (if x7 = 12 then (some false) else ((value_Check.f k ((rd_T23 x5 x7).f0) ((rd_T23 x5 x7).f1) ((rd_T23 x5 x7).f2)).bind fun t105 => (if t105 = 0 then (value_Row.l0 k x5 x6 (wrap64 (x7 + 1))) else (some false)))) else (none)) else (none)) else (some true)
def value_Row.f (k : Nat) (l0 : List (S23)) : Option (Bool) := value_Row.l0 k l0 (l0.length : Int) 0
set_option maxHeartbeats 8000000 in
set_option maxRecDepth 100000 in
theorem value_Row.calls (k : Nat) (A0 : Option Addr) (c0 : Nat) (l0 : List (S23)) (r : Bool) (w : World) (hr0 : Kd.C k23 w A0 l0.length l0) (hc0 : l0.length ≤ c0) (h : value_Row.f k l0 = some r) :
    Calls Tryd.prog 13 #[.slice A0 l0.length c0] w fun e w' => e = .returned (.bool r) ∧ Below w.heap.size w w' := by
  have hu23 := Tryd.underlying23
  have HR0 := Aside0.mk hr0
  have HC0 := Aside0.mk hc0
  clear hr0 hc0
  have HB := Aside0.mk (Below.refl w.heap.size w)
  have H : (value_Row.l0 k l0 (l0.length : Int) 0) = some r := h
  clear h
  have H' := Aside0.mk H
  clear H
  go_enter Tryd.func13, Tryd.ntmps13
  go_wp2
  go_loopg [7] k (fun kq v7 w' => ∃ (x7_1 : Int), v7 = .int .i64 x7_1 ∧ Aside0 (value_Row.l0 kq l0 (l0.length : Int) x7_1 = some r) ∧ Aside0 (kq ≤ k) ∧ Aside0 (Below w.heap.size w w'))
  case atStart => exact ⟨(0), (by first | rfl | (simp; done) | (simp [*]; done) | (simp; rw [Bool.eq_iff_iff]; simp; done)), H', ⟨Nat.le_refl _⟩, ⟨by repeat (first | (with_reducible first | exact HB.out | apply below_alloc | apply pw_below_drewN | apply below_drew1) | exact HB.out)⟩⟩
  case round =>
    clear H'
    try clear c1
    obtain ⟨x7_1, rfl, HA, HK1, HB⟩ := hrel
    cases gk with
    | zero => exact absurd HA.out (by simp [value_Row.l0])
    | succ k1 =>
      have H := HA.out
      clear HA
      simp only [value_Row.l0] at H
      by_cases c2 : x7_1 < (l0.length : Int)
      · rw [if_pos c2] at H
        have c2b0 : decide (x7_1 < (l0.length : Int)) = true := decide_eq_true c2
        clear c2
        by_cases c3 : 0 ≤ x7_1
        · rw [if_pos c3] at H
          have c3b0 : decide (0 ≤ x7_1) = true := decide_eq_true c3
          clear c3
          by_cases c4 : x7_1 < (l0.length : Int)
          · rw [if_pos c4] at H
            have c4b0 : decide (x7_1 < (l0.length : Int)) = true := decide_eq_true c4
            clear c4
            by_cases c5 : x7_1 = 12
            · rw [if_pos c5] at H
              have c5b0 : (x7_1 == 12) = true := beq_iff_eq.mpr c5
              have c5b1 : (x7_1 != 12) = false := bne_eq_false_iff_eq.mpr c5
              clear c5
              obtain rfl := Option.some.inj H
              have p103 : 0 ≤ (x7_1 : Int) := of_decide_eq_true (by first | (with_reducible assumption) | assumption)
              have q103 : x7_1 < (l0.length : Int) := of_decide_eq_true (by first | (with_reducible assumption) | assumption)
              obtain ⟨ad103, e103, hx103_0, hx103_1, hx103_2⟩ := at_T23 HR0.out x7_1 p103 q103
              cases e103
              replace hx103_0 := (HB.out.cell (World.block_lt_of_cell? w _ hx103_0)).trans hx103_0
              replace hx103_1 := (HB.out.cell (World.block_lt_of_cell? w _ hx103_1)).trans hx103_1
              replace hx103_2 := (HB.out.cell (World.block_lt_of_cell? w _ hx103_2)).trans hx103_2
              replace p103 := eq_true p103
              replace q103 := eq_true q103
              go_wp2_with (first | ((with_reducible refine gate_dst (N := 4) rfl ?_); refine box_event ?hg (N := 4) ?hd (cs := #[.int .i64 0, .int .i64 0, .string (⟨#[]⟩ : ByteArray)]) (t := 23) ?hr ?_; (case hd => rfl); (case hg => rfl); (case hr => first | (go_simp; done) | (go_simp; rfl)); intro gb104 hg w6 hbox hb; have n0_ := Aside0.mk (below_step (by repeat (first | (with_reducible first | exact HB.out | apply below_alloc | apply pw_below_drewN | apply below_drew1) | exact HB.out)) hb); have n1_ := Aside0.mk (hbox); have n2_ := Aside0.mk ((by rw [hg]; exact (below_size (by repeat (first | (with_reducible first | exact HB.out | apply below_alloc | apply pw_below_drewN | apply below_drew1) | exact HB.out))) : w.heap.size ≤ gb104)); have n3_ := Aside0.mk ((by rw [hg]; exact (below_size (by repeat (first | (with_reducible first | exact HB.out | apply below_alloc | apply pw_below_drewN | apply below_drew1) | exact HB.out))) : w.heap.size ≤ gb104)); clear HB; have HB := n0_; have BK104 := n1_; have GW104 := n2_; have GE104 := n3_; clear n0_ n1_ n2_ n3_; clear hb hbox hg; obtain ⟨hcz7_0, hcz7_1, hcz7_2, hfz7_0, hfz7_1, hfz7_2⟩ := bf3 BK104.out))
              go_ret
              exact ⟨by first | rfl | (simp [errW_none, errW_some] <;> rfl) | (simp [*, errW_none, errW_some] <;> rfl), by repeat (first | (with_reducible first | exact HB.out | apply below_alloc | apply pw_below_drewN | apply below_drew1 | refine below_set ?_ GE104.out) | exact HB.out)⟩
            · rw [if_neg c5] at H
              have c5b0 : (x7_1 == 12) = false := beq_eq_false_iff_ne.mpr c5
              have c5b1 : (x7_1 != 12) = true := bne_iff_ne.mpr c5
              replace H := Option.bind_eq_some_iff.mp H
              obtain ⟨t105, A80, H⟩ := H
              replace H : (if t105 = 0 then (value_Row.l0 k1 l0 (l0.length : Int) (wrap64 (x7_1 + 1))) else (some false)) = some r := H
              have A8 := Aside0.mk A80
              clear A80
              by_cases c9 : t105 = 0
              · rw [if_pos c9] at H
                have c9b0 : (t105 == 0) = true := beq_iff_eq.mpr c9
                have c9b1 : (t105 != 0) = false := bne_eq_false_iff_eq.mpr c9
                clear c9
                have H' := Aside0.mk H
                clear H
                have p103 : 0 ≤ (x7_1 : Int) := of_decide_eq_true (by first | (with_reducible assumption) | assumption)
                have q103 : x7_1 < (l0.length : Int) := of_decide_eq_true (by first | (with_reducible assumption) | assumption)
                obtain ⟨ad103, e103, hx103_0, hx103_1, hx103_2⟩ := at_T23 HR0.out x7_1 p103 q103
                cases e103
                replace hx103_0 := (HB.out.cell (World.block_lt_of_cell? w _ hx103_0)).trans hx103_0
                replace hx103_1 := (HB.out.cell (World.block_lt_of_cell? w _ hx103_1)).trans hx103_1
                replace hx103_2 := (HB.out.cell (World.block_lt_of_cell? w _ hx103_2)).trans hx103_2
                replace p103 := eq_true p103
                replace q103 := eq_true q103
                go_wp2_with (first | ((with_reducible refine gate_dst (N := 4) rfl ?_); refine box_event ?hg (N := 4) ?hd (cs := #[.int .i64 0, .int .i64 0, .string (⟨#[]⟩ : ByteArray)]) (t := 23) ?hr ?_; (case hd => rfl); (case hg => rfl); (case hr => first | (go_simp; done) | (go_simp; rfl)); intro gb104 hg w10 hbox hb; have n0_ := Aside0.mk (below_step (by repeat (first | (with_reducible first | exact HB.out | apply below_alloc | apply pw_below_drewN | apply below_drew1) | exact HB.out)) hb); have n1_ := Aside0.mk (hbox); have n2_ := Aside0.mk ((by rw [hg]; exact (below_size (by repeat (first | (with_reducible first | exact HB.out | apply below_alloc | apply pw_below_drewN | apply below_drew1) | exact HB.out))) : w.heap.size ≤ gb104)); have n3_ := Aside0.mk ((by rw [hg]; exact (below_size (by repeat (first | (with_reducible first | exact HB.out | apply below_alloc | apply pw_below_drewN | apply below_drew1) | exact HB.out))) : w.heap.size ≤ gb104)); clear HB; have HB := n0_; have BK104 := n1_; have GW104 := n2_; have GE104 := n3_; clear n0_ n1_ n2_ n3_; clear hb hbox hg; obtain ⟨hcz11_0, hcz11_1, hcz11_2, hfz11_0, hfz11_1, hfz11_2⟩ := bf3 BK104.out) | (go_at_call 11; (with_reducible refine (value_Check.calls k1 ((rd_T23 l0 x7_1).f0) ((rd_T23 l0 x7_1).f1) ((rd_T23 l0 x7_1).f2) t105 _ A8.out).mono ?_); rintro e w12 ⟨rfl, hb⟩; have n0_ := Aside0.mk (blk_below (g := gb104) (o := .cells #[.int .i64 ((rd_T23 l0 x7_1).f0), .int .i64 ((rd_T23 l0 x7_1).f1), .string ((rd_T23 l0 x7_1).f2)] 23 (0, 0)) (by (with_reducible repeat (first | refine blk_drewN ?_ _ | refine blk_drew ?_ | refine blk_alloc ?_ _)); refine blk_put (cs := #[.int .i64 ((rd_T23 l0 x7_1).f0), .int .i64 ((rd_T23 l0 x7_1).f1), .string (⟨#[]⟩ : ByteArray)]) ?_ 2 _ rfl; (with_reducible repeat (first | refine blk_drewN ?_ _ | refine blk_drew ?_ | refine blk_alloc ?_ _)); refine blk_put (cs := #[.int .i64 ((rd_T23 l0 x7_1).f0), .int .i64 0, .string (⟨#[]⟩ : ByteArray)]) ?_ 1 _ rfl; (with_reducible repeat (first | refine blk_drewN ?_ _ | refine blk_drew ?_ | refine blk_alloc ?_ _)); refine blk_put (cs := #[.int .i64 0, .int .i64 0, .string (⟨#[]⟩ : ByteArray)]) ?_ 0 _ rfl; (with_reducible repeat (first | refine blk_drewN ?_ _ | refine blk_drew ?_ | refine blk_alloc ?_ _)); exact BK104.out) hb); have n1_ := Aside0.mk (below_step (by repeat (first | (with_reducible first | exact HB.out | apply below_alloc | apply pw_below_drewN | apply below_drew1 | refine below_set ?_ GE104.out) | exact HB.out)) hb); clear BK104; clear HB; have BK104 := n0_; have HB := n1_; clear n0_ n1_; (try clear hb); (try clear hb2); (try clear hk); (try clear hi)))
                go_roundg k1
                case measure => have := HK1.out; omega
                case rel => exact ⟨(wrap64 (x7_1 + 1)), (by first | rfl | (simp; done) | (simp [*]; done) | (simp; rw [Bool.eq_iff_iff]; simp; done)), H', ⟨by have := HK1.out; omega⟩, ⟨by repeat (first | (with_reducible first | exact HB.out | apply below_alloc | apply pw_below_drewN | apply below_drew1 | refine below_set ?_ GE104.out) | exact HB.out)⟩⟩
              · rw [if_neg c9] at H
                have c9b0 : (t105 == 0) = false := beq_eq_false_iff_ne.mpr c9
                have c9b1 : (t105 != 0) = true := bne_iff_ne.mpr c9
                obtain rfl := Option.some.inj H
                have p103 : 0 ≤ (x7_1 : Int) := of_decide_eq_true (by first | (with_reducible assumption) | assumption)
                have q103 : x7_1 < (l0.length : Int) := of_decide_eq_true (by first | (with_reducible assumption) | assumption)
                obtain ⟨ad103, e103, hx103_0, hx103_1, hx103_2⟩ := at_T23 HR0.out x7_1 p103 q103
                cases e103
                replace hx103_0 := (HB.out.cell (World.block_lt_of_cell? w _ hx103_0)).trans hx103_0
                replace hx103_1 := (HB.out.cell (World.block_lt_of_cell? w _ hx103_1)).trans hx103_1
                replace hx103_2 := (HB.out.cell (World.block_lt_of_cell? w _ hx103_2)).trans hx103_2
                replace p103 := eq_true p103
                replace q103 := eq_true q103
                go_wp2_with (first | ((with_reducible refine gate_dst (N := 4) rfl ?_); refine box_event ?hg (N := 4) ?hd (cs := #[.int .i64 0, .int .i64 0, .string (⟨#[]⟩ : ByteArray)]) (t := 23) ?hr ?_; (case hd => rfl); (case hg => rfl); (case hr => first | (go_simp; done) | (go_simp; rfl)); intro gb104 hg w13 hbox hb; have n0_ := Aside0.mk (below_step (by repeat (first | (with_reducible first | exact HB.out | apply below_alloc | apply pw_below_drewN | apply below_drew1) | exact HB.out)) hb); have n1_ := Aside0.mk (hbox); have n2_ := Aside0.mk ((by rw [hg]; exact (below_size (by repeat (first | (with_reducible first | exact HB.out | apply below_alloc | apply pw_below_drewN | apply below_drew1) | exact HB.out))) : w.heap.size ≤ gb104)); have n3_ := Aside0.mk ((by rw [hg]; exact (below_size (by repeat (first | (with_reducible first | exact HB.out | apply below_alloc | apply pw_below_drewN | apply below_drew1) | exact HB.out))) : w.heap.size ≤ gb104)); clear HB; have HB := n0_; have BK104 := n1_; have GW104 := n2_; have GE104 := n3_; clear n0_ n1_ n2_ n3_; clear hb hbox hg; obtain ⟨hcz14_0, hcz14_1, hcz14_2, hfz14_0, hfz14_1, hfz14_2⟩ := bf3 BK104.out) | (go_at_call 11; (with_reducible refine (value_Check.calls k1 ((rd_T23 l0 x7_1).f0) ((rd_T23 l0 x7_1).f1) ((rd_T23 l0 x7_1).f2) t105 _ A8.out).mono ?_); rintro e w15 ⟨rfl, hb⟩; have n0_ := Aside0.mk (blk_below (g := gb104) (o := .cells #[.int .i64 ((rd_T23 l0 x7_1).f0), .int .i64 ((rd_T23 l0 x7_1).f1), .string ((rd_T23 l0 x7_1).f2)] 23 (0, 0)) (by (with_reducible repeat (first | refine blk_drewN ?_ _ | refine blk_drew ?_ | refine blk_alloc ?_ _)); refine blk_put (cs := #[.int .i64 ((rd_T23 l0 x7_1).f0), .int .i64 ((rd_T23 l0 x7_1).f1), .string (⟨#[]⟩ : ByteArray)]) ?_ 2 _ rfl; (with_reducible repeat (first | refine blk_drewN ?_ _ | refine blk_drew ?_ | refine blk_alloc ?_ _)); refine blk_put (cs := #[.int .i64 ((rd_T23 l0 x7_1).f0), .int .i64 0, .string (⟨#[]⟩ : ByteArray)]) ?_ 1 _ rfl; (with_reducible repeat (first | refine blk_drewN ?_ _ | refine blk_drew ?_ | refine blk_alloc ?_ _)); refine blk_put (cs := #[.int .i64 0, .int .i64 0, .string (⟨#[]⟩ : ByteArray)]) ?_ 0 _ rfl; (with_reducible repeat (first | refine blk_drewN ?_ _ | refine blk_drew ?_ | refine blk_alloc ?_ _)); exact BK104.out) hb); have n1_ := Aside0.mk (below_step (by repeat (first | (with_reducible first | exact HB.out | apply below_alloc | apply pw_below_drewN | apply below_drew1 | refine below_set ?_ GE104.out) | exact HB.out)) hb); clear BK104; clear HB; have BK104 := n0_; have HB := n1_; clear n0_ n1_; (try clear hb); (try clear hb2); (try clear hk); (try clear hi)))
                go_ret
                exact ⟨by first | rfl | (simp [errW_none, errW_some] <;> rfl) | (simp [*, errW_none, errW_some] <;> rfl), by repeat (first | (with_reducible first | exact HB.out | apply below_alloc | apply pw_below_drewN | apply below_drew1 | refine below_set ?_ GE104.out) | exact HB.out)⟩
          · rw [if_neg c4] at H
            exact absurd H (by simp)
        · rw [if_neg c3] at H
          exact absurd H (by simp)
      · rw [if_neg c2] at H
        have c2b0 : decide (x7_1 < (l0.length : Int)) = false := decide_eq_false c2
        clear c2
        obtain rfl := Option.some.inj H
        go_wp2
        go_ret
        exact ⟨by first | rfl | (simp [errW_none, errW_some] <;> rfl) | (simp [*, errW_none, errW_some] <;> rfl), by repeat (first | (with_reducible first | exact HB.out | apply below_alloc | apply pw_below_drewN | apply below_drew1) | exact HB.out)⟩

/-! ### headgateref03_Row: function 14 -/
/-! ### headgateref03_Big: function 15 -/
/-! ### value_Int: function 23 -/
def value_Int.f (a0 : Int) : Option (Int × Int × ByteArray) := some (1, a0, (⟨#[]⟩ : ByteArray))
set_option maxHeartbeats 8000000 in
set_option maxRecDepth 100000 in
theorem value_Int.calls (a0 : Int) (r1 : Int) (r2 : Int) (r3 : ByteArray) (w : World) (h : value_Int.f a0 = some (r1, r2, r3)) :
    Calls Tryd.prog 23 #[.int .i64 a0] w fun e w' => e = .returned (.agg #[.int .i64 r1, .int .i64 r2, .string r3]) ∧ Below w.heap.size w w' := by
  have hu23 := Tryd.underlying23
  have HB := Aside0.mk (Below.refl w.heap.size w)
  have H : (some (1, a0, (⟨#[]⟩ : ByteArray))) = some (r1, r2, r3) := h
  clear h
  simp only [Option.some.injEq, Prod.mk.injEq] at H
  obtain ⟨rfl, rfl, rfl⟩ := H
  go_enter Tryd.func23, Tryd.ntmps23
  go_wp2_with (first | ((with_reducible refine gate_dst (N := 2) rfl ?_); refine box_event ?hg (N := 2) ?hd (cs := #[.int .i64 0, .int .i64 0, .string (⟨#[]⟩ : ByteArray)]) (t := 23) ?hr ?_; (case hd => rfl); (case hg => rfl); (case hr => first | (go_simp; done) | (go_simp; rfl)); intro gb109 hg w2 hbox hb; have n0_ := Aside0.mk (below_step (by repeat (first | (with_reducible first | exact HB.out | apply below_alloc | apply pw_below_drewN | apply below_drew1) | exact HB.out)) hb); have n1_ := Aside0.mk (hbox); have n2_ := Aside0.mk ((by rw [hg]; exact (below_size (by repeat (first | (with_reducible first | exact HB.out | apply below_alloc | apply pw_below_drewN | apply below_drew1) | exact HB.out))) : w.heap.size ≤ gb109)); have n3_ := Aside0.mk ((by rw [hg]; exact (below_size (by repeat (first | (with_reducible first | exact HB.out | apply below_alloc | apply pw_below_drewN | apply below_drew1) | exact HB.out))) : w.heap.size ≤ gb109)); clear HB; have HB := n0_; have BK109 := n1_; have GW109 := n2_; have GE109 := n3_; clear n0_ n1_ n2_ n3_; clear hb hbox hg; obtain ⟨hcz3_0, hcz3_1, hcz3_2, hfz3_0, hfz3_1, hfz3_2⟩ := bf3 BK109.out))
  refine bodyPost_ret (results_cell_row rfl _ _ gb109 23 #[.int .i64 1, .int .i64 a0, .string (⟨#[]⟩ : ByteArray)] (0, 0) _ rfl (by (with_reducible repeat (first | refine blk_drewN ?_ _ | refine blk_drew ?_ | refine blk_alloc ?_ _)); refine blk_put (cs := #[.int .i64 1, .int .i64 a0, .string (⟨#[]⟩ : ByteArray)]) ?_ 2 _ rfl; (with_reducible repeat (first | refine blk_drewN ?_ _ | refine blk_drew ?_ | refine blk_alloc ?_ _)); refine blk_put (cs := #[.int .i64 1, .int .i64 0, .string (⟨#[]⟩ : ByteArray)]) ?_ 1 _ rfl; (with_reducible repeat (first | refine blk_drewN ?_ _ | refine blk_drew ?_ | refine blk_alloc ?_ _)); refine blk_put (cs := #[.int .i64 0, .int .i64 0, .string (⟨#[]⟩ : ByteArray)]) ?_ 0 _ rfl; (with_reducible repeat (first | refine blk_drewN ?_ _ | refine blk_drew ?_ | refine blk_alloc ?_ _)); exact BK109.out) Tryd.underlying23 rfl (by kernel_rfl)) rfl ?_
  exact ⟨by first | rfl | (simp [errW_none, errW_some] <;> rfl) | (simp [*, errW_none, errW_some] <;> rfl), by repeat (first | (with_reducible first | exact HB.out | apply below_alloc | apply pw_below_drewN | apply below_drew1 | refine below_set ?_ GE109.out) | exact HB.out)⟩

/-! ### value_Text: function 25 -/
def value_Text.f (a0 : ByteArray) : Option (Int × Int × ByteArray) := some (3, 0, a0)
set_option maxHeartbeats 8000000 in
set_option maxRecDepth 100000 in
theorem value_Text.calls (a0 : ByteArray) (r1 : Int) (r2 : Int) (r3 : ByteArray) (w : World) (h : value_Text.f a0 = some (r1, r2, r3)) :
    Calls Tryd.prog 25 #[.string a0] w fun e w' => e = .returned (.agg #[.int .i64 r1, .int .i64 r2, .string r3]) ∧ Below w.heap.size w w' := by
  have hu23 := Tryd.underlying23
  have HB := Aside0.mk (Below.refl w.heap.size w)
  have H : (some (3, 0, a0)) = some (r1, r2, r3) := h
  clear h
  simp only [Option.some.injEq, Prod.mk.injEq] at H
  obtain ⟨rfl, rfl, rfl⟩ := H
  go_enter Tryd.func25, Tryd.ntmps25
  go_wp2_with (first | ((with_reducible refine gate_dst (N := 2) rfl ?_); refine box_event ?hg (N := 2) ?hd (cs := #[.int .i64 0, .int .i64 0, .string (⟨#[]⟩ : ByteArray)]) (t := 23) ?hr ?_; (case hd => rfl); (case hg => rfl); (case hr => first | (go_simp; done) | (go_simp; rfl)); intro gb110 hg w2 hbox hb; have n0_ := Aside0.mk (below_step (by repeat (first | (with_reducible first | exact HB.out | apply below_alloc | apply pw_below_drewN | apply below_drew1) | exact HB.out)) hb); have n1_ := Aside0.mk (hbox); have n2_ := Aside0.mk ((by rw [hg]; exact (below_size (by repeat (first | (with_reducible first | exact HB.out | apply below_alloc | apply pw_below_drewN | apply below_drew1) | exact HB.out))) : w.heap.size ≤ gb110)); have n3_ := Aside0.mk ((by rw [hg]; exact (below_size (by repeat (first | (with_reducible first | exact HB.out | apply below_alloc | apply pw_below_drewN | apply below_drew1) | exact HB.out))) : w.heap.size ≤ gb110)); clear HB; have HB := n0_; have BK110 := n1_; have GW110 := n2_; have GE110 := n3_; clear n0_ n1_ n2_ n3_; clear hb hbox hg; obtain ⟨hcz3_0, hcz3_1, hcz3_2, hfz3_0, hfz3_1, hfz3_2⟩ := bf3 BK110.out))
  refine bodyPost_ret (results_cell_row rfl _ _ gb110 23 #[.int .i64 3, .int .i64 0, .string a0] (0, 0) _ rfl (by (with_reducible repeat (first | refine blk_drewN ?_ _ | refine blk_drew ?_ | refine blk_alloc ?_ _)); refine blk_put (cs := #[.int .i64 3, .int .i64 0, .string (⟨#[]⟩ : ByteArray)]) ?_ 2 _ rfl; (with_reducible repeat (first | refine blk_drewN ?_ _ | refine blk_drew ?_ | refine blk_alloc ?_ _)); refine blk_put (cs := #[.int .i64 3, .int .i64 0, .string (⟨#[]⟩ : ByteArray)]) ?_ 1 _ rfl; (with_reducible repeat (first | refine blk_drewN ?_ _ | refine blk_drew ?_ | refine blk_alloc ?_ _)); refine blk_put (cs := #[.int .i64 0, .int .i64 0, .string (⟨#[]⟩ : ByteArray)]) ?_ 0 _ rfl; (with_reducible repeat (first | refine blk_drewN ?_ _ | refine blk_drew ?_ | refine blk_alloc ?_ _)); exact BK110.out) Tryd.underlying23 rfl (by kernel_rfl)) rfl ?_
  exact ⟨by first | rfl | (simp [errW_none, errW_some] <;> rfl) | (simp [*, errW_none, errW_some] <;> rfl), by repeat (first | (with_reducible first | exact HB.out | apply below_alloc | apply pw_below_drewN | apply below_drew1 | refine below_set ?_ GE110.out) | exact HB.out)⟩

end Go.Proofs.YtindffllmlifiaaDoor.Q
-- Written by a program of the session over the translation's print: functions as plain Lean, and that the machine's call comes to them.
namespace Go.Proofs.YtindffllmlifiaaDoor.Q
open Go.RowKit Go.Proofs.YtindffllmlifiaaDoorW.PrintWords Go.Proofs.YtindffllmlifiaaDoorW.PrintLast Go.Proofs.YtindffllmlifiaaDoorW.PrintMore
attribute [local go_sem] max2_int min2_int max_two min_two max_three min_three max_four min_four   -- for this text's walks alone
set_option linter.unusedVariables false
set_option linter.unusedSimpArgs false

/-! ### value_number: function 32 -/
def value_number.l0 : Nat → ByteArray → Int → Int → Int → Option (Int)
  | 0, _, _, _, _ => none
  | k + 1, x0, x3, x6, x7 => if x7 < x6 then (if 0 ≤ x7 then (if x7 < (x0.size : Int) then (value_number.l0 k x0 (Go.bits .or .u64 (IntKind.u64.wrap (x3 * 256)) (IntKind.u64.wrap (bt x0 x7))) x6 (wrap64 (x7 + 1))) else (none)) else (none)) else (some x3)
def value_number.f (k : Nat) (a0 : ByteArray) : Option (Int) := value_number.l0 k a0 0 (a0.size : Int) 0
set_option maxHeartbeats 8000000 in
set_option maxRecDepth 100000 in
theorem value_number.calls (k : Nat) (a0 : ByteArray) (r : Int) (w : World) (h : value_number.f k a0 = some r) :
    Calls Tryd.prog 32 #[.string a0] w fun e w' => e = .returned (.int .u64 r) ∧ Drawn0 w w' := by
  have H : (value_number.l0 k a0 0 (a0.size : Int) 0) = some r := h
  clear h
  have H' := Aside0.mk H
  clear H
  go_enter Tryd.func32, Tryd.ntmps32
  go_wp2
  go_loopg [3, 7] k (fun kq v3 v7 w' => ∃ (x3_1 : Int) (x7_1 : Int), v3 = .int .u64 x3_1 ∧ v7 = .int .i64 x7_1 ∧ Aside0 (value_number.l0 kq a0 x3_1 (a0.size : Int) x7_1 = some r) ∧ Aside0 (kq ≤ k) ∧ Drawn0 w w')
  case atStart => exact ⟨(0), (0), (by first | rfl | (simp; done) | (simp [*]; done) | (simp; rw [Bool.eq_iff_iff]; simp; done)), (by first | rfl | (simp; done) | (simp [*]; done) | (simp; rw [Bool.eq_iff_iff]; simp; done)), H', ⟨Nat.le_refl _⟩, by repeat (first | exact Drawn0.refl _ | apply Drawn0.step)⟩
  case round =>
    clear H'
    obtain ⟨x3_1, x7_1, rfl, rfl, HA, HK1, ⟨m1, rfl⟩⟩ := hrel
    cases gk with
    | zero => exact absurd HA.out (by simp [value_number.l0])
    | succ k1 =>
      have H := HA.out
      clear HA
      simp only [value_number.l0] at H
      by_cases c2 : x7_1 < (a0.size : Int)
      · rw [if_pos c2] at H
        have c2b0 : decide (x7_1 < (a0.size : Int)) = true := decide_eq_true c2
        clear c2
        by_cases c3 : 0 ≤ x7_1
        · rw [if_pos c3] at H
          have c3b0 : decide (0 ≤ x7_1) = true := decide_eq_true c3
          clear c3
          by_cases c4 : x7_1 < (a0.size : Int)
          · rw [if_pos c4] at H
            have c4b0 : decide (x7_1 < (a0.size : Int)) = true := decide_eq_true c4
            clear c4
            have H' := Aside0.mk H
            clear H
            have p5 : 0 ≤ (x7_1 : Int) := of_decide_eq_true (by first | (with_reducible assumption) | assumption)
            have q5 : x7_1 < (a0.size : Int) := of_decide_eq_true (by first | (with_reducible assumption) | assumption)
            have hx5 := bt_at a0 x7_1
            replace p5 := eq_true p5
            replace q5 := eq_true q5
            go_wp2
            go_roundg k1
            case measure => have := HK1.out; omega
            case rel => exact ⟨(Go.bits .or .u64 (IntKind.u64.wrap (x3_1 * 256)) (IntKind.u64.wrap (bt a0 x7_1))), (wrap64 (x7_1 + 1)), (by first | rfl | (simp; done) | (simp [*]; done) | (simp; rw [Bool.eq_iff_iff]; simp; done)), (by first | rfl | (simp; done) | (simp [*]; done) | (simp; rw [Bool.eq_iff_iff]; simp; done)), H', ⟨by have := HK1.out; omega⟩, by repeat (first | exact Drawn0.refl _ | apply Drawn0.step)⟩
          · rw [if_neg c4] at H
            exact absurd H (by simp)
        · rw [if_neg c3] at H
          exact absurd H (by simp)
      · rw [if_neg c2] at H
        have c2b0 : decide (x7_1 < (a0.size : Int)) = false := decide_eq_false c2
        clear c2
        obtain rfl := Option.some.inj H
        go_wp2
        go_ret
        exact ⟨by first | rfl | (simp; done) | (simp [*]; done), by repeat (first | exact Drawn0.refl _ | apply Drawn0.step)⟩

end Go.Proofs.YtindffllmlifiaaDoor.Q
/- append(b, s...) and append(b, x) on bytes that the call owns, plain and within a fence, in the words of the kinds. -/
namespace Go.Proofs.YtindffllmlifiaaDoor.Q
open Go.RowKit Go.Proofs.YtindffllmlifiaaDoorW.PrintWords Go.Proofs.YtindffllmlifiaaDoorW.PrintLast Go.Proofs.YtindffllmlifiaaDoorW.PrintMore
set_option linter.unusedVariables false
set_option linter.unusedSimpArgs false
/-- Bytes that the call owns. -/
def RB (w : World) (base : Nat) (e : TypeId) (v : Value) (xs : List Int) : Prop := w.ownsRow base e 1 v xs.length (nums .u8 xs)
theorem strCells_nums (s : ByteArray) : Lib.strCells s = nums .u8 (bytesOf s) := by
  unfold Lib.strCells nums bytesOf
  rw [List.map_map]
  rfl
theorem RB.nil (w : World) (base : Nat) (e : TypeId) : RB w base e (.slice none 0 0) [] := World.ownsRow_nil _ _ _ _
theorem RB.of_R {w : World} {base : Nat} {e : TypeId} {ok : Nat → Prop} {v : Value} {xs : List Int} (h : Kd.R (Kd.int .u8) e w base ok v xs) : RB w base e v xs := Kd.own_of_R h
theorem RB.R {w : World} {base : Nat} {e : TypeId} {v : Value} {xs : List Int} (h : RB w base e v xs) : Kd.R (Kd.int .u8) e w base (fun _ => True) v xs := Kd.R_of_own (enc := Value.int .u8) (h1 := fun _ => rfl) h (fun _ _ => trivial)
theorem RB.slice {w : World} {base : Nat} {e : TypeId} {v : Value} {xs : List Int} (h : RB w base e v xs) : ∃ A c, v = .slice A xs.length c := Kd.R_slice h.R
theorem RB.below {w w' : World} {base : Nat} {e : TypeId} {v : Value} {xs : List Int} (h : RB w base e v xs) (hb : Below w.heap.size w w') : RB w' base e v xs := RB.of_R (Kd.R_below h.R hb)
theorem RB.alloc {w : World} {base : Nat} {e : TypeId} {v : Value} {xs : List Int} (h : RB w base e v xs) (o : Obj) : RB (w.alloc o) base e v xs := RB.of_R (Kd.R_alloc h.R o)
section
variable {P : Program} {ops : Array Oper} {rest : List Oper} {o : Oper} {a : Act} {Q : Exit → Act → World → Prop}
theorem wp_append_text (w0 w : World) (base : Nat) (hgd : o.guard = none) (sl x : Operand) (t u e : TypeId)
    (ho : o.op = .call { callee := .builtin .append, args := #[sl, x], argTypes := #[t, u] })
    (ht : P.underlying t = some (.slice e)) (hu : P.underlying u = some .string) (hinfo : (P.info? e).map (fun i => (i.zero, i.size, i.bytes)) = some (some (.int .u8 0), 1, 1))
    (v : Value) (xs : List Int) (hs : a.eval sl = v) (hown : RB w base e v xs) (s : ByteArray) (hx : a.eval x = .string s) (hbytes : xs.length + s.size ≤ 140737488355328) (hB : Below base w0 w) (hbase : base ≤ w.heap.size)
    (h : ∀ v' w', RB w' base e v' (xs ++ bytesOf s) → Below base w0 w' → base ≤ w'.heap.size → w.grownBy w' v.ownBlock → wpList P ops Q rest (a.put o.dst v') w') : wpList P ops Q (o :: rest) a w := by
  obtain ⟨i0, hi, hzz⟩ := Option.map_eq_some_iff.1 hinfo
  simp only [Prod.mk.injEq] at hzz
  obtain ⟨hz0, hz1, hz2⟩ := hzz
  refine Lib.wpList_append_own_string w hgd sl x t u ho base e i0 ht hu hi hz0 hz1 hz2 v xs.length (nums .u8 xs) hs hown s hx (by simp only [maxLen]; omega) hbytes hbase ?_
  intro v' w' ho' hg _
  refine h v' w' ?_ (hB.grown hg hbase (fun k hk => own_base hown k hk)) (by have := hg.size; omega) hg
  unfold RB
  rw [nums_append, List.length_append, bytesOf_length, ← strCells_nums]
  exact ho'
variable {F : Fence} {n : Nat}
theorem wpIn_append_text (w : World) (base : Nat) (hgd : o.guard = none) (sl x : Operand) (t u e : TypeId)
    (ho : o.op = .call { callee := .builtin .append, args := #[sl, x], argTypes := #[t, u] })
    (ht : P.underlying t = some (.slice e)) (hu : P.underlying u = some .string) (hinfo : (P.info? e).map (fun i => (i.zero, i.size, i.bytes)) = some (some (.int .u8 0), 1, 1))
    (v : Value) (xs : List Int) (hs : a.eval sl = v) (hown : RB w base e v xs) (s : ByteArray) (hx : a.eval x = .string s) (hbytes : xs.length + s.size ≤ 140737488355328) (hbase : base ≤ w.heap.size)
    (h : ∀ v' w', RB w' base e v' (xs ++ bytesOf s) → w.grownBy w' v.ownBlock → wpListIn F n P ops Q rest (a.put o.dst v') w') : wpListIn F n P ops Q (o :: rest) a w := by
  obtain ⟨i0, hi, hzz⟩ := Option.map_eq_some_iff.1 hinfo
  simp only [Prod.mk.injEq] at hzz
  obtain ⟨hz0, hz1, hz2⟩ := hzz
  refine wpListIn_plain hgd fun K hK => ?_
  obtain ⟨v', w', hr, h2, h3, h4⟩ := Lib.run_append_own_string (P := P) w base t u o.type e i0 ht hu hi hz0 hz1 hz2 v xs.length (nums .u8 xs) hown s (by simp only [maxLen]; omega) hbytes hbase
  unfold Oper.wpIn
  refine ⟨?_, ?_⟩
  · simp [Oper.about, ho, resolve, Target.leads, Sem.run_pure]
  · rw [Oper.semAt_plain F _ _ (by rw [ho]; intro c hc'; cases hc')]
    simp [execOp, ho, resolve, invoke, builtin, hs, hx, hr, Result.andThen]
    refine hK _ _ (h v' w' ?_ h3)
    unfold RB
    rw [nums_append, List.length_append, bytesOf_length, ← strCells_nums]
    exact h2
/-- Behind the literal's own block. -/
theorem wpIn_append_byte (w : World) (base : Nat) (g : Nat) (hgw : g = w.heap.size) (hgd : o.guard = none) (sl x : Operand) (t e : TypeId)
    (ho : o.op = .call { callee := .builtin .append, args := #[sl, x], argTypes := #[t, t] })
    (ht : P.underlying t = some (.slice e)) (hinfo : (P.info? e).map (fun i => (i.zero, i.size, i.bytes)) = some (some (.int .u8 0), 1, 1))
    (v : Value) (xs ys : List Int) (hs : a.eval sl = v) (hown : RB w base e v xs) (hx : a.eval x = .slice (some ⟨g, 0, none⟩) ys.length ys.length) (hbytes : xs.length + ys.length ≤ 140737488355328) (hbase : base ≤ w.heap.size)
    (h : ∀ v' w', RB w' base e v' (xs ++ ys) → (w.alloc (.cells (nums .u8 ys).toArray e)).grownBy w' v.ownBlock → wpListIn F n P ops Q rest (a.put o.dst v') w') : wpListIn F n P ops Q (o :: rest) a (w.alloc (.cells (nums .u8 ys).toArray e)) := by
  subst hgw
  obtain ⟨i0, hi, hzz⟩ := Option.map_eq_some_iff.1 hinfo
  simp only [Prod.mk.injEq] at hzz
  obtain ⟨hz0, hz1, hz2⟩ := hzz
  refine wpListIn_append_own _ hgd sl x t ho base e i0 (.int .u8 0) 1 1 ht hi hz0 hz1 hz2 rfl (by decide) v xs.length (nums .u8 xs) hs (hown.alloc _) ⟨w.heap.size, 0, none⟩ ys.length ys.length (nums .u8 ys) hx (by rw [nums_length]; omega) ?_ ?_ (by simp only [maxLen]; omega) (by omega) (by rw [World.size_alloc]; omega) ?_
  · intro j u hj
    have hjl : j < (nums .u8 ys).length := (List.getElem?_eq_some_iff.1 hj).1
    have ha : (⟨w.heap.size, 0, none⟩ : Addr).add j = ⟨w.heap.size, j, none⟩ := by unfold Addr.add; split <;> simp_all
    rw [ha]
    exact (blk_cell (blk_new w _) j).trans (by simpa using hj)
  · intro u hu
    unfold nums at hu
    obtain ⟨x, _, rfl⟩ := List.mem_map.1 hu
    rfl
  · intro v' w' ho' hg _
    refine h v' w' ?_ hg
    unfold RB
    rw [nums_append, List.length_append]
    exact ho'
end
end Go.Proofs.YtindffllmlifiaaDoor.Q
/- Whole numbers of 64 bits, quotients and rests, in plain words: no program in it. -/
namespace Go.Proofs.YtindffllmlifiaaDoor.Q
open Go.RowKit Go.Proofs.YtindffllmlifiaaDoorW.PrintWords Go.Proofs.YtindffllmlifiaaDoorW.PrintLast Go.Proofs.YtindffllmlifiaaDoorW.PrintMore
set_option linter.unusedVariables false
set_option linter.unusedSimpArgs false

def in64 (x : Int) : Prop := -9223372036854775808 ≤ x ∧ x ≤ 9223372036854775807
instance (x : Int) : Decidable (in64 x) := by unfold in64; infer_instance
theorem wrapu (x : Int) : IntKind.u64.wrap x = x % 18446744073709551616 := rfl
theorem wrap_in {x : Int} (h : in64 x) : wrap64 x = x := by
  unfold in64 at h
  unfold wrap64
  omega
end Go.Proofs.YtindffllmlifiaaDoor.Q
/- strings.IndexByte: walked; it comes to the first place of the byte. -/
namespace Go.Proofs.YtindffllmlifiaaDoor.Q
open Go.RowKit Go.Proofs.YtindffllmlifiaaDoorW.PrintWords Go.Proofs.YtindffllmlifiaaDoorW.PrintLast Go.Proofs.YtindffllmlifiaaDoorW.PrintMore
set_option linter.unusedVariables false
set_option linter.unusedSimpArgs false
def strings_IndexByte.f (a0 : ByteArray) (a1 : Int) : Option Int := some (Lib.indexByte a0.data.toList a1.toNat.toUInt8)
set_option maxHeartbeats 1000000 in
theorem liteIndexByte_calls (s : ByteArray) (c : Int) (w : World) :
    Calls Tryd.prog 50 #[.string s, .int .u8 c] w fun e w' => e = .returned (.int .i64 (Lib.indexByte s.data.toList c.toNat.toUInt8)) ∧ w = w' := by
  go_enter Tryd.func50, Tryd.ntmps50
  go_wp2
  rw [run_callFunc_extern (e := Extern.BytealgIndexByte.indexByte) Tryd.func58 (by kernel_rfl) (by kernel_rfl) (by kernel_rfl) (by kernel_rfl), Lib.run_indexByteString]
  simp only [Result.andThen]
  rw [Oper.upon_value]
  go_wp2
  go_ret
  exact ⟨rfl, rfl⟩
theorem strings_IndexByte.calls (a0 : ByteArray) (a1 : Int) (r : Int) (w : World) (h : strings_IndexByte.f a0 a1 = some r) :
    Calls Tryd.prog 40 #[.string a0, .int .u8 a1] w fun e w' => e = .returned (.int .i64 r) ∧ Below w.heap.size w w' := by
  obtain rfl := Option.some.inj h
  go_enter Tryd.func40, Tryd.ntmps40
  go_wp2_with (go_at_call 50; refine (liteIndexByte_calls _ _ _).mono ?_; rintro e w' ⟨rfl, rfl⟩)
  go_ret
  exact ⟨rfl, Below.refl _ _⟩
end Go.Proofs.YtindffllmlifiaaDoor.Q
/- value.word: walked: the text at the beginning of a key, and what is behind it. -/
namespace Go.Proofs.YtindffllmlifiaaDoor.Q
open Go.RowKit Go.Proofs.YtindffllmlifiaaDoorW.PrintWords Go.Proofs.YtindffllmlifiaaDoorW.PrintLast Go.Proofs.YtindffllmlifiaaDoorW.PrintMore
set_option linter.unusedVariables false
set_option linter.unusedSimpArgs false
/-- What value.word comes to: the text as bytes, what is left, whether it is right. -/
def wordR : Nat → ByteArray → List Int → ByteArray × ByteArray × Bool
  | 0, s, xs => (⟨#[]⟩, ⟨#[]⟩, false)
  | k + 1, s, xs =>
    if Lib.indexByte s.data.toList 0 < 0 ∨ Lib.indexByte s.data.toList 0 + 1 = s.size then (⟨#[]⟩, ⟨#[]⟩, false)
    else if bt s (Lib.indexByte s.data.toList 0 + 1) = 255 then wordR k (s.extract (Lib.indexByte s.data.toList 0 + 2).toNat s.size) (xs ++ bytesOf (s.extract 0 (Lib.indexByte s.data.toList 0).toNat) ++ [0])
    else (strOfNums (xs ++ bytesOf (s.extract 0 (Lib.indexByte s.data.toList 0).toNat)), s.extract (Lib.indexByte s.data.toList 0 + 2).toNat s.size, decide (bt s (Lib.indexByte s.data.toList 0 + 1) = 0))
def strLen : Value → Nat | .string s => s.size | _ => 0
theorem indexByte_lt (c : UInt8) : ∀ l : List UInt8, Lib.indexByte l c < l.length
  | [] => by simp [Lib.indexByte]
  | b :: l => by
    have ih := indexByte_lt c l
    unfold Lib.indexByte
    simp only [List.length_cons]
    split
    · omega
    · split <;> omega
theorem idx_run (s : ByteArray) (w : World) : Calls Tryd.prog 40 #[.string s, .int .u8 0] w fun e w' => e = .returned (.int .i64 (Lib.indexByte s.data.toList 0)) ∧ Below w.heap.size w w' := strings_IndexByte.calls s 0 _ w rfl
theorem infoU8 : (Tryd.prog.info? 5).map (fun i => (i.zero, i.size, i.bytes)) = some (some (.int .u8 0), 1, 1) := by kernel_rfl
theorem scope_jumps {P : Program} {a : Act} {w : World} {Q : Exit → Act → World → Prop} {c rest : Code} (l : Nat) (J : Act → World → Prop) (μ : Act → World → Nat) (hf : findLabel c l = some (.seq .skip rest))
    (first : (∀ a w, J a w → rest.wp P (Exit.jump l J Q) a w) → c.wp P (Exit.jump l J Q) a w)
    (pass : ∀ a w, J a w → rest.wp P (Exit.jump l (fun a' w' => J a' w' ∧ μ a' w' < μ a w) Q) a w) : (Code.scope c).wp P Q a w :=
  wp_scope_jumps l J μ hf (first (fun a w h => wp_mono (pass a w h) (fun e a' w' hq => by
    cases e with
    | goto l' => exact ⟨hq.1, hq.2.1⟩
    | normal => exact hq
    | exit id => exact hq
    | ret => exact hq
    | panic ch => exact hq
    | outgrown => exact hq))) (fun a w h => wp_seq (wp_skip (pass a w h)))
/-- What holds at the label. -/
def WordJ (w : World) (R : ByteArray × ByteArray × Bool) (a' : Act) (w' : World) : Prop :=
  ∃ (s' : ByteArray) (v : Value) (xs : List Int) (k : Nat) (u1 u6 u7 u8 u9 u10 u11 u12 u13 u14 u15 u16 u17 u18 u19 u20 u21 u22 u23 u24 u25 u26 u27 u28 u29 u30 u31 u32 u33 u34 u35 u36 u37 u38 u39 u40 u41 : Value), a' = { tmps := #[.string s', u1, .string ⟨#[]⟩, .string ⟨#[]⟩, .bool false, v, u6, u7, u8, u9, u10, u11, u12, u13, u14, u15, u16, u17, u18, u19, u20, u21, u22, u23, u24, u25, u26, u27, u28, u29, u30, u31, u32, u33, u34, u35, u36, u37, u38, u39, u40, u41], defers := [] } ∧ Aside0 (wordR k s' xs = R) ∧ Aside0 (s'.size < k) ∧ Aside0 (xs.length + s'.size ≤ 140737488355328) ∧ Aside0 (RB w' w.heap.size 5 v xs) ∧ Aside0 (Below w.heap.size w w') ∧ Aside0 (w.heap.size ≤ w'.heap.size)
set_option maxHeartbeats 4000000 in
set_option maxRecDepth 100000 in
theorem word_walk (s : ByteArray) (hs : s.size ≤ 140737488355328) (w : World) :
    Calls Tryd.prog 33 #[.string s] w fun e w' => e = .returned (.tuple #[.string (wordR (s.size + 1) s []).1, .string (wordR (s.size + 1) s []).2.1, .bool (wordR (s.size + 1) s []).2.2]) ∧ Below w.heap.size w w' := by
  obtain ⟨R, hR⟩ : ∃ R, wordR (s.size + 1) s [] = R := ⟨_, rfl⟩
  rw [hR]
  have HR := Aside0.mk hR
  clear hR
  go_enter Tryd.func33, Tryd.ntmps33
  go_wp2
  refine scope_jumps 0 (WordJ w R) (fun a' _ => strLen (a'.tmps.getD 0 undef)) rfl ?first ?pass
  case first =>
    intro hp
    go_wp2
    go_step3
    rename_i K hK
    refine hK _ _ ?_
    exact (hp _ _ ⟨s, _, [], s.size + 1, _, _, _, _, _, _, _, _, _, _, _, _, _, _, _, _, _, _, _, _, _, _, _, _, _, _, _, _, _, _, _, _, _, _, _, _, _, rfl, HR, ⟨Nat.lt_succ_self _⟩, ⟨by simpa using hs⟩, ⟨RB.nil _ _ _⟩, ⟨Below.refl _ _⟩, ⟨Nat.le_refl _⟩⟩)
  case pass =>
    rintro a' w' ⟨s', v, xs, k, u1, u6, u7, u8, u9, u10, u11, u12, u13, u14, u15, u16, u17, u18, u19, u20, u21, u22, u23, u24, u25, u26, u27, u28, u29, u30, u31, u32, u33, u34, u35, u36, u37, u38, u39, u40, u41, rfl, HR, HK, HL, HO, HB, HZ⟩
    cases k with
    | zero => exact absurd HK.out (Nat.not_lt_zero _)
    | succ k =>
    have hR := HR.out
    unfold wordR at hR
    have hlo := Lib.indexByte_ge s'.data.toList 0
    have hhi := indexByte_lt 0 s'.data.toList
    rw [data_length] at hhi
    have hcall := idx_run s' w'
    obtain ⟨i, hi⟩ : ∃ i, Lib.indexByte s'.data.toList 0 = i := ⟨_, rfl⟩
    rw [hi] at hR hlo hhi hcall
    clear hi HR
    have hsz : s'.size ≤ 140737488355328 := by have := HL.out; omega
    by_cases c1 : i < 0
    · have b1 : decide (i < 0) = true := decide_eq_true c1
      rw [if_pos (.inl c1)] at hR
      subst hR
      clear c1
      go_wp2_with (go_at_call 40; refine hcall.mono ?_; rintro e w1 ⟨rfl, hb1⟩; have HB1 := Aside0.mk (below_step HB.out hb1); clear hb1 hcall)
      simp only [Exit.jump]
      exact bodyPost_ret (results_tmp3 rfl _ _ _) rfl ⟨rfl, HB1.out⟩
    · obtain ⟨n, rfl⟩ := Int.eq_ofNat_of_zero_le (Int.not_lt.1 c1)
      have b1 : decide ((n : Int) < 0) = false := decide_eq_false c1
      have hw1 : wrap64 ((n : Int) + 1) = (n : Int) + 1 := wrap_in (by unfold in64; omega)
      have hw2 : wrap64 ((n : Int) + 2) = (n : Int) + 2 := wrap_in (by unfold in64; omega)
      by_cases c2 : (n : Int) + 1 = s'.size
      · rw [if_pos (.inr c2)] at hR
        subst hR
        have hb2 : ((n : Int) + 1 == (s'.size : Int)) = true := by rw [c2]; exact beq_self_eq_true _
        clear c1 hlo hhi
        go_wp2_with (go_at_call 40; refine hcall.mono ?_; rintro e w1 ⟨rfl, hb1⟩; have HB1 := Aside0.mk (below_step HB.out hb1); clear hb1 hcall)
        simp only [Exit.jump]
        exact bodyPost_ret (results_tmp3 rfl _ _ _) rfl ⟨rfl, HB1.out⟩
      · rw [if_neg (fun h => h.elim c1 c2)] at hR
        have hb2 : ((n : Int) + 1 == (s'.size : Int)) = false := beq_eq_false_iff_ne.2 c2
        have hlt : n + 2 ≤ s'.size := by omega
        have h0 : (0 : Int) ≤ (n : Int) := by omega
        have h1 : (n : Int) ≤ (s'.size : Int) := by omega
        have h2 : (n : Int) + 1 < (s'.size : Int) := by omega
        have h3 : (n : Int) + 2 ≤ (s'.size : Int) := by omega
        have h4 : (0 : Int) ≤ (n : Int) + 1 := by omega
        have h5 : (0 : Int) ≤ (n : Int) + 2 := by omega
        have hex : (s'.extract 0 n).size = n := by rw [ByteArray.size_extract]; omega
        have hcat := HL.out
        clear c1 c2 hlo hhi
        go_upto_region 8 with (first
          | (go_at_call 40; refine hcall.mono ?_; rintro e w1 ⟨rfl, hb1⟩; have HB1 := Aside0.mk (below_step HB.out hb1); have HO1 : Aside0 (RB w1 w.heap.size 5 v xs) := ⟨HO.out.below hb1⟩; have HZ1 := Aside0.mk (show w.heap.size ≤ w1.heap.size from HB1.out.size); clear hb1 hcall)
          | ((with_reducible refine gate_builtin (b := .append) (xs := #[.tmp 19, .tmp 22]) rfl ?_); (try (refine gate_guard (by rfl) ?_; dsimp only)); at_builtin; refine wp_append_text w w1 w.heap.size rfl (.tmp 19) (.tmp 22) 52 9 5 rfl Tryd.underlying52 Tryd.underlying9 infoU8 v xs rfl HO1.out (s'.extract 0 n) rfl (by rw [hex]; omega) HB1.out HZ1.out ?_; intro v2 w2 ho hb hz _; have HO2 := Aside0.mk ho; have HB2 := Aside0.mk hb; have HZ2 := Aside0.mk hz; have hcv := own_string (P := Tryd.prog) Tryd.underlying52 Tryd.underlying5 Tryd.underlying9 (show w2.ownsRow w.heap.size 5 1 v2 _ (nums .u8 (xs ++ bytesOf (s'.extract 0 n))) from HO2.out); clear ho hb hz HO1 HB1 HZ1 HO HB HZ))
        have hbt : bt s' ((n : Int) + 1) = ((s'[n + 1]'(by omega)).toNat : Int) := by
          unfold bt
          have e : ((n : Int) + 1).toNat = n + 1 := by omega
          rw [e, dif_pos (by omega)]
        have e1 : ((n : Int) + 2).toNat = n + 2 := by omega
        have e0 : ((n : Int)).toNat = n := by omega
        rw [hbt, e1, e0] at hR
        have hS2 : (s'.extract (n + 2) s'.size).size = s'.size - (n + 2) := by rw [ByteArray.size_extract]; omega
        have hY1 : (xs ++ bytesOf (s'.extract 0 n)).length = xs.length + n := by rw [List.length_append, bytesOf_length, hex]
        obtain ⟨m, hm⟩ : ∃ m : Int, ((s'[n + 1]'(by omega)).toNat : Int) = m := ⟨_, rfl⟩
        rw [hm] at hR ⊢
        obtain ⟨ys, hys⟩ : ∃ ys, xs ++ bytesOf (s'.extract 0 n) = ys := ⟨_, rfl⟩
        rw [hys] at hR hY1 HO2 hcv
        obtain ⟨s2, hs2⟩ : ∃ s2, s'.extract (n + 2) s'.size = s2 := ⟨_, rfl⟩
        rw [hs2] at hR hS2 ⊢
        have HY := Aside0.mk (show ys.length + s2.size + 1 ≤ 140737488355328 by omega)
        have HS2 := Aside0.mk (show s2.size < s'.size by omega)
        clear hbt hm hys hs2 hS2 hY1 hex hcat e1 e0 hb2 h0 h1 h2 h3 h4 h5 hw1 hw2 b1 hsz
        by_cases hm : m = 255
        · rw [if_pos hm] at hR
          have HR := Aside0.mk hR
          have hmb : (m == 255) = true := by rw [hm]; rfl
          clear hR hm hcv
          go_wp2_with (((with_reducible refine gate_builtin (b := .append) (xs := #[.tmp 34, .tmp 35]) rfl ?_); (try (refine gate_guard (by rfl) ?_; dsimp only)); at_builtin; refine Kd.R_append (Kd.int .u8) (w0 := w) w.heap.size rfl (.tmp 34) (.tmp 35) 52 5 (.int .u8 0) 1 rfl Tryd.underlying52 infoU8 rfl (by decide) (by omega) v2 ys 0 [.int .u8 0] (fun _ => True) (fun _ => False) rfl rfl ?aP (fun _ hk => hk.elim) ?aF ?aO ?aB ?aS ?aL ?_; (case aP => exact rfl); (case aB => exact HB2.out); (case aF => exact (fun _ _ => trivial)); (case aO => exact HO2.out.R); (case aS => exact HZ2.out); (case aL => have := HY.out; omega); intro v3 w3 ho hb hg hat; have HO3 := Aside0.mk (RB.of_R ho); have HB3 := Aside0.mk hb; have HZ3 := Aside0.mk (show w.heap.size ≤ w3.heap.size by have h1 := hg.size; have h2 := HZ2.out; omega); clear ho hb hg hat))
          go_step3
          exact ⟨rfl, ⟨s2, v3, ys ++ [0], k, _, _, _, _, _, _, _, _, _, _, _, _, _, _, _, _, _, _, _, _, _, _, _, _, _, _, _, _, _, _, _, _, _, _, _, _, _, rfl, HR, ⟨by have := HS2.out; have := HK.out; omega⟩, ⟨by have := HY.out; rw [List.length_append]; simp only [List.length_cons, List.length_nil]; omega⟩, HO3, HB3, HZ3⟩, HS2.out⟩
        · rw [if_neg hm] at hR
          subst hR
          have hmb : (m == 255) = false := beq_eq_false_iff_ne.2 hm
          have hmz : (m == 0) = decide (m = 0) := by by_cases h : m = 0 <;> simp [h]
          clear hm
          go_wp2
          simp only [Exit.jump]
          exact bodyPost_ret (results_tmp3 rfl _ _ _) rfl ⟨rfl, HB2.out⟩
def value_word.f (a0 : ByteArray) : Option (ByteArray × ByteArray × Bool) := if a0.size ≤ 140737488355328 then some (wordR (a0.size + 1) a0 []) else none
theorem value_word.calls (a0 : ByteArray) (r1 : ByteArray) (r2 : ByteArray) (r3 : Bool) (w : World) (h : value_word.f a0 = some (r1, r2, r3)) :
    Calls Tryd.prog 33 #[.string a0] w fun e w' => e = .returned (.tuple #[.string r1, .string r2, .bool r3]) ∧ Below w.heap.size w w' := by
  unfold value_word.f at h
  split at h
  · rename_i hs
    have := word_walk a0 hs w
    rw [Option.some.inj h] at this
    exact this
  · cases h
end Go.Proofs.YtindffllmlifiaaDoor.Q
-- Written by a program of the session over the translation's print: functions as plain Lean, and that the machine's call comes to them.
namespace Go.Proofs.YtindffllmlifiaaDoor.Q
open Go.RowKit Go.Proofs.YtindffllmlifiaaDoorW.PrintWords Go.Proofs.YtindffllmlifiaaDoorW.PrintLast Go.Proofs.YtindffllmlifiaaDoorW.PrintMore
attribute [local go_sem] max2_int min2_int max_two min_two max_three min_three max_four min_four   -- for this text's walks alone
set_option linter.unusedVariables false
set_option linter.unusedSimpArgs false

-- NOT PRINTED: function 58 (bytealg_IndexByteString)

-- NOT PRINTED: function 50 (stringslite_IndexByte)

/-! ### value_Unkey: function 18 -/
mutual
def value_Unkey.l0 : Nat → ByteArray → List (S23) → Option ((List (S23)) × Int)
  | 0, _, _ => none
  | k + 1, x0, x4 => if x0.toList = ([] : List UInt8) then (some (x4, 0)) else (if 0 < (x0.size : Int) then (if 1 ≤ (x0.size : Int) then (if (wrap64 ((wrap64 (bt x0 0)) - 1)) = 0 then (value_Unkey.j1 k (x0.extract 1 x0.size) x4 true (wrap64 ((wrap64 (bt x0 0)) - 1)) 0 (⟨#[]⟩ : ByteArray)) else (if (wrap64 ((wrap64 (bt x0 0)) - 1)) = 1 then (if ((x0.extract 1 x0.size).size : Int) ≥ 8 then (if 0 ≤ 8 then (if 8 ≤ ((x0.extract 1 x0.size).size : Int) then ((value_number.f k ((x0.extract 1 x0.size).extract 0 8)).bind fun t102 => (value_Unkey.j1 k ((x0.extract 1 x0.size).extract 8 (x0.extract 1 x0.size).size) x4 (decide (((x0.extract 1 x0.size).size : Int) ≥ 8)) (wrap64 ((wrap64 (bt x0 0)) - 1)) (wrap64 (Go.bits .xor .u64 t102 9223372036854775808)) (⟨#[]⟩ : ByteArray))) else (none)) else (none)) else (value_Unkey.j1 k (x0.extract 1 x0.size) x4 (decide (((x0.extract 1 x0.size).size : Int) ≥ 8)) (wrap64 ((wrap64 (bt x0 0)) - 1)) 0 (⟨#[]⟩ : ByteArray))) else (if (wrap64 ((wrap64 (bt x0 0)) - 1)) = 2 then (if ((x0.extract 1 x0.size).size : Int) ≥ 1 then (if 0 < ((x0.extract 1 x0.size).size : Int) then (if 1 ≤ ((x0.extract 1 x0.size).size : Int) then (value_Unkey.j1 k ((x0.extract 1 x0.size).extract 1 (x0.extract 1 x0.size).size) x4 (decide (((x0.extract 1 x0.size).size : Int) ≥ 1)) (wrap64 ((wrap64 (bt x0 0)) - 1)) (wrap64 (bt (x0.extract 1 x0.size) 0)) (⟨#[]⟩ : ByteArray)) else (none)) else (none)) else (value_Unkey.j1 k (x0.extract 1 x0.size) x4 (decide (((x0.extract 1 x0.size).size : Int) ≥ 1)) (wrap64 ((wrap64 (bt x0 0)) - 1)) 0 (⟨#[]⟩ : ByteArray))) else (if (wrap64 ((wrap64 (bt x0 0)) - 1)) = 3 then ((value_word.f (x0.extract 1 x0.size)).bind fun bt103 => (value_Unkey.j1 k bt103.2.1 x4 bt103.2.2 (wrap64 ((wrap64 (bt x0 0)) - 1)) 0 bt103.1)) else (value_Unkey.j1 k (x0.extract 1 x0.size) x4 false (wrap64 ((wrap64 (bt x0 0)) - 1)) 0 (⟨#[]⟩ : ByteArray)))))) else (none)) else (none))
def value_Unkey.j1 : Nat → ByteArray → List (S23) → Bool → Int → Int → ByteArray → Option ((List (S23)) × Int)
  | 0, _, _, _, _, _, _ => none
  | k + 1, x0, x4, x6, x102000, x102001, x102002 => if x6 = true then ((value_Check.f k x102000 x102001 x102002).bind fun t106 => (if t106 = 0 then (value_Unkey.j2 k x0 x4 ((x4.length : Int) == 12) x102000 x102001 x102002) else (value_Unkey.j2 k x0 x4 true x102000 x102001 x102002))) else (value_Unkey.j2 k x0 x4 true x102000 x102001 x102002)
def value_Unkey.j2 : Nat → ByteArray → List (S23) → Bool → Int → Int → ByteArray → Option ((List (S23)) × Int)
  | 0, _, _, _, _, _, _ => none
  | k + 1, x0, x4, x66, x102000, x102001, x102002 => if x66 = true then (some (([] : List (S23)), 31)) else (if x4.length < 4398046511104 then (value_Unkey.l0 k x0 (x4 ++ [(⟨x102000, x102001, x102002⟩ : S23)])) else (none))
end
def value_Unkey.f (k : Nat) (a0 : ByteArray) : Option ((List (S23)) × Int) := value_Unkey.l0 k a0 ([] : List (S23))
def value_Unkey.T12 : Bool × List (List Nat × List Nat) := (true, [([], []), ([0], [0]), ([1], [1]), ([2], [2]), ([3], [3]), ([], []), ([5], [5]), ([0, 1, 2, 3, 4], []), ([7, 4, 2, 0, 1, 2, 3, 4], [4, 7]), ([6, 8, 0, 1, 2, 3, 4, 5, 6, 7, 8], [0, 5, 6])])
def value_Unkey.B12 : List Nat := [0, 1, 3, 7, 15, 0, 32, 31, 159, 511]
theorem value_Unkey.tab12 : rtab .any (opsOf Tryd.f18 12) = value_Unkey.T12 := by kernel_rfl
theorem value_Unkey.bits12 : waitsOk value_Unkey.T12.2 value_Unkey.B12 = true := by kernel_rfl
def value_Unkey.T16 : Bool × List (List Nat × List Nat) := (true, [([], []), ([0], [0]), ([1], [1]), ([], []), ([3], [3]), ([0, 1, 2], []), ([5, 2, 0, 1, 2], [2, 5]), ([4, 6, 0, 1, 2, 3, 4, 5, 6], [0, 3, 4])])
def value_Unkey.B16 : List Nat := [0, 1, 3, 0, 8, 7, 39, 127]
theorem value_Unkey.tab16 : rtab .any (opsOf Tryd.f18 16) = value_Unkey.T16 := by kernel_rfl
theorem value_Unkey.bits16 : waitsOk value_Unkey.T16.2 value_Unkey.B16 = true := by kernel_rfl
set_option maxHeartbeats 8000000 in
set_option maxRecDepth 100000 in
theorem value_Unkey.calls (k : Nat) (a0 : ByteArray) (r1 : List (S23)) (r2 : Int) (w : World) (h : value_Unkey.f k a0 = some (r1, r2)) :
    Calls Tryd.prog 18 #[.string a0] w fun e w' => ∃ v0_ : Value, e = .returned (.tuple #[v0_, .int .i64 r2]) ∧ Kd.R k23 23 w' w.heap.size (fun _ => True) v0_ r1 ∧ Below w.heap.size w w' := by
  have hu23 := Tryd.underlying23
  have HB := Aside0.mk (Below.refl w.heap.size w)
  have H : (value_Unkey.l0 k a0 ([] : List (S23))) = some (r1, r2) := h
  clear h
  have H' := Aside0.mk H
  clear H
  go_enter Tryd.func18, Tryd.ntmps18
  go_wp2
  go_loopg [0, 4] k (fun kq v0 v4 w' => ∃ (x0_1 : ByteArray) (x4_1 : List (S23)), v0 = .string x0_1 ∧ Aside0 (value_Unkey.l0 kq x0_1 x4_1 = some (r1, r2)) ∧ Aside0 (kq ≤ k) ∧ Aside0 (Kd.R k23 23 w' w.heap.size (fun _ => True) v4 x4_1) ∧ Aside0 (Below w.heap.size w w'))
  case atStart => exact ⟨(a0), (([] : List (S23))), (by first | with_reducible rfl | (simp; done) | rfl | (simp [*]; done)), H', ⟨Nat.le_refl _⟩, ⟨by first | exact Kd.R_nil _ _ _ _ _ | exact Kd.N_nil _ _ _ _ _ | exact Kd.V_nil _ _ _ _ _ | exact Kd.Q_nil _ _ _ _ _ | exact Kd.S_nil _ _ _ _ _⟩, ⟨by repeat (first | (with_reducible first | exact HB.out | apply below_alloc | apply pw_below_drewN | apply below_drew1) | exact HB.out)⟩⟩
  case round =>
    clear H'
    try clear c1
    obtain ⟨x0_1, x4_1, rfl, HA, HK1, HO_4, HB⟩ := hrel
    cases gk with
    | zero => exact absurd HA.out (by simp [value_Unkey.l0])
    | succ k1 =>
      have H := HA.out
      clear HA
      simp only [value_Unkey.l0] at H
      by_cases c2 : x0_1.toList = ([] : List UInt8)
      · rw [if_pos c2] at H
        have c2b0 : (x0_1.toList == ([] : List UInt8)) = true := beq_iff_eq.mpr c2
        have c2b1 : (x0_1.toList != ([] : List UInt8)) = false := bne_eq_false_iff_eq.mpr c2
        clear c2
        simp only [Option.some.injEq, Prod.mk.injEq] at H
        obtain ⟨rfl, rfl⟩ := H
        go_wp2
        go_ret2
        exact ⟨_, by first | rfl | (simp [errW_none, errW_some] <;> rfl) | (simp [*, errW_none, errW_some] <;> rfl), by (with_reducible repeat (first | apply Kd.R_alloc | apply Kd.R_drewN | apply Kd.R_drew)); exact HO_4.out, by repeat (first | (with_reducible first | exact HB.out | apply below_alloc | apply pw_below_drewN | apply below_drew1) | exact HB.out)⟩
      · rw [if_neg c2] at H
        have c2b0 : (x0_1.toList == ([] : List UInt8)) = false := beq_eq_false_iff_ne.mpr c2
        have c2b1 : (x0_1.toList != ([] : List UInt8)) = true := bne_iff_ne.mpr c2
        by_cases c3 : 0 < (x0_1.size : Int)
        · rw [if_pos c3] at H
          have c3b0 : decide (0 < (x0_1.size : Int)) = true := decide_eq_true c3
          have c3b1 : decide (0 < x0_1.size) = true := decide_eq_true (by omega)
          clear c3
          by_cases c5 : 1 ≤ (x0_1.size : Int)
          · rw [if_pos c5] at H
            have c5b0 := eq_true c5
            try (have c5b0x := c5b0; simp only [ByteArray.size_extract, Nat.min_self] at c5b0x; try have c5b0y := eq_true (of_decide_eq_true c5b0x))
            have c5b1 : decide (1 ≤ (x0_1.size : Int)) = true := decide_eq_true c5
            clear c5
            have HC6 := Aside0.mk H
            clear H
            have p4 : 0 ≤ (0 : Int) := (by omega)
            have q4 : 0 < x0_1.size := (by have : (0 : Int) < (x0_1.size : Int) := of_decide_eq_true (by first | (with_reducible assumption) | assumption); omega)
            have hx4 : ∀ h : 0 < x0_1.size, ((x0_1[0]'h).toNat : Int) = bt x0_1 0 := bt_at x0_1 0
            clear p4
            have qi4 : (0 < (x0_1.size : Int)) = True := eq_true (of_decide_eq_true (by first | (with_reducible assumption) | assumption))
            replace q4 := eq_true q4
            go_upto_block 2 with (first | ((with_reducible refine gate_dst (N := 5) rfl ?_); (try (refine gate_guard (by rfl) ?_; dsimp only)); refine box_event ?hg (N := 5) ?hd (cs := #[.int .i64 0, .int .i64 0, .string (⟨#[]⟩ : ByteArray)]) (t := 23) ?hr ?_; (case hd => rfl); (case hg => rfl); (case hr => first | (go_simp; done) | (go_simp; rfl)); intro gb101 hg w7 hbox hb; have n0_ := Aside0.mk (Kd.R_below (Kd.R_elderB (by (with_reducible repeat (first | apply Kd.R_alloc | apply Kd.R_drewN | apply Kd.R_drew)); exact HO_4.out) gb101 (Nat.le_of_eq hg.symm)) hb); have n1_ := Aside0.mk (below_step (by repeat (first | (with_reducible first | exact HB.out | apply below_alloc | apply pw_below_drewN | apply below_drew1) | exact HB.out)) hb); have n2_ := Aside0.mk (hbox); have n3_ := Aside0.mk ((by rw [hg]; exact (below_size (by repeat (first | (with_reducible first | exact HB.out | apply below_alloc | apply pw_below_drewN | apply below_drew1) | exact HB.out))) : w.heap.size ≤ gb101)); have n4_ := Aside0.mk ((by rw [hg]; exact (below_size (by repeat (first | (with_reducible first | exact HB.out | apply below_alloc | apply pw_below_drewN | apply below_drew1) | exact HB.out))) : w.heap.size ≤ gb101)); clear HO_4; clear HB; have HO_4 := n0_; have HB := n1_; have BK101 := n2_; have GW101 := n3_; have GE101 := n4_; clear n0_ n1_ n2_ n3_ n4_; clear hb hbox hg; obtain ⟨hcz8_0, hcz8_1, hcz8_2, hfz8_0, hfz8_1, hfz8_2⟩ := bf3 BK101.out))
            (try simp only [Act.put, List.setIfInBounds_toArray, List.set_cons_zero, List.set_cons_succ])
            go_cut [0, 6] (fun v0 v6 wc => ∃ (kq : Nat) (x0_5 : ByteArray) (x6_5 : Bool) (x102001_5 : Int) (x102002_5 : ByteArray), v0 = .string x0_5 ∧ v6 = .bool x6_5 ∧ Aside0 (value_Unkey.j1 kq x0_5 x4_1 x6_5 (wrap64 ((wrap64 (bt x0_1 0)) - 1)) x102001_5 x102002_5 = some (r1, r2)) ∧ Aside0 (kq ≤ k1) ∧ Aside0 (Kd.R k23 23 wc w.heap.size (fun k_ => k_ ≠ gb101) u4 x4_1) ∧ Aside0 (wc.heap[gb101]? = some (.cells #[.int .i64 (wrap64 ((wrap64 (bt x0_1 0)) - 1)), .int .i64 x102001_5, .string x102002_5] 23 (0, 0))) ∧ Aside0 (Below w.heap.size w wc))
            case first =>
              have H := HC6.out
              clear HC6
              by_cases c9 : (wrap64 ((wrap64 (bt x0_1 0)) - 1)) = 0
              · rw [if_pos c9] at H
                have c9b0 : ((wrap64 ((wrap64 (bt x0_1 0)) - 1)) == 0) = true := beq_iff_eq.mpr c9
                have c9b1 : ((wrap64 ((wrap64 (bt x0_1 0)) - 1)) != 0) = false := bne_eq_false_iff_eq.mpr c9
                clear c9
                (first | rw [c9b0] | (simp only [i64_w, i32_w]; rw [c9b0]) | skip)
                have H' := Aside0.mk H
                clear H
                go_wp2
                go_meet
                case rel => exact ⟨_, (x0_1.extract 1 x0_1.size), (true), (0), ((⟨#[]⟩ : ByteArray)), (by first | with_reducible rfl | (simp; done) | rfl | (simp [*]; done)), (by first | with_reducible rfl | (simp; done) | rfl | (simp [*]; done)), H', ⟨by have := HK1.out; first | omega | exact Nat.le_refl _⟩, ⟨by (with_reducible repeat (first | apply Kd.R_alloc | apply Kd.R_drewN | apply Kd.R_drew)); exact Kd.R_mono (Kd.R_far (p := ⟨gb101, 2, none⟩) (Kd.R_far (p := ⟨gb101, 1, none⟩) (Kd.R_far (p := ⟨gb101, 0, none⟩) (Kd.R_mono HO_4.out (fun k_ hk => (⟨hk, hk.2⟩ : _ ∧ k_ ≠ gb101))) (fun _ hk => hk.2) (.int .i64 (wrap64 ((wrap64 (bt x0_1 0)) - 1)))) (fun _ hk => hk.2) (.int .i64 0)) (fun _ hk => hk.2) (.string (⟨#[]⟩ : ByteArray))) (fun _ hk => hk.1.2)⟩, ⟨by (with_reducible repeat (first | refine blk_drewN ?_ _ | refine blk_drew ?_ | refine blk_alloc ?_ _)); refine blk_put (cs := #[.int .i64 (wrap64 ((wrap64 (bt x0_1 0)) - 1)), .int .i64 0, .string (⟨#[]⟩ : ByteArray)]) ?_ 2 _ rfl; (with_reducible repeat (first | refine blk_drewN ?_ _ | refine blk_drew ?_ | refine blk_alloc ?_ _)); refine blk_put (cs := #[.int .i64 (wrap64 ((wrap64 (bt x0_1 0)) - 1)), .int .i64 0, .string (⟨#[]⟩ : ByteArray)]) ?_ 1 _ rfl; (with_reducible repeat (first | refine blk_drewN ?_ _ | refine blk_drew ?_ | refine blk_alloc ?_ _)); refine blk_put (cs := #[.int .i64 0, .int .i64 0, .string (⟨#[]⟩ : ByteArray)]) ?_ 0 _ rfl; (with_reducible repeat (first | refine blk_drewN ?_ _ | refine blk_drew ?_ | refine blk_alloc ?_ _)); exact BK101.out⟩, ⟨by repeat (first | (with_reducible first | exact HB.out | apply below_alloc | apply pw_below_drewN | apply below_drew1 | refine below_set ?_ GE101.out) | exact HB.out)⟩⟩
              · rw [if_neg c9] at H
                have c9b0 : ((wrap64 ((wrap64 (bt x0_1 0)) - 1)) == 0) = false := beq_eq_false_iff_ne.mpr c9
                have c9b1 : ((wrap64 ((wrap64 (bt x0_1 0)) - 1)) != 0) = true := bne_iff_ne.mpr c9
                (first | rw [c9b0] | (simp only [i64_w, i32_w]; rw [c9b0]) | skip)
                by_cases c10 : (wrap64 ((wrap64 (bt x0_1 0)) - 1)) = 1
                · rw [if_pos c10] at H
                  have c10b0 : ((wrap64 ((wrap64 (bt x0_1 0)) - 1)) == 1) = true := beq_iff_eq.mpr c10
                  have c10b1 : ((wrap64 ((wrap64 (bt x0_1 0)) - 1)) != 1) = false := bne_eq_false_iff_eq.mpr c10
                  clear c10
                  by_cases c11 : ((x0_1.extract 1 x0_1.size).size : Int) ≥ 8
                  · rw [if_pos c11] at H
                    have c11b0 : decide (8 ≤ ((x0_1.extract 1 x0_1.size).size : Int)) = true := decide_eq_true c11
                    try (have c11b0x := c11b0; simp only [ByteArray.size_extract, Nat.min_self] at c11b0x; try have c11b0y := eq_true (of_decide_eq_true c11b0x))
                    have c11b1 : decide (8 ≤ (x0_1.extract 1 x0_1.size).size) = true := decide_eq_true (by omega)
                    try (have c11b1x := c11b1; simp only [ByteArray.size_extract, Nat.min_self] at c11b1x; try have c11b1y := eq_true (of_decide_eq_true c11b1x))
                    clear c11
                    by_cases c12 : 0 ≤ 8
                    · rw [if_pos c12] at H
                      have c12b0 := eq_true c12
                      try (have c12b0x := c12b0; simp only [ByteArray.size_extract, Nat.min_self] at c12b0x; try have c12b0y := eq_true (of_decide_eq_true c12b0x))
                      have c12b1 : decide (0 ≤ 8) = true := decide_eq_true c12
                      clear c12
                      by_cases c13 : 8 ≤ ((x0_1.extract 1 x0_1.size).size : Int)
                      · rw [if_pos c13] at H
                        have c13b0 := eq_true c13
                        try (have c13b0x := c13b0; simp only [ByteArray.size_extract, Nat.min_self] at c13b0x; try have c13b0y := eq_true (of_decide_eq_true c13b0x))
                        have c13b1 : decide (8 ≤ ((x0_1.extract 1 x0_1.size).size : Int)) = true := decide_eq_true c13
                        try (have c13b1x := c13b1; simp only [ByteArray.size_extract, Nat.min_self] at c13b1x; try have c13b1y := eq_true (of_decide_eq_true c13b1x))
                        clear c13
                        replace H := Option.bind_eq_some_iff.mp H
                        obtain ⟨t102, A140, H⟩ := H
                        replace H : (value_Unkey.j1 k1 ((x0_1.extract 1 x0_1.size).extract 8 (x0_1.extract 1 x0_1.size).size) x4_1 (decide (((x0_1.extract 1 x0_1.size).size : Int) ≥ 8)) (wrap64 ((wrap64 (bt x0_1 0)) - 1)) (wrap64 (Go.bits .xor .u64 t102 9223372036854775808)) (⟨#[]⟩ : ByteArray)) = some (r1, r2) := H
                        have A14 := Aside0.mk A140
                        clear A140
                        have c15b0 := eq_true (of_decide_eq_true (by first | (with_reducible assumption) | assumption) : 8 ≤ ((x0_1.extract 1 x0_1.size).size : Int))
                        try (have c15b0x := c15b0; simp only [ByteArray.size_extract, Nat.min_self] at c15b0x; try have c15b0y := eq_true (of_decide_eq_true c15b0x))
                        have H' := Aside0.mk H
                        clear H
                        try go_wp2
                        have n0_ : Aside0 (Kd.R k23 23 (((w7.setCell ⟨gb101, 0, none⟩ (.int .i64 (wrap64 ((wrap64 (bt x0_1 0)) - 1)))).setCell ⟨gb101, 1, none⟩ (.int .i64 0)).setCell ⟨gb101, 2, none⟩ (.string (⟨#[]⟩ : ByteArray))) w.heap.size (fun k_ => k_ ≠ gb101) u4 x4_1) := ⟨by (with_reducible repeat (first | apply Kd.R_alloc | apply Kd.R_drewN | apply Kd.R_drew)); exact Kd.R_mono (Kd.R_far (p := ⟨gb101, 2, none⟩) (Kd.R_far (p := ⟨gb101, 1, none⟩) (Kd.R_far (p := ⟨gb101, 0, none⟩) (Kd.R_mono HO_4.out (fun k_ hk => (⟨hk, hk.2⟩ : _ ∧ k_ ≠ gb101))) (fun _ hk => hk.2) (.int .i64 (wrap64 ((wrap64 (bt x0_1 0)) - 1)))) (fun _ hk => hk.2) (.int .i64 0)) (fun _ hk => hk.2) (.string (⟨#[]⟩ : ByteArray))) (fun _ hk => hk.1.2)⟩
                        have n1_ : Aside0 ((((w7.setCell ⟨gb101, 0, none⟩ (.int .i64 (wrap64 ((wrap64 (bt x0_1 0)) - 1)))).setCell ⟨gb101, 1, none⟩ (.int .i64 0)).setCell ⟨gb101, 2, none⟩ (.string (⟨#[]⟩ : ByteArray))).heap[gb101]? = some (.cells #[.int .i64 (wrap64 ((wrap64 (bt x0_1 0)) - 1)), .int .i64 0, .string (⟨#[]⟩ : ByteArray)] 23 (0, 0))) := ⟨by (with_reducible repeat (first | refine blk_drewN ?_ _ | refine blk_drew ?_ | refine blk_alloc ?_ _)); refine blk_put (cs := #[.int .i64 (wrap64 ((wrap64 (bt x0_1 0)) - 1)), .int .i64 0, .string (⟨#[]⟩ : ByteArray)]) ?_ 2 _ rfl; (with_reducible repeat (first | refine blk_drewN ?_ _ | refine blk_drew ?_ | refine blk_alloc ?_ _)); refine blk_put (cs := #[.int .i64 (wrap64 ((wrap64 (bt x0_1 0)) - 1)), .int .i64 0, .string (⟨#[]⟩ : ByteArray)]) ?_ 1 _ rfl; (with_reducible repeat (first | refine blk_drewN ?_ _ | refine blk_drew ?_ | refine blk_alloc ?_ _)); refine blk_put (cs := #[.int .i64 0, .int .i64 0, .string (⟨#[]⟩ : ByteArray)]) ?_ 0 _ rfl; (with_reducible repeat (first | refine blk_drewN ?_ _ | refine blk_drew ?_ | refine blk_alloc ?_ _)); exact BK101.out⟩
                        have n2_ : Aside0 (Below w.heap.size w (((w7.setCell ⟨gb101, 0, none⟩ (.int .i64 (wrap64 ((wrap64 (bt x0_1 0)) - 1)))).setCell ⟨gb101, 1, none⟩ (.int .i64 0)).setCell ⟨gb101, 2, none⟩ (.string (⟨#[]⟩ : ByteArray)))) := ⟨by repeat (first | (with_reducible first | exact HB.out | apply below_alloc | apply pw_below_drewN | apply below_drew1 | refine below_set ?_ GE101.out) | exact HB.out)⟩
                        (try clear HO_4)
                        (try clear BK101)
                        (try clear HB)
                        generalize (((w7.setCell ⟨gb101, 0, none⟩ (.int .i64 (wrap64 ((wrap64 (bt x0_1 0)) - 1)))).setCell ⟨gb101, 1, none⟩ (.int .i64 0)).setCell ⟨gb101, 2, none⟩ (.string (⟨#[]⟩ : ByteArray))) = w16 at n0_ n1_ n2_ ⊢
                        have HO_4 := n0_
                        have BK101 := n1_
                        have HB := n2_
                        clear n0_ n1_ n2_
                        have n0_ := Aside0.mk (Kd.R_drew HO_4.out)
                        have n1_ := Aside0.mk (blk_drew BK101.out)
                        have n2_ := Aside0.mk (below_drew1 HB.out)
                        clear HO_4
                        clear BK101
                        clear HB
                        have HO_4 := n0_
                        have BK101 := n1_
                        have HB := n2_
                        clear n0_ n1_ n2_
                        refine start_ (n := 10) (S := fun w' => True) (ds := []) #[false, false, false, false, false, false, false, false, false, false] (by kernel_rfl) rfl rfl trivial (fun hHeld => ?_); refine with_tabW value_Unkey.tab12 value_Unkey.bits12 (fun HT_ HW_ => ?_)
                        generalize w16.drew = w17 at HO_4 BK101 HB hHeld ⊢
                        refine pure_ (i := 0) (N := some 26) (v := ?_) (a' := ?_) #[true, false, false, false, false, false, false, false, false, false] rfl rfl (any_of HT_.out (by kernel_rfl)) (fun _ _ _ h => h) (Or.inl ⟨by rfl, ?_⟩) ?_ ?_
                        rotate_left
                        · intro w'
                          go_simp
                          with_reducible rfl
                        rotate_left
                        · simp only [Act.put, List.setIfInBounds_toArray, List.set_cons_zero, List.set_cons_succ, i64_w, i32_w]
                          rfl
                        refine pure_ (i := 1) (N := some 27) (v := ?_) (a' := ?_) #[true, true, false, false, false, false, false, false, false, false] rfl rfl (any_of HT_.out (by kernel_rfl)) (fun _ _ _ h => h) (Or.inl ⟨by rfl, ?_⟩) ?_ ?_
                        rotate_left
                        · intro w'
                          go_simp
                          with_reducible rfl
                        rotate_left
                        · simp only [Act.put, List.setIfInBounds_toArray, List.set_cons_zero, List.set_cons_succ, i64_w, i32_w]
                          rfl
                        refine pure_ (i := 5) (N := some 31) (v := ?_) (a' := ?_) #[true, true, false, false, false, true, false, false, false, false] rfl rfl (any_of HT_.out (by kernel_rfl)) (fun _ _ _ h => h) (Or.inl ⟨by rfl, ?_⟩) ?_ ?_
                        rotate_left
                        · intro w'
                          go_simp
                          with_reducible rfl
                        rotate_left
                        · simp only [Act.put, List.setIfInBounds_toArray, List.set_cons_zero, List.set_cons_succ, i64_w, i32_w]
                          rfl
                        refine pure_ (i := 6) (N := some 32) (v := ?_) (a' := ?_) #[true, true, false, false, false, true, true, false, false, false] rfl rfl (any_of HT_.out (by kernel_rfl)) (fun _ _ _ h => h) (Or.inl ⟨by rfl, ?_⟩) ?_ ?_
                        rotate_left
                        · intro w'
                          go_simp
                          with_reducible rfl
                        rotate_left
                        · simp only [Act.put, List.setIfInBounds_toArray, List.set_cons_zero, List.set_cons_succ, i64_w, i32_w]
                          rfl
                        refine one_ (i := 2) (N := some 28) #[true, true, true, false, false, true, true, false, false, false] rfl rfl (one_of HT_.out (by kernel_rfl)) (by decide) (fun K hK => ?_)
                        refine goes_ Tryd.func32 (by kernel_rfl) rfl #[.string ((x0_1.extract 1 x0_1.size).extract 0 8)] (by rfl) rfl rfl (by (try simp only [List.map_toArray, List.map_cons, List.map_nil]); first | done | rfl | (simp only [List.length_drop, List.length_take]; rfl) | exact congrArg (fun x_ : Int => #[Value.int .u64 x_]) (show _ = _ % (18446744073709551616 : Int) by omega)) ?_
                        with_reducible refine (value_number.calls k1 ((x0_1.extract 1 x0_1.size).extract 0 8) t102 _ A14.out).mono ?_
                        rintro e w' ⟨rfl, ⟨nd, rfl⟩⟩
                        refine ⟨_, rfl, ?_⟩
                        refine hK.out _ _ trivial (fun hHeld => ?_)
                        clear hK K
                        refine norm_ (a' := ?_) ?_ ?_
                        rotate_left
                        · show Act.put _ (some 28) _ = _
                          simp only [Act.put, List.setIfInBounds_toArray, List.set_cons_zero, List.set_cons_succ, i64_w, i32_w]
                          rfl
                        refine pure_ (i := 3) (N := some 29) (v := ?_) (a' := ?_) #[true, true, true, true, false, true, true, false, false, false] rfl rfl (any_of HT_.out (by kernel_rfl)) (fun _ _ _ h => h) (Or.inl ⟨by rfl, ?_⟩) ?_ ?_
                        rotate_left
                        · intro w'
                          go_simp
                          with_reducible rfl
                        rotate_left
                        · simp only [Act.put, List.setIfInBounds_toArray, List.set_cons_zero, List.set_cons_succ, i64_w, i32_w]
                          rfl
                        refine pure_ (i := 4) (N := some 30) (v := ?_) (a' := ?_) #[true, true, true, true, true, true, true, false, false, false] rfl rfl (any_of HT_.out (by kernel_rfl)) (fun _ _ _ h => h) (Or.inl ⟨by rfl, ?_⟩) ?_ ?_
                        rotate_left
                        · intro w'
                          go_simp
                          with_reducible rfl
                        rotate_left
                        · simp only [Act.put, List.setIfInBounds_toArray, List.set_cons_zero, List.set_cons_succ, i64_w, i32_w]
                          rfl
                        refine pure_ (i := 7) (N := some 33) (v := ?_) (a' := ?_) #[true, true, true, true, true, true, true, true, false, false] rfl rfl (any_of HT_.out (by kernel_rfl)) (fun _ _ _ h => h) (Or.inl ⟨by rfl, ?_⟩) ?_ ?_
                        rotate_left
                        · intro w'
                          go_simp
                          with_reducible rfl
                        rotate_left
                        · simp only [Act.put, List.setIfInBounds_toArray, List.set_cons_zero, List.set_cons_succ, i64_w, i32_w]
                          rfl
                        refine one_ (i := 8) (N := none) #[true, true, true, true, true, true, true, true, true, false] rfl rfl (one_of HT_.out (by kernel_rfl)) (by decide) (fun K hK => ?_)
                        have hs18 : w17.cell? ⟨gb101, 1, none⟩ = some (.int .i64 0) := (blk_cell BK101.out 1).trans rfl
                        have hfs18 := blk_frozen BK101.out 1
                        refine skip_ (w1 := ?_) (by rfl) rfl ?_ ?_
                        rotate_left
                        · go_simp
                          rfl
                        refine hK.out _ _ trivial (fun hHeld => ?_)
                        clear hK K
                        refine pure_ (i := 9) (N := some 0) (v := ?_) (a' := ?_) #[true, true, true, true, true, true, true, true, true, true] rfl rfl (any_of HT_.out (by kernel_rfl)) (fun _ _ _ h => h) (Or.inl ⟨by rfl, ?_⟩) ?_ ?_
                        rotate_left
                        · intro w'
                          go_simp
                          with_reducible rfl
                        rotate_left
                        · simp only [Act.put, List.setIfInBounds_toArray, List.set_cons_zero, List.set_cons_succ, i64_w, i32_w]
                          rfl
                        refine done_ (done_of HT_.out (by kernel_rfl)) ?_
                        try go_wp2
                        go_meet
                        case rel => exact ⟨_, ((x0_1.extract 1 x0_1.size).extract 8 (x0_1.extract 1 x0_1.size).size), (decide (((x0_1.extract 1 x0_1.size).size : Int) ≥ 8)), (wrap64 (Go.bits .xor .u64 t102 9223372036854775808)), ((⟨#[]⟩ : ByteArray)), (by first | with_reducible rfl | (simp; done) | rfl | (simp [*]; done)), (by first | with_reducible rfl | (simp; done) | rfl | (simp [*]; done)), H', ⟨by have := HK1.out; first | omega | exact Nat.le_refl _⟩, ⟨by (with_reducible repeat (first | apply Kd.R_alloc | apply Kd.R_drewN | apply Kd.R_drew)); exact Kd.R_mono (Kd.R_far (p := ⟨gb101, 1, none⟩) (Kd.R_mono HO_4.out (fun k_ hk => (⟨hk, hk⟩ : _ ∧ k_ ≠ gb101))) (fun _ hk => hk.2) (.int .i64 (wrap64 (Go.bits .xor .u64 t102 9223372036854775808)))) (fun _ hk => hk.1)⟩, ⟨by (with_reducible repeat (first | refine blk_drewN ?_ _ | refine blk_drew ?_ | refine blk_alloc ?_ _)); refine blk_put (cs := #[.int .i64 (wrap64 ((wrap64 (bt x0_1 0)) - 1)), .int .i64 0, .string (⟨#[]⟩ : ByteArray)]) ?_ 1 _ rfl; (with_reducible repeat (first | refine blk_drewN ?_ _ | refine blk_drew ?_ | refine blk_alloc ?_ _)); exact BK101.out⟩, ⟨by repeat (first | (with_reducible first | exact HB.out | apply below_alloc | apply pw_below_drewN | apply below_drew1 | refine below_set ?_ GE101.out) | exact HB.out)⟩⟩
                      · rw [if_neg c13] at H
                        exact absurd H (by simp)
                    · rw [if_neg c12] at H
                      exact absurd H (by simp)
                  · rw [if_neg c11] at H
                    have c11b0 : decide (8 ≤ ((x0_1.extract 1 x0_1.size).size : Int)) = false := decide_eq_false c11
                    try (have c11b0x := c11b0; simp only [ByteArray.size_extract, Nat.min_self] at c11b0x; try have c11b0y := eq_true (of_decide_eq_true c11b0x))
                    have c11b1 : decide (8 ≤ (x0_1.extract 1 x0_1.size).size) = false := decide_eq_false (by omega)
                    try (have c11b1x := c11b1; simp only [ByteArray.size_extract, Nat.min_self] at c11b1x; try have c11b1y := eq_true (of_decide_eq_true c11b1x))
                    clear c11
                    have H' := Aside0.mk H
                    clear H
                    go_wp2
                    go_meet
                    case rel => exact ⟨_, (x0_1.extract 1 x0_1.size), (decide (((x0_1.extract 1 x0_1.size).size : Int) ≥ 8)), (0), ((⟨#[]⟩ : ByteArray)), (by first | with_reducible rfl | (simp; done) | rfl | (simp [*]; done)), (by first | with_reducible rfl | (simp; done) | rfl | (simp [*]; done)), H', ⟨by have := HK1.out; first | omega | exact Nat.le_refl _⟩, ⟨by (with_reducible repeat (first | apply Kd.R_alloc | apply Kd.R_drewN | apply Kd.R_drew)); exact Kd.R_mono (Kd.R_far (p := ⟨gb101, 2, none⟩) (Kd.R_far (p := ⟨gb101, 1, none⟩) (Kd.R_far (p := ⟨gb101, 0, none⟩) (Kd.R_mono HO_4.out (fun k_ hk => (⟨hk, hk.2⟩ : _ ∧ k_ ≠ gb101))) (fun _ hk => hk.2) (.int .i64 (wrap64 ((wrap64 (bt x0_1 0)) - 1)))) (fun _ hk => hk.2) (.int .i64 0)) (fun _ hk => hk.2) (.string (⟨#[]⟩ : ByteArray))) (fun _ hk => hk.1.2)⟩, ⟨by (with_reducible repeat (first | refine blk_drewN ?_ _ | refine blk_drew ?_ | refine blk_alloc ?_ _)); refine blk_put (cs := #[.int .i64 (wrap64 ((wrap64 (bt x0_1 0)) - 1)), .int .i64 0, .string (⟨#[]⟩ : ByteArray)]) ?_ 2 _ rfl; (with_reducible repeat (first | refine blk_drewN ?_ _ | refine blk_drew ?_ | refine blk_alloc ?_ _)); refine blk_put (cs := #[.int .i64 (wrap64 ((wrap64 (bt x0_1 0)) - 1)), .int .i64 0, .string (⟨#[]⟩ : ByteArray)]) ?_ 1 _ rfl; (with_reducible repeat (first | refine blk_drewN ?_ _ | refine blk_drew ?_ | refine blk_alloc ?_ _)); refine blk_put (cs := #[.int .i64 0, .int .i64 0, .string (⟨#[]⟩ : ByteArray)]) ?_ 0 _ rfl; (with_reducible repeat (first | refine blk_drewN ?_ _ | refine blk_drew ?_ | refine blk_alloc ?_ _)); exact BK101.out⟩, ⟨by repeat (first | (with_reducible first | exact HB.out | apply below_alloc | apply pw_below_drewN | apply below_drew1 | refine below_set ?_ GE101.out) | exact HB.out)⟩⟩
                · rw [if_neg c10] at H
                  have c10b0 : ((wrap64 ((wrap64 (bt x0_1 0)) - 1)) == 1) = false := beq_eq_false_iff_ne.mpr c10
                  have c10b1 : ((wrap64 ((wrap64 (bt x0_1 0)) - 1)) != 1) = true := bne_iff_ne.mpr c10
                  by_cases c19 : (wrap64 ((wrap64 (bt x0_1 0)) - 1)) = 2
                  · rw [if_pos c19] at H
                    have c19b0 : ((wrap64 ((wrap64 (bt x0_1 0)) - 1)) == 2) = true := beq_iff_eq.mpr c19
                    have c19b1 : ((wrap64 ((wrap64 (bt x0_1 0)) - 1)) != 2) = false := bne_eq_false_iff_eq.mpr c19
                    clear c19
                    by_cases c20 : ((x0_1.extract 1 x0_1.size).size : Int) ≥ 1
                    · rw [if_pos c20] at H
                      have c20b0 : decide (1 ≤ ((x0_1.extract 1 x0_1.size).size : Int)) = true := decide_eq_true c20
                      try (have c20b0x := c20b0; simp only [ByteArray.size_extract, Nat.min_self] at c20b0x; try have c20b0y := eq_true (of_decide_eq_true c20b0x))
                      have c20b1 : decide (1 ≤ (x0_1.extract 1 x0_1.size).size) = true := decide_eq_true (by omega)
                      try (have c20b1x := c20b1; simp only [ByteArray.size_extract, Nat.min_self] at c20b1x; try have c20b1y := eq_true (of_decide_eq_true c20b1x))
                      clear c20
                      by_cases c21 : 0 < ((x0_1.extract 1 x0_1.size).size : Int)
                      · rw [if_pos c21] at H
                        have c21b0 : decide (0 < ((x0_1.extract 1 x0_1.size).size : Int)) = true := decide_eq_true c21
                        try (have c21b0x := c21b0; simp only [ByteArray.size_extract, Nat.min_self] at c21b0x; try have c21b0y := eq_true (of_decide_eq_true c21b0x))
                        have c21b1 : decide (0 < (x0_1.extract 1 x0_1.size).size) = true := decide_eq_true (by omega)
                        try (have c21b1x := c21b1; simp only [ByteArray.size_extract, Nat.min_self] at c21b1x; try have c21b1y := eq_true (of_decide_eq_true c21b1x))
                        clear c21
                        by_cases c23 : 1 ≤ ((x0_1.extract 1 x0_1.size).size : Int)
                        · rw [if_pos c23] at H
                          have c23b0 := eq_true c23
                          try (have c23b0x := c23b0; simp only [ByteArray.size_extract, Nat.min_self] at c23b0x; try have c23b0y := eq_true (of_decide_eq_true c23b0x))
                          have c23b1 : decide (1 ≤ ((x0_1.extract 1 x0_1.size).size : Int)) = true := decide_eq_true c23
                          try (have c23b1x := c23b1; simp only [ByteArray.size_extract, Nat.min_self] at c23b1x; try have c23b1y := eq_true (of_decide_eq_true c23b1x))
                          clear c23
                          have H' := Aside0.mk H
                          clear H
                          try go_wp2
                          have n0_ : Aside0 (Kd.R k23 23 (((w7.setCell ⟨gb101, 0, none⟩ (.int .i64 (wrap64 ((wrap64 (bt x0_1 0)) - 1)))).setCell ⟨gb101, 1, none⟩ (.int .i64 0)).setCell ⟨gb101, 2, none⟩ (.string (⟨#[]⟩ : ByteArray))) w.heap.size (fun k_ => k_ ≠ gb101) u4 x4_1) := ⟨by (with_reducible repeat (first | apply Kd.R_alloc | apply Kd.R_drewN | apply Kd.R_drew)); exact Kd.R_mono (Kd.R_far (p := ⟨gb101, 2, none⟩) (Kd.R_far (p := ⟨gb101, 1, none⟩) (Kd.R_far (p := ⟨gb101, 0, none⟩) (Kd.R_mono HO_4.out (fun k_ hk => (⟨hk, hk.2⟩ : _ ∧ k_ ≠ gb101))) (fun _ hk => hk.2) (.int .i64 (wrap64 ((wrap64 (bt x0_1 0)) - 1)))) (fun _ hk => hk.2) (.int .i64 0)) (fun _ hk => hk.2) (.string (⟨#[]⟩ : ByteArray))) (fun _ hk => hk.1.2)⟩
                          have n1_ : Aside0 ((((w7.setCell ⟨gb101, 0, none⟩ (.int .i64 (wrap64 ((wrap64 (bt x0_1 0)) - 1)))).setCell ⟨gb101, 1, none⟩ (.int .i64 0)).setCell ⟨gb101, 2, none⟩ (.string (⟨#[]⟩ : ByteArray))).heap[gb101]? = some (.cells #[.int .i64 (wrap64 ((wrap64 (bt x0_1 0)) - 1)), .int .i64 0, .string (⟨#[]⟩ : ByteArray)] 23 (0, 0))) := ⟨by (with_reducible repeat (first | refine blk_drewN ?_ _ | refine blk_drew ?_ | refine blk_alloc ?_ _)); refine blk_put (cs := #[.int .i64 (wrap64 ((wrap64 (bt x0_1 0)) - 1)), .int .i64 0, .string (⟨#[]⟩ : ByteArray)]) ?_ 2 _ rfl; (with_reducible repeat (first | refine blk_drewN ?_ _ | refine blk_drew ?_ | refine blk_alloc ?_ _)); refine blk_put (cs := #[.int .i64 (wrap64 ((wrap64 (bt x0_1 0)) - 1)), .int .i64 0, .string (⟨#[]⟩ : ByteArray)]) ?_ 1 _ rfl; (with_reducible repeat (first | refine blk_drewN ?_ _ | refine blk_drew ?_ | refine blk_alloc ?_ _)); refine blk_put (cs := #[.int .i64 0, .int .i64 0, .string (⟨#[]⟩ : ByteArray)]) ?_ 0 _ rfl; (with_reducible repeat (first | refine blk_drewN ?_ _ | refine blk_drew ?_ | refine blk_alloc ?_ _)); exact BK101.out⟩
                          have n2_ : Aside0 (Below w.heap.size w (((w7.setCell ⟨gb101, 0, none⟩ (.int .i64 (wrap64 ((wrap64 (bt x0_1 0)) - 1)))).setCell ⟨gb101, 1, none⟩ (.int .i64 0)).setCell ⟨gb101, 2, none⟩ (.string (⟨#[]⟩ : ByteArray)))) := ⟨by repeat (first | (with_reducible first | exact HB.out | apply below_alloc | apply pw_below_drewN | apply below_drew1 | refine below_set ?_ GE101.out) | exact HB.out)⟩
                          (try clear HO_4)
                          (try clear BK101)
                          (try clear HB)
                          generalize (((w7.setCell ⟨gb101, 0, none⟩ (.int .i64 (wrap64 ((wrap64 (bt x0_1 0)) - 1)))).setCell ⟨gb101, 1, none⟩ (.int .i64 0)).setCell ⟨gb101, 2, none⟩ (.string (⟨#[]⟩ : ByteArray))) = w24 at n0_ n1_ n2_ ⊢
                          have HO_4 := n0_
                          have BK101 := n1_
                          have HB := n2_
                          clear n0_ n1_ n2_
                          have n0_ := Aside0.mk (Kd.R_drew HO_4.out)
                          have n1_ := Aside0.mk (blk_drew BK101.out)
                          have n2_ := Aside0.mk (below_drew1 HB.out)
                          clear HO_4
                          clear BK101
                          clear HB
                          have HO_4 := n0_
                          have BK101 := n1_
                          have HB := n2_
                          clear n0_ n1_ n2_
                          have p22 : 0 ≤ (0 : Int) := (by omega)
                          have q22 : 0 < (x0_1.extract 1 x0_1.size).size := (by have : (0 : Int) < ((x0_1.extract 1 x0_1.size).size : Int) := of_decide_eq_true (by first | (with_reducible assumption) | assumption); omega)
                          have hx22 : ∀ h : 0 < (x0_1.extract 1 x0_1.size).size, (((x0_1.extract 1 x0_1.size)[0]'h).toNat : Int) = bt (x0_1.extract 1 x0_1.size) 0 := bt_at (x0_1.extract 1 x0_1.size) 0
                          clear p22
                          have qi22 : (0 < ((x0_1.extract 1 x0_1.size).size : Int)) = True := eq_true (of_decide_eq_true (by first | (with_reducible assumption) | assumption))
                          replace q22 := eq_true q22
                          refine start_ (n := 8) (S := fun w' => True) (ds := []) #[false, false, false, false, false, false, false, false] (by kernel_rfl) rfl rfl trivial (fun hHeld => ?_); refine with_tabW value_Unkey.tab16 value_Unkey.bits16 (fun HT_ HW_ => ?_)
                          generalize w24.drew = w25 at HO_4 BK101 HB hHeld ⊢
                          refine pure_ (i := 0) (N := some 40) (v := ?_) (a' := ?_) #[true, false, false, false, false, false, false, false] rfl rfl (any_of HT_.out (by kernel_rfl)) (fun _ _ _ h => h) (Or.inl ⟨by rfl, ?_⟩) ?_ ?_
                          rotate_left
                          · intro w'
                            go_simp
                            with_reducible rfl
                          rotate_left
                          · simp only [Act.put, List.setIfInBounds_toArray, List.set_cons_zero, List.set_cons_succ, i64_w, i32_w]
                            rfl
                          refine pure_ (i := 3) (N := some 43) (v := ?_) (a' := ?_) #[true, false, false, true, false, false, false, false] rfl rfl (any_of HT_.out (by kernel_rfl)) (fun _ _ _ h => h) (Or.inl ⟨by rfl, ?_⟩) ?_ ?_
                          rotate_left
                          · intro w'
                            go_simp
                            with_reducible rfl
                          rotate_left
                          · simp only [Act.put, List.setIfInBounds_toArray, List.set_cons_zero, List.set_cons_succ, i64_w, i32_w]
                            rfl
                          refine pure_ (i := 4) (N := some 44) (v := ?_) (a' := ?_) #[true, false, false, true, true, false, false, false] rfl rfl (any_of HT_.out (by kernel_rfl)) (fun _ _ _ h => h) (Or.inl ⟨by rfl, ?_⟩) ?_ ?_
                          rotate_left
                          · intro w'
                            go_simp
                            with_reducible rfl
                          rotate_left
                          · simp only [Act.put, List.setIfInBounds_toArray, List.set_cons_zero, List.set_cons_succ, i64_w, i32_w]
                            rfl
                          refine take_ (i := 1) (N := some 41) (v := ?_) (a' := ?_) #[true, true, false, true, true, false, false, false] rfl rfl (take_ofW HT_.out HW_.out (by kernel_rfl)) (fun _ _ _ h => h) (Or.inl ⟨by rfl, ?_⟩) hHeld ?_ ?_
                          rotate_left
                          · intro w' _
                            go_simp
                            with_reducible rfl
                          rotate_left
                          · simp only [Act.put, List.setIfInBounds_toArray, List.set_cons_zero, List.set_cons_succ, i64_w, i32_w]
                            rfl
                          refine pure_ (i := 2) (N := some 42) (v := ?_) (a' := ?_) #[true, true, true, true, true, false, false, false] rfl rfl (any_of HT_.out (by kernel_rfl)) (fun _ _ _ h => h) (Or.inl ⟨by rfl, ?_⟩) ?_ ?_
                          rotate_left
                          · intro w'
                            go_simp
                            with_reducible rfl
                          rotate_left
                          · simp only [Act.put, List.setIfInBounds_toArray, List.set_cons_zero, List.set_cons_succ, i64_w, i32_w]
                            rfl
                          refine pure_ (i := 5) (N := some 45) (v := ?_) (a' := ?_) #[true, true, true, true, true, true, false, false] rfl rfl (any_of HT_.out (by kernel_rfl)) (fun _ _ _ h => h) (Or.inl ⟨by rfl, ?_⟩) ?_ ?_
                          rotate_left
                          · intro w'
                            go_simp
                            with_reducible rfl
                          rotate_left
                          · simp only [Act.put, List.setIfInBounds_toArray, List.set_cons_zero, List.set_cons_succ, i64_w, i32_w]
                            rfl
                          refine one_ (i := 6) (N := none) #[true, true, true, true, true, true, true, false] rfl rfl (one_of HT_.out (by kernel_rfl)) (by decide) (fun K hK => ?_)
                          have hs26 : w25.cell? ⟨gb101, 1, none⟩ = some (.int .i64 0) := (blk_cell BK101.out 1).trans rfl
                          have hfs26 := blk_frozen BK101.out 1
                          refine skip_ (w1 := ?_) (by rfl) rfl ?_ ?_
                          rotate_left
                          · go_simp
                            rfl
                          refine hK.out _ _ trivial (fun hHeld => ?_)
                          clear hK K
                          refine pure_ (i := 7) (N := some 0) (v := ?_) (a' := ?_) #[true, true, true, true, true, true, true, true] rfl rfl (any_of HT_.out (by kernel_rfl)) (fun _ _ _ h => h) (Or.inl ⟨by rfl, ?_⟩) ?_ ?_
                          rotate_left
                          · intro w'
                            go_simp
                            with_reducible rfl
                          rotate_left
                          · simp only [Act.put, List.setIfInBounds_toArray, List.set_cons_zero, List.set_cons_succ, i64_w, i32_w]
                            rfl
                          refine done_ (done_of HT_.out (by kernel_rfl)) ?_
                          try go_wp2
                          go_meet
                          case rel => exact ⟨_, ((x0_1.extract 1 x0_1.size).extract 1 (x0_1.extract 1 x0_1.size).size), (decide (((x0_1.extract 1 x0_1.size).size : Int) ≥ 1)), (wrap64 (bt (x0_1.extract 1 x0_1.size) 0)), ((⟨#[]⟩ : ByteArray)), (by first | with_reducible rfl | (simp; done) | rfl | (simp [*]; done)), (by first | with_reducible rfl | (simp; done) | rfl | (simp [*]; done)), H', ⟨by have := HK1.out; first | omega | exact Nat.le_refl _⟩, ⟨by (with_reducible repeat (first | apply Kd.R_alloc | apply Kd.R_drewN | apply Kd.R_drew)); exact Kd.R_mono (Kd.R_far (p := ⟨gb101, 1, none⟩) (Kd.R_mono HO_4.out (fun k_ hk => (⟨hk, hk⟩ : _ ∧ k_ ≠ gb101))) (fun _ hk => hk.2) (.int .i64 (wrap64 (bt (x0_1.extract 1 x0_1.size) 0)))) (fun _ hk => hk.1)⟩, ⟨by (with_reducible repeat (first | refine blk_drewN ?_ _ | refine blk_drew ?_ | refine blk_alloc ?_ _)); refine blk_put (cs := #[.int .i64 (wrap64 ((wrap64 (bt x0_1 0)) - 1)), .int .i64 0, .string (⟨#[]⟩ : ByteArray)]) ?_ 1 _ rfl; (with_reducible repeat (first | refine blk_drewN ?_ _ | refine blk_drew ?_ | refine blk_alloc ?_ _)); exact BK101.out⟩, ⟨by repeat (first | (with_reducible first | exact HB.out | apply below_alloc | apply pw_below_drewN | apply below_drew1 | refine below_set ?_ GE101.out) | exact HB.out)⟩⟩
                        · rw [if_neg c23] at H
                          exact absurd H (by simp)
                      · rw [if_neg c21] at H
                        exact absurd H (by simp)
                    · rw [if_neg c20] at H
                      have c20b0 : decide (1 ≤ ((x0_1.extract 1 x0_1.size).size : Int)) = false := decide_eq_false c20
                      try (have c20b0x := c20b0; simp only [ByteArray.size_extract, Nat.min_self] at c20b0x; try have c20b0y := eq_true (of_decide_eq_true c20b0x))
                      have c20b1 : decide (1 ≤ (x0_1.extract 1 x0_1.size).size) = false := decide_eq_false (by omega)
                      try (have c20b1x := c20b1; simp only [ByteArray.size_extract, Nat.min_self] at c20b1x; try have c20b1y := eq_true (of_decide_eq_true c20b1x))
                      clear c20
                      have H' := Aside0.mk H
                      clear H
                      go_wp2
                      go_meet
                      case rel => exact ⟨_, (x0_1.extract 1 x0_1.size), (decide (((x0_1.extract 1 x0_1.size).size : Int) ≥ 1)), (0), ((⟨#[]⟩ : ByteArray)), (by first | with_reducible rfl | (simp; done) | rfl | (simp [*]; done)), (by first | with_reducible rfl | (simp; done) | rfl | (simp [*]; done)), H', ⟨by have := HK1.out; first | omega | exact Nat.le_refl _⟩, ⟨by (with_reducible repeat (first | apply Kd.R_alloc | apply Kd.R_drewN | apply Kd.R_drew)); exact Kd.R_mono (Kd.R_far (p := ⟨gb101, 2, none⟩) (Kd.R_far (p := ⟨gb101, 1, none⟩) (Kd.R_far (p := ⟨gb101, 0, none⟩) (Kd.R_mono HO_4.out (fun k_ hk => (⟨hk, hk.2⟩ : _ ∧ k_ ≠ gb101))) (fun _ hk => hk.2) (.int .i64 (wrap64 ((wrap64 (bt x0_1 0)) - 1)))) (fun _ hk => hk.2) (.int .i64 0)) (fun _ hk => hk.2) (.string (⟨#[]⟩ : ByteArray))) (fun _ hk => hk.1.2)⟩, ⟨by (with_reducible repeat (first | refine blk_drewN ?_ _ | refine blk_drew ?_ | refine blk_alloc ?_ _)); refine blk_put (cs := #[.int .i64 (wrap64 ((wrap64 (bt x0_1 0)) - 1)), .int .i64 0, .string (⟨#[]⟩ : ByteArray)]) ?_ 2 _ rfl; (with_reducible repeat (first | refine blk_drewN ?_ _ | refine blk_drew ?_ | refine blk_alloc ?_ _)); refine blk_put (cs := #[.int .i64 (wrap64 ((wrap64 (bt x0_1 0)) - 1)), .int .i64 0, .string (⟨#[]⟩ : ByteArray)]) ?_ 1 _ rfl; (with_reducible repeat (first | refine blk_drewN ?_ _ | refine blk_drew ?_ | refine blk_alloc ?_ _)); refine blk_put (cs := #[.int .i64 0, .int .i64 0, .string (⟨#[]⟩ : ByteArray)]) ?_ 0 _ rfl; (with_reducible repeat (first | refine blk_drewN ?_ _ | refine blk_drew ?_ | refine blk_alloc ?_ _)); exact BK101.out⟩, ⟨by repeat (first | (with_reducible first | exact HB.out | apply below_alloc | apply pw_below_drewN | apply below_drew1 | refine below_set ?_ GE101.out) | exact HB.out)⟩⟩
                  · rw [if_neg c19] at H
                    have c19b0 : ((wrap64 ((wrap64 (bt x0_1 0)) - 1)) == 2) = false := beq_eq_false_iff_ne.mpr c19
                    have c19b1 : ((wrap64 ((wrap64 (bt x0_1 0)) - 1)) != 2) = true := bne_iff_ne.mpr c19
                    by_cases c27 : (wrap64 ((wrap64 (bt x0_1 0)) - 1)) = 3
                    · rw [if_pos c27] at H
                      have c27b0 : ((wrap64 ((wrap64 (bt x0_1 0)) - 1)) == 3) = true := beq_iff_eq.mpr c27
                      have c27b1 : ((wrap64 ((wrap64 (bt x0_1 0)) - 1)) != 3) = false := bne_eq_false_iff_eq.mpr c27
                      clear c27
                      replace H := Option.bind_eq_some_iff.mp H
                      obtain ⟨⟨t103, t104, t105⟩, A280, H⟩ := H
                      replace H : (value_Unkey.j1 k1 t104 x4_1 t105 (wrap64 ((wrap64 (bt x0_1 0)) - 1)) 0 t103) = some (r1, r2) := H
                      have A28 := Aside0.mk A280
                      clear A280
                      have H' := Aside0.mk H
                      clear H
                      go_wp2_with (first | ((with_reducible refine gate_callee (f := 33) rfl ?_); refine goesL_ (some 50) rfl rfl Tryd.func33 (by kernel_rfl) rfl #[.string (x0_1.extract 1 x0_1.size)] rfl (by (try simp only [List.map_toArray, List.map_cons, List.map_nil]); first | done | rfl | (simp only [List.length_drop, List.length_take]; rfl) | exact congrArg (fun x_ : Int => #[Value.int .u64 x_]) (show _ = _ % (18446744073709551616 : Int) by omega)) ?_; (with_reducible refine (value_word.calls (x0_1.extract 1 x0_1.size) t103 t104 t105 _ A28.out).mono ?_); rintro e w29 ⟨rfl, hb⟩; refine ⟨_, rfl, ?_⟩; have n0_ := Aside0.mk (Kd.R_below (by (with_reducible repeat (first | apply Kd.R_alloc | apply Kd.R_drewN | apply Kd.R_drew)); exact (Kd.R_mono (Kd.R_far (p := ⟨gb101, 2, none⟩) (Kd.R_far (p := ⟨gb101, 1, none⟩) (Kd.R_far (p := ⟨gb101, 0, none⟩) (Kd.R_mono HO_4.out (fun k_ hk => (⟨hk, hk.2⟩ : _ ∧ k_ ≠ gb101))) (fun _ hk => hk.2) (.int .i64 (wrap64 ((wrap64 (bt x0_1 0)) - 1)))) (fun _ hk => hk.2) (.int .i64 0)) (fun _ hk => hk.2) (.string (⟨#[]⟩ : ByteArray))) (fun _ h_ => h_.1))) hb); have n1_ := Aside0.mk (blk_below (g := gb101) (o := .cells #[.int .i64 (wrap64 ((wrap64 (bt x0_1 0)) - 1)), .int .i64 0, .string (⟨#[]⟩ : ByteArray)] 23 (0, 0)) (by (with_reducible repeat (first | refine blk_drewN ?_ _ | refine blk_drew ?_ | refine blk_alloc ?_ _)); refine blk_put (cs := #[.int .i64 (wrap64 ((wrap64 (bt x0_1 0)) - 1)), .int .i64 0, .string (⟨#[]⟩ : ByteArray)]) ?_ 2 _ rfl; (with_reducible repeat (first | refine blk_drewN ?_ _ | refine blk_drew ?_ | refine blk_alloc ?_ _)); refine blk_put (cs := #[.int .i64 (wrap64 ((wrap64 (bt x0_1 0)) - 1)), .int .i64 0, .string (⟨#[]⟩ : ByteArray)]) ?_ 1 _ rfl; (with_reducible repeat (first | refine blk_drewN ?_ _ | refine blk_drew ?_ | refine blk_alloc ?_ _)); refine blk_put (cs := #[.int .i64 0, .int .i64 0, .string (⟨#[]⟩ : ByteArray)]) ?_ 0 _ rfl; (with_reducible repeat (first | refine blk_drewN ?_ _ | refine blk_drew ?_ | refine blk_alloc ?_ _)); exact BK101.out) hb); have n2_ := Aside0.mk (below_step (by repeat (first | (with_reducible first | exact HB.out | apply below_alloc | apply pw_below_drewN | apply below_drew1 | refine below_set ?_ GE101.out) | exact HB.out)) hb); clear HO_4; clear BK101; clear HB; have HO_4 := n0_; have BK101 := n1_; have HB := n2_; clear n0_ n1_ n2_; (try clear hb); (try clear hb2); (try clear hk); (try clear hi); obtain ⟨hcz30_0, hcz30_1, hcz30_2, hfz30_0, hfz30_1, hfz30_2⟩ := bf3 BK101.out))
                      go_meet
                      case rel => exact ⟨_, (t104), (t105), (0), (t103), (by first | with_reducible rfl | (simp; done) | rfl | (simp [*]; done)), (by first | with_reducible rfl | (simp; done) | rfl | (simp [*]; done)), H', ⟨by have := HK1.out; first | omega | exact Nat.le_refl _⟩, ⟨by (with_reducible repeat (first | apply Kd.R_alloc | apply Kd.R_drewN | apply Kd.R_drew)); exact Kd.R_mono (Kd.R_far (p := ⟨gb101, 2, none⟩) (Kd.R_mono HO_4.out (fun k_ hk => (⟨hk, hk.2⟩ : _ ∧ k_ ≠ gb101))) (fun _ hk => hk.2) (.string t103)) (fun _ hk => hk.1.2)⟩, ⟨by (with_reducible repeat (first | refine blk_drewN ?_ _ | refine blk_drew ?_ | refine blk_alloc ?_ _)); refine blk_put (cs := #[.int .i64 (wrap64 ((wrap64 (bt x0_1 0)) - 1)), .int .i64 0, .string (⟨#[]⟩ : ByteArray)]) ?_ 2 _ rfl; (with_reducible repeat (first | refine blk_drewN ?_ _ | refine blk_drew ?_ | refine blk_alloc ?_ _)); exact BK101.out⟩, ⟨by repeat (first | (with_reducible first | exact HB.out | apply below_alloc | apply pw_below_drewN | apply below_drew1 | refine below_set ?_ GE101.out) | exact HB.out)⟩⟩
                    · rw [if_neg c27] at H
                      have c27b0 : ((wrap64 ((wrap64 (bt x0_1 0)) - 1)) == 3) = false := beq_eq_false_iff_ne.mpr c27
                      have c27b1 : ((wrap64 ((wrap64 (bt x0_1 0)) - 1)) != 3) = true := bne_iff_ne.mpr c27
                      have H' := Aside0.mk H
                      clear H
                      go_wp2
                      go_meet
                      case rel => exact ⟨_, (x0_1.extract 1 x0_1.size), (false), (0), ((⟨#[]⟩ : ByteArray)), (by first | with_reducible rfl | (simp; done) | rfl | (simp [*]; done)), (by first | with_reducible rfl | (simp; done) | rfl | (simp [*]; done)), H', ⟨by have := HK1.out; first | omega | exact Nat.le_refl _⟩, ⟨by (with_reducible repeat (first | apply Kd.R_alloc | apply Kd.R_drewN | apply Kd.R_drew)); exact Kd.R_mono (Kd.R_far (p := ⟨gb101, 2, none⟩) (Kd.R_far (p := ⟨gb101, 1, none⟩) (Kd.R_far (p := ⟨gb101, 0, none⟩) (Kd.R_mono HO_4.out (fun k_ hk => (⟨hk, hk.2⟩ : _ ∧ k_ ≠ gb101))) (fun _ hk => hk.2) (.int .i64 (wrap64 ((wrap64 (bt x0_1 0)) - 1)))) (fun _ hk => hk.2) (.int .i64 0)) (fun _ hk => hk.2) (.string (⟨#[]⟩ : ByteArray))) (fun _ hk => hk.1.2)⟩, ⟨by (with_reducible repeat (first | refine blk_drewN ?_ _ | refine blk_drew ?_ | refine blk_alloc ?_ _)); refine blk_put (cs := #[.int .i64 (wrap64 ((wrap64 (bt x0_1 0)) - 1)), .int .i64 0, .string (⟨#[]⟩ : ByteArray)]) ?_ 2 _ rfl; (with_reducible repeat (first | refine blk_drewN ?_ _ | refine blk_drew ?_ | refine blk_alloc ?_ _)); refine blk_put (cs := #[.int .i64 (wrap64 ((wrap64 (bt x0_1 0)) - 1)), .int .i64 0, .string (⟨#[]⟩ : ByteArray)]) ?_ 1 _ rfl; (with_reducible repeat (first | refine blk_drewN ?_ _ | refine blk_drew ?_ | refine blk_alloc ?_ _)); refine blk_put (cs := #[.int .i64 0, .int .i64 0, .string (⟨#[]⟩ : ByteArray)]) ?_ 0 _ rfl; (with_reducible repeat (first | refine blk_drewN ?_ _ | refine blk_drew ?_ | refine blk_alloc ?_ _)); exact BK101.out⟩, ⟨by repeat (first | (with_reducible first | exact HB.out | apply below_alloc | apply pw_below_drewN | apply below_drew1 | refine below_set ?_ GE101.out) | exact HB.out)⟩⟩
            case rest =>
              clear HC6
              try clear c1
              try clear c2
              try clear c2b0
              try clear c2b1
              try clear p2
              try clear q2
              try clear hx2
              try clear qi2
              try clear c3
              try clear c3b0
              try clear c3b1
              try clear p4
              try clear q4
              try clear hx4
              try clear qi4
              try clear c5
              try clear c5b0
              try clear c5b1
              try clear p6
              try clear c9
              try clear c9b0
              try clear c9b1
              try clear c10
              try clear c10b0
              try clear c10b1
              try clear c11
              try clear c11b0
              try clear c11b1
              try clear c12
              try clear c12b0
              try clear c12b1
              try clear c13
              try clear c13b0
              try clear c13b1
              try clear c15
              try clear c15b0
              try clear c18
              try clear c19
              try clear c19b0
              try clear c19b1
              try clear c20
              try clear c20b0
              try clear c20b1
              try clear c21
              try clear c21b0
              try clear c21b1
              try clear p22
              try clear q22
              try clear hx22
              try clear qi22
              try clear c23
              try clear c23b0
              try clear c23b1
              try clear c27
              try clear c27b0
              try clear c27b1
              try clear hcz30_0
              try clear hcz30_1
              try clear hcz30_2
              try clear hcz8_0
              try clear hcz8_1
              try clear hcz8_2
              try clear hfz30_0
              try clear hfz30_1
              try clear hfz30_2
              try clear hfz8_0
              try clear hfz8_1
              try clear hfz8_2
              try clear p22
              try clear p4
              try clear q22
              try clear q4
              obtain ⟨kq, x0_5, x6_5, x102001_5, x102002_5, rfl, rfl, HA, HJ5, HO_4, BK101, HB⟩ := hcut
              cases kq with
              | zero => exact absurd HA.out (by simp [value_Unkey.j1])
              | succ kj5 =>
                have H := HA.out
                clear HA
                simp only [value_Unkey.j1] at H
                have HC31 := Aside0.mk H
                clear H
                go_upto_region 19 with (fail)
                go_cut [66] (fun v66 wc => ∃ (kq : Nat) (x66_30 : Bool), v66 = .bool x66_30 ∧ Aside0 (value_Unkey.j2 kq x0_5 x4_1 x66_30 (wrap64 ((wrap64 (bt x0_1 0)) - 1)) x102001_5 x102002_5 = some (r1, r2)) ∧ Aside0 (kq ≤ kj5) ∧ Aside0 (Kd.R k23 23 wc w.heap.size (fun k_ => k_ ≠ gb101) u4 x4_1) ∧ Aside0 (wc.heap[gb101]? = some (.cells #[.int .i64 (wrap64 ((wrap64 (bt x0_1 0)) - 1)), .int .i64 x102001_5, .string x102002_5] 23 (0, 0))) ∧ Aside0 (Below w.heap.size w wc))
                case first =>
                  have H := HC31.out
                  clear HC31
                  by_cases c32 : x6_5 = true
                  · subst c32
                    have H1 : ((value_Check.f kj5 (wrap64 ((wrap64 (bt x0_1 0)) - 1)) x102001_5 x102002_5).bind fun t106 => (if t106 = 0 then (value_Unkey.j2 kj5 x0_5 x4_1 ((x4_1.length : Int) == 12) (wrap64 ((wrap64 (bt x0_1 0)) - 1)) x102001_5 x102002_5) else (value_Unkey.j2 kj5 x0_5 x4_1 true (wrap64 ((wrap64 (bt x0_1 0)) - 1)) x102001_5 x102002_5))) = some (r1, r2) := by rw [if_pos rfl] at H; exact H
                    clear H
                    have H := H1
                    clear H1
                    replace H := Option.bind_eq_some_iff.mp H
                    obtain ⟨t106, A330, H⟩ := H
                    replace H : (if t106 = 0 then (value_Unkey.j2 kj5 x0_5 x4_1 ((x4_1.length : Int) == 12) (wrap64 ((wrap64 (bt x0_1 0)) - 1)) x102001_5 x102002_5) else (value_Unkey.j2 kj5 x0_5 x4_1 true (wrap64 ((wrap64 (bt x0_1 0)) - 1)) x102001_5 x102002_5)) = some (r1, r2) := H
                    have A33 := Aside0.mk A330
                    clear A330
                    by_cases c34 : t106 = 0
                    · rw [if_pos c34] at H
                      have c34b0 : (t106 == 0) = true := beq_iff_eq.mpr c34
                      have c34b1 : (t106 != 0) = false := bne_eq_false_iff_eq.mpr c34
                      clear c34
                      (first | rw [c34b0] | (simp only [i64_w, i32_w]; rw [c34b0]) | skip)
                      have H' := Aside0.mk H
                      clear H
                      obtain ⟨hcz35_0, hcz35_1, hcz35_2, hfz35_0, hfz35_1, hfz35_2⟩ := bf3 BK101.out
                      go_wp2_with (first | (go_at_call 11; (with_reducible refine (value_Check.calls kj5 (wrap64 ((wrap64 (bt x0_1 0)) - 1)) x102001_5 x102002_5 t106 _ A33.out).mono ?_); rintro e w36 ⟨rfl, hb⟩; have n0_ := Aside0.mk (Kd.R_below (by (with_reducible repeat (first | apply Kd.R_alloc | apply Kd.R_drewN | apply Kd.R_drew)); exact HO_4.out) hb); have n1_ := Aside0.mk (blk_below (g := gb101) (o := .cells #[.int .i64 (wrap64 ((wrap64 (bt x0_1 0)) - 1)), .int .i64 x102001_5, .string x102002_5] 23 (0, 0)) (by (with_reducible repeat (first | refine blk_drewN ?_ _ | refine blk_drew ?_ | refine blk_alloc ?_ _)); exact BK101.out) hb); have n2_ := Aside0.mk (below_step (by repeat (first | (with_reducible first | exact HB.out | apply below_alloc | apply pw_below_drewN | apply below_drew1 | refine below_set ?_ GE101.out) | exact HB.out)) hb); clear HO_4; clear BK101; clear HB; have HO_4 := n0_; have BK101 := n1_; have HB := n2_; clear n0_ n1_ n2_; (try clear hb); (try clear hb2); (try clear hk); (try clear hi); obtain ⟨Ao37, co37, eo37⟩ := Kd.R_slice HO_4.out; subst eo37))
                      go_meet
                      case rel => exact ⟨_, (((x4_1.length : Int) == 12)), (by first | with_reducible rfl | (simp; done) | rfl | (simp [*]; done)), H', ⟨by have := HK1.out; have := HJ5.out; first | omega | exact Nat.le_refl _⟩, ⟨by (with_reducible repeat (first | apply Kd.R_alloc | apply Kd.R_drewN | apply Kd.R_drew)); exact HO_4.out⟩, ⟨by (with_reducible repeat (first | refine blk_drewN ?_ _ | refine blk_drew ?_ | refine blk_alloc ?_ _)); exact BK101.out⟩, ⟨by repeat (first | (with_reducible first | exact HB.out | apply below_alloc | apply pw_below_drewN | apply below_drew1 | refine below_set ?_ GE101.out) | exact HB.out)⟩⟩
                    · rw [if_neg c34] at H
                      have c34b0 : (t106 == 0) = false := beq_eq_false_iff_ne.mpr c34
                      have c34b1 : (t106 != 0) = true := bne_iff_ne.mpr c34
                      (first | rw [c34b0] | (simp only [i64_w, i32_w]; rw [c34b0]) | skip)
                      have H' := Aside0.mk H
                      clear H
                      obtain ⟨hcz38_0, hcz38_1, hcz38_2, hfz38_0, hfz38_1, hfz38_2⟩ := bf3 BK101.out
                      go_wp2_with (first | (go_at_call 11; (with_reducible refine (value_Check.calls kj5 (wrap64 ((wrap64 (bt x0_1 0)) - 1)) x102001_5 x102002_5 t106 _ A33.out).mono ?_); rintro e w39 ⟨rfl, hb⟩; have n0_ := Aside0.mk (Kd.R_below (by (with_reducible repeat (first | apply Kd.R_alloc | apply Kd.R_drewN | apply Kd.R_drew)); exact HO_4.out) hb); have n1_ := Aside0.mk (blk_below (g := gb101) (o := .cells #[.int .i64 (wrap64 ((wrap64 (bt x0_1 0)) - 1)), .int .i64 x102001_5, .string x102002_5] 23 (0, 0)) (by (with_reducible repeat (first | refine blk_drewN ?_ _ | refine blk_drew ?_ | refine blk_alloc ?_ _)); exact BK101.out) hb); have n2_ := Aside0.mk (below_step (by repeat (first | (with_reducible first | exact HB.out | apply below_alloc | apply pw_below_drewN | apply below_drew1 | refine below_set ?_ GE101.out) | exact HB.out)) hb); clear HO_4; clear BK101; clear HB; have HO_4 := n0_; have BK101 := n1_; have HB := n2_; clear n0_ n1_ n2_; (try clear hb); (try clear hb2); (try clear hk); (try clear hi)))
                      go_meet
                      case rel => exact ⟨_, (true), (by first | with_reducible rfl | (simp; done) | rfl | (simp [*]; done)), H', ⟨by have := HK1.out; have := HJ5.out; first | omega | exact Nat.le_refl _⟩, ⟨by (with_reducible repeat (first | apply Kd.R_alloc | apply Kd.R_drewN | apply Kd.R_drew)); exact HO_4.out⟩, ⟨by (with_reducible repeat (first | refine blk_drewN ?_ _ | refine blk_drew ?_ | refine blk_alloc ?_ _)); exact BK101.out⟩, ⟨by repeat (first | (with_reducible first | exact HB.out | apply below_alloc | apply pw_below_drewN | apply below_drew1 | refine below_set ?_ GE101.out) | exact HB.out)⟩⟩
                  · replace c32 := Bool.eq_false_iff.mpr c32
                    subst c32
                    have H1 : (value_Unkey.j2 kj5 x0_5 x4_1 true (wrap64 ((wrap64 (bt x0_1 0)) - 1)) x102001_5 x102002_5) = some (r1, r2) := by rw [if_neg (show ¬ (false = true) by decide)] at H; exact H
                    clear H
                    have H := H1
                    clear H1
                    have H' := Aside0.mk H
                    clear H
                    go_wp2
                    go_meet
                    case rel => exact ⟨_, (true), (by first | with_reducible rfl | (simp; done) | rfl | (simp [*]; done)), H', ⟨by have := HK1.out; have := HJ5.out; first | omega | exact Nat.le_refl _⟩, ⟨by (with_reducible repeat (first | apply Kd.R_alloc | apply Kd.R_drewN | apply Kd.R_drew)); exact HO_4.out⟩, ⟨by (with_reducible repeat (first | refine blk_drewN ?_ _ | refine blk_drew ?_ | refine blk_alloc ?_ _)); exact BK101.out⟩, ⟨by repeat (first | (with_reducible first | exact HB.out | apply below_alloc | apply pw_below_drewN | apply below_drew1 | refine below_set ?_ GE101.out) | exact HB.out)⟩⟩
                case rest =>
                  clear HC31
                  try clear c1
                  try clear c2
                  try clear c2b0
                  try clear c2b1
                  try clear p2
                  try clear q2
                  try clear hx2
                  try clear qi2
                  try clear c3
                  try clear c3b0
                  try clear c3b1
                  try clear p4
                  try clear q4
                  try clear hx4
                  try clear qi4
                  try clear c5
                  try clear c5b0
                  try clear c5b1
                  try clear p6
                  try clear c9
                  try clear c9b0
                  try clear c9b1
                  try clear c10
                  try clear c10b0
                  try clear c10b1
                  try clear c11
                  try clear c11b0
                  try clear c11b1
                  try clear c12
                  try clear c12b0
                  try clear c12b1
                  try clear c13
                  try clear c13b0
                  try clear c13b1
                  try clear c15
                  try clear c15b0
                  try clear c18
                  try clear c19
                  try clear c19b0
                  try clear c19b1
                  try clear c20
                  try clear c20b0
                  try clear c20b1
                  try clear c21
                  try clear c21b0
                  try clear c21b1
                  try clear p22
                  try clear q22
                  try clear hx22
                  try clear qi22
                  try clear c23
                  try clear c23b0
                  try clear c23b1
                  try clear c27
                  try clear c27b0
                  try clear c27b1
                  try clear c32
                  try clear c33
                  try clear c34
                  try clear c34b0
                  try clear c34b1
                  try clear hcz30_0
                  try clear hcz30_1
                  try clear hcz30_2
                  try clear hcz35_0
                  try clear hcz35_1
                  try clear hcz35_2
                  try clear hcz38_0
                  try clear hcz38_1
                  try clear hcz38_2
                  try clear hcz8_0
                  try clear hcz8_1
                  try clear hcz8_2
                  try clear hfz30_0
                  try clear hfz30_1
                  try clear hfz30_2
                  try clear hfz35_0
                  try clear hfz35_1
                  try clear hfz35_2
                  try clear hfz38_0
                  try clear hfz38_1
                  try clear hfz38_2
                  try clear hfz8_0
                  try clear hfz8_1
                  try clear hfz8_2
                  try clear p2
                  try clear p22
                  try clear p4
                  try clear p6
                  try clear q2
                  try clear q22
                  try clear q4
                  obtain ⟨kq, x66_30, rfl, HA, HJ30, HO_4, BK101, HB⟩ := hcut
                  cases kq with
                  | zero => exact absurd HA.out (by simp [value_Unkey.j2])
                  | succ kj30 =>
                    have H := HA.out
                    clear HA
                    simp only [value_Unkey.j2] at H
                    by_cases c40 : x66_30 = true
                    · subst c40
                      have H1 : (some (([] : List (S23)), 31)) = some (r1, r2) := by rw [if_pos rfl] at H; exact H
                      clear H
                      have H := H1
                      clear H1
                      simp only [Option.some.injEq, Prod.mk.injEq] at H
                      obtain ⟨rfl, rfl⟩ := H
                      go_wp2
                      go_ret2
                      exact ⟨_, by first | rfl | (simp [errW_none, errW_some] <;> rfl) | (simp [*, errW_none, errW_some] <;> rfl), by first | exact Kd.R_nil _ _ _ _ _ | exact Kd.N_nil _ _ _ _ _ | exact Kd.V_nil _ _ _ _ _ | exact Kd.Q_nil _ _ _ _ _ | exact Kd.S_nil _ _ _ _ _, by repeat (first | (with_reducible first | exact HB.out | apply below_alloc | apply pw_below_drewN | apply below_drew1 | refine below_set ?_ GE101.out) | exact HB.out)⟩
                    · replace c40 := Bool.eq_false_iff.mpr c40
                      subst c40
                      have H1 : (if x4_1.length < 4398046511104 then (value_Unkey.l0 kj30 x0_5 (x4_1 ++ [(⟨(wrap64 ((wrap64 (bt x0_1 0)) - 1)), x102001_5, x102002_5⟩ : S23)])) else (none)) = some (r1, r2) := by rw [if_neg (show ¬ (false = true) by decide)] at H; exact H
                      clear H
                      have H := H1
                      clear H1
                      by_cases c41 : x4_1.length < 4398046511104
                      · rw [if_pos c41] at H
                        have LMc41 := Aside0.mk c41
                        clear c41
                        obtain ⟨y107, hy107⟩ : ∃ y_ : List (S23), y_ = (x4_1 ++ [(⟨(wrap64 ((wrap64 (bt x0_1 0)) - 1)), x102001_5, x102002_5⟩ : S23)]) := ⟨_, rfl⟩
                        replace H : (value_Unkey.l0 kj30 x0_5 y107) = some (r1, r2) := by first | (rw [hy107]; with_reducible exact H) | (have H2_ := (Option.bind_some _ _).symm.trans H; rw [hy107]; with_reducible exact H2_) | (have H2_ := (Option.bind_some _ _).symm.trans H; with_reducible exact H2_) | with_reducible exact H | (rw [hy107]; exact H) | exact H
                        have Ny107 := Aside0.mk hy107
                        clear hy107
                        have H' := Aside0.mk H
                        clear H
                        obtain ⟨hcz42_0, hcz42_1, hcz42_2, hfz42_0, hfz42_1, hfz42_2⟩ := bf3 BK101.out
                        go_wp2_with (first | ((with_reducible refine gate_builtin (b := .append) (xs := #[.tmp 67, .tmp 69]) rfl ?_); (try (refine gate_guard (by rfl) ?_; dsimp only)); at_builtin; refine Kd.R_append k23 (w0 := w) w.heap.size rfl (.tmp 67) (.tmp 69) 24 23 (.agg #[(.int .i64 0), (.int .i64 0), (.string ⟨#[]⟩)]) 32 rfl Tryd.underlying24 info23 rfl (by decide) (by omega) u4 x4_1 (⟨(wrap64 ((wrap64 (bt x0_1 0)) - 1)), x102001_5, x102002_5⟩ : S23) [.int .i64 (wrap64 ((wrap64 (bt x0_1 0)) - 1)), .int .i64 x102001_5, .string x102002_5] (fun k_ => k_ ≠ gb101) (fun _ => False) rfl rfl ?aP (fun _ hk => hk.elim) ?aF ?aO ?aB ?aS ?aL ?_; (case aP => exact k23_mkM _ _ _ (⟨(wrap64 ((wrap64 (bt x0_1 0)) - 1)), x102001_5, x102002_5⟩ : S23)); (case aB => exact (by repeat (first | (with_reducible first | exact HB.out | apply below_alloc | apply pw_below_drewN | apply below_drew1 | refine below_set ?_ GE101.out) | exact HB.out))); (case aF => exact (fun k_ hk => Kd.freshB (g := gb101) (o := .cells #[.int .i64 (wrap64 ((wrap64 (bt x0_1 0)) - 1)), .int .i64 x102001_5, .string x102002_5] 23 (0, 0)) (by (with_reducible repeat (first | refine blk_drewN ?_ _ | refine blk_drew ?_ | refine blk_alloc ?_ _)); exact BK101.out) k_ hk)); (case aO => exact (by (with_reducible repeat (first | apply Kd.R_alloc | apply Kd.R_drewN | apply Kd.R_drew)); exact HO_4.out)); (case aS => exact (below_size (by repeat (first | (with_reducible first | exact HB.out | apply below_alloc | apply pw_below_drewN | apply below_drew1 | refine below_set ?_ GE101.out) | exact HB.out)))); (case aL => have := LMc41.out; omega); intro v108 w43 ho hb hg hat; rw [← Ny107.out] at ho; have n0_ := Aside0.mk (blk_grown (g := gb101) (o := .cells #[.int .i64 (wrap64 ((wrap64 (bt x0_1 0)) - 1)), .int .i64 x102001_5, .string x102002_5] 23 (0, 0)) (by (with_reducible repeat (first | refine blk_drewN ?_ _ | refine blk_drew ?_ | refine blk_alloc ?_ _)); exact BK101.out) hg (Kd.R_away HO_4.out (fun _ hk => hk))); have n1_ := Aside0.mk (hb); have n2_ := Aside0.mk (ho); clear BK101; clear HB; clear HO_4; have BK101 := n0_; have HB := n1_; have HO109 := n2_; clear n0_ n1_ n2_; clear ho hb hg hat))
                        go_roundg kj30
                        case measure => have := HK1.out; have := HJ5.out; have := HJ30.out; omega
                        case rel => exact ⟨(x0_5), (y107), (by first | with_reducible rfl | (simp; done) | rfl | (simp [*]; done)), H', ⟨by have := HK1.out; have := HJ5.out; have := HJ30.out; omega⟩, ⟨by (with_reducible repeat (first | apply Kd.R_alloc | apply Kd.R_drewN | apply Kd.R_drew)); exact Kd.R_mono HO109.out (fun _ hk => trivial)⟩, ⟨by repeat (first | (with_reducible first | exact HB.out | apply below_alloc | apply pw_below_drewN | apply below_drew1 | refine below_set ?_ GE101.out) | exact HB.out)⟩⟩
                      · rw [if_neg c41] at H
                        exact absurd H (by simp)
          · rw [if_neg c5] at H
            exact absurd H (by simp)
        · rw [if_neg c3] at H
          exact absurd H (by simp)

end Go.Proofs.YtindffllmlifiaaDoor.Q
/- value.All's iterator: what it hands to its loop: walked. -/
namespace Go.Proofs.YtindffllmlifiaaDoor.Q
open Go.RowKit Go.Shelf Go.Proofs.YtindffllmlifiaaDoorW.PrintWords Go.Proofs.YtindffllmlifiaaDoorW.PrintLast Go.Proofs.YtindffllmlifiaaDoorW.PrintMore
set_option linter.unusedVariables false
set_option linter.unusedSimpArgs false
attribute [local go_sem] Oper.semAt_some
theorem wide_fn (f : Nat) : Fence.wide.fn f = True := rfl
attribute [local go_sem] wide_fn
abbrev Va := S23
/-- What value.All hands out: places and values. -/
def allOf (l : List Va) : List (Nat × Va) := (List.range l.length).map fun i => (i, rd_T23 l (i : Int))
def encIV (x : Nat × Va) : Array Value := #[.int .i64 (x.1 : Int), .agg #[.int .i64 x.2.f0, .int .i64 x.2.f1, .string x.2.f2]]
theorem allOf_length (l : List Va) : (allOf l).length = l.length := by simp [allOf]
set_option maxHeartbeats 4000000 in
set_option maxRecDepth 100000 in
theorem all1_in {β : Type} (pj : β → Nat × Va) (ws : List β) (n : Nat) (hn : 1 ≤ n) (lp Bx g : Nat) (A : Option Addr) (c : Nat) (l : List Va) (V : World) (hV : Kd.C k23 V A l.length l) (hg : ∀ ad, A = some ad → ad.block = g) (hlen : l.length ≤ 140737488355328) (Kp : World → World → Prop) (hKp : ∀ {A C : World}, Kp A C → C.heap[g]? = A.heap[g]?) (J Jx : List β → World → Prop) (hws : ws.map pj = allOf l)
    (hY : ∀ pre x W, J pre W → pre.length < ws.length → YieldAt Fence.wide (n - 1) Tryd.prog lp (encIV (pj x)) W fun e W' =>
      (e = .returned (.bool true) ∧ J (pre ++ [x]) W' ∧ Kp W W') ∨ (e = .returned (.bool false) ∧ Jx (pre ++ [x]) W'))
    (W : World) (hW : W.heap[g]? = V.heap[g]?) (h1 : W.cell? ⟨Bx, 0, none⟩ = some (.slice A l.length c)) (hJ : AbidesFrom W.heap.size J) (h0 : J [] W) :
    CallsIn Fence.wide n Tryd.prog 34 #[.func (.yield lp) #[] #[], .pointer (some ⟨Bx, 0, none⟩)] W fun e W' => (∃ v, e = .returned v) ∧
      ((∃ ys, ys = ws ∧ J ys W') ∨ (∃ pre, pre <+: ws ∧ Jx pre W')) := by
  have hwl : ws.length = l.length := by rw [← List.length_map (f := pj), hws, allOf_length]
  refine callsIn_of_wp Tryd.func34 rfl trivial ?_ rfl
  simp only [Tryd.ntmps34, List.size_toArray, List.length_cons, List.length_nil, Nat.reduceAdd, Nat.reduceSub, Array.replicate_succ, Array.replicate_zero, List.push_toArray, List.append_toArray, List.nil_append, List.cons_append]
  have HS := Aside0.mk (Nat.le_refl W.heap.size)
  gi_wp2
  gi_loopw [7] (fun x wr => ∃ i : Nat, x = .int .i64 (i : Int) ∧ i ≤ l.length ∧ J (ws.take i) wr ∧ wr.heap[g]? = V.heap[g]?)
    (fun x wr => match x with | .int _ z => ((l.length : Int) - z).toNat | _ => 0)
  case atStart =>
    exact ⟨0, by simp, by omega, by simpa using h0, hW⟩
  case round =>
    obtain ⟨i, rfl, hi, hJi, hgr⟩ := hrel
    by_cases hlt : i < l.length
    · have hlb : decide ((i : Int) < (l.length : Int)) = true := decide_eq_true (by omega)
      have hlb2 : decide (i < l.length) = true := decide_eq_true hlt
      obtain ⟨ad, rfl, x0, x1, x2⟩ := at_T23 hV (i : Int) (by omega) (by omega)
      have hgb := hg ad rfl
      have hab : ∀ k, (ad.add k).block = g := fun k => by rw [← hgb]; unfold Addr.add; split <;> rfl
      have hpx : pj (ws[i]'(by omega)) = (i, rd_T23 l (i : Int)) := by
        have h1 : (ws.map pj)[i]'(by rw [List.length_map]; omega) = pj (ws[i]'(by omega)) := List.getElem_map _
        rw [← h1]
        simp only [hws]
        simp [allOf]
      have htk : ws.take (i + 1) = ws.take i ++ [ws[i]'(by omega)] := List.take_succ_eq_append_getElem (by omega)
      obtain ⟨x, hx⟩ : ∃ x, ws[i]'(by omega) = x := ⟨_, rfl⟩
      rw [hx] at hpx htk
      clear hx
      obtain ⟨v, hv⟩ : ∃ v, rd_T23 l (i : Int) = v := ⟨_, rfl⟩
      rw [hv] at x0 x1 x2 hpx
      clear hv
      rw [Int.toNat_natCast] at x0 x1 x2
      replace x0 := (World.cell?_of_block (w := V) (w' := wr) (a := ad.add (i * 3)) (by rw [hab]; exact hgr)).trans x0
      replace x1 := (World.cell?_of_block (w := V) (w' := wr) (a := ⟨(ad.add (i * 3)).block, (ad.add (i * 3)).off + 1, none⟩) (by rw [hab]; exact hgr)).trans x1
      replace x2 := (World.cell?_of_block (w := V) (w' := wr) (a := ⟨(ad.add (i * 3)).block, (ad.add (i * 3)).off + 2, none⟩) (by rw [hab]; exact hgr)).trans x2
      have hgl : g < wr.heap.size := by have := World.block_lt_of_cell? wr _ x0; rw [hab] at this; exact this
      obtain ⟨wq, hwq⟩ : ∃ wq, wr.alloc (.cells #[.int .i64 v.f0, .int .i64 v.f1, .string v.f2] 23) = wq := ⟨_, rfl⟩
      have hJq : J (ws.take i) wq := by rw [← hwq]; exact hJ _ _ _ none hJi (World.grownBy_alloc wr _ none) (fun r e => by cases e)
      have hgq : wq.heap[g]? = V.heap[g]? := by rw [← hwq, ← hgr]; exact (World.grownBy_alloc wr _ none).block g hgl (by simp)
      obtain ⟨fn, tmps, assign, body, hy, hR⟩ := hY _ x wq hJq (by rw [List.length_take]; omega)
      rw [hpx] at hy
      dsimp only [encIV] at hy
      rw [← hwq] at hy hR
      have hil : (i : Int) < (l.length : Int) := by omega
      rw [← hwq] at hgq
      have HQ := Aside0.mk hgq
      clear hab hgb hlt hV hwq hgq hJq hpx
      gi_wp2
      refine hR.mono ?_
      rintro e W3 (⟨rfl, hJ4, hk4⟩ | ⟨rfl, hJx4⟩)
      · have h3 := hKp hk4
        gi_wp2
        go_roundw
        case rel => exact ⟨i + 1, by congr 1, by omega, by rw [htk]; exact hJ4, h3.trans HQ.out⟩
        case measure => simp; omega
      · gi_wp2
        refine bodyPost_ret (results_none rfl _ _ _) rfl ?_
        exact ⟨⟨_, rfl⟩, .inr ⟨_, by rw [← htk]; exact List.take_prefix _ _, hJx4⟩⟩
    · have hlb : decide ((i : Int) < (l.length : Int)) = false := decide_eq_false (by omega)
      have hlb2 : decide (i < l.length) = false := decide_eq_false hlt
      gi_wp2
      go_end0
      rw [List.take_of_length_le (by omega)] at hJi
      exact ⟨⟨_, rfl⟩, .inl ⟨_, rfl, hJi⟩⟩
theorem all1_stops {β : Type} (pj : β → Nat × Va) (ws : List β) (n : Nat) (hn : 1 ≤ n) (Bx g : Nat) (A : Option Addr) (c : Nat) (l : List Va) (V : World) (hV : Kd.C k23 V A l.length l) (hg : ∀ ad, A = some ad → ad.block = g) (hlen : l.length ≤ 140737488355328) (hws : ws.map pj = allOf l) (hBs : Bx < V.heap.size) (Kp : World → World → Prop) (hKp : ∀ {A C : World}, Kp A C → C.heap[g]? = A.heap[g]?)
    (h1 : V.cell? ⟨Bx, 0, none⟩ = some (.slice A l.length c)) (hgl : g < V.heap.size) :
    SeqStopsK Fence.wide n Tryd.prog 34 #[.pointer (some ⟨Bx, 0, none⟩)] (fun x => encIV (pj x)) Kp (fun ys => ys = ws) (fun pre => pre <+: ws) ws.length V :=
  fun lp J Jx W hW hJ _ hY h0 => all1_in pj ws n hn lp Bx g A c l V hV hg hlen Kp hKp J Jx hws hY W (hW.block g hgl) ((hW.cell (p := ⟨Bx, 0, none⟩) hBs).trans h1) hJ h0
end Go.Proofs.YtindffllmlifiaaDoor.Q
/- value.All: walked: it hands back its iterator over a copy of the row. -/
namespace Go.Proofs.YtindffllmlifiaaDoor.Q
open Go.RowKit Go.Shelf Go.Proofs.YtindffllmlifiaaDoorW.PrintWords Go.Proofs.YtindffllmlifiaaDoorW.PrintLast Go.Proofs.YtindffllmlifiaaDoorW.PrintMore
set_option linter.unusedVariables false
set_option linter.unusedSimpArgs false
set_option maxHeartbeats 4000000 in
set_option maxRecDepth 100000 in
theorem All_calls (A : Option Addr) (c : Nat) (l : List Va) (hlen : l.length ≤ 4398046511103) (w : World) (hC : Kd.C k23 w A l.length l) :
    Calls Tryd.prog 22 #[.slice A l.length c] w fun e w' => ∃ (Bx : Nat) (A' : Option Addr) (c' : Nat), e = .returned (.func (.func 34) #[] #[.pointer (some ⟨Bx, 0, none⟩)]) ∧ w.heap.size ≤ Bx ∧ Boxed w' Bx 24 (.slice A' l.length c') ∧ Kd.R k23 23 w' w.heap.size (fun _ => True) (.slice A' l.length c') l ∧ Below w.heap.size w w' := by
  have HC := Aside0.mk hC
  clear hC
  go_enter Tryd.func22, Tryd.ntmps22
  go_wp2_with ((with_reducible refine gate_builtin (b := .append) (xs := #[.const (.slice none 0 0), .tmp 4]) rfl ?_); (try (refine gate_guard (by rfl) ?_; dsimp only)); at_builtin; refine Kd.R_append_rows k23 (Rr := k23.K w) (w0 := w) w.heap.size rfl (.const (.slice none 0 0)) (.tmp 4) 24 23 (.agg #[.int .i64 0, .int .i64 0, .string ⟨#[]⟩]) 32 rfl Tryd.underlying24 info23 rfl (by decide) (by omega) (.slice none 0 0) [] l _ _ _ (fun _ => True) (fun _ => False) rfl rfl ?aO ?aR ?aM (fun _ h => h.elim) ?aF ?aB ?aS ?aL ?_; (case aO => exact Kd.R_nil _ _ _ _ _); (case aR => exact HC.out); (case aM => exact (fun x cs h => by obtain rfl := k23_open h; exact k23_mkM _ _ _ x)); (case aF => exact (fun _ _ => trivial)); (case aB => exact Below.refl _ _); (case aS => exact Nat.le_refl _); (case aL => simp only [List.length_nil]; omega); intro v1 w1 ho hb hg hat; rw [List.nil_append] at ho; obtain ⟨A1, c1, rfl⟩ := Kd.R_slice ho; have HO := Aside0.mk ho; have HB := Aside0.mk hb; have HZ := Aside0.mk hg.size; clear ho hb hg hat)
  go_ret
  exact ⟨w1.heap.size, A1, c1, rfl, HZ.out, Boxed.new _ _ _, Kd.R_alloc HO.out _, below_alloc HB.out _⟩
end Go.Proofs.YtindffllmlifiaaDoor.Q
/- value.eight: walked: eight bytes put behind bytes that the caller owns. -/
namespace Go.Proofs.YtindffllmlifiaaDoor.Q
open Go.RowKit Go.Proofs.YtindffllmlifiaaDoorW.PrintWords Go.Proofs.YtindffllmlifiaaDoorW.PrintLast Go.Proofs.YtindffllmlifiaaDoorW.PrintMore
set_option linter.unusedVariables false
set_option linter.unusedSimpArgs false
/-- A number's eight bytes, the highest first. -/
def eightB (n : Int) : List Int := (List.range 8).map fun i => (n / 2 ^ (56 - 8 * i)) % 256
theorem eightB_take (n : Int) {i : Nat} (h : i < 8) : (eightB n).take (i + 1) = (eightB n).take i ++ [(n / 2 ^ (56 - 8 * i)) % 256] := by
  rw [List.take_succ_eq_append_getElem (by simp [eightB]; exact h)]
  congr 2
  simp [eightB]
theorem infoU8e : (Tryd.prog.info? 5).map (fun i => (i.zero, i.size, i.bytes)) = some (some (.int .u8 0), 1, 1) := by kernel_rfl
set_option maxHeartbeats 4000000 in
set_option maxRecDepth 100000 in
theorem eight_walk (v : Value) (xs : List Int) (n : Int) (h0 : 0 ≤ n) (h1 : n < 18446744073709551616) (base : Nat) (w : World) (hO : RB w base 5 v xs) (hb : base ≤ w.heap.size) (hl : xs.length + 8 ≤ 140737488355328) :
    Calls Tryd.prog 30 #[v, .int .u64 n] w fun e w' => ∃ v', e = .returned v' ∧ RB w' base 5 v' (xs ++ eightB n) ∧ Below base w w' ∧ KeepsOthers w w' := by
  have HO := Aside0.mk hO
  clear hO
  go_enter Tryd.func30, Tryd.ntmps30
  go_wp2
  go_loopg [0, 6] 8 (fun kq v0 v6 wr => ∃ i : Nat, v6 = .int .i64 i ∧ Aside0 (i + kq = 8) ∧ Aside0 (RB wr base 5 v0 (xs ++ (eightB n).take i)) ∧ Aside0 (Below base w wr) ∧ Aside0 (base ≤ wr.heap.size) ∧ Aside0 (KeepsOthers w wr))
  case atStart => exact ⟨0, rfl, ⟨by omega⟩, ⟨by have h := HO.out; simpa using h⟩, ⟨Below.refl _ _⟩, ⟨hb⟩, ⟨KeepsOthers.refl _⟩⟩
  case round =>
    obtain ⟨i, rfl, HI, HOr, HB, HZ, HK⟩ := hrel
    cases gk with
    | zero =>
      have hi : i = 8 := HI.out
      subst hi
      have hlen : (eightB n).length = 8 := rfl
      have HO2 : Aside0 (RB wr base 5 u0 (xs ++ eightB n)) := ⟨by have h := HOr.out; rwa [List.take_of_length_le (by omega)] at h⟩
      go_wp2
      go_ret
      exact ⟨_, rfl, HO2.out, HB.out, HK.out⟩
    | succ k1 =>
      have hi : i < 8 := by have := HI.out; omega
      have hlb : decide ((i : Int) < 8) = true := decide_eq_true (by omega)
      have hlb2 : decide (i < 8) = true := decide_eq_true hi
      have hw1 : wrap64 (8 * (i : Int)) = 8 * (i : Int) := wrap_in (by unfold in64; omega)
      have hw2 : wrap64 (56 - 8 * (i : Int)) = 56 - 8 * (i : Int) := wrap_in (by unfold in64; omega)
      have hw3 : wrap64 ((i : Int) + 1) = (i : Int) + 1 := wrap_in (by unfold in64; omega)
      have htk : Aside0 (xs ++ (eightB n).take i ++ [n / 2 ^ (56 - 8 * i) % 256] = xs ++ (eightB n).take (i + 1)) := ⟨by rw [eightB_take n hi, List.append_assoc]⟩
      have HL : Aside0 ((xs ++ (eightB n).take i).length + 1 ≤ 140737488355328) := ⟨by
        have h1 : ((eightB n).take i).length ≤ i := List.length_take_le _ _
        rw [List.length_append]
        omega⟩
      go_wp2_with ((with_reducible refine gate_builtin (b := .append) (xs := #[.tmp 9, .tmp 16]) rfl ?_); (try (refine gate_guard (by rfl) ?_; dsimp only)); at_builtin; refine Kd.R_append (Kd.int .u8) (w0 := w) base rfl (.tmp 9) (.tmp 16) 52 5 (.int .u8 0) 1 rfl Tryd.underlying52 infoU8e rfl (by decide) (by omega) u0 (xs ++ (eightB n).take i) (n / 2 ^ (56 - 8 * i) % 256) [.int .u8 (n / 2 ^ (56 - 8 * i) % 256)] (fun _ => True) (fun _ => False) rfl rfl ?aP (fun _ hk => hk.elim) ?aF ?aO ?aB ?aS ?aL ?_; (case aP => exact rfl); (case aB => exact HB.out); (case aF => exact (fun _ _ => trivial)); (case aO => exact HOr.out.R); (case aS => exact HZ.out); (case aL => have := HL.out; omega); intro v1 w3 ho hb3 hg hat; rw [htk.out] at ho; have HO3 := Aside0.mk (RB.of_R ho); have HB3 := Aside0.mk hb3; have HZ3 := Aside0.mk (show base ≤ w3.heap.size by have h1 := hg.size; have h2 := HZ.out; omega); have HK3 := Aside0.mk (HK.out.trans (KeepsOthers.of_grownBy hg (fun j o e ho => by obtain ⟨cells, hc⟩ := own_typed HOr.out j e; rw [hc] at ho; cases ho; rfl))); clear ho hb3 hg hat)
      go_roundg k1
      case measure => omega
      case rel => exact ⟨i + 1, by congr 1, ⟨by have := HI.out; omega⟩, HO3, HB3, HZ3, HK3⟩
end Go.Proofs.YtindffllmlifiaaDoor.Q
/- The shelf's layings at this dump, in plain words, as the kit's own two commands print them. -/
namespace Go.Proofs
open Go.Shelf
def Tryd.lays155_ren : Go.Shelf.Ren := ⟨fun | 155 => 31 | 154 => 39 | 138 => 44 | 165 => 45 | 143 => 46 | 166 => 47 | 197 => 48 | 169 => 49 | 195 => 52 | 218 => 53 | 240 => 54 | 241 => 55 | 219 => 56 | 260 => 57 | 276 => 59 | 277 => 60 | 217 => 50 | 225 => 61 | 224 => 62 | 267 => 63 | 266 => 58 | 314 => 64 | n => n, fun | 9 => 9 | 3 => 3 | 4 => 4 | 72 => 72 | 0 => 0 | 76 => 76 | 105 => 78 | 21 => 21 | 5 => 5 | 70 => 70 | 20 => 20 | 37 => 52 | 75 => 75 | 127 => 82 | 164 => 83 | 46 => 56 | 119 => 87 | 139 => 90 | 138 => 89 | 146 => 92 | 51 => 91 | 80 => 80 | n => n, fun | 1 => 0 | 3 => 1 | 4 => 2 | n => n⟩
theorem Tryd.lays155 : Go.Proofs.Lays.n155 Tryd.prog Tryd.lays155_ren := {
  mixed := by kernel_rfl
  f138 := Tryd.func44.trans (congrArg some (by kernel_rfl))
  f143 := Tryd.func46.trans (congrArg some (by kernel_rfl))
  f154 := Tryd.func39.trans (congrArg some (by kernel_rfl))
  f155 := Tryd.func31.trans (congrArg some (by kernel_rfl))
  f165 := Tryd.func45.trans (congrArg some (by kernel_rfl))
  f166 := Tryd.func47.trans (congrArg some (by kernel_rfl))
  f169 := Tryd.func49.trans (congrArg some (by kernel_rfl))
  f195 := Tryd.func52.trans (congrArg some (by kernel_rfl))
  f197 := Tryd.func48.trans (congrArg some (by kernel_rfl))
  f217 := Tryd.func50.trans (congrArg some (by kernel_rfl))
  f218 := Tryd.func53.trans (congrArg some (by kernel_rfl))
  f219 := Tryd.func56.trans (congrArg some (by kernel_rfl))
  f224 := Tryd.func62.trans (congrArg some (by kernel_rfl))
  f225 := Tryd.func61.trans (congrArg some (by kernel_rfl))
  f240 := Tryd.func54.trans (congrArg some (by kernel_rfl))
  f241 := Tryd.func55.trans (congrArg some (by kernel_rfl))
  f260 := Tryd.func57.trans (congrArg some (by kernel_rfl))
  f266 := Tryd.func58.trans (congrArg some (by kernel_rfl))
  f267 := Tryd.func63.trans (congrArg some (by kernel_rfl))
  f276 := Tryd.func59.trans (congrArg some (by kernel_rfl))
  f277 := Tryd.func60.trans (congrArg some (by kernel_rfl))
  f314 := Tryd.func64.trans (congrArg some (by kernel_rfl))
  t0 := Tryd.underlying0
  a0 := Tryd.isAgg0
  z0 := Tryd.sizeOf0
  v0 := Tryd.zeroValue0
  t3 := Tryd.underlying3
  a3 := Tryd.isAgg3
  z3 := Tryd.sizeOf3
  v3 := Tryd.zeroValue3
  t4 := Tryd.underlying4
  a4 := Tryd.isAgg4
  z4 := Tryd.sizeOf4
  v4 := Tryd.zeroValue4
  t5 := Tryd.underlying5
  a5 := Tryd.isAgg5
  z5 := Tryd.sizeOf5
  v5 := Tryd.zeroValue5
  t9 := Tryd.underlying9
  a9 := Tryd.isAgg9
  z9 := Tryd.sizeOf9
  v9 := Tryd.zeroValue9
  t20 := Tryd.underlying20
  a20 := Tryd.isAgg20
  z20 := Tryd.sizeOf20
  v20 := Tryd.zeroValue20
  t21 := Tryd.underlying21
  a21 := Tryd.isAgg21
  z21 := Tryd.sizeOf21
  v21 := Tryd.zeroValue21
  t37 := Tryd.underlying52
  a37 := Tryd.isAgg52
  z37 := Tryd.sizeOf52
  v37 := Tryd.zeroValue52
  t46 := Tryd.underlying56
  a46 := Tryd.isAgg56
  z46 := Tryd.sizeOf56
  v46 := Tryd.zeroValue56
  t51 := Tryd.underlying91
  a51 := Tryd.isAgg91
  z51 := Tryd.sizeOf91
  v51 := Tryd.zeroValue91
  t70 := Tryd.underlying70
  a70 := Tryd.isAgg70
  z70 := Tryd.sizeOf70
  v70 := Tryd.zeroValue70
  t72 := Tryd.underlying72
  a72 := Tryd.isAgg72
  z72 := Tryd.sizeOf72
  v72 := Tryd.zeroValue72
  t75 := Tryd.underlying75
  a75 := Tryd.isAgg75
  z75 := Tryd.sizeOf75
  v75 := Tryd.zeroValue75
  t76 := Tryd.underlying76
  a76 := Tryd.isAgg76
  z76 := Tryd.sizeOf76
  v76 := Tryd.zeroValue76
  t105 := Tryd.underlying78
  a105 := Tryd.isAgg78
  z105 := Tryd.sizeOf78
  v105 := Tryd.zeroValue78
  t119 := Tryd.underlying87
  a119 := Tryd.isAgg87
  z119 := Tryd.sizeOf87
  t127 := Tryd.underlying82
  a127 := Tryd.isAgg82
  z127 := Tryd.sizeOf82
  v127 := Tryd.zeroValue82
  t138 := Tryd.underlying89
  a138 := Tryd.isAgg89
  z138 := Tryd.sizeOf89
  v138 := Tryd.zeroValue89
  t139 := Tryd.underlying90
  a139 := Tryd.isAgg90
  z139 := Tryd.sizeOf90
  v139 := Tryd.zeroValue90
  t146 := Tryd.underlying92
  a146 := Tryd.isAgg92
  z146 := Tryd.sizeOf92
  v146 := Tryd.zeroValue92
  t164 := Tryd.underlying83
  a164 := Tryd.isAgg83
  z164 := Tryd.sizeOf83
  v164 := Tryd.zeroValue83
  g1 := by kernel_rfl
  g3 := by kernel_rfl
  g4 := by kernel_rfl }
theorem Tryd.Builder_Extra_155 : Builder.Extra Tryd.prog Tryd.lays155_ren := {
  sizeBuilder := by kernel_rfl
  liesBuilder := by kernel_rfl
  t5 := Tryd.underlying5
  a5 := Tryd.isAgg5
  z5 := Tryd.sizeOf5
  v5 := Tryd.zeroValue5
  infoByte := by kernel_rfl
  cellsByte := by kernel_rfl
  sizeByte := by kernel_rfl
  neB5 := by decide }
end Go.Proofs
/- strings.ReplaceAll(s, "\x00", "\x00\xff"): walked over the shelf's contracts for strings.Count, strings.Index at one byte and the Builder. -/
namespace Go.Proofs.YtindffllmlifiaaDoor.Q
open Go.RowKit Go.Proofs.YtindffllmlifiaaDoorW.PrintWords Go.Proofs.YtindffllmlifiaaDoorW.PrintLast Go.Proofs.YtindffllmlifiaaDoorW.PrintMore
set_option linter.unusedVariables false
set_option linter.unusedSimpArgs false
/-- Each 0 becomes 0, 255. -/
def escU (l : List UInt8) : List UInt8 := l.flatMap fun b => if b = 0 then [0, 255] else [b]
theorem escU_append (a b : List UInt8) : escU (a ++ b) = escU a ++ escU b := by simp [escU]
theorem escU_none : ∀ l : List UInt8, (∀ x ∈ l, x ≠ 0) → escU l = l
  | [], _ => rfl
  | a :: l, h => by
    have h1 := h a (by simp)
    have h2 := escU_none l (fun x hx => h x (by simp [hx]))
    show (if a = 0 then [0, 255] else [a]) ++ escU l = a :: l
    rw [if_neg h1, h2]
    rfl
theorem escU_len : ∀ l : List UInt8, (escU l).length = l.length + l.count 0
  | [] => rfl
  | a :: l => by
    show ((if a = 0 then [0, 255] else [a]) ++ escU l).length = _
    rw [List.length_append, escU_len l, List.count_cons]
    by_cases h : a = 0
    · rw [if_pos h, h]; simp; omega
    · rw [if_neg h]
      have : (a == 0) = false := beq_eq_false_iff_ne.2 h
      simp [this]; omega
theorem idx_split : ∀ (l : List UInt8), 0 < l.count 0 → ∃ j : Nat, Lib.indexByte l 0 = j ∧ j < l.length ∧ l.drop j = 0 :: l.drop (j + 1) ∧ (∀ x ∈ l.take j, x ≠ 0)
  | [], h => by simp at h
  | a :: l, h => by
    unfold Lib.indexByte
    by_cases ha : a = 0
    · subst ha
      exact ⟨0, by simp, by simp, by simp, by simp⟩
    · have h0 : (a == 0) = false := beq_eq_false_iff_ne.2 ha
      rw [List.count_cons, h0] at h
      obtain ⟨j, h1, h2, h3, h4⟩ := idx_split l (by simpa using h)
      refine ⟨j + 1, ?_, by simp; omega, by simpa using h3, ?_⟩
      · rw [h0, h1]
        have : ((j : Int) == -1) = false := beq_eq_false_iff_ne.2 (by omega)
        simp [this]
      · intro x hx
        rw [List.take_succ_cons] at hx
        rcases List.mem_cons.1 hx with rfl | hx
        · exact ha
        · exact h4 x hx
theorem count0_calls (s : ByteArray) (w : World) : Calls Tryd.prog 44 #[.string s, .string ⟨#[0]⟩] w fun e w' => e = .returned (.int .i64 (s.data.toList.count 0 : Nat)) ∧ w' = w :=
  Any.strings_Count_one { Tryd.lays155 with } s 0 w
theorem index0_calls (s : ByteArray) (w : World) : Calls Tryd.prog 46 #[.string s, .string ⟨#[0]⟩] w fun e w' => e = .returned (.int .i64 (Lib.indexByte s.data.toList 0)) ∧ w' = w :=
  Any.strings_Index_one { Tryd.lays155 with } s 0 w
theorem grow_calls (B b n : Nat) (w : World) (hB : B ≤ b) (hbk : w.heap[b]? = some (.cells #[.pointer none, .slice none 0 0] 72 (0, 0))) (hBw : B ≤ w.heap.size) (hn : n ≤ 281474976710656) :
    Calls Tryd.prog 45 #[.pointer (some ⟨b, 0, none⟩), .int .i64 n] w fun e w' => e = .returned (.tuple #[]) ∧ (Lib.BuilderAt 72 5 B b (.pointer (some ⟨b, 0, none⟩)) [] w' ∧ Below B w w') :=
  Any.Builder_Grow_fresh { Tryd.lays155 with } Tryd.Builder_Extra_155 B b n w hB hbk hBw hn
theorem writeString_calls (B b : Nat) (bs : List Value) (s : ByteArray) (w : World) (h : Lib.IsBuilder 72 5 B b bs w) (hlen : bs.length + s.size ≤ 140737488355328) (hBw : B ≤ w.heap.size) :
    Calls Tryd.prog 47 #[.pointer (some ⟨b, 0, none⟩), .string s] w fun e w' => e = .returned (.tuple #[.int .i64 s.size, .nilIface]) ∧ (Lib.BuilderAt 72 5 B b (.pointer (some ⟨b, 0, none⟩)) (bs ++ Lib.strCells s) w' ∧ Below B w w') :=
  Any.Builder_WriteString { Tryd.lays155 with } Tryd.Builder_Extra_155 B b bs s w h hlen hBw
theorem string_calls (B b : Nat) (l : List UInt8) (w : World) (h : Lib.IsBuilder 72 5 B b (Lib.byteCells l) w) (hBw : B ≤ w.heap.size) :
    Calls Tryd.prog 49 #[.pointer (some ⟨b, 0, none⟩)] w fun e w' => e = .returned (.string ⟨l.toArray⟩) ∧ Below B w w' :=
  Any.Builder_String_any { Tryd.lays155 with } Tryd.Builder_Extra_155 B b l w h hBw
set_option maxHeartbeats 8000000 in
set_option maxRecDepth 1000000 in
theorem replace_walk (s : ByteArray) (hs : s.size ≤ 1000000) (w : World) :
    Calls Tryd.prog 39 #[.string s, .string ⟨#[0]⟩, .string ⟨#[0, 255]⟩, .int .i64 (-1)] w fun e w' => e = .returned (.string ⟨(escU s.data.toList).toArray⟩) ∧ Below w.heap.size w w' := by
  have hlenL : s.data.toList.length = s.size := data_length s
  have hne : ((⟨#[0]⟩ : ByteArray).toList == (⟨#[0, 255]⟩ : ByteArray).toList) = false := by decide +kernel
  obtain ⟨K, hK⟩ : ∃ K : Nat, s.data.toList.count 0 = K := ⟨_, rfl⟩
  have hC := count0_calls s w
  rw [hK] at hC
  have hKs : K ≤ s.size := by rw [← hK, ← hlenL]; exact List.count_le_length
  by_cases hz : K = 0
  · subst hz
    have hE : escU s.data.toList = s.data.toList := escU_none _ (fun x hx e => by
      subst e
      exact absurd (List.count_pos_iff.2 hx) (by omega))
    rw [hE]
    clear hE hK
    go_enter Tryd.func39, Tryd.ntmps39
    go_wp2_with (go_at_call 44; refine hC.mono ?_; rintro e w1 ⟨rfl, hw⟩; rw [hw])
    go_ret
    exact ⟨rfl, Below.refl _ _⟩
  · go_enter Tryd.func39, Tryd.ntmps39
    have hKz : ((K : Int) == 0) = false := beq_eq_false_iff_ne.2 (by omega)
    go_wp2_with (go_at_call 44; refine hC.mono ?_; rintro e w1 ⟨rfl, hw⟩; rw [hw])
    have hga : ((s.size : Int) + (K : Int)) = ((s.size + K : Nat) : Int) := (Int.natCast_add _ _).symm
    rw [hga]
    refine (grow_calls w.heap.size w.heap.size (s.size + K) _ (Nat.le_refl _) (blk_new w _) (by rw [World.size_alloc]; omega) (by omega)).mono ?_
    rintro e w1 ⟨rfl, hb0, hb1⟩
    have H1 := Aside0.mk (Or.inr hb0 : Lib.IsBuilder 72 5 w.heap.size w.heap.size (Lib.byteCells []) w1)
    have HB1 := Aside0.mk (((Below.refl w.heap.size w).alloc (Nat.le_refl _) _).trans hb1)
    have HK := Aside0.mk hK
    clear hb0 hb1 hga hC hK hz hKz hne
    go_wp2_with fail
    go_loopg [11, 53] K (fun kq s11 s53 wx => ∃ (i start : Nat) (acc : List UInt8), s53 = .int .i64 i ∧ s11 = .int .i64 start ∧ Aside0 (i + kq = K) ∧ Aside0 (start ≤ s.size) ∧
      Aside0 (Lib.IsBuilder 72 5 w.heap.size w.heap.size (Lib.byteCells acc) wx) ∧ Aside0 (Below w.heap.size w wx) ∧ Aside0 (acc ++ escU (s.data.toList.drop start) = escU s.data.toList) ∧ Aside0 ((s.data.toList.drop start).count 0 = kq))
    case atStart => exact ⟨0, 0, [], rfl, rfl, ⟨by omega⟩, ⟨Nat.zero_le _⟩, H1, HB1, ⟨by simp⟩, ⟨by simpa using HK.out⟩⟩
    case round =>
      clear H1 HB1
      obtain ⟨i, start, acc, rfl, rfl, HI, HS, HBd, HB, HE, HC⟩ := hrel
      have hBw : w.heap.size ≤ wr.heap.size := HB.out.size
      have hacc : acc.length ≤ 2000000 := by
        have h1 := congrArg List.length HE.out
        rw [List.length_append, escU_len s.data.toList, HK.out, hlenL] at h1
        omega
      have hst := HS.out
      have c1 : (0 : Int) ≤ (start : Int) := by omega
      have c2 : (start : Int) ≤ (s.size : Int) := by omega
      cases gk with
      | zero =>
        have hi : i = K := HI.out
        have hb1 : decide ((i : Int) < (K : Int)) = false := decide_eq_false (by omega)
        have hb2 : decide (i < K) = false := decide_eq_false (by omega)
        have hE : acc ++ s.data.toList.drop start = escU s.data.toList := by
          rw [← HE.out]
          congr 1
          exact (escU_none _ (fun x hx e => by subst e; exact absurd (List.count_pos_iff.2 hx) (by have := HC.out; omega))).symm
        have HEx := Aside0.mk hE
        clear hE hi
        go_wp2_with fail
        refine (writeString_calls w.heap.size w.heap.size _ _ wr HBd.out (by rw [Lib.byteCells_length, ByteArray.size_extract]; omega) hBw).mono ?_
        rintro e w3 ⟨rfl, h3, hb3⟩
        rw [Lib.strCells_eq, Lib.extract_to_end, ← Lib.byteCells_append, HEx.out] at h3
        have H3 := Aside0.mk (Or.inr h3 : Lib.IsBuilder 72 5 w.heap.size w.heap.size _ w3)
        have HB3 := Aside0.mk (HB.out.trans hb3)
        have hBw3 : w.heap.size ≤ w3.heap.size := HB3.out.size
        clear h3 hb3
        go_wp2_with fail
        refine (string_calls w.heap.size w.heap.size _ w3 H3.out hBw3).mono ?_
        rintro e w5 ⟨rfl, hb5⟩
        have HB5 := Aside0.mk (HB3.out.trans hb5)
        clear hb5
        go_wp2
        go_ret
        exact ⟨rfl, HB5.out⟩
      | succ g =>
        have hlt : i < K := by have := HI.out; omega
        have hb1 : decide ((i : Int) < (K : Int)) = true := decide_eq_true (by omega)
        have hb2 : decide (i < K) = true := decide_eq_true hlt
        obtain ⟨j, hj, hjl, hjd, hjt⟩ := idx_split (s.data.toList.drop start) (by have := HC.out; omega)
        rw [List.length_drop, hlenL] at hjl
        have c3 : (start : Int) ≤ (start : Int) + (j : Int) := by omega
        have c4 : (start : Int) + (j : Int) ≤ (s.size : Int) := by omega
        have hsplit : s.data.toList.drop start = (s.data.toList.drop start).take j ++ 0 :: s.data.toList.drop (start + j + 1) := by
          conv => lhs; rw [← List.take_append_drop j (s.data.toList.drop start), hjd, List.drop_drop]
          rw [Nat.add_assoc]
        have hnext : Lib.byteCells acc ++ Lib.strCells (s.extract start (start + j)) ++ Lib.strCells ⟨#[0, 255]⟩ = Lib.byteCells (acc ++ (s.data.toList.drop start).take j ++ [0, 255]) := by
          rw [Lib.strCells_eq, Lib.strCells_eq, Lib.extract_data, Nat.add_sub_cancel_left, ← Lib.byteCells_append, ← Lib.byteCells_append]
        have hrep : (acc ++ (s.data.toList.drop start).take j ++ [0, 255]) ++ escU (s.data.toList.drop (start + j + 1)) = escU s.data.toList := by
          rw [← HE.out]
          conv => rhs; rw [hsplit, escU_append, escU_none _ hjt]
          show _ = acc ++ ((s.data.toList.drop start).take j ++ ([0, 255] ++ escU (s.data.toList.drop (start + j + 1))))
          simp only [List.append_assoc]
        have hcnt : (s.data.toList.drop (start + j + 1)).count 0 = g := by
          have h1 := HC.out
          rw [hsplit, List.count_append, List.count_cons, List.count_eq_zero.2 (fun hm => hjt 0 hm rfl)] at h1
          simp at h1
          omega
        have Hn := Aside0.mk hnext
        have Hrep := Aside0.mk hrep
        have Hcnt := Aside0.mk hcnt
        have Hj := Aside0.mk hj
        clear hnext hrep hcnt hsplit hjd hjt hj HE HC
        go_wp2_with (go_at_call 46; refine (index0_calls _ _).mono ?_; rintro e w' ⟨rfl, hw⟩; rw [hw, Lib.extract_to_end, Hj.out])
        refine (writeString_calls w.heap.size w.heap.size _ (s.extract start (start + j)) wr HBd.out (by rw [Lib.byteCells_length, ByteArray.size_extract]; omega) hBw).mono ?_
        rintro e w3 ⟨rfl, h3, hb3⟩
        have hBw3 : w.heap.size ≤ w3.heap.size := Nat.le_trans hBw hb3.size
        have H3 := Aside0.mk h3
        have HB3 := Aside0.mk hb3
        clear h3 hb3
        go_wp2_with fail
        refine (writeString_calls w.heap.size w.heap.size _ ⟨#[0, 255]⟩ w3 (Or.inr H3.out) (by rw [List.length_append, Lib.byteCells_length, Lib.strCells_length, ByteArray.size_extract]; have : (⟨#[0, 255]⟩ : ByteArray).size = 2 := rfl; omega) hBw3).mono ?_
        rintro e w4 ⟨rfl, h4, hb4⟩
        rw [Hn.out] at h4
        have H4 := Aside0.mk (Or.inr h4 : Lib.IsBuilder 72 5 w.heap.size w.heap.size _ w4)
        have HB4 := Aside0.mk ((HB.out.trans HB3.out).trans hb4)
        clear h4 hb4
        go_wp2
        go_roundg g
        case measure => omega
        case rel => exact ⟨i + 1, start + j + 1, _, by first | rfl | (simp; done) | (simp; unfold wrap64; omega), by first | rfl | (simp; done) | (simp; unfold wrap64; omega), ⟨by have := HI.out; omega⟩, ⟨by omega⟩, H4, HB4, Hrep, Hcnt⟩
theorem replaceAll_calls (s : ByteArray) (hs : s.size ≤ 1000000) (w : World) :
    Calls Tryd.prog 31 #[.string s, .string ⟨#[0]⟩, .string ⟨#[0, 255]⟩] w fun e w' => e = .returned (.string ⟨(escU s.data.toList).toArray⟩) ∧ Below w.heap.size w w' := by
  go_enter Tryd.func31, Tryd.ntmps31
  go_wp2_with (go_at_call 39; refine (replace_walk s hs _).mono ?_; rintro e w1 ⟨rfl, hb1⟩)
  go_ret
  exact ⟨rfl, hb1⟩
end Go.Proofs.YtindffllmlifiaaDoor.Q
/- What a round of value.Key keeps: words for the walk of value.Key. -/
namespace Go.Proofs.YtindffllmlifiaaDoor.Q
open Go.RowKit Go.Shelf Go.Proofs.YtindffllmlifiaaDoorW.PrintWords Go.Proofs.YtindffllmlifiaaDoorW.PrintLast Go.Proofs.YtindffllmlifiaaDoorW.PrintMore
set_option linter.unusedVariables false
set_option linter.unusedSimpArgs false
section
variable {F : Fence} {n : Nat} {P : Program} {ops : Array Oper} {Q : Exit → Act → World → Prop} {a : Act} {w : World}
/-- A region that draws its order, within a round: one choice after another. -/
theorem region_any {id : Nat} (hm : P.follows .mixedOrders = true) {fuel : Nat} (hf : ops.size = fuel) {l : Array Bool} (hl : Array.replicate fuel false = l) (h : wpAnyIn F n P .any ops Q fuel l a w.drew) : (Code.region id ops true).wpIn F n P Q a w := by
  subst hf
  subst hl
  exact wpIn_region_any hm h
theorem any_step {md : Region.Mode} {fuel : Nat} {l : Array Bool} (is : List Nat) (hr : Region.ready md ops l = is) (hne : is ≠ [])
    (h : ∀ i ∈ is, wpOpIn F n P ops Q i (wpAnyIn F n P md ops Q fuel (l.setIfInBounds i true)) a w) : wpAnyIn F n P md ops Q (fuel + 1) l a w := by
  unfold wpAnyIn
  rw [hr]
  exact ⟨fun e => absurd e hne, h⟩
theorem any_done {md : Region.Mode} {l : Array Bool} (hr : Region.ready md ops l = []) (h : Q .normal a w) : wpAnyIn F n P md ops Q 0 l a w := by
  unfold wpAnyIn
  exact ⟨hr, h⟩
theorem op_one {i : Nat} {o : Oper} {K : Act → World → Prop} (hi : ops[i]? = some o) (h : wpListIn F n P ops (Exit.then K Q) [o] a w) : wpOpIn F n P ops Q i K a w := by
  unfold wpOpIn
  rw [hi]
  unfold wpListIn at h
  unfold wpListIn at h
  dsimp only
  by_cases hw : Region.wanted o (yielded ops a.tmps) = true
  · rw [if_pos hw] at h ⊢
    unfold Oper.wpIn at h ⊢
    refine ⟨h.1, ?_⟩
    have h2 := h.2
    revert h2
    cases (o.semAt F.round a.eval).run P w with
    | ok x w' =>
      intro h2
      cases x with
      | value v => exact h2
      | skip => exact h2
      | defer d => exact h2
      | enter f args => exact ⟨h2.1, h2.2.mono (fun e w'' he => by cases e <;> exact he)⟩
      | row r args => exact ⟨h2.1, h2.2.mono (fun e w'' he => he)⟩
      | round l f tmps assign body => exact ⟨h2.1, h2.2.mono (fun e w'' he => by cases e <;> exact he)⟩
      | _ => exact h2
    | halt x w' => intro h2; cases x <;> exact h2
  · rw [if_neg hw] at h ⊢
    exact h
end
/-- A text's bytes, each 0 as 0, 255. -/
def escB (s : ByteArray) : List Int := (escU s.data.toList).map fun b => (b.toNat : Int)
/-- A value's bytes in a key. -/
def keyV (v : Va) : List Int := [(v.f0 + 1) % 256] ++ (if v.f0 = 1 then eightB (v.f1 + 9223372036854775808) else if v.f0 = 2 then [v.f1 % 256] else if v.f0 = 3 then escB v.f2 ++ [0, 0] else [])
def keyB : List Va → List Int
  | [] => []
  | v :: l => keyV v ++ keyB l
theorem keyB_append (a b : List Va) : keyB (a ++ b) = keyB a ++ keyB b := by
  induction a with
  | nil => rfl
  | cons v l ih => simp only [List.cons_append, keyB, ih, List.append_assoc]
theorem keyB_snoc (a : List Va) (v : Va) : keyB (a ++ [v]) = keyB a ++ keyV v := by rw [keyB_append]; simp [keyB]
theorem keyV_len (v : Va) : (keyV v).length ≤ 2 * v.f2.size + 10 := by
  unfold keyV
  have h1 : (eightB (v.f1 + 9223372036854775808)).length = 8 := rfl
  have h2 := escU_len v.f2.data.toList
  have h3 : v.f2.data.toList.count 0 ≤ v.f2.data.toList.length := List.count_le_length
  rw [data_length] at h2 h3
  split
  · simp only [List.length_append, List.length_cons, List.length_nil, h1]; omega
  · split
    · simp
    · split
      · unfold escB; simp only [List.length_append, List.length_cons, List.length_nil, List.length_map]; omega
      · simp
theorem keyB_len (m : Nat) : ∀ l : List Va, (∀ v ∈ l, v.f2.size ≤ m) → (keyB l).length ≤ (2 * m + 10) * l.length
  | [], _ => by simp [keyB]
  | v :: l, h => by
    have h1 := keyV_len v
    have h2 := keyB_len m l (fun x hx => h x (by simp [hx]))
    have h3 := h v (by simp)
    simp only [keyB, List.length_append, List.length_cons]
    rw [Nat.mul_add, Nat.mul_one]
    omega
/-- A step of the round: whatever lies below hi but the box at B lies as it lay; whatever is no cells too. -/
structure Stp (B hi : Nat) (W W' : World) : Prop where
  os : W'.os = W.os
  tape : W'.tape = W.tape
  output : W'.output = W.output
  block : ∀ k, k < hi → k ≠ B → W'.heap[k]? = W.heap[k]?
  keeps : KeepsOthers W W'
theorem Stp.refl (B hi : Nat) (W : World) : Stp B hi W W := ⟨rfl, rfl, rfl, fun _ _ _ => rfl, KeepsOthers.refl W⟩
theorem Stp.trans {B hi : Nat} {X Y Z : World} (h : Stp B hi X Y) (k : Stp B hi Y Z) : Stp B hi X Z :=
  ⟨k.os.trans h.os, k.tape.trans h.tape, k.output.trans h.output, fun i h1 h2 => (k.block i h1 h2).trans (h.block i h1 h2), h.keeps.trans k.keeps⟩
theorem Stp.size {B hi : Nat} {X Y : World} (h : Stp B hi X Y) : X.heap.size ≤ Y.heap.size := h.keeps.size
theorem Stp.grown {B hi : Nat} {X Y : World} {row : Option Nat} (hz : hi ≤ X.heap.size) (hg : X.grownBy Y row) (hrow : ∀ (j : Nat) (o : Obj), row = some j → hi ≤ j ∧ (X.heap[j]? = some o → o.isCells = true)) : Stp B hi X Y :=
  ⟨hg.os, hg.tape, hg.output, fun k h1 _ => hg.block k (by omega) (fun e => by have := (hrow k (.cells #[] 0) e.symm).1; omega), KeepsOthers.of_grownBy hg (fun j o e ho => (hrow j o e).2 ho)⟩
theorem Stp.alloc {B hi : Nat} (X : World) (o : Obj) (hz : hi ≤ X.heap.size) : Stp B hi X (X.alloc o) := Stp.grown hz (World.grownBy_alloc X o none) (fun j o e => by cases e)
theorem Stp.drew {B hi : Nat} (X : World) : Stp B hi X X.drew := ⟨rfl, rfl, rfl, fun _ _ _ => rfl, KeepsOthers.drew X⟩
theorem Stp.set {B hi : Nat} (X : World) (v : Value) : Stp B hi X (X.setCell ⟨B, 0, none⟩ v) :=
  ⟨rfl, rfl, rfl, fun k h1 h2 => Below.heap_setCell _ _ _ _ h2, KeepsOthers.setCell _ _ _⟩
theorem Stp.below {B hi : Nat} {X Y : World} (hz : hi ≤ X.heap.size) (h : Below X.heap.size X Y) : Stp B hi X Y :=
  ⟨h.os, h.tape, h.output, fun k h1 _ => h.block k (by omega), ⟨h.size, fun k o hk _ => (h.block k (Array.getElem?_eq_some_iff.1 hk).1).trans hk⟩⟩
theorem Stp.belowK {B hi : Nat} {X Y : World} (h : Below hi X Y) (hk : KeepsOthers X Y) : Stp B hi X Y := ⟨h.os, h.tape, h.output, fun k h1 _ => h.block k h1, hk⟩
theorem Stp.under {B hi n : Nat} {w X Y : World} (h : Stp B hi X Y) (hb : Below n w X) (h1 : n ≤ B) (h2 : B < hi) : Below n w Y :=
  ⟨h.os.trans hb.os, h.tape.trans hb.tape, h.output.trans hb.output, Nat.le_trans hb.size h.size, fun k hk => (h.block k (by omega) (by omega)).trans (hb.block k hk)⟩
/-- The box at B holds bytes that lie at hi or above. -/
def BR (B hi : Nat) (W : World) (v : Value) (xs : List Int) : Prop := Boxed W B 52 v ∧ RB W hi 5 v xs
theorem BR.bel {B hi : Nat} {W W' : World} {v : Value} {xs : List Int} (h : BR B hi W v xs) (hb : Below W.heap.size W W') : BR B hi W' v xs := ⟨(hb.block B h.1.lt).trans h.1, h.2.below hb⟩
theorem BR.alloc {B hi : Nat} {W : World} {v : Value} {xs : List Int} (h : BR B hi W v xs) (o : Obj) : BR B hi (W.alloc o) v xs := ⟨h.1.alloc o, h.2.alloc o⟩
theorem RB.set {B hi : Nat} {W : World} {e : TypeId} {v : Value} {xs : List Int} (h : RB W hi e v xs) (hlt : B < hi) (u : Value) : RB (W.setCell ⟨B, 0, none⟩ u) hi e v xs :=
  RB.of_R (Kd.R_far (p := ⟨B, 0, none⟩) (Kd.R_bound h.R) (fun k hk => by have := hk.2.1; show k ≠ B; omega) u)
theorem BR.store {B hi : Nat} {W : World} {u v' : Value} {ys : List Int} (hB : Boxed W B 52 u) (hr : RB W hi 5 v' ys) (hlt : B < hi) : BR B hi (W.setCell ⟨B, 0, none⟩ v') v' ys := ⟨hB.set v', hr.set hlt v'⟩
/-- The loop's own value in its box. -/
def Vx (W : World) (Bv : Nat) (v : Va) : Prop := W.heap[Bv]? = some (.cells #[.int .i64 v.f0, .int .i64 v.f1, .string v.f2] 23 (0, 0))
theorem Vx.c0 {W : World} {Bv : Nat} {v : Va} (h : Vx W Bv v) : W.cell? ⟨Bv, 0, none⟩ = some (.int .i64 v.f0) := (blk_cell h 0).trans rfl
theorem Vx.c1 {W : World} {Bv : Nat} {v : Va} (h : Vx W Bv v) : W.cell? ⟨Bv, 1, none⟩ = some (.int .i64 v.f1) := (blk_cell h 1).trans rfl
theorem Vx.c2 {W : World} {Bv : Nat} {v : Va} (h : Vx W Bv v) : W.cell? ⟨Bv, 2, none⟩ = some (.string v.f2) := (blk_cell h 2).trans rfl
theorem Vx.lt {W : World} {Bv : Nat} {v : Va} (h : Vx W Bv v) : Bv < W.heap.size := (Array.getElem?_eq_some_iff.1 h).1
theorem Vx.grown {W W' : World} {Bv hi : Nat} {v : Va} {u : Value} {xs : List Int} (h : Vx W Bv v) (hr : RB W hi 5 u xs) (hg : W.grownBy W' u.ownBlock) : Vx W' Bv v := (hg.block Bv h.lt (Kd.R_ne hr.R h (by decide))).trans h
theorem Vx.set {W : World} {Bv B : Nat} {v : Va} (h : Vx W Bv v) (hne : Bv ≠ B) (u : Value) : Vx (W.setCell ⟨B, 0, none⟩ u) Bv v := (Below.heap_setCell _ _ _ _ hne).trans h
theorem Vx.bel {W W' : World} {Bv : Nat} {v : Va} (h : Vx W Bv v) (hb : Below W.heap.size W W') : Vx W' Bv v := (hb.block Bv h.lt).trans h
theorem Vx.alloc {W : World} {Bv : Nat} {v : Va} (h : Vx W Bv v) (o : Obj) : Vx (W.alloc o) Bv v := ((World.grownBy_alloc W o none).block Bv h.lt (by simp)).trans h
theorem key_step {B hi Bv : Nat} {W V1 : World} {v v1 : Value} {xs ys : List Int} {y : Va} (hBR : BR B hi W v xs) (hvx : Vx W Bv y) (hz : hi ≤ W.heap.size) (hlt : B < hi) (hne : Bv ≠ B) (ho : RB V1 hi 5 v1 (xs ++ ys)) (hg : (W.alloc (.cells (nums .u8 ys).toArray 5)).grownBy V1 v.ownBlock) :
    Boxed V1 B 52 v ∧ Stp B hi W (V1.setCell ⟨B, 0, none⟩ v1) ∧ BR B hi (V1.setCell ⟨B, 0, none⟩ v1) v1 (xs ++ ys) ∧ Vx (V1.setCell ⟨B, 0, none⟩ v1) Bv y ∧ hi ≤ (V1.setCell ⟨B, 0, none⟩ v1).heap.size := by
  have hb : Boxed V1 B 52 v := (hBR.1.alloc _).kept hg (fun e => by have := own_base hBR.2 B e.symm; omega)
  have hs : Stp B hi W V1 := (Stp.alloc W _ hz).trans (Stp.grown (by rw [World.size_alloc]; omega) hg (fun j o e => ⟨own_base hBR.2 j e, fun ho => by
    obtain ⟨cells, hc⟩ := own_typed (hBR.2.alloc _) j e
    rw [hc] at ho
    cases ho
    rfl⟩))
  have hs2 := hs.trans (Stp.set V1 v1)
  exact ⟨hb, hs2, BR.store hb ho hlt, ((hvx.alloc _).grown (hBR.2.alloc _) hg).set hne v1, Nat.le_trans hz hs2.size⟩
end Go.Proofs.YtindffllmlifiaaDoor.Q
/- value.Key: walked: a right row's key. -/
namespace Go.Proofs.YtindffllmlifiaaDoor.Q
open Go.RowKit Go.Shelf Go.Proofs.YtindffllmlifiaaDoorW.PrintWords Go.Proofs.YtindffllmlifiaaDoorW.PrintLast Go.Proofs.YtindffllmlifiaaDoorW.PrintMore
set_option linter.unusedVariables false
set_option linter.unusedSimpArgs false
attribute [local go_sem] Oper.semAt_some wide_fn
/-- A place and a value as a right row has them. -/
def okIV (x : Nat × Va) : Prop := x.2.f2.size ≤ 200 ∧ in64 x.2.f1
theorem xor63 (a : Nat) (h : a < 18446744073709551616) : a ^^^ 9223372036854775808 = if a < 9223372036854775808 then a + 9223372036854775808 else a - 9223372036854775808 := by
  have h1 : (a ^^^ 2 ^ 63) % 2 ^ 63 = (a % 2 ^ 63) ^^^ (2 ^ 63 % 2 ^ 63) := Nat.xor_mod_two_pow
  have h2 : (a ^^^ 2 ^ 63) / 2 ^ 63 = (a / 2 ^ 63) ^^^ (2 ^ 63 / 2 ^ 63) := Nat.xor_div_two_pow
  have e : (2 : Nat) ^ 63 = 9223372036854775808 := by decide
  rw [e] at h1 h2
  simp only [Nat.mod_self, Nat.xor_zero, Nat.div_self (show 0 < 9223372036854775808 by decide)] at h1 h2
  have hq : a / 9223372036854775808 = 0 ∨ a / 9223372036854775808 = 1 := by omega
  rcases hq with hq | hq
  · rw [hq] at h2
    have : (0 : Nat) ^^^ 1 = 1 := by decide
    rw [this] at h2
    rw [if_pos (by omega)]
    omega
  · rw [hq] at h2
    have : (1 : Nat) ^^^ 1 = 0 := by decide
    rw [this] at h2
    rw [if_neg (by omega)]
    omega
theorem xor_top (n : Int) (h : in64 n) : bits .xor .u64 (IntKind.u64.wrap n) 9223372036854775808 = n + 9223372036854775808 := by
  unfold in64 at h
  obtain ⟨a, ha⟩ : ∃ a : Nat, IntKind.u64.wrap n = (a : Int) := ⟨(IntKind.u64.wrap n).toNat, by rw [wrapu]; omega⟩
  have ha2 : (a : Int) = n % 18446744073709551616 := by rw [← ha, wrapu]
  rw [ha, show (9223372036854775808 : Int) = ((9223372036854775808 : Nat) : Int) from rfl, u64_xor_nat a 9223372036854775808 (by omega) (by omega), xor63 a (by omega)]
  split <;> omega
theorem esc_bytes (s : ByteArray) : bytesOf ⟨(escU s.data.toList).toArray⟩ = escB s := by
  unfold bytesOf escB
  rfl
theorem esc_size (s : ByteArray) : (⟨(escU s.data.toList).toArray⟩ : ByteArray).size ≤ 2 * s.size := by
  rw [← bytesOf_length, esc_bytes]
  unfold escB
  rw [List.length_map, escU_len, data_length]
  have : s.data.toList.count 0 ≤ s.data.toList.length := List.count_le_length
  rw [data_length] at this
  omega
set_option maxHeartbeats 8000000 in
set_option maxRecDepth 100000 in
theorem Key_in (A : Option Addr) (c : Nat) (l : List Va) (hlen : l.length ≤ 12) (hgood : ∀ v ∈ l, v.f2.size ≤ 200 ∧ in64 v.f1) (w : World) (hC : Kd.C k23 w A l.length l) (hc : l.length ≤ c) (K : Nat) (hrow : value_Row.f K l = some true) :
    CallsIn Fence.wide 9 Tryd.prog 16 #[.slice A l.length c] w fun e w' => e = .returned (.tuple #[.string (strOfNums (keyB l)), .int .i64 0]) ∧ Below w.heap.size w w' := by
  have hn1 : 1 ≤ 9 := by omega
  have hro : CallsIn Fence.wide (9 - 1) Tryd.prog 13 #[.slice A l.length c] w fun e w' => e = .returned (.bool true) ∧ Below w.heap.size w w' := callsIn_wide.2 (value_Row.calls K A c l true w hC hc hrow)
  have hall : ∀ x ∈ allOf l, okIV x := by
    intro x hx
    obtain ⟨i, hi, rfl⟩ := List.mem_map.1 hx
    have hil : i < l.length := List.mem_range.1 hi
    have e : rd_T23 l (i : Int) = l[i] := by
      unfold rd_T23
      rw [Int.toNat_natCast, List.getD_eq_getElem?_getD, List.getElem?_eq_getElem hil]
      rfl
    show okIV (i, rd_T23 l (i : Int))
    rw [e]
    exact hgood _ (List.getElem_mem hil)
  obtain ⟨ws, hws⟩ : ∃ ws : List { x : Nat × Va // okIV x }, ws.map (·.1) = allOf l := ⟨(allOf l).attach.map (fun x => ⟨x.1, hall x.1 x.2⟩), by rw [List.map_map]; exact List.attach_map_subtype_val (allOf l)⟩
  have hwl : ws.length = l.length := by rw [← List.length_map (f := (·.1)), hws, allOf_length]
  have hkw : keyB (ws.map (·.1.2)) = keyB l := by
    have e1 : ws.map (·.1.2) = (ws.map (·.1)).map (·.2) := by rw [List.map_map]; rfl
    rw [e1, hws]
    congr 1
    apply List.ext_getElem (by simp [allOf])
    intro i h1 h2
    simp [allOf, rd_T23, List.getD_eq_getElem?_getD, List.getElem?_eq_getElem h2]
  refine callsIn_of_wp_marks Tryd.func16 rfl trivial ?_ rfl
  simp only [Tryd.ntmps16, List.size_toArray, List.length_cons, List.length_nil, Nat.reduceAdd, Nat.reduceSub, Array.replicate_succ, Array.replicate_zero, List.push_toArray, List.append_toArray, List.nil_append, List.cons_append]
  gi_wp2_with (first
    | (gi_at_call 13; refine hro.mono ?_; rintro e w1 ⟨rfl, hb1⟩)
    | (gi_at_call 22; refine (callsIn_wide.2 (All_calls A c l (by omega) _ (Kd.C_alloc (Kd.C_below hC hb1) _))).mono ?_; rintro e w3 ⟨Bx, A', c', rfl, hBx, hbox, hrow3, hb3⟩))
  have hsz2 : (w1.alloc (.cells #[.slice none 0 0] 52)).heap.size = w1.heap.size + 1 := by rw [World.size_alloc]
  rw [hsz2] at hBx hrow3 hb3
  have hB4 : w1.heap.size < w3.heap.size := by have := hb3.size; rw [hsz2] at this; omega
  have hnB : w.heap.size ≤ w1.heap.size := hb1.size
  have hbox4 : Boxed w3 w1.heap.size 52 (.slice none 0 0) := (hb3.block w1.heap.size (by omega)).trans (Boxed.new w1 52 (.slice none 0 0))
  have hBel3 : Below w.heap.size w w3 := (hb1.trans (((Below.refl _ w1).alloc hnB _))).trans (hb3.mono (by omega))
  have hr3 := Kd.R_reads' hrow3
  obtain ⟨g, hg1, hg2, hgA⟩ : ∃ g, w1.heap.size + 1 ≤ g ∧ g < w3.heap.size ∧ ∀ ad, A' = some ad → ad.block = g := by
    cases A' with
    | none => exact ⟨Bx, hBx, hbox.lt, fun ad e => by cases e⟩
    | some ad =>
      obtain ⟨inner, ho⟩ := Kd.R_own hrow3
      rcases ho.2 with ⟨e, _⟩ | ⟨g, cap, cur, e, hbg, hgc, _⟩
      · cases e
      · have e' : (Value.slice (some ad) l.length c') = .slice (some ⟨g, 0, none⟩) l.length cap := e
        injection e' with e1
        injection e1 with e1
        subst e1
        exact ⟨g, hbg, (Array.getElem?_eq_some_iff.1 hgc).1, fun ad e => by cases e; rfl⟩
  refine wpIn_rangeFunc_ownH rfl hn1 (gf := 34) (lb := #[.pointer (some ⟨Bx, 0, none⟩)]) rfl trivial (enters_of Tryd.func34 (by kernel_rfl) rfl)
    (all1_stops (β := { x : Nat × Va // okIV x }) (·.1) ws (9 - 1) (by omega) Bx g A' c' l w3 hr3.2.2 hgA (by omega) hws hbox.lt (fun W W' => W.heap.size ≤ W'.heap.size ∧ ∀ k, w1.heap.size < k → k < w3.heap.size → W'.heap[k]? = W.heap[k]?) (fun h => h.2 g (by omega) hg2) hbox.cell hg2)
    (fun h k => ⟨Nat.le_trans h.1 k.1, fun i h1 h2 => (k.2 i h1 h2).trans (h.2 i h1 h2)⟩)
    (fun W lp o o' hl _ _ _ => ⟨by simp, fun k h1 h2 => World.putObj_heap_other (by omega)⟩)
    (Below.refl _ _) (fun _ => rfl)
    (fun (pre : List { x : Nat × Va // okIV x }) W => (∃ v, Boxed W w1.heap.size 52 v ∧ W.ownsRow w3.heap.size 5 1 v (keyB (pre.map (·.1.2))).length (nums .u8 (keyB (pre.map (·.1.2)))) ∧ True) ∧ (Below w.heap.size w W ∧ w3.heap.size ≤ W.heap.size))
    (fun _ _ _ => False)
    (OwnFrom.and (Own.from (holdsRow_own w3.heap.size w1.heap.size 52 5 1 (fun pre : List { x : Nat × Va // okIV x } => (keyB (pre.map (·.1.2))).length) (fun pre => nums .u8 (keyB (pre.map (·.1.2)))) (fun pre v => True)) _) (OwnFrom.and (ownFrom_below (Nat.le_refl _) (by omega)) (fun s X Y row hs hg hr => Nat.le_trans hs hg.size)))
    (fun _ _ _ _ _ hs _ _ => hs)
    ⟨⟨_, hbox4, World.ownsRow_nil _ _ _ _, trivial⟩, hBel3, Nat.le_refl _⟩
    (fun x a' W => ∃ Bv, w3.heap.size ≤ Bv ∧ Vx W Bv x.1.2 ∧ a' = { tmps := #[.slice A l.length c, undef, .string ⟨#[]⟩, .int .i64 0, .pointer (some ⟨w1.heap.size, 0, none⟩), undef, .pointer (some ⟨Bv, 0, none⟩), .slice A l.length c, .bool true, .bool false, .slice A l.length c, .func (.func 34) #[] #[.pointer (some ⟨Bx, 0, none⟩)], .int .i64 (x.1.1 : Int), .agg #[.int .i64 x.1.2.f0, .int .i64 x.1.2.f1, .string x.1.2.f2], undef, undef, undef, undef, undef, undef, undef, undef, undef, undef, undef, undef, undef, undef, undef, undef, undef, undef, undef, undef, undef, undef, undef, undef, undef, undef, undef, undef, undef, undef, undef, undef, undef, undef, undef, undef, undef], defers := [] })
    (fun x a' s X Y row ⟨Bv, h1, h2, h3⟩ hg hr => ⟨Bv, h1, (hg.block Bv h2.lt (fun e => by obtain ⟨_, o, ho, hc⟩ := hr Bv e.symm; rw [show X.heap[Bv]? = _ from h2] at ho; cases ho; cases hc)).trans h2, h3⟩) ?assign ?body ?done ?stop
  case assign =>
    rintro lp pre x W K ⟨⟨v, hv, hown, _⟩, hBl, hz⟩ hK
    simp only [encIV]
    gi_wp2
    exact hK _ _ ((KeepsOthers.alloc _ _).from _) ⟨by simp, fun k h1 h2 => (World.grownBy_alloc W _ none).block k (by omega) (by simp)⟩ ⟨⟨v, hv.alloc _, hown.alloc _, trivial⟩, hBl.alloc (Nat.le_trans (by omega) hz) _, by rw [World.size_alloc]; omega⟩ ⟨W.heap.size, hz, blk_new W _, rfl⟩
  case body =>
    rintro lp pre x a' W hlp hrec ⟨⟨v, hv, hown, _⟩, hBl, hz⟩ ⟨Bv, hBv, hvx, rfl⟩ hlt
    have hBR : BR w1.heap.size w3.heap.size W v (keyB (pre.map (·.1.2))) := ⟨hv, hown⟩
    have hpl : (keyB (pre.map (·.1.2))).length ≤ 410 * 12 := by
      have h1 := keyB_len 200 (pre.map (·.1.2)) (fun u hu => by obtain ⟨y, _, rfl⟩ := List.mem_map.1 hu; exact y.2.1)
      rw [List.length_map] at h1
      exact Nat.le_trans h1 (Nat.mul_le_mul_left _ (by omega))
    have hxs := x.2.1
    have hxi := x.2.2
    have hfin : ∀ (u : Value) (W' : World), Stp w1.heap.size w3.heap.size W W' → BR w1.heap.size w3.heap.size W' u (keyB ((pre ++ [x]).map (·.1.2))) →
        KeepsFrom w3.heap.size W W' ∧ (W.heap.size ≤ W'.heap.size ∧ ∀ k, w1.heap.size < k → k < w3.heap.size → W'.heap[k]? = W.heap[k]?) ∧ (∃ v, Boxed W' w1.heap.size 52 v ∧ W'.ownsRow w3.heap.size 5 1 v (keyB ((pre ++ [x]).map (·.1.2))).length (nums .u8 (keyB ((pre ++ [x]).map (·.1.2))))) ∧ (Below w.heap.size w W' ∧ w3.heap.size ≤ W'.heap.size) :=
      fun u W' hs hr => ⟨hs.keeps.from _, ⟨hs.size, fun k h1 h2 => hs.block k h2 (by omega)⟩, ⟨u, hr.1, hr.2⟩, hs.under hBl hnB hB4, Nat.le_trans hz hs.size⟩
    have hfinT : ∀ (u : Value) (W' : World), Stp w1.heap.size w3.heap.size W W' → BR w1.heap.size w3.heap.size W' u (keyB ((pre ++ [x]).map (·.1.2))) →
        KeepsFrom w3.heap.size W W' ∧ (W.heap.size ≤ W'.heap.size ∧ ∀ k, w1.heap.size < k → k < w3.heap.size → W'.heap[k]? = W.heap[k]?) ∧ (∃ v, Boxed W' w1.heap.size 52 v ∧ W'.ownsRow w3.heap.size 5 1 v (keyB ((pre ++ [x]).map (·.1.2))).length (nums .u8 (keyB ((pre ++ [x]).map (·.1.2)))) ∧ True) ∧ (Below w.heap.size w W' ∧ w3.heap.size ≤ W'.heap.size) :=
      fun u W' hs hr => ⟨hs.keeps.from _, ⟨hs.size, fun k h1 h2 => hs.block k h2 (by omega)⟩, ⟨u, hr.1, hr.2, trivial⟩, hs.under hBl hnB hB4, Nat.le_trans hz hs.size⟩
    have hks : keyB ((pre ++ [x]).map (·.1.2)) = keyB (pre.map (·.1.2)) ++ keyV x.1.2 := by rw [List.map_append, List.map_cons, List.map_nil, keyB_snoc]
    have HF := Aside0.mk hfin
    have HT := Aside0.mk hfinT
    have HKS := Aside0.mk hks
    clear hfin hfinT hks
    obtain ⟨xs, hxs⟩ : ∃ xs, keyB (pre.map (·.1.2)) = xs := ⟨_, rfl⟩
    obtain ⟨y, hy⟩ : ∃ y, x.1.2 = y := ⟨_, rfl⟩
    rw [hxs] at hBR hpl HKS
    rw [hy] at hvx hxi HKS
    have hys : y.f2.size ≤ 200 := by rw [← hy]; exact x.2.1
    have hcell := hv.cell
    have hfro := hv.frozen
    have q0 := hvx.c0
    have q1 := hvx.c1
    have q2 := hvx.c2
    have hne : Bv ≠ w1.heap.size := by omega
    obtain ⟨k0, k1, k2⟩ := y
    simp only at hxi hys q0 q1 q2
    by_cases h1 : k0 = 1
    · subst h1
      have hkv : xs ++ keyV (⟨1, k1, k2⟩ : Va) = xs ++ [2] ++ eightB (k1 + 9223372036854775808) := by rw [List.append_assoc]; rfl
      rw [hkv] at HKS
      clear hkv
      gi_wp2_with (gi_at_builtin; refine wpIn_append_byte W w3.heap.size _ (by first | rfl | simp) rfl (.tmp 14) (.tmp 19) 52 5 rfl Tryd.underlying52 infoU8e v xs [2] rfl hBR.2 rfl (by simp only [List.length_cons, List.length_nil]; omega) hz ?_; intro v1 V1 ho1 hg1; obtain ⟨A1, c1, rfl⟩ := ho1.slice; obtain ⟨L1, hL1⟩ : ∃ L, (xs ++ [2]).length = L := ⟨_, rfl⟩; rw [hL1] at ho1 ⊢; obtain ⟨b1, s1, r1, x1, z1⟩ := key_step hBR hvx hz hB4 hne ho1 hg1; have e1 := b1.cell; have f1 := b1.frozen; have m1 := r1.1.cell; have n1 := r1.1.frozen; have p1 := x1.c0; have p1' := x1.c1; have p1'' := x1.c2; clear hg1 ho1)
      rw [xor_top k1 hxi]
      refine (CallsIn.inRound lp (callsIn_wide.2 (eight_walk _ (xs ++ [2]) (k1 + 9223372036854775808) (by unfold in64 at hxi; omega) (by unfold in64 at hxi; omega) w3.heap.size _ r1.2 z1 (by rw [hL1]; rw [List.length_append] at hL1; simp only [List.length_cons, List.length_nil] at hL1; omega)))).mono ?_
      rintro e V2 ⟨v2, rfl, ho2, hb2, hk2⟩
      obtain ⟨A2, c2, rfl⟩ := ho2.slice
      obtain ⟨L2, hL2⟩ : ∃ L, (xs ++ [2] ++ eightB (k1 + 9223372036854775808)).length = L := ⟨_, rfl⟩
      rw [hL2] at ho2 ⊢
      have b2 : Boxed V2 w1.heap.size 52 _ := (hb2.block _ hB4).trans r1.1
      have e2 := b2.cell
      have f2 := b2.frozen
      have r2 := BR.store b2 ho2 hB4
      have s2 := (s1.trans (Stp.belowK hb2 hk2)).trans (Stp.set V2 (.slice A2 L2 c2))
      clear hk2
      gi_wp2
      first | exact HF.out _ _ s2 (by rw [HKS.out]; exact r2) | exact HT.out _ _ s2 (by rw [HKS.out]; exact r2)
    · by_cases h2 : k0 = 2
      · subst h2
        have hkv : xs ++ keyV (⟨2, k1, k2⟩ : Va) = xs ++ [3] ++ [k1 % 256] := by rw [List.append_assoc]; rfl
        rw [hkv] at HKS
        clear hkv
        gi_wp2_with (first
          | (gi_at_builtin; refine wpIn_append_byte W w3.heap.size _ (by first | rfl | simp) rfl (.tmp 14) (.tmp 19) 52 5 rfl Tryd.underlying52 infoU8e v xs [3] rfl hBR.2 rfl (by simp only [List.length_cons, List.length_nil]; omega) hz ?_; intro v1 V1 ho1 hg1; obtain ⟨A1, c1, rfl⟩ := ho1.slice; obtain ⟨L1, hL1⟩ : ∃ L, (xs ++ [3]).length = L := ⟨_, rfl⟩; rw [hL1] at ho1 ⊢; obtain ⟨b1, s1, r1, x1, z1⟩ := key_step hBR hvx hz hB4 hne ho1 hg1; have e1 := b1.cell; have f1 := b1.frozen; have m1 := r1.1.cell; have n1 := r1.1.frozen; have p1 := x1.c0; have p1' := x1.c1; have p1'' := x1.c2; clear hg1 ho1)
          | (gi_at_builtin; refine wpIn_append_byte (V1.setCell ⟨w1.heap.size, 0, none⟩ (.slice A1 L1 c1)) w3.heap.size _ (by first | rfl | simp) rfl (.tmp 33) (.tmp 37) 52 5 rfl Tryd.underlying52 infoU8e (.slice A1 L1 c1) (xs ++ [3]) [k1 % 256] rfl r1.2 rfl (by rw [hL1]; rw [List.length_append] at hL1; simp only [List.length_cons, List.length_nil] at hL1 ⊢; omega) z1 ?_; intro v2 V2 ho2 hg2; obtain ⟨A2, c2, rfl⟩ := ho2.slice; obtain ⟨L2, hL2⟩ : ∃ L, ((xs ++ [3]) ++ [k1 % 256]).length = L := ⟨_, rfl⟩; rw [hL2] at ho2 ⊢; obtain ⟨b2, s2, r2, x2, z2⟩ := key_step r1 x1 z1 hB4 hne ho2 hg2; have e2 := b2.cell; have f2 := b2.frozen; have m2 := r2.1.cell; have n2 := r2.1.frozen; have p2 := x2.c0; have p2' := x2.c1; have p2'' := x2.c2; clear hg2 ho2))
        first | exact HF.out _ _ (s1.trans s2) (by rw [HKS.out]; exact r2) | exact HT.out _ _ (s1.trans s2) (by rw [HKS.out]; exact r2)
      · by_cases h3 : k0 = 3
        · subst h3
          have hkv : xs ++ keyV (⟨3, k1, k2⟩ : Va) = xs ++ [4] ++ escB k2 ++ [0, 0] := by rw [List.append_assoc, List.append_assoc]; rfl
          rw [hkv] at HKS
          clear hkv
          gi_wp2_with (gi_at_builtin; refine wpIn_append_byte W w3.heap.size _ (by first | rfl | simp) rfl (.tmp 14) (.tmp 19) 52 5 rfl Tryd.underlying52 infoU8e v xs [4] rfl hBR.2 rfl (by simp only [List.length_cons, List.length_nil]; omega) hz ?_; intro v1 V1 ho1 hg1; obtain ⟨A1, c1, rfl⟩ := ho1.slice; obtain ⟨L1, hL1⟩ : ∃ L, (xs ++ [4]).length = L := ⟨_, rfl⟩; rw [hL1] at ho1 ⊢; obtain ⟨b1, s1, r1, x1, z1⟩ := key_step hBR hvx hz hB4 hne ho1 hg1; have e1 := b1.cell; have f1 := b1.frozen; have m1 := r1.1.cell; have n1 := r1.1.frozen; have p1 := x1.c0; have p1' := x1.c1; have p1'' := x1.c2; clear hg1 ho1)
          refine region_any (fuel := 6) (l := #[false, false, false, false, false, false]) (by kernel_rfl) rfl rfl ?_
          refine any_step [0, 1] (by kernel_rfl) (by decide) (fun i hi => ?_)
          simp only [List.mem_cons, List.not_mem_nil, or_false] at hi
          rcases hi with rfl | rfl
          · skip
            refine op_one (i := 0) rfl ?_
            gi_wp2
            refine any_step [1] (by kernel_rfl) (by decide) (fun i hi => ?_)
            obtain rfl := List.mem_singleton.1 hi
            clear hi
            refine op_one (i := 1) rfl ?_
            gi_wp2
            refine any_step [2] (by kernel_rfl) (by decide) (fun i hi => ?_)
            obtain rfl := List.mem_singleton.1 hi
            clear hi
            refine op_one (i := 2) rfl ?_
            gi_wp2
            refine any_step [3] (by kernel_rfl) (by decide) (fun i hi => ?_)
            obtain rfl := List.mem_singleton.1 hi
            clear hi
            refine op_one (i := 3) rfl ?_
            gi_wp2
            refine (CallsIn.inRound lp (callsIn_wide.2 (replaceAll_calls k2 (by omega) (V1.setCell ⟨w1.heap.size, 0, none⟩ (.slice A1 L1 c1)).drew))).mono ?_
            rintro e V2 ⟨rfl, hb2⟩
            have r2 := BR.bel (show BR _ _ (V1.setCell ⟨w1.heap.size, 0, none⟩ (.slice A1 L1 c1)).drew _ _ from r1) hb2
            have e2 := r2.1.cell
            have f2 := r2.1.frozen
            have s2 := (s1.trans (Stp.drew _)).trans (Stp.below z1 hb2)
            have z2 : w3.heap.size ≤ V2.heap.size := Nat.le_trans z1 hb2.size
            clear hb2
            gi_wp2
            refine any_step [4] (by kernel_rfl) (by decide) (fun i hi => ?_)
            obtain rfl := List.mem_singleton.1 hi
            clear hi
            refine op_one (i := 4) rfl ?_
            refine wpIn_append_text V2 w3.heap.size rfl (.tmp 41) (.tmp 44) 52 9 5 rfl Tryd.underlying52 Tryd.underlying9 infoU8e (.slice A1 L1 c1) (xs ++ [4]) rfl r2.2 ⟨(escU k2.data.toList).toArray⟩ rfl (by have := esc_size k2; rw [hL1]; rw [List.length_append] at hL1; simp only [List.length_cons, List.length_nil] at hL1; omega) z2 ?_
            intro v3 V3 ho3 hg3
            obtain ⟨A3, c3, rfl⟩ := ho3.slice
            rw [esc_bytes] at ho3 ⊢
            obtain ⟨L3, hL3⟩ : ∃ L, (xs ++ [4] ++ escB k2).length = L := ⟨_, rfl⟩
            rw [hL3] at ho3 ⊢
            have b3 : Boxed V3 w1.heap.size 52 _ := r2.1.kept hg3 (fun e => by have := own_base r2.2 _ e.symm; omega)
            have e3 := b3.cell
            have f3 := b3.frozen
            have r3 := BR.store b3 ho3 hB4
            have m3 := r3.1.cell
            have n3 := r3.1.frozen
            have s3 := (s2.trans (Stp.grown z2 hg3 (fun j o e => ⟨own_base r2.2 j e, fun ho => by obtain ⟨cells, hc⟩ := own_typed r2.2 j e; rw [hc] at ho; cases ho; rfl⟩))).trans (Stp.set V3 (.slice A3 L3 c3))
            have z3 : w3.heap.size ≤ (V3.setCell ⟨w1.heap.size, 0, none⟩ (.slice A3 L3 c3)).heap.size := Nat.le_trans hz s3.size
            clear hg3 ho3
            gi_wp2
            refine any_step [5] (by kernel_rfl) (by decide) (fun i hi => ?_)
            obtain rfl := List.mem_singleton.1 hi
            clear hi
            refine op_one (i := 5) rfl ?_
            gi_wp2
            refine any_done (by kernel_rfl) ?_
            gi_wp2_with (gi_at_builtin; refine wpIn_append_byte (V3.setCell ⟨w1.heap.size, 0, none⟩ (.slice A3 L3 c3)) w3.heap.size _ (by first | rfl | simp) rfl (.tmp 46) (.tmp 47) 52 5 rfl Tryd.underlying52 infoU8e (.slice A3 L3 c3) (xs ++ [4] ++ escB k2) [0, 0] rfl r3.2 rfl (by have := esc_size k2; rw [← bytesOf_length, esc_bytes] at this; rw [hL3]; rw [List.length_append, List.length_append] at hL3; simp only [List.length_cons, List.length_nil] at hL3 ⊢; omega) z3 ?_; intro v4 V4 ho4 hg4; obtain ⟨A4, c4, rfl⟩ := ho4.slice; obtain ⟨L4, hL4⟩ : ∃ L, (xs ++ [4] ++ escB k2 ++ [0, 0]).length = L := ⟨_, rfl⟩; rw [hL4] at ho4 ⊢; have b4 : Boxed V4 w1.heap.size 52 _ := (r3.1.alloc _).kept hg4 (fun e => by have := own_base r3.2 _ e.symm; omega); have e4 := b4.cell; have f4 := b4.frozen; have r4 := BR.store b4 ho4 hB4; have s4 := ((s3.trans (Stp.alloc _ _ z3)).trans (Stp.grown (by rw [World.size_alloc]; omega) hg4 (fun j o e => ⟨own_base r3.2 j e, fun ho => by obtain ⟨cells, hc⟩ := own_typed (r3.2.alloc _) j e; rw [hc] at ho; cases ho; rfl⟩))).trans (Stp.set V4 (.slice A4 L4 c4)); clear hg4 ho4)
            first | exact HF.out _ _ s4 (by rw [HKS.out]; exact r4) | exact HT.out _ _ s4 (by rw [HKS.out]; exact r4)
          · skip
            refine op_one (i := 1) rfl ?_
            gi_wp2
            refine any_step [0, 2] (by kernel_rfl) (by decide) (fun i hi => ?_)
            simp only [List.mem_cons, List.not_mem_nil, or_false] at hi
            rcases hi with rfl | rfl
            · skip
              refine op_one (i := 0) rfl ?_
              gi_wp2
              refine any_step [2] (by kernel_rfl) (by decide) (fun i hi => ?_)
              obtain rfl := List.mem_singleton.1 hi
              clear hi
              refine op_one (i := 2) rfl ?_
              gi_wp2
              refine any_step [3] (by kernel_rfl) (by decide) (fun i hi => ?_)
              obtain rfl := List.mem_singleton.1 hi
              clear hi
              refine op_one (i := 3) rfl ?_
              gi_wp2
              refine (CallsIn.inRound lp (callsIn_wide.2 (replaceAll_calls k2 (by omega) (V1.setCell ⟨w1.heap.size, 0, none⟩ (.slice A1 L1 c1)).drew))).mono ?_
              rintro e V2 ⟨rfl, hb2⟩
              have r2 := BR.bel (show BR _ _ (V1.setCell ⟨w1.heap.size, 0, none⟩ (.slice A1 L1 c1)).drew _ _ from r1) hb2
              have e2 := r2.1.cell
              have f2 := r2.1.frozen
              have s2 := (s1.trans (Stp.drew _)).trans (Stp.below z1 hb2)
              have z2 : w3.heap.size ≤ V2.heap.size := Nat.le_trans z1 hb2.size
              clear hb2
              gi_wp2
              refine any_step [4] (by kernel_rfl) (by decide) (fun i hi => ?_)
              obtain rfl := List.mem_singleton.1 hi
              clear hi
              refine op_one (i := 4) rfl ?_
              refine wpIn_append_text V2 w3.heap.size rfl (.tmp 41) (.tmp 44) 52 9 5 rfl Tryd.underlying52 Tryd.underlying9 infoU8e (.slice A1 L1 c1) (xs ++ [4]) rfl r2.2 ⟨(escU k2.data.toList).toArray⟩ rfl (by have := esc_size k2; rw [hL1]; rw [List.length_append] at hL1; simp only [List.length_cons, List.length_nil] at hL1; omega) z2 ?_
              intro v3 V3 ho3 hg3
              obtain ⟨A3, c3, rfl⟩ := ho3.slice
              rw [esc_bytes] at ho3 ⊢
              obtain ⟨L3, hL3⟩ : ∃ L, (xs ++ [4] ++ escB k2).length = L := ⟨_, rfl⟩
              rw [hL3] at ho3 ⊢
              have b3 : Boxed V3 w1.heap.size 52 _ := r2.1.kept hg3 (fun e => by have := own_base r2.2 _ e.symm; omega)
              have e3 := b3.cell
              have f3 := b3.frozen
              have r3 := BR.store b3 ho3 hB4
              have m3 := r3.1.cell
              have n3 := r3.1.frozen
              have s3 := (s2.trans (Stp.grown z2 hg3 (fun j o e => ⟨own_base r2.2 j e, fun ho => by obtain ⟨cells, hc⟩ := own_typed r2.2 j e; rw [hc] at ho; cases ho; rfl⟩))).trans (Stp.set V3 (.slice A3 L3 c3))
              have z3 : w3.heap.size ≤ (V3.setCell ⟨w1.heap.size, 0, none⟩ (.slice A3 L3 c3)).heap.size := Nat.le_trans hz s3.size
              clear hg3 ho3
              gi_wp2
              refine any_step [5] (by kernel_rfl) (by decide) (fun i hi => ?_)
              obtain rfl := List.mem_singleton.1 hi
              clear hi
              refine op_one (i := 5) rfl ?_
              gi_wp2
              refine any_done (by kernel_rfl) ?_
              gi_wp2_with (gi_at_builtin; refine wpIn_append_byte (V3.setCell ⟨w1.heap.size, 0, none⟩ (.slice A3 L3 c3)) w3.heap.size _ (by first | rfl | simp) rfl (.tmp 46) (.tmp 47) 52 5 rfl Tryd.underlying52 infoU8e (.slice A3 L3 c3) (xs ++ [4] ++ escB k2) [0, 0] rfl r3.2 rfl (by have := esc_size k2; rw [← bytesOf_length, esc_bytes] at this; rw [hL3]; rw [List.length_append, List.length_append] at hL3; simp only [List.length_cons, List.length_nil] at hL3 ⊢; omega) z3 ?_; intro v4 V4 ho4 hg4; obtain ⟨A4, c4, rfl⟩ := ho4.slice; obtain ⟨L4, hL4⟩ : ∃ L, (xs ++ [4] ++ escB k2 ++ [0, 0]).length = L := ⟨_, rfl⟩; rw [hL4] at ho4 ⊢; have b4 : Boxed V4 w1.heap.size 52 _ := (r3.1.alloc _).kept hg4 (fun e => by have := own_base r3.2 _ e.symm; omega); have e4 := b4.cell; have f4 := b4.frozen; have r4 := BR.store b4 ho4 hB4; have s4 := ((s3.trans (Stp.alloc _ _ z3)).trans (Stp.grown (by rw [World.size_alloc]; omega) hg4 (fun j o e => ⟨own_base r3.2 j e, fun ho => by obtain ⟨cells, hc⟩ := own_typed (r3.2.alloc _) j e; rw [hc] at ho; cases ho; rfl⟩))).trans (Stp.set V4 (.slice A4 L4 c4)); clear hg4 ho4)
              first | exact HF.out _ _ s4 (by rw [HKS.out]; exact r4) | exact HT.out _ _ s4 (by rw [HKS.out]; exact r4)
            · skip
              refine op_one (i := 2) rfl ?_
              gi_wp2
              refine any_step [0, 3] (by kernel_rfl) (by decide) (fun i hi => ?_)
              simp only [List.mem_cons, List.not_mem_nil, or_false] at hi
              rcases hi with rfl | rfl
              · skip
                refine op_one (i := 0) rfl ?_
                gi_wp2
                refine any_step [3] (by kernel_rfl) (by decide) (fun i hi => ?_)
                obtain rfl := List.mem_singleton.1 hi
                clear hi
                refine op_one (i := 3) rfl ?_
                gi_wp2
                refine (CallsIn.inRound lp (callsIn_wide.2 (replaceAll_calls k2 (by omega) (V1.setCell ⟨w1.heap.size, 0, none⟩ (.slice A1 L1 c1)).drew))).mono ?_
                rintro e V2 ⟨rfl, hb2⟩
                have r2 := BR.bel (show BR _ _ (V1.setCell ⟨w1.heap.size, 0, none⟩ (.slice A1 L1 c1)).drew _ _ from r1) hb2
                have e2 := r2.1.cell
                have f2 := r2.1.frozen
                have s2 := (s1.trans (Stp.drew _)).trans (Stp.below z1 hb2)
                have z2 : w3.heap.size ≤ V2.heap.size := Nat.le_trans z1 hb2.size
                clear hb2
                gi_wp2
                refine any_step [4] (by kernel_rfl) (by decide) (fun i hi => ?_)
                obtain rfl := List.mem_singleton.1 hi
                clear hi
                refine op_one (i := 4) rfl ?_
                refine wpIn_append_text V2 w3.heap.size rfl (.tmp 41) (.tmp 44) 52 9 5 rfl Tryd.underlying52 Tryd.underlying9 infoU8e (.slice A1 L1 c1) (xs ++ [4]) rfl r2.2 ⟨(escU k2.data.toList).toArray⟩ rfl (by have := esc_size k2; rw [hL1]; rw [List.length_append] at hL1; simp only [List.length_cons, List.length_nil] at hL1; omega) z2 ?_
                intro v3 V3 ho3 hg3
                obtain ⟨A3, c3, rfl⟩ := ho3.slice
                rw [esc_bytes] at ho3 ⊢
                obtain ⟨L3, hL3⟩ : ∃ L, (xs ++ [4] ++ escB k2).length = L := ⟨_, rfl⟩
                rw [hL3] at ho3 ⊢
                have b3 : Boxed V3 w1.heap.size 52 _ := r2.1.kept hg3 (fun e => by have := own_base r2.2 _ e.symm; omega)
                have e3 := b3.cell
                have f3 := b3.frozen
                have r3 := BR.store b3 ho3 hB4
                have m3 := r3.1.cell
                have n3 := r3.1.frozen
                have s3 := (s2.trans (Stp.grown z2 hg3 (fun j o e => ⟨own_base r2.2 j e, fun ho => by obtain ⟨cells, hc⟩ := own_typed r2.2 j e; rw [hc] at ho; cases ho; rfl⟩))).trans (Stp.set V3 (.slice A3 L3 c3))
                have z3 : w3.heap.size ≤ (V3.setCell ⟨w1.heap.size, 0, none⟩ (.slice A3 L3 c3)).heap.size := Nat.le_trans hz s3.size
                clear hg3 ho3
                gi_wp2
                refine any_step [5] (by kernel_rfl) (by decide) (fun i hi => ?_)
                obtain rfl := List.mem_singleton.1 hi
                clear hi
                refine op_one (i := 5) rfl ?_
                gi_wp2
                refine any_done (by kernel_rfl) ?_
                gi_wp2_with (gi_at_builtin; refine wpIn_append_byte (V3.setCell ⟨w1.heap.size, 0, none⟩ (.slice A3 L3 c3)) w3.heap.size _ (by first | rfl | simp) rfl (.tmp 46) (.tmp 47) 52 5 rfl Tryd.underlying52 infoU8e (.slice A3 L3 c3) (xs ++ [4] ++ escB k2) [0, 0] rfl r3.2 rfl (by have := esc_size k2; rw [← bytesOf_length, esc_bytes] at this; rw [hL3]; rw [List.length_append, List.length_append] at hL3; simp only [List.length_cons, List.length_nil] at hL3 ⊢; omega) z3 ?_; intro v4 V4 ho4 hg4; obtain ⟨A4, c4, rfl⟩ := ho4.slice; obtain ⟨L4, hL4⟩ : ∃ L, (xs ++ [4] ++ escB k2 ++ [0, 0]).length = L := ⟨_, rfl⟩; rw [hL4] at ho4 ⊢; have b4 : Boxed V4 w1.heap.size 52 _ := (r3.1.alloc _).kept hg4 (fun e => by have := own_base r3.2 _ e.symm; omega); have e4 := b4.cell; have f4 := b4.frozen; have r4 := BR.store b4 ho4 hB4; have s4 := ((s3.trans (Stp.alloc _ _ z3)).trans (Stp.grown (by rw [World.size_alloc]; omega) hg4 (fun j o e => ⟨own_base r3.2 j e, fun ho => by obtain ⟨cells, hc⟩ := own_typed (r3.2.alloc _) j e; rw [hc] at ho; cases ho; rfl⟩))).trans (Stp.set V4 (.slice A4 L4 c4)); clear hg4 ho4)
                first | exact HF.out _ _ s4 (by rw [HKS.out]; exact r4) | exact HT.out _ _ s4 (by rw [HKS.out]; exact r4)
              · skip
                refine op_one (i := 3) rfl ?_
                gi_wp2
                refine (CallsIn.inRound lp (callsIn_wide.2 (replaceAll_calls k2 (by omega) (V1.setCell ⟨w1.heap.size, 0, none⟩ (.slice A1 L1 c1)).drew))).mono ?_
                rintro e V2 ⟨rfl, hb2⟩
                have r2 := BR.bel (show BR _ _ (V1.setCell ⟨w1.heap.size, 0, none⟩ (.slice A1 L1 c1)).drew _ _ from r1) hb2
                have e2 := r2.1.cell
                have f2 := r2.1.frozen
                have s2 := (s1.trans (Stp.drew _)).trans (Stp.below z1 hb2)
                have z2 : w3.heap.size ≤ V2.heap.size := Nat.le_trans z1 hb2.size
                clear hb2
                gi_wp2
                refine any_step [0] (by kernel_rfl) (by decide) (fun i hi => ?_)
                obtain rfl := List.mem_singleton.1 hi
                clear hi
                refine op_one (i := 0) rfl ?_
                gi_wp2
                refine any_step [4] (by kernel_rfl) (by decide) (fun i hi => ?_)
                obtain rfl := List.mem_singleton.1 hi
                clear hi
                refine op_one (i := 4) rfl ?_
                refine wpIn_append_text V2 w3.heap.size rfl (.tmp 41) (.tmp 44) 52 9 5 rfl Tryd.underlying52 Tryd.underlying9 infoU8e (.slice A1 L1 c1) (xs ++ [4]) rfl r2.2 ⟨(escU k2.data.toList).toArray⟩ rfl (by have := esc_size k2; rw [hL1]; rw [List.length_append] at hL1; simp only [List.length_cons, List.length_nil] at hL1; omega) z2 ?_
                intro v3 V3 ho3 hg3
                obtain ⟨A3, c3, rfl⟩ := ho3.slice
                rw [esc_bytes] at ho3 ⊢
                obtain ⟨L3, hL3⟩ : ∃ L, (xs ++ [4] ++ escB k2).length = L := ⟨_, rfl⟩
                rw [hL3] at ho3 ⊢
                have b3 : Boxed V3 w1.heap.size 52 _ := r2.1.kept hg3 (fun e => by have := own_base r2.2 _ e.symm; omega)
                have e3 := b3.cell
                have f3 := b3.frozen
                have r3 := BR.store b3 ho3 hB4
                have m3 := r3.1.cell
                have n3 := r3.1.frozen
                have s3 := (s2.trans (Stp.grown z2 hg3 (fun j o e => ⟨own_base r2.2 j e, fun ho => by obtain ⟨cells, hc⟩ := own_typed r2.2 j e; rw [hc] at ho; cases ho; rfl⟩))).trans (Stp.set V3 (.slice A3 L3 c3))
                have z3 : w3.heap.size ≤ (V3.setCell ⟨w1.heap.size, 0, none⟩ (.slice A3 L3 c3)).heap.size := Nat.le_trans hz s3.size
                clear hg3 ho3
                gi_wp2
                refine any_step [5] (by kernel_rfl) (by decide) (fun i hi => ?_)
                obtain rfl := List.mem_singleton.1 hi
                clear hi
                refine op_one (i := 5) rfl ?_
                gi_wp2
                refine any_done (by kernel_rfl) ?_
                gi_wp2_with (gi_at_builtin; refine wpIn_append_byte (V3.setCell ⟨w1.heap.size, 0, none⟩ (.slice A3 L3 c3)) w3.heap.size _ (by first | rfl | simp) rfl (.tmp 46) (.tmp 47) 52 5 rfl Tryd.underlying52 infoU8e (.slice A3 L3 c3) (xs ++ [4] ++ escB k2) [0, 0] rfl r3.2 rfl (by have := esc_size k2; rw [← bytesOf_length, esc_bytes] at this; rw [hL3]; rw [List.length_append, List.length_append] at hL3; simp only [List.length_cons, List.length_nil] at hL3 ⊢; omega) z3 ?_; intro v4 V4 ho4 hg4; obtain ⟨A4, c4, rfl⟩ := ho4.slice; obtain ⟨L4, hL4⟩ : ∃ L, (xs ++ [4] ++ escB k2 ++ [0, 0]).length = L := ⟨_, rfl⟩; rw [hL4] at ho4 ⊢; have b4 : Boxed V4 w1.heap.size 52 _ := (r3.1.alloc _).kept hg4 (fun e => by have := own_base r3.2 _ e.symm; omega); have e4 := b4.cell; have f4 := b4.frozen; have r4 := BR.store b4 ho4 hB4; have s4 := ((s3.trans (Stp.alloc _ _ z3)).trans (Stp.grown (by rw [World.size_alloc]; omega) hg4 (fun j o e => ⟨own_base r3.2 j e, fun ho => by obtain ⟨cells, hc⟩ := own_typed (r3.2.alloc _) j e; rw [hc] at ho; cases ho; rfl⟩))).trans (Stp.set V4 (.slice A4 L4 c4)); clear hg4 ho4)
                first | exact HF.out _ _ s4 (by rw [HKS.out]; exact r4) | exact HT.out _ _ s4 (by rw [HKS.out]; exact r4)
        · have hkv : keyV (⟨k0, k1, k2⟩ : Va) = [(k0 + 1) % 256] := by
            unfold keyV
            rw [if_neg h1, if_neg h2, if_neg h3]
            rfl
          rw [hkv] at HKS
          have kb1 : (k0 == 1) = false := beq_eq_false_iff_ne.2 h1
          have kb2 : (k0 == 2) = false := beq_eq_false_iff_ne.2 h2
          have kb3 : (k0 == 3) = false := beq_eq_false_iff_ne.2 h3
          clear hkv h1 h2 h3
          gi_wp2_with (gi_at_builtin; refine wpIn_append_byte W w3.heap.size _ (by first | rfl | simp) rfl (.tmp 14) (.tmp 19) 52 5 rfl Tryd.underlying52 infoU8e v xs [(k0 + 1) % 256] rfl hBR.2 rfl (by simp only [List.length_cons, List.length_nil]; omega) hz ?_; intro v1 V1 ho1 hg1; obtain ⟨A1, c1, rfl⟩ := ho1.slice; obtain ⟨L1, hL1⟩ : ∃ L, (xs ++ [(k0 + 1) % 256]).length = L := ⟨_, rfl⟩; rw [hL1] at ho1 ⊢; obtain ⟨b1, s1, r1, x1, z1⟩ := key_step hBR hvx hz hB4 hne ho1 hg1; have e1 := b1.cell; have f1 := b1.frozen; have m1 := r1.1.cell; have n1 := r1.1.frozen; have p1 := x1.c0; have p1' := x1.c1; have p1'' := x1.c2; clear hg1 ho1)
          first | exact HF.out _ _ s1 (by rw [HKS.out]; exact r1) | exact HT.out _ _ s1 (by rw [HKS.out]; exact r1)
  case done =>
    rintro D ys W hD rfl ⟨⟨v, hv, hown, _⟩, hBl, hz⟩ hK
    have hcell := hv.cell
    rw [hkw] at hown
    have hcv := own_string (P := Tryd.prog) Tryd.underlying52 Tryd.underlying5 Tryd.underlying9 hown
    gi_wp2
    refine ⟨by simp, .inl ⟨_, _, rfl, run_takeDeferred hK, ?_⟩⟩
    exact ⟨_, results_tmp2 rfl _ _ _, rfl, hBl.trans (belowK_b (w := w) (Nat.le_refl _) W D _ _ (by omega) hK rfl rfl)⟩
  case stop =>
    rintro D c pre W _ _ h _
    exact h.elim
end Go.Proofs.YtindffllmlifiaaDoor.Q
/- Values and rows in plain words: which are right. -/
namespace Go.Proofs.YtindffllmlifiaaDoor.Q
open Go.RowKit Go.Proofs.YtindffllmlifiaaDoorW.PrintWords Go.Proofs.YtindffllmlifiaaDoorW.PrintLast Go.Proofs.YtindffllmlifiaaDoorW.PrintMore
set_option linter.unusedVariables false
set_option linter.unusedSimpArgs false
/-- What is wrong with a value. -/
def chkV (v : S23) : Int :=
  if v.f0 = 0 then (if v.f1 = 0 ∧ v.f2.toList = [] then 0 else 31)
  else if v.f0 = 1 then (if v.f2.toList = [] then 0 else 31)
  else if v.f0 = 2 then (if (v.f1 = 0 ∨ v.f1 = 1) ∧ v.f2.toList = [] then 0 else 31)
  else if v.f0 = 3 then (if v.f1 = 0 ∧ v.f2.size ≤ 200 then 0 else 31) else 30
theorem chk_ev (v : S23) : Ev (fun k => value_Check.f k v.f0 v.f1 v.f2) (chkV v) := by
  obtain ⟨k0, n, s⟩ := v
  unfold value_Check.f chkV
  simp only
  have hj1 : ∀ b : Bool, Ev (fun k => value_Check.j1 k b) (if b = true then 31 else 0) := by
    intro b
    refine Ev.step (f := fun _ => some (if b = true then 31 else 0)) (fun k => ?_) (Ev.now _)
    simp only [value_Check.j1]
    split <;> rfl
  have hj0 : ∀ (g : Bool), Ev (fun k => value_Check.j0 k g k0 n s) (if g = true then (if k0 = 3 then 0 else (if s.toList = [] then 0 else 31)) else 31) := by
    intro g
    cases g with
    | false =>
      refine Ev.step (fun k => ?_) (hj1 true)
      simp only [value_Check.j0]
      rw [if_neg (by simp)]
    | true =>
      by_cases h3 : k0 = 3
      · simp only [if_true, if_pos h3]
        refine Ev.step (fun k => ?_) (hj1 false)
        simp only [value_Check.j0]
        rw [if_pos trivial, if_pos h3]
      · simp only [if_true, if_neg h3]
        have h := hj1 (s.toList != [])
        have e : (if (s.toList != []) = true then (31 : Int) else 0) = (if s.toList = [] then 0 else 31) := by
          by_cases hs : s.toList = []
          · rw [if_neg (by simp [hs]), if_pos hs]
          · rw [if_pos (by simp [hs]), if_neg hs]
        rw [e] at h
        refine Ev.step (fun k => ?_) h
        simp only [value_Check.j0]
        rw [if_pos trivial, if_neg h3]
  by_cases h0 : k0 = 0
  · rw [if_pos h0]
    refine Ev.congr (fun k => if_pos h0) ?_
    have h := hj0 (n == 0)
    rw [if_neg (show ¬ k0 = 3 by omega)] at h
    by_cases hn : n = 0
    · rw [if_pos (by simp [hn])] at h
      have e : (if n = 0 ∧ s.toList = [] then (0 : Int) else 31) = (if s.toList = [] then 0 else 31) := by simp [hn]
      rw [e]
      exact h
    · rw [if_neg (by simp [hn])] at h
      rw [if_neg (fun z => hn z.1)]
      exact h
  · rw [if_neg h0]
    refine Ev.congr (fun k => if_neg h0) ?_
    by_cases h1 : k0 = 1
    · rw [if_pos h1]
      refine Ev.congr (fun k => if_pos h1) ?_
      have h := hj0 true
      rw [if_pos rfl, if_neg (show ¬ k0 = 3 by omega)] at h
      exact h
    · rw [if_neg h1]
      refine Ev.congr (fun k => if_neg h1) ?_
      by_cases h2 : k0 = 2
      · rw [if_pos h2]
        refine Ev.congr (fun k => if_pos h2) ?_
        by_cases hn : n = 0
        · refine Ev.congr (fun k => if_pos hn) ?_
          have h := hj0 true
          rw [if_pos rfl, if_neg (show ¬ k0 = 3 by omega)] at h
          have e : (if (n = 0 ∨ n = 1) ∧ s.toList = [] then (0 : Int) else 31) = (if s.toList = [] then 0 else 31) := by simp [hn]
          rw [e]
          exact h
        · refine Ev.congr (fun k => if_neg hn) ?_
          have h := hj0 (n == 1)
          rw [if_neg (show ¬ k0 = 3 by omega)] at h
          by_cases hn1 : n = 1
          · rw [if_pos (by simp [hn1])] at h
            have e : (if (n = 0 ∨ n = 1) ∧ s.toList = [] then (0 : Int) else 31) = (if s.toList = [] then 0 else 31) := by simp [hn1]
            rw [e]
            exact h
          · rw [if_neg (by simp [hn1])] at h
            rw [if_neg (fun z => by omega)]
            exact h
      · rw [if_neg h2]
        refine Ev.congr (fun k => if_neg h2) ?_
        by_cases h3 : k0 = 3
        · rw [if_pos h3]
          refine Ev.congr (fun k => if_pos h3) ?_
          by_cases hn : n = 0
          · refine Ev.congr (fun k => if_pos hn) ?_
            have h := hj0 (decide ((s.size : Int) ≤ 200))
            rw [if_pos h3] at h
            by_cases hs : s.size ≤ 200
            · rw [if_pos (by simp; omega)] at h
              rw [if_pos ⟨hn, hs⟩]
              exact h
            · rw [if_neg (by simp; omega)] at h
              rw [if_neg (fun z => hs z.2)]
              exact h
          · refine Ev.congr (fun k => if_neg hn) ?_
            have h := hj0 false
            rw [if_neg (by simp)] at h
            rw [if_neg (fun z => hn z.1)]
            exact h
        · rw [if_neg h3]
          exact Ev.congr (fun k => if_neg h3) (Ev.now _)
/-- Is a row right? -/
def rowOk (xs : List S23) : Bool := decide (xs.length ≤ 12) && xs.all (fun v => chkV v == 0)
theorem rdV_drop (l : List S23) (j : Int) (h0 : 0 ≤ j) (h1 : j < (l.length : Int)) : l.drop j.toNat = rd_T23 l j :: l.drop (j + 1).toNat := by
  have e : (j + 1).toNat = j.toNat + 1 := by omega
  have hl : j.toNat < l.length := by omega
  rw [e, List.drop_eq_getElem_cons hl]
  unfold rd_T23
  rw [List.getD_eq_getElem?_getD, List.getElem?_eq_getElem hl]
  rfl
theorem row_loop (l : List S23) (hl : l.length ≤ 9223372036854775806) : ∀ (d : Nat) (i : Int), 0 ≤ i → i ≤ 12 → i + d = l.length → Ev (fun k => value_Row.l0 k l (l.length : Int) i) (decide (l.length ≤ 12) && (l.drop i.toNat).all (fun v => chkV v == 0)) := by
  intro d
  induction d with
  | zero =>
    intro i h0 h12 h1
    rw [List.drop_of_length_le (by omega), decide_eq_true (by omega)]
    exact Ev.step (f := fun _ => some true) (fun k => by simp only [value_Row.l0]; rw [if_neg (by omega)]) (Ev.now _)
  | succ d ih =>
    intro i h0 h12 h1
    have e2 : wrap64 (i + 1) = i + 1 := wrap_in (by unfold in64; omega)
    rw [rdV_drop l i h0 (by omega), List.all_cons]
    obtain ⟨y, hy⟩ : ∃ y, rd_T23 l i = y := ⟨_, rfl⟩
    by_cases h : i = 12
    · rw [decide_eq_false (by omega), Bool.false_and]
      refine Ev.step (f := fun _ => some false) (fun k => ?_) (Ev.now _)
      simp only [value_Row.l0]
      rw [if_pos (by omega), if_pos h0, if_pos (by omega), if_pos h]
    · rw [hy]
      by_cases hc : chkV y = 0
      · have hb : (chkV y == 0) = true := by simp [hc]
        rw [hb, Bool.true_and]
        refine Ev.step (fun k => ?_) (Ev.bind (f := fun k t168 => (if t168 = 0 then (value_Row.l0 k l (l.length : Int) (wrap64 (i + 1))) else (some false))) (chk_ev y) (Ev.congr (fun k => if_pos hc) (by rw [e2]; exact ih (i + 1) (by omega) (by omega) (by omega))))
        simp only [value_Row.l0]
        rw [if_pos (by omega), if_pos h0, if_pos (by omega), if_neg h, hy]
      · have hb : (chkV y == 0) = false := by simpa using hc
        rw [hb, Bool.false_and, Bool.and_false]
        refine Ev.step (fun k => ?_) (Ev.bind (f := fun k t168 => (if t168 = 0 then (value_Row.l0 k l (l.length : Int) (wrap64 (i + 1))) else (some false))) (chk_ev y) (Ev.congr (fun k => if_neg hc) (Ev.now _)))
        simp only [value_Row.l0]
        rw [if_pos (by omega), if_pos h0, if_pos (by omega), if_neg h, hy]
theorem row_ev (l : List S23) (hl : l.length ≤ 9223372036854775806) : Ev (fun k => value_Row.f k l) (rowOk l) := row_loop l hl l.length 0 (by omega) (by omega) (by omega)
theorem chk_parts {v : S23} (h : chkV v = 0) : (v.f0 = 0 ∧ v.f1 = 0 ∧ v.f2.toList = []) ∨ (v.f0 = 1 ∧ v.f2.toList = []) ∨ (v.f0 = 2 ∧ (v.f1 = 0 ∨ v.f1 = 1) ∧ v.f2.toList = []) ∨ (v.f0 = 3 ∧ v.f1 = 0 ∧ v.f2.size ≤ 200) := by
  unfold chkV at h
  by_cases h0 : v.f0 = 0
  · rw [if_pos h0] at h
    split at h
    · rename_i hc
      exact .inl ⟨h0, hc.1, hc.2⟩
    · omega
  · rw [if_neg h0] at h
    by_cases h1 : v.f0 = 1
    · rw [if_pos h1] at h
      split at h
      · rename_i hc
        exact .inr (.inl ⟨h1, hc⟩)
      · omega
    · rw [if_neg h1] at h
      by_cases h2 : v.f0 = 2
      · rw [if_pos h2] at h
        split at h
        · rename_i hc
          exact .inr (.inr (.inl ⟨h2, hc.1, hc.2⟩))
        · omega
      · rw [if_neg h2] at h
        by_cases h3 : v.f0 = 3
        · rw [if_pos h3] at h
          split at h
          · rename_i hc
            exact .inr (.inr (.inr ⟨h3, hc.1, hc.2⟩))
          · omega
        · rw [if_neg h3] at h
          omega
theorem toList_nil {s : ByteArray} (h : s.toList = []) : s = ⟨#[]⟩ := by
  apply ByteArray.ext
  have h2 : s.data.toList = [] := by
    rw [← Lib.toList_data]
    exact h
  apply Array.ext'
  rw [h2]
end Go.Proofs.YtindffllmlifiaaDoor.Q
/- value.Key: its contract. -/
namespace Go.Proofs.YtindffllmlifiaaDoor.Q
open Go.RowKit Go.Shelf Go.Proofs.YtindffllmlifiaaDoorW.PrintWords Go.Proofs.YtindffllmlifiaaDoorW.PrintLast Go.Proofs.YtindffllmlifiaaDoorW.PrintMore
set_option linter.unusedVariables false
set_option linter.unusedSimpArgs false
set_option maxHeartbeats 4000000 in
set_option maxRecDepth 100000 in
theorem Key_wrong (A : Option Addr) (c : Nat) (l : List Va) (w : World) (hC : Kd.C k23 w A l.length l) (hc : l.length ≤ c) (K : Nat) (hrow : value_Row.f K l = some false) :
    Calls Tryd.prog 16 #[.slice A l.length c] w fun e w' => e = .returned (.tuple #[.string ⟨#[]⟩, .int .i64 31]) ∧ Below w.heap.size w w' := by
  have hro := value_Row.calls K A c l false w hC hc hrow
  go_enter Tryd.func16, Tryd.ntmps16
  go_wp2_with (go_at_call 13; refine hro.mono ?_; rintro e w1 ⟨rfl, hb1⟩)
  go_ret2
  exact ⟨rfl, hb1⟩
/-- What value.Key comes to. -/
def keyR (l : List Va) : ByteArray × Int := if rowOk l = true then (strOfNums (keyB l), 0) else (⟨#[]⟩, 31)
theorem rowOk_parts {l : List Va} (h : rowOk l = true) : l.length ≤ 12 ∧ ∀ v ∈ l, chkV v = 0 := by
  unfold rowOk at h
  rw [Bool.and_eq_true] at h
  exact ⟨of_decide_eq_true h.1, fun v hv => by have := List.all_eq_true.1 h.2 v hv; simpa using this⟩
theorem chk_size {v : Va} (h : chkV v = 0) : v.f2.size ≤ 200 := by
  rcases chk_parts h with ⟨_, _, h⟩ | ⟨_, h⟩ | ⟨_, _, h⟩ | ⟨_, _, h⟩
  · rw [toList_nil h]; exact Nat.zero_le _
  · rw [toList_nil h]; exact Nat.zero_le _
  · rw [toList_nil h]; exact Nat.zero_le _
  · exact h
def value_Key.f (l0 : List Va) : Option (ByteArray × Int) := if l0.length ≤ 9223372036854775806 ∧ ∀ v ∈ l0, in64 v.f1 then some (keyR l0) else none
theorem value_Key.calls (A0 : Option Addr) (c0 : Nat) (l0 : List Va) (r1 : ByteArray) (r2 : Int) (w : World) (hr0 : Kd.C k23 w A0 l0.length l0) (hc0 : l0.length ≤ c0) (h : value_Key.f l0 = some (r1, r2)) :
    Calls Tryd.prog 16 #[.slice A0 l0.length c0] w fun e w' => e = .returned (.tuple #[.string r1, .int .i64 r2]) ∧ Below w.heap.size w w' := by
  unfold value_Key.f at h
  split at h
  · rename_i hi
    have h := Option.some.inj h
    obtain ⟨K, hK⟩ := (row_ev l0 hi.1).rounds
    unfold keyR at h
    by_cases hr : rowOk l0 = true
    · rw [if_pos hr] at h
      rw [hr] at hK
      obtain ⟨rfl, rfl⟩ := Prod.mk.inj h
      obtain ⟨h1, h2⟩ := rowOk_parts hr
      exact callsIn_wide.1 (Key_in A0 c0 l0 h1 (fun v hv => ⟨chk_size (h2 v hv), hi.2 v hv⟩) w hr0 hc0 K hK)
    · rw [if_neg hr] at h
      have hf : rowOk l0 = false := by cases hb : rowOk l0 <;> simp_all
      rw [hf] at hK
      obtain ⟨rfl, rfl⟩ := Prod.mk.inj h
      exact Key_wrong A0 c0 l0 w hr0 hc0 K hK
  · cases h
end Go.Proofs.YtindffllmlifiaaDoor.Q
