/- Texts of the claim, put together. -/
import Derived.Test.YtgihecpobichbaaK
import Derived.Test.YtgihecpobichbaaZCodeReads1
import Derived.Test.YtgihecpobichbaaZCodeReads2
import Derived.Deep.CutBlock
-- Written by a program of the session over the translation's print: functions as plain Lean, and that the machine's call comes to them.
namespace Go.Proofs.Ytgihecpobichbaa.Q
open Go.RowKit Go.Proofs.YtgihecpobichbaaW.PrintWords Go.Proofs.YtgihecpobichbaaW.PrintLast Go.Proofs.YtgihecpobichbaaW.PrintMore
attribute [local go_sem] max2_int min2_int max_two min_two max_three min_three max_four min_four   -- for this text's walks alone
set_option linter.unusedVariables false
set_option linter.unusedSimpArgs false

/-! ### headgateref04_Unword: function 95 -/
def headgateref04_Unword.f (k : Nat) (a0 : ByteArray) (a1 : Int) : Option (ByteArray × Int) := (headgateref04_Unnum.f k a0 a1).bind fun bt101 => (if bt101.2 < 0 then (some ((⟨#[]⟩ : ByteArray), (-1))) else (if bt101.1 > (IntKind.u64.wrap (wrap64 ((a0.size : Int) - bt101.2))) then (some ((⟨#[]⟩ : ByteArray), (-1))) else (if 0 ≤ bt101.2 then (if bt101.2 ≤ (wrap64 (bt101.2 + (wrap64 (bt101.1)))) then (if (wrap64 (bt101.2 + (wrap64 (bt101.1)))) ≤ (a0.size : Int) then (some (a0.extract (bt101.2 : Int).toNat ((wrap64 (bt101.2 + (wrap64 (bt101.1)))) : Int).toNat, wrap64 (bt101.2 + (wrap64 (bt101.1))))) else (none)) else (none)) else (none))))
set_option maxHeartbeats 8000000 in
set_option maxRecDepth 100000 in
theorem headgateref04_Unword.calls (k : Nat) (a0 : ByteArray) (a1 : Int) (r1 : ByteArray) (r2 : Int) (w : World) (h : headgateref04_Unword.f k a0 a1 = some (r1, r2)) :
    Calls Try.prog 95 #[.string a0, .int .i64 a1] w fun e w' => e = .returned (.tuple #[.string r1, .int .i64 r2]) ∧ Drawn0 w w' := by
  have H : ((headgateref04_Unnum.f k a0 a1).bind fun bt101 => (if bt101.2 < 0 then (some ((⟨#[]⟩ : ByteArray), (-1))) else (if bt101.1 > (IntKind.u64.wrap (wrap64 ((a0.size : Int) - bt101.2))) then (some ((⟨#[]⟩ : ByteArray), (-1))) else (if 0 ≤ bt101.2 then (if bt101.2 ≤ (wrap64 (bt101.2 + (wrap64 (bt101.1)))) then (if (wrap64 (bt101.2 + (wrap64 (bt101.1)))) ≤ (a0.size : Int) then (some (a0.extract (bt101.2 : Int).toNat ((wrap64 (bt101.2 + (wrap64 (bt101.1)))) : Int).toNat, wrap64 (bt101.2 + (wrap64 (bt101.1))))) else (none)) else (none)) else (none))))) = some (r1, r2) := h
  clear h
  replace H := Option.bind_eq_some_iff.mp H
  obtain ⟨⟨t101, t102⟩, A30, H⟩ := H
  replace H : (if t102 < 0 then (some ((⟨#[]⟩ : ByteArray), (-1))) else (if t101 > (IntKind.u64.wrap (wrap64 ((a0.size : Int) - t102))) then (some ((⟨#[]⟩ : ByteArray), (-1))) else (if 0 ≤ t102 then (if t102 ≤ (wrap64 (t102 + (wrap64 (t101)))) then (if (wrap64 (t102 + (wrap64 (t101)))) ≤ (a0.size : Int) then (some (a0.extract (t102 : Int).toNat ((wrap64 (t102 + (wrap64 (t101)))) : Int).toNat, wrap64 (t102 + (wrap64 (t101))))) else (none)) else (none)) else (none)))) = some (r1, r2) := H
  have A3 := Aside0.mk A30
  clear A30
  by_cases c4 : t102 < 0
  · rw [if_pos c4] at H
    have c4b0 : decide (t102 < 0) = true := decide_eq_true c4
    clear c4
    simp only [Option.some.injEq, Prod.mk.injEq] at H
    obtain ⟨rfl, rfl⟩ := H
    go_enter Try.func95, Try.ntmps95
    go_wp2_with (first | ((with_reducible refine gate_callee (f := 14) rfl ?_); refine goesL_ (some 11) rfl rfl Try.func14 (by kernel_rfl) rfl #[.string a0, .int .i64 a1] rfl (by (try simp only [List.map_toArray, List.map_cons, List.map_nil]); first | done | rfl | (simp only [List.length_drop, List.length_take]; rfl) | exact congrArg (fun x_ : Int => #[Value.int .u64 x_]) (show _ = _ % (18446744073709551616 : Int) by omega)) ?_; (with_reducible refine (headgateref04_Unnum.calls k a0 a1 t101 t102 _ A3.out).mono ?_); rintro e w' ⟨rfl, ⟨nd, rfl⟩⟩; refine ⟨_, rfl, ?_⟩))
    go_ret2
    exact ⟨by first | rfl | (simp; done) | (simp [*]; done), by repeat (first | exact Drawn0.refl _ | apply Drawn0.step)⟩
  · rw [if_neg c4] at H
    have c4b0 : decide (t102 < 0) = false := decide_eq_false c4
    clear c4
    by_cases c5 : t101 > (IntKind.u64.wrap (wrap64 ((a0.size : Int) - t102)))
    · rw [if_pos c5] at H
      have c5b0 : decide ((IntKind.u64.wrap (wrap64 ((a0.size : Int) - t102))) < t101) = true := decide_eq_true c5
      clear c5
      simp only [Option.some.injEq, Prod.mk.injEq] at H
      obtain ⟨rfl, rfl⟩ := H
      go_enter Try.func95, Try.ntmps95
      go_wp2_with (first | ((with_reducible refine gate_callee (f := 14) rfl ?_); refine goesL_ (some 11) rfl rfl Try.func14 (by kernel_rfl) rfl #[.string a0, .int .i64 a1] rfl (by (try simp only [List.map_toArray, List.map_cons, List.map_nil]); first | done | rfl | (simp only [List.length_drop, List.length_take]; rfl) | exact congrArg (fun x_ : Int => #[Value.int .u64 x_]) (show _ = _ % (18446744073709551616 : Int) by omega)) ?_; (with_reducible refine (headgateref04_Unnum.calls k a0 a1 t101 t102 _ A3.out).mono ?_); rintro e w' ⟨rfl, ⟨nd, rfl⟩⟩; refine ⟨_, rfl, ?_⟩))
      go_ret2
      exact ⟨by first | rfl | (simp; done) | (simp [*]; done), by repeat (first | exact Drawn0.refl _ | apply Drawn0.step)⟩
    · rw [if_neg c5] at H
      have c5b0 : decide ((IntKind.u64.wrap (wrap64 ((a0.size : Int) - t102))) < t101) = false := decide_eq_false c5
      clear c5
      by_cases c6 : 0 ≤ t102
      · rw [if_pos c6] at H
        have c6b0 := eq_true c6
        have c6b1 : decide (0 ≤ t102) = true := decide_eq_true c6
        clear c6
        by_cases c7 : t102 ≤ (wrap64 (t102 + (wrap64 (t101))))
        · rw [if_pos c7] at H
          have c7b0 := eq_true c7
          have c7b1 : decide (t102 ≤ (wrap64 (t102 + (wrap64 (t101))))) = true := decide_eq_true c7
          by_cases c8 : (wrap64 (t102 + (wrap64 (t101)))) ≤ (a0.size : Int)
          · rw [if_pos c8] at H
            have c8b0 := eq_true c8
            have c8b1 : decide ((wrap64 (t102 + (wrap64 (t101)))) ≤ (a0.size : Int)) = true := decide_eq_true c8
            simp only [Option.some.injEq, Prod.mk.injEq] at H
            obtain ⟨rfl, rfl⟩ := H
            go_enter Try.func95, Try.ntmps95
            go_wp2_with (first | ((with_reducible refine gate_callee (f := 14) rfl ?_); refine goesL_ (some 11) rfl rfl Try.func14 (by kernel_rfl) rfl #[.string a0, .int .i64 a1] rfl (by (try simp only [List.map_toArray, List.map_cons, List.map_nil]); first | done | rfl | (simp only [List.length_drop, List.length_take]; rfl) | exact congrArg (fun x_ : Int => #[Value.int .u64 x_]) (show _ = _ % (18446744073709551616 : Int) by omega)) ?_; (with_reducible refine (headgateref04_Unnum.calls k a0 a1 t101 t102 _ A3.out).mono ?_); rintro e w' ⟨rfl, ⟨nd, rfl⟩⟩; refine ⟨_, rfl, ?_⟩))
            go_ret2
            exact ⟨by first | rfl | (simp; done) | (simp [*]; done), by repeat (first | exact Drawn0.refl _ | apply Drawn0.step)⟩
          · rw [if_neg c8] at H
            exact absurd H (by simp)
        · rw [if_neg c7] at H
          exact absurd H (by simp)
      · rw [if_neg c6] at H
        exact absurd H (by simp)

/-! ### headgateref03_Check: function 109 -/
mutual
def headgateref03_Check.j0 : Nat → Bool → Int → Int → ByteArray → Option (Int)
  | 0, _, _, _, _ => none
  | k + 1, x10, x104000, x104001, x104002 => if x10 = true then (some 30) else (if x104000 = 3 then (if x104001 = 0 then (if (x104002.size : Int) > 200 then (some 31) else (some 0)) else (some 31)) else (if x104002.toList = ([] : List UInt8) then (if x104000 = 0 then (if x104001 = 0 then (if x104000 = 2 then (headgateref03_Check.j1 k false) else (headgateref03_Check.j1 k false)) else (headgateref03_Check.j1 k true)) else (if x104000 = 2 then (if x104001 = 0 then (headgateref03_Check.j1 k false) else (headgateref03_Check.j1 k (x104001 != 1))) else (headgateref03_Check.j1 k false))) else (headgateref03_Check.j1 k true)))
def headgateref03_Check.j1 : Nat → Bool → Option (Int)
  | 0, _ => none
  | k + 1, x50 => if x50 = true then (some 31) else (some 0)
end
def headgateref03_Check.f (k : Nat) (a0_0 : Int) (a0_1 : Int) (a0_2 : ByteArray) : Option (Int) := if a0_0 < 0 then (headgateref03_Check.j0 k true a0_0 a0_1 a0_2) else (headgateref03_Check.j0 k (decide (a0_0 > 3)) a0_0 a0_1 a0_2)
set_option maxHeartbeats 8000000 in
set_option maxRecDepth 100000 in
theorem headgateref03_Check.calls (k : Nat) (a0_0 : Int) (a0_1 : Int) (a0_2 : ByteArray) (r : Int) (w : World) (h : headgateref03_Check.f k a0_0 a0_1 a0_2 = some r) :
    Calls Try.prog 109 #[.agg #[.int .i64 a0_0, .int .i64 a0_1, .string a0_2]] w fun e w' => e = .returned (.int .i64 r) ∧ Below w.heap.size w w' := by
  have hu116 := Try.underlying116
  have HB := Aside0.mk (Below.refl w.heap.size w)
  have H : (if a0_0 < 0 then (headgateref03_Check.j0 k true a0_0 a0_1 a0_2) else (headgateref03_Check.j0 k (decide (a0_0 > 3)) a0_0 a0_1 a0_2)) = some r := h
  clear h
  have HC2 := Aside0.mk H
  clear H
  go_enter Try.func109, Try.ntmps109
  go_upto_region 1 with (first | ((with_reducible refine gate_dst (N := 1) rfl ?_); (try (refine gate_guard (by rfl) ?_; dsimp only)); refine box_event ?hg (N := 1) ?hd (cs := #[.int .i64 a0_0, .int .i64 a0_1, .string a0_2]) (t := 116) ?hr ?_; (case hd => rfl); (case hg => rfl); (case hr => first | (go_simp; done) | (go_simp; rfl)); intro gb103 hg w3 hbox hb; have n0_ := Aside0.mk (below_step (by repeat (first | (with_reducible first | exact HB.out | apply below_alloc | apply pw_below_drewN | apply below_drew1) | exact HB.out)) hb); have n1_ := Aside0.mk (hbox); have n2_ := Aside0.mk ((by rw [hg]; exact (below_size (by repeat (first | (with_reducible first | exact HB.out | apply below_alloc | apply pw_below_drewN | apply below_drew1) | exact HB.out))) : w.heap.size ≤ gb103)); have n3_ := Aside0.mk ((by rw [hg]; exact (below_size (by repeat (first | (with_reducible first | exact HB.out | apply below_alloc | apply pw_below_drewN | apply below_drew1) | exact HB.out))) : w.heap.size ≤ gb103)); clear HB; have HB := n0_; have BK103 := n1_; have GW103 := n2_; have GE103 := n3_; clear n0_ n1_ n2_ n3_; clear hb hbox hg))
  (try simp only [Act.put, List.setIfInBounds_toArray, List.set_cons_zero, List.set_cons_succ])
  go_cut [10] (fun v10 wc => ∃ (kq : Nat) (x10_1 : Bool), v10 = .bool x10_1 ∧ Aside0 (headgateref03_Check.j0 kq x10_1 a0_0 a0_1 a0_2 = some r) ∧ Aside0 (kq ≤ k) ∧ Aside0 (wc.heap[gb103]? = some (.cells #[.int .i64 a0_0, .int .i64 a0_1, .string a0_2] 116 (0, 0))) ∧ Aside0 (Below w.heap.size w wc))
  case first =>
    have H := HC2.out
    clear HC2
    by_cases c4 : a0_0 < 0
    · rw [if_pos c4] at H
      have c4b0 : decide (a0_0 < 0) = true := decide_eq_true c4
      clear c4
      (first | rw [c4b0] | (simp only [i64_w, i32_w]; rw [c4b0]) | skip)
      have H' := Aside0.mk H
      clear H
      obtain ⟨hcz5_0, hcz5_1, hcz5_2, hfz5_0, hfz5_1, hfz5_2⟩ := bf3 BK103.out
      go_wp2
      go_meet
      case rel => exact ⟨_, (true), (by first | rfl | (simp; done) | (simp [*]; done) | (simp; rw [Bool.eq_iff_iff]; simp; done)), H', ⟨by first | omega | exact Nat.le_refl _⟩, ⟨by (with_reducible repeat (first | refine blk_drewN ?_ _ | refine blk_drew ?_ | refine blk_alloc ?_ _)); exact BK103.out⟩, ⟨by repeat (first | (with_reducible first | exact HB.out | apply below_alloc | apply pw_below_drewN | apply below_drew1 | refine below_set ?_ GE103.out) | exact HB.out)⟩⟩
    · rw [if_neg c4] at H
      have c4b0 : decide (a0_0 < 0) = false := decide_eq_false c4
      clear c4
      (first | rw [c4b0] | (simp only [i64_w, i32_w]; rw [c4b0]) | skip)
      have H' := Aside0.mk H
      clear H
      obtain ⟨hcz6_0, hcz6_1, hcz6_2, hfz6_0, hfz6_1, hfz6_2⟩ := bf3 BK103.out
      go_wp2
      go_meet
      case rel => exact ⟨_, (decide (a0_0 > 3)), (by first | rfl | (simp; done) | (simp [*]; done) | (simp; rw [Bool.eq_iff_iff]; simp; done)), H', ⟨by first | omega | exact Nat.le_refl _⟩, ⟨by (with_reducible repeat (first | refine blk_drewN ?_ _ | refine blk_drew ?_ | refine blk_alloc ?_ _)); exact BK103.out⟩, ⟨by repeat (first | (with_reducible first | exact HB.out | apply below_alloc | apply pw_below_drewN | apply below_drew1 | refine below_set ?_ GE103.out) | exact HB.out)⟩⟩
  case rest =>
    clear HC2
    try clear c1
    try clear p2
    try clear c4
    try clear c4b0
    try clear hcz5_0
    try clear hcz5_1
    try clear hcz5_2
    try clear hcz6_0
    try clear hcz6_1
    try clear hcz6_2
    try clear hfz5_0
    try clear hfz5_1
    try clear hfz5_2
    try clear hfz6_0
    try clear hfz6_1
    try clear hfz6_2
    obtain ⟨kq, x10_1, rfl, HA, HJ1, BK103, HB⟩ := hcut
    cases kq with
    | zero => exact absurd HA.out (by simp [headgateref03_Check.j0])
    | succ kj1 =>
      have H := HA.out
      clear HA
      simp only [headgateref03_Check.j0] at H
      by_cases c7 : x10_1 = true
      · subst c7
        have H1 : (some 30) = some r := by rw [if_pos rfl] at H; exact H
        clear H
        have H := H1
        clear H1
        obtain rfl := Option.some.inj H
        go_wp2
        go_ret
        exact ⟨by first | rfl | (simp [errW_none, errW_some] <;> rfl) | (simp [*, errW_none, errW_some] <;> rfl), by repeat (first | (with_reducible first | exact HB.out | apply below_alloc | apply pw_below_drewN | apply below_drew1 | refine below_set ?_ GE103.out) | exact HB.out)⟩
      · replace c7 := Bool.eq_false_iff.mpr c7
        subst c7
        have H1 : (if a0_0 = 3 then (if a0_1 = 0 then (if (a0_2.size : Int) > 200 then (some 31) else (some 0)) else (some 31)) else (if a0_2.toList = ([] : List UInt8) then (if a0_0 = 0 then (if a0_1 = 0 then (if a0_0 = 2 then (headgateref03_Check.j1 kj1 false) else (headgateref03_Check.j1 kj1 false)) else (headgateref03_Check.j1 kj1 true)) else (if a0_0 = 2 then (if a0_1 = 0 then (headgateref03_Check.j1 kj1 false) else (headgateref03_Check.j1 kj1 (a0_1 != 1))) else (headgateref03_Check.j1 kj1 false))) else (headgateref03_Check.j1 kj1 true))) = some r := by rw [if_neg (show ¬ (false = true) by decide)] at H; exact H
        clear H
        have H := H1
        clear H1
        by_cases c8 : a0_0 = 3
        · rw [if_pos c8] at H
          have c8b0 : (a0_0 == 3) = true := beq_iff_eq.mpr c8
          have c8b1 : (a0_0 != 3) = false := bne_eq_false_iff_eq.mpr c8
          clear c8
          by_cases c9 : a0_1 = 0
          · rw [if_pos c9] at H
            have c9b0 : (a0_1 == 0) = true := beq_iff_eq.mpr c9
            have c9b1 : (a0_1 != 0) = false := bne_eq_false_iff_eq.mpr c9
            clear c9
            by_cases c10 : (a0_2.size : Int) > 200
            · rw [if_pos c10] at H
              have c10b0 : decide (200 < (a0_2.size : Int)) = true := decide_eq_true c10
              have c10b1 : decide (200 < a0_2.size) = true := decide_eq_true (by omega)
              clear c10
              obtain rfl := Option.some.inj H
              obtain ⟨hcz11_0, hcz11_1, hcz11_2, hfz11_0, hfz11_1, hfz11_2⟩ := bf3 BK103.out
              go_wp2
              go_ret
              exact ⟨by first | rfl | (simp [errW_none, errW_some] <;> rfl) | (simp [*, errW_none, errW_some] <;> rfl), by repeat (first | (with_reducible first | exact HB.out | apply below_alloc | apply pw_below_drewN | apply below_drew1 | refine below_set ?_ GE103.out) | exact HB.out)⟩
            · rw [if_neg c10] at H
              have c10b0 : decide (200 < (a0_2.size : Int)) = false := decide_eq_false c10
              have c10b1 : decide (200 < a0_2.size) = false := decide_eq_false (by omega)
              clear c10
              obtain rfl := Option.some.inj H
              obtain ⟨hcz12_0, hcz12_1, hcz12_2, hfz12_0, hfz12_1, hfz12_2⟩ := bf3 BK103.out
              go_wp2
              go_ret
              exact ⟨by first | rfl | (simp [errW_none, errW_some] <;> rfl) | (simp [*, errW_none, errW_some] <;> rfl), by repeat (first | (with_reducible first | exact HB.out | apply below_alloc | apply pw_below_drewN | apply below_drew1 | refine below_set ?_ GE103.out) | exact HB.out)⟩
          · rw [if_neg c9] at H
            have c9b0 : (a0_1 == 0) = false := beq_eq_false_iff_ne.mpr c9
            have c9b1 : (a0_1 != 0) = true := bne_iff_ne.mpr c9
            obtain rfl := Option.some.inj H
            obtain ⟨hcz13_0, hcz13_1, hcz13_2, hfz13_0, hfz13_1, hfz13_2⟩ := bf3 BK103.out
            go_wp2
            go_ret
            exact ⟨by first | rfl | (simp [errW_none, errW_some] <;> rfl) | (simp [*, errW_none, errW_some] <;> rfl), by repeat (first | (with_reducible first | exact HB.out | apply below_alloc | apply pw_below_drewN | apply below_drew1 | refine below_set ?_ GE103.out) | exact HB.out)⟩
        · rw [if_neg c8] at H
          have c8b0 : (a0_0 == 3) = false := beq_eq_false_iff_ne.mpr c8
          have c8b1 : (a0_0 != 3) = true := bne_iff_ne.mpr c8
          have HC14 := Aside0.mk H
          clear H
          obtain ⟨hcz15_0, hcz15_1, hcz15_2, hfz15_0, hfz15_1, hfz15_2⟩ := bf3 BK103.out
          go_upto_region 7 with (fail)
          go_cut [50] (fun v50 wc => ∃ (kq : Nat) (x50_13 : Bool), v50 = .bool x50_13 ∧ Aside0 (headgateref03_Check.j1 kq x50_13 = some r) ∧ Aside0 (kq ≤ kj1) ∧ Aside0 (wc.heap[gb103]? = some (.cells #[.int .i64 a0_0, .int .i64 a0_1, .string a0_2] 116 (0, 0))) ∧ Aside0 (Below w.heap.size w wc))
          case first =>
            have H := HC14.out
            clear HC14
            by_cases c16 : a0_2.toList = ([] : List UInt8)
            · rw [if_pos c16] at H
              have c16b0 : (a0_2.toList == ([] : List UInt8)) = true := beq_iff_eq.mpr c16
              have c16b1 : (a0_2.toList != ([] : List UInt8)) = false := bne_eq_false_iff_eq.mpr c16
              clear c16
              (first | rw [c16b0] | (simp only [i64_w, i32_w]; rw [c16b0]) | skip)
              by_cases c17 : a0_0 = 0
              · rw [if_pos c17] at H
                have c17b0 : (a0_0 == 0) = true := beq_iff_eq.mpr c17
                have c17b1 : (a0_0 != 0) = false := bne_eq_false_iff_eq.mpr c17
                clear c17
                by_cases c18 : a0_1 = 0
                · rw [if_pos c18] at H
                  have c18b0 : (a0_1 == 0) = true := beq_iff_eq.mpr c18
                  have c18b1 : (a0_1 != 0) = false := bne_eq_false_iff_eq.mpr c18
                  clear c18
                  by_cases c19 : a0_0 = 2
                  · rw [if_pos c19] at H
                    have c19b0 : (a0_0 == 2) = true := beq_iff_eq.mpr c19
                    have c19b1 : (a0_0 != 2) = false := bne_eq_false_iff_eq.mpr c19
                    clear c19
                    have H' := Aside0.mk H
                    clear H
                    obtain ⟨hcz20_0, hcz20_1, hcz20_2, hfz20_0, hfz20_1, hfz20_2⟩ := bf3 BK103.out
                    go_wp2
                    go_meet
                    case rel => exact ⟨_, (false), (by first | rfl | (simp; done) | (simp [*]; done) | (simp; rw [Bool.eq_iff_iff]; simp; done)), H', ⟨by have := HJ1.out; first | omega | exact Nat.le_refl _⟩, ⟨by (with_reducible repeat (first | refine blk_drewN ?_ _ | refine blk_drew ?_ | refine blk_alloc ?_ _)); exact BK103.out⟩, ⟨by repeat (first | (with_reducible first | exact HB.out | apply below_alloc | apply pw_below_drewN | apply below_drew1 | refine below_set ?_ GE103.out) | exact HB.out)⟩⟩
                  · rw [if_neg c19] at H
                    have c19b0 : (a0_0 == 2) = false := beq_eq_false_iff_ne.mpr c19
                    have c19b1 : (a0_0 != 2) = true := bne_iff_ne.mpr c19
                    have H' := Aside0.mk H
                    clear H
                    obtain ⟨hcz21_0, hcz21_1, hcz21_2, hfz21_0, hfz21_1, hfz21_2⟩ := bf3 BK103.out
                    go_wp2
                    go_meet
                    case rel => exact ⟨_, (false), (by first | rfl | (simp; done) | (simp [*]; done) | (simp; rw [Bool.eq_iff_iff]; simp; done)), H', ⟨by have := HJ1.out; first | omega | exact Nat.le_refl _⟩, ⟨by (with_reducible repeat (first | refine blk_drewN ?_ _ | refine blk_drew ?_ | refine blk_alloc ?_ _)); exact BK103.out⟩, ⟨by repeat (first | (with_reducible first | exact HB.out | apply below_alloc | apply pw_below_drewN | apply below_drew1 | refine below_set ?_ GE103.out) | exact HB.out)⟩⟩
                · rw [if_neg c18] at H
                  have c18b0 : (a0_1 == 0) = false := beq_eq_false_iff_ne.mpr c18
                  have c18b1 : (a0_1 != 0) = true := bne_iff_ne.mpr c18
                  have H' := Aside0.mk H
                  clear H
                  obtain ⟨hcz22_0, hcz22_1, hcz22_2, hfz22_0, hfz22_1, hfz22_2⟩ := bf3 BK103.out
                  go_wp2
                  go_meet
                  case rel => exact ⟨_, (true), (by first | rfl | (simp; done) | (simp [*]; done) | (simp; rw [Bool.eq_iff_iff]; simp; done)), H', ⟨by have := HJ1.out; first | omega | exact Nat.le_refl _⟩, ⟨by (with_reducible repeat (first | refine blk_drewN ?_ _ | refine blk_drew ?_ | refine blk_alloc ?_ _)); exact BK103.out⟩, ⟨by repeat (first | (with_reducible first | exact HB.out | apply below_alloc | apply pw_below_drewN | apply below_drew1 | refine below_set ?_ GE103.out) | exact HB.out)⟩⟩
              · rw [if_neg c17] at H
                have c17b0 : (a0_0 == 0) = false := beq_eq_false_iff_ne.mpr c17
                have c17b1 : (a0_0 != 0) = true := bne_iff_ne.mpr c17
                by_cases c23 : a0_0 = 2
                · rw [if_pos c23] at H
                  have c23b0 : (a0_0 == 2) = true := beq_iff_eq.mpr c23
                  have c23b1 : (a0_0 != 2) = false := bne_eq_false_iff_eq.mpr c23
                  clear c23
                  by_cases c24 : a0_1 = 0
                  · rw [if_pos c24] at H
                    have c24b0 : (a0_1 == 0) = true := beq_iff_eq.mpr c24
                    have c24b1 : (a0_1 != 0) = false := bne_eq_false_iff_eq.mpr c24
                    clear c24
                    have H' := Aside0.mk H
                    clear H
                    obtain ⟨hcz25_0, hcz25_1, hcz25_2, hfz25_0, hfz25_1, hfz25_2⟩ := bf3 BK103.out
                    go_wp2
                    go_meet
                    case rel => exact ⟨_, (false), (by first | rfl | (simp; done) | (simp [*]; done) | (simp; rw [Bool.eq_iff_iff]; simp; done)), H', ⟨by have := HJ1.out; first | omega | exact Nat.le_refl _⟩, ⟨by (with_reducible repeat (first | refine blk_drewN ?_ _ | refine blk_drew ?_ | refine blk_alloc ?_ _)); exact BK103.out⟩, ⟨by repeat (first | (with_reducible first | exact HB.out | apply below_alloc | apply pw_below_drewN | apply below_drew1 | refine below_set ?_ GE103.out) | exact HB.out)⟩⟩
                  · rw [if_neg c24] at H
                    have c24b0 : (a0_1 == 0) = false := beq_eq_false_iff_ne.mpr c24
                    have c24b1 : (a0_1 != 0) = true := bne_iff_ne.mpr c24
                    have H' := Aside0.mk H
                    clear H
                    obtain ⟨hcz26_0, hcz26_1, hcz26_2, hfz26_0, hfz26_1, hfz26_2⟩ := bf3 BK103.out
                    go_wp2
                    go_meet
                    case rel => exact ⟨_, ((a0_1 != 1)), (by first | rfl | (simp; done) | (simp [*]; done) | (simp; rw [Bool.eq_iff_iff]; simp; done)), H', ⟨by have := HJ1.out; first | omega | exact Nat.le_refl _⟩, ⟨by (with_reducible repeat (first | refine blk_drewN ?_ _ | refine blk_drew ?_ | refine blk_alloc ?_ _)); exact BK103.out⟩, ⟨by repeat (first | (with_reducible first | exact HB.out | apply below_alloc | apply pw_below_drewN | apply below_drew1 | refine below_set ?_ GE103.out) | exact HB.out)⟩⟩
                · rw [if_neg c23] at H
                  have c23b0 : (a0_0 == 2) = false := beq_eq_false_iff_ne.mpr c23
                  have c23b1 : (a0_0 != 2) = true := bne_iff_ne.mpr c23
                  have H' := Aside0.mk H
                  clear H
                  obtain ⟨hcz27_0, hcz27_1, hcz27_2, hfz27_0, hfz27_1, hfz27_2⟩ := bf3 BK103.out
                  go_wp2
                  go_meet
                  case rel => exact ⟨_, (false), (by first | rfl | (simp; done) | (simp [*]; done) | (simp; rw [Bool.eq_iff_iff]; simp; done)), H', ⟨by have := HJ1.out; first | omega | exact Nat.le_refl _⟩, ⟨by (with_reducible repeat (first | refine blk_drewN ?_ _ | refine blk_drew ?_ | refine blk_alloc ?_ _)); exact BK103.out⟩, ⟨by repeat (first | (with_reducible first | exact HB.out | apply below_alloc | apply pw_below_drewN | apply below_drew1 | refine below_set ?_ GE103.out) | exact HB.out)⟩⟩
            · rw [if_neg c16] at H
              have c16b0 : (a0_2.toList == ([] : List UInt8)) = false := beq_eq_false_iff_ne.mpr c16
              have c16b1 : (a0_2.toList != ([] : List UInt8)) = true := bne_iff_ne.mpr c16
              (first | rw [c16b0] | (simp only [i64_w, i32_w]; rw [c16b0]) | skip)
              have H' := Aside0.mk H
              clear H
              obtain ⟨hcz28_0, hcz28_1, hcz28_2, hfz28_0, hfz28_1, hfz28_2⟩ := bf3 BK103.out
              go_wp2
              go_meet
              case rel => exact ⟨_, (true), (by first | rfl | (simp; done) | (simp [*]; done) | (simp; rw [Bool.eq_iff_iff]; simp; done)), H', ⟨by have := HJ1.out; first | omega | exact Nat.le_refl _⟩, ⟨by (with_reducible repeat (first | refine blk_drewN ?_ _ | refine blk_drew ?_ | refine blk_alloc ?_ _)); exact BK103.out⟩, ⟨by repeat (first | (with_reducible first | exact HB.out | apply below_alloc | apply pw_below_drewN | apply below_drew1 | refine below_set ?_ GE103.out) | exact HB.out)⟩⟩
          case rest =>
            clear HC14
            try clear c1
            try clear c2
            try clear p2
            try clear c4
            try clear c4b0
            try clear c7
            try clear c8
            try clear c8b0
            try clear c8b1
            try clear c9
            try clear c9b0
            try clear c9b1
            try clear c10
            try clear c10b0
            try clear c10b1
            try clear c16
            try clear c16b0
            try clear c16b1
            try clear c17
            try clear c17b0
            try clear c17b1
            try clear c18
            try clear c18b0
            try clear c18b1
            try clear c19
            try clear c19b0
            try clear c19b1
            try clear c23
            try clear c23b0
            try clear c23b1
            try clear c24
            try clear c24b0
            try clear c24b1
            try clear hcz11_0
            try clear hcz11_1
            try clear hcz11_2
            try clear hcz12_0
            try clear hcz12_1
            try clear hcz12_2
            try clear hcz13_0
            try clear hcz13_1
            try clear hcz13_2
            try clear hcz15_0
            try clear hcz15_1
            try clear hcz15_2
            try clear hcz20_0
            try clear hcz20_1
            try clear hcz20_2
            try clear hcz21_0
            try clear hcz21_1
            try clear hcz21_2
            try clear hcz22_0
            try clear hcz22_1
            try clear hcz22_2
            try clear hcz25_0
            try clear hcz25_1
            try clear hcz25_2
            try clear hcz26_0
            try clear hcz26_1
            try clear hcz26_2
            try clear hcz27_0
            try clear hcz27_1
            try clear hcz27_2
            try clear hcz28_0
            try clear hcz28_1
            try clear hcz28_2
            try clear hcz5_0
            try clear hcz5_1
            try clear hcz5_2
            try clear hcz6_0
            try clear hcz6_1
            try clear hcz6_2
            try clear hfz11_0
            try clear hfz11_1
            try clear hfz11_2
            try clear hfz12_0
            try clear hfz12_1
            try clear hfz12_2
            try clear hfz13_0
            try clear hfz13_1
            try clear hfz13_2
            try clear hfz15_0
            try clear hfz15_1
            try clear hfz15_2
            try clear hfz20_0
            try clear hfz20_1
            try clear hfz20_2
            try clear hfz21_0
            try clear hfz21_1
            try clear hfz21_2
            try clear hfz22_0
            try clear hfz22_1
            try clear hfz22_2
            try clear hfz25_0
            try clear hfz25_1
            try clear hfz25_2
            try clear hfz26_0
            try clear hfz26_1
            try clear hfz26_2
            try clear hfz27_0
            try clear hfz27_1
            try clear hfz27_2
            try clear hfz28_0
            try clear hfz28_1
            try clear hfz28_2
            try clear hfz5_0
            try clear hfz5_1
            try clear hfz5_2
            try clear hfz6_0
            try clear hfz6_1
            try clear hfz6_2
            try clear p2
            obtain ⟨kq, x50_13, rfl, HA, HJ13, BK103, HB⟩ := hcut
            cases kq with
            | zero => exact absurd HA.out (by simp [headgateref03_Check.j1])
            | succ kj13 =>
              have H := HA.out
              clear HA
              simp only [headgateref03_Check.j1] at H
              by_cases c29 : x50_13 = true
              · subst c29
                have H1 : (some 31) = some r := by rw [if_pos rfl] at H; exact H
                clear H
                have H := H1
                clear H1
                obtain rfl := Option.some.inj H
                go_wp2
                go_ret
                exact ⟨by first | rfl | (simp [errW_none, errW_some] <;> rfl) | (simp [*, errW_none, errW_some] <;> rfl), by repeat (first | (with_reducible first | exact HB.out | apply below_alloc | apply pw_below_drewN | apply below_drew1 | refine below_set ?_ GE103.out) | exact HB.out)⟩
              · replace c29 := Bool.eq_false_iff.mpr c29
                subst c29
                have H1 : (some 0) = some r := by rw [if_neg (show ¬ (false = true) by decide)] at H; exact H
                clear H
                have H := H1
                clear H1
                obtain rfl := Option.some.inj H
                go_wp2
                go_ret
                exact ⟨by first | rfl | (simp [errW_none, errW_some] <;> rfl) | (simp [*, errW_none, errW_some] <;> rfl), by repeat (first | (with_reducible first | exact HB.out | apply below_alloc | apply pw_below_drewN | apply below_drew1 | refine below_set ?_ GE103.out) | exact HB.out)⟩

end Go.Proofs.Ytgihecpobichbaa.Q
/- The document's readers of texts and of lists, in plain words: no program in it. -/
namespace Go.Proofs.Ytgihecpobichbaa.Q
open Go.RowKit Go.Proofs.YtgihecpobichbaaW.PrintWords Go.Proofs.YtgihecpobichbaaW.PrintLast Go.Proofs.YtgihecpobichbaaW.PrintMore
set_option linter.unusedVariables false
set_option linter.unusedSimpArgs false

theorem bytesOf_extract (s : ByteArray) (i j : Nat) : bytesOf (s.extract i j) = ((bytesOf s).drop i).take (j - i) := by
  unfold bytesOf
  have h : (s.extract i j).data.toList = (s.data.toList.drop i).take (j - i) := by
    rw [ByteArray.data_extract]
    simp [List.extract]
  rw [h, List.map_take, List.map_drop]
/-- The text at a place, and the place behind it; below 0: there is none. -/
def refW (s : ByteArray) (a : Int) : ByteArray × Int :=
  if a < 0 then (⟨#[]⟩, -1) else
  match itemW ((bytesOf s).drop a.toNat) with
  | some (x, l') => (x, (s.size : Int) - l'.length)
  | none => (⟨#[]⟩, -1)
theorem refW_neg (s : ByteArray) {a : Int} (h : a < 0) : refW s a = (⟨#[]⟩, -1) := if_pos h
theorem refW_ev (s : ByteArray) (hs : s.size ≤ 1000000) (a : Int) (ha : a ≤ s.size) : Ev (fun k => headgateref04_Unword.f k s a) (refW s a) := by
  have hl := bytesOf_length s
  unfold headgateref04_Unword.f
  refine Ev.bind (ref_at s hs a ha) ?_
  unfold refW refAt
  by_cases hn : a < 0
  · simp only [if_pos hn]
    exact Ev.congr (fun k => if_pos (by omega)) (Ev.now _)
  · simp only [if_neg hn]
    unfold itemW
    by_cases h : (un ((bytesOf s).drop a.toNat)).2.2 = 0
    · simp only [if_pos h]
      obtain ⟨n, k, hu⟩ : ∃ n k, un ((bytesOf s).drop a.toNat) = (n, k, 0) := ⟨(un ((bytesOf s).drop a.toNat)).1, (un ((bytesOf s).drop a.toNat)).2.1, by rw [← h]⟩
      have hpos := un_pos h
      obtain ⟨r, e1, e2, e3, e4⟩ := un_only (fun x hx => bytesOf_range s x (List.mem_of_mem_drop hx)) hu
      rw [hu] at hpos ⊢
      rw [List.length_drop] at hpos
      simp only at hpos ⊢
      have w1 : wrap64 ((s.size : Int) - (a + k)) = (s.size : Int) - (a + k) := wrap_in (by unfold in64; omega)
      have w2 : IntKind.u64.wrap ((s.size : Int) - (a + k)) = (s.size : Int) - (a + k) := wrap_u _ (by omega) (by omega)
      have hlen : (((bytesOf s).drop a.toNat).drop k.toNat).length = s.size - (a + k).toNat := by
        rw [List.length_drop, List.length_drop]
        omega
      rw [w1, w2]
      by_cases hbig : n > (s.size : Int) - (a + k)
      · rw [if_pos (show n > ((((bytesOf s).drop a.toNat).drop k.toNat).length : Int) by rw [hlen]; omega)]
        exact Ev.congr (fun k => if_neg (by omega)) (Ev.congr (fun k => if_pos hbig) (Ev.now _))
      · rw [if_neg (show ¬ n > ((((bytesOf s).drop a.toNat).drop k.toNat).length : Int) by rw [hlen]; omega)]
        have w3 : wrap64 n = n := wrap_in (by unfold in64; omega)
        have w4 : wrap64 (a + k + n) = a + k + n := wrap_in (by unfold in64; omega)
        rw [w3, w4]
        have hx : s.extract (a + k).toNat (a + k + n).toNat = strOfNums ((((bytesOf s).drop a.toNat).drop k.toNat).take n.toNat) := by
          rw [← strNums_bytesOf (s.extract (a + k).toNat (a + k + n).toNat), bytesOf_extract, List.drop_drop]
          congr 2
          · omega
          · congr 1
            omega
        have hy : (s.size : Int) - ((((bytesOf s).drop a.toNat).drop k.toNat).drop n.toNat).length = a + k + n := by
          rw [List.length_drop, hlen]
          omega
        simp only [hy]
        rw [← hx]
        exact Ev.congr (fun _ => if_neg (by omega)) (Ev.congr (fun _ => if_neg hbig) (Ev.congr (fun _ => if_pos (by omega)) (Ev.congr (fun _ => if_pos (by omega)) (Ev.congr (fun _ => if_pos (by omega)) (Ev.now _)))))
    · simp only [if_neg h]
      exact Ev.congr (fun k => if_pos (by omega)) (Ev.now _)
/-- A reader's loop: st is one step at a place. -/
def loopX {α : Type} (N : Nat) (st : Int → α × Int) (n : Int) : Nat → Int → List α → Int → Option (List α × Bool)
  | 0, _, _, _ => none
  | k + 1, a, xs, i => if i < n ∧ 0 ≤ a then loopX N st n k (st a).2 (xs ++ [(st a).1]) (i + 1) else if a = (N : Int) ∧ N ≤ 16777216 then some (xs, true) else some ([], false)
theorem drop_rest {b l' e : List Int} {p : Nat} (h : b.drop p = e ++ l') : l' = b.drop (b.length - l'.length) := by
  have h3 : b.drop (p + e.length) = l' := by
    rw [← List.drop_drop, h]
    simp
  have h4 : e.length + l'.length = b.length - p := by
    have := congrArg List.length h
    rw [List.length_drop, List.length_append] at this
    omega
  by_cases hz : p ≤ b.length
  · have h5 : p + e.length = b.length - l'.length := by omega
    rw [← h5]
    exact h3.symm
  · have : l' = [] := List.eq_nil_of_length_eq_zero (by omega)
    rw [this]
    simp
theorem loopX_ev {α : Type} (item : List Int → Option (α × List Int)) (enc : α → List Int) (b : List Int) (hb : Bytes b) (hi : ∀ l a r, Bytes l → item l = some (a, r) → l = enc a ++ r) (hless : ∀ l a r, item l = some (a, r) → r.length < l.length)
    (st : Int → α × Int) (h1 : ∀ (p : Nat) x l', p ≤ b.length → item (b.drop p) = some (x, l') → st (p : Int) = (x, (b.length : Int) - l'.length)) (h2 : ∀ p : Nat, p ≤ b.length → item (b.drop p) = none → (st (p : Int)).2 < 0) (n : Int) :
    ∀ (m p d : Nat) (xs : List α) (i : Int), p ≤ b.length → b.length - p ≤ m → n = i + d → ∃ k, loopX b.length st n k (p : Int) xs i = some (finX b.length xs (readN item d (b.drop p))) := by
  intro m
  induction m with
  | zero =>
    intro p d xs i hp hm hd
    have hpe : p = b.length := by omega
    cases d with
    | zero =>
      refine ⟨1, ?_⟩
      simp only [loopX, readN, finX, List.length_drop]
      rw [if_neg (by omega)]
      by_cases hs : b.length ≤ 16777216
      · rw [if_pos ⟨by omega, hs⟩, if_pos ⟨by omega, hs⟩, List.append_nil]
      · rw [if_neg (fun h => hs h.2), if_neg (fun h => hs h.2)]
    | succ d =>
      have hit : item (b.drop p) = none := by
        cases h : item (b.drop p) with
        | none => rfl
        | some q =>
          obtain ⟨x, l'⟩ := q
          have := hless _ _ _ h
          rw [List.length_drop] at this
          omega
      have hn := h2 p hp hit
      refine ⟨2, ?_⟩
      simp only [loopX, readN, hit, Option.bind_none, finX]
      rw [if_pos (by omega), if_neg (by omega), if_neg (by omega)]
  | succ m ih =>
    intro p d xs i hp hm hd
    cases d with
    | zero =>
      refine ⟨1, ?_⟩
      simp only [loopX, readN, finX, List.length_drop]
      rw [if_neg (by omega)]
      by_cases hs : b.length - p = 0 ∧ b.length ≤ 16777216
      · rw [if_pos ⟨by omega, hs.2⟩, if_pos hs, List.append_nil]
      · rw [if_neg (by omega), if_neg hs]
    | succ d =>
      cases hit : item (b.drop p) with
      | none =>
        have hn := h2 p hp hit
        refine ⟨2, ?_⟩
        simp only [loopX, readN, hit, Option.bind_none, finX]
        rw [if_pos (by omega), if_neg (by omega), if_neg (by omega)]
      | some q =>
        obtain ⟨x, l'⟩ := q
        have hs := h1 p x l' hp hit
        have hl := hless _ _ _ hit
        rw [List.length_drop] at hl
        have he := hi _ _ _ (fun y hy => hb y (List.mem_of_mem_drop hy)) hit
        have hdr := drop_rest he
        obtain ⟨k, hk⟩ := ih (b.length - l'.length) d (xs ++ [x]) (i + 1) (by omega) (by omega) (by omega)
        rw [← hdr, show ((b.length - l'.length : Nat) : Int) = (b.length : Int) - l'.length by omega] at hk
        refine ⟨k + 1, ?_⟩
        simp only [loopX]
        rw [if_pos (by omega), hs]
        simp only
        rw [hk]
        simp only [readN, hit, Option.bind_some]
        cases readN item d l' with
        | none => rfl
        | some q =>
          simp only [Option.map_some, finX]
          split <;> simp
/-- All of a text, by a reader's loop. -/
theorem loopX_all {α : Type} (item : List Int → Option (α × List Int)) (enc : α → List Int) (b : List Int) (hb : Bytes b) (hi : ∀ l a r, Bytes l → item l = some (a, r) → l = enc a ++ r) (hless : ∀ l a r, item l = some (a, r) → r.length < l.length)
    (st : Int → α × Int) (h1 : ∀ (p : Nat) x l', p ≤ b.length → item (b.drop p) = some (x, l') → st (p : Int) = (x, (b.length : Int) - l'.length)) (h2 : ∀ p : Nat, p ≤ b.length → item (b.drop p) = none → (st (p : Int)).2 < 0)
    (n k : Int) (hr : (n, k) = (if (un b).2.2 = 0 then ((un b).1, (un b).2.1) else (0, -1))) : ∃ K, loopX b.length st n K k [] 0 = some ((readX item b).1, decide ((readX item b).2 = 0)) := by
  rw [← finX_readX item hless b]
  by_cases h : (un b).2.2 = 0
  · rw [if_pos h] at hr ⊢
    simp only [Prod.mk.injEq] at hr
    obtain ⟨rfl, rfl⟩ := hr
    obtain ⟨n, k, hu⟩ : ∃ n k, un b = (n, k, 0) := ⟨(un b).1, (un b).2.1, by rw [← h]⟩
    have hpos := un_pos h
    obtain ⟨r, e1, e2, e3, e4⟩ := un_only hb hu
    rw [hu] at hpos ⊢
    simp only at hpos ⊢
    obtain ⟨K, hK⟩ := loopX_ev item enc b hb hi hless st h1 h2 n b.length k.toNat n.toNat [] 0 (by omega) (by omega) (by omega)
    rw [show ((k.toNat : Nat) : Int) = k by omega] at hK
    exact ⟨K, hK⟩
  · rw [if_neg h] at hr ⊢
    simp only [Prod.mk.injEq] at hr
    obtain ⟨rfl, rfl⟩ := hr
    refine ⟨1, ?_⟩
    simp only [loopX, finX]
    rw [if_neg (by omega), if_neg (by omega)]
/-- A pair's step, a column's step. -/
def stP (s : ByteArray) (a : Int) : Pa × Int := (⟨(refW s a).1, (refW s (refW s a).2).1⟩, (refW s (refW s a).2).2)
def stC (s : ByteArray) (a : Int) : Co × Int := if (refW s a).2 < 0 ∨ (refW s a).2 ≥ s.size then (⟨⟨#[]⟩, 0⟩, -1) else (⟨(refW s a).1, wrap64 (bt s (refW s a).2)⟩, (refW s a).2 + 1)
theorem refW_some (s : ByteArray) (p : Nat) (x : ByteArray) (l' : List Int) (h : itemW ((bytesOf s).drop p) = some (x, l')) : refW s (p : Int) = (x, (s.size : Int) - l'.length) := by
  unfold refW
  rw [if_neg (by omega), Int.toNat_natCast, h]
theorem refW_none (s : ByteArray) (p : Nat) (h : itemW ((bytesOf s).drop p) = none) : refW s (p : Int) = (⟨#[]⟩, -1) := by
  unfold refW
  rw [if_neg (by omega), Int.toNat_natCast, h]
theorem refW_le (s : ByteArray) (a : Int) : (refW s a).2 ≤ s.size := by
  unfold refW
  split
  · simp only
    omega
  · split
    · simp only
      omega
    · simp only
      omega
theorem drop_of_W (s : ByteArray) (p : Nat) (x : ByteArray) (l' : List Int) (h : itemW ((bytesOf s).drop p) = some (x, l')) : l' = (bytesOf s).drop (s.size - l'.length) ∧ l'.length ≤ s.size := by
  have e := itemW_only _ _ _ (fun y hy => bytesOf_range s y (List.mem_of_mem_drop hy)) h
  have h1 := drop_rest e
  rw [bytesOf_length] at h1
  have h2 := itemW_lt _ _ _ h
  rw [List.length_drop, bytesOf_length] at h2
  exact ⟨h1, by omega⟩
theorem stP_some (s : ByteArray) (p : Nat) (x : Pa) (l' : List Int) (h : itemP ((bytesOf s).drop p) = some (x, l')) : stP s (p : Int) = (x, (s.size : Int) - l'.length) := by
  unfold itemP at h
  obtain ⟨⟨y, l1⟩, h1, h2⟩ := Option.bind_eq_some_iff.1 h
  obtain ⟨⟨z, l2⟩, h3, h4⟩ := Option.map_eq_some_iff.1 h2
  simp only [Prod.mk.injEq] at h3 h4
  obtain ⟨rfl, rfl⟩ := h4
  have e1 := refW_some s p y l1 h1
  obtain ⟨d1, d2⟩ := drop_of_W s p y l1 h1
  rw [d1] at h3
  have e2 := refW_some s _ z l2 h3
  rw [show ((s.size - l1.length : Nat) : Int) = (s.size : Int) - l1.length by omega] at e2
  unfold stP
  rw [e1]
  simp only
  rw [e2]
theorem stP_none (s : ByteArray) (p : Nat) (h : itemP ((bytesOf s).drop p) = none) : (stP s (p : Int)).2 < 0 := by
  unfold stP
  cases h1 : itemW ((bytesOf s).drop p) with
  | none =>
    rw [refW_none s p h1]
    simp only
    rw [refW_neg s (by omega)]
    simp
  | some q =>
    obtain ⟨y, l1⟩ := q
    have e1 := refW_some s p y l1 h1
    obtain ⟨d1, d2⟩ := drop_of_W s p y l1 h1
    rw [e1]
    simp only
    unfold itemP at h
    rw [h1] at h
    simp only [Option.bind_some] at h
    cases h2 : itemW l1 with
    | none =>
      rw [d1] at h2
      have e2 := refW_none s _ h2
      rw [show ((s.size - l1.length : Nat) : Int) = (s.size : Int) - l1.length by omega] at e2
      rw [e2]
      simp
    | some q =>
      rw [h2] at h
      simp at h
theorem stC_some (s : ByteArray) (p : Nat) (x : Co) (l' : List Int) (h : itemC ((bytesOf s).drop p) = some (x, l')) : stC s (p : Int) = (x, (s.size : Int) - l'.length) := by
  unfold itemC at h
  obtain ⟨⟨y, l1⟩, h1, h2⟩ := Option.bind_eq_some_iff.1 h
  obtain ⟨⟨z, l2⟩, h3, h4⟩ := Option.map_eq_some_iff.1 h2
  simp only [Prod.mk.injEq] at h3 h4
  obtain ⟨rfl, rfl⟩ := h4
  have e1 := refW_some s p y l1 h1
  obtain ⟨d1, d2⟩ := drop_of_W s p y l1 h1
  have e3 := itemB_only _ _ _ h3
  have hlen : l1.length = l2.length + 1 := by rw [e3]; simp
  have hd := rd_drop (bytesOf s) ((s.size : Int) - l1.length) (by omega) (by rw [bytesOf_length]; omega)
  rw [show ((s.size : Int) - l1.length).toNat = s.size - l1.length by omega, ← d1, e3, rd_bytesOf] at hd
  have hz := (List.cons.inj hd).1
  unfold stC
  rw [e1]
  simp only
  rw [if_neg (by omega)]
  have hb := bt_range s ((s.size : Int) - l1.length)
  have e4 : ((z :: l2).length : Int) = (l1.length : Int) := by rw [e3]
  rw [show (s.size : Int) - ((z :: l2).length : Int) = (s.size : Int) - l1.length by omega] at hz
  rw [← hz] at hb ⊢
  rw [wrap_byte hb, wrap_byte_i hb]
  congr 1
  omega
theorem stC_none (s : ByteArray) (p : Nat) (h : itemC ((bytesOf s).drop p) = none) : (stC s (p : Int)).2 < 0 := by
  unfold stC
  cases h1 : itemW ((bytesOf s).drop p) with
  | none =>
    rw [refW_none s p h1]
    simp
  | some q =>
    obtain ⟨y, l1⟩ := q
    have e1 := refW_some s p y l1 h1
    rw [e1]
    simp only
    unfold itemC at h
    rw [h1] at h
    simp only [Option.bind_some] at h
    cases l1 with
    | nil =>
      rw [if_pos (by right; simp)]
      simp
    | cons c r => simp [itemB] at h
end Go.Proofs.Ytgihecpobichbaa.Q
/- headgateref04.Unpairs, Uncols: walked. -/
namespace Go.Proofs.Ytgihecpobichbaa.Q
open Go.RowKit Go.Proofs.YtgihecpobichbaaW.PrintWords Go.Proofs.YtgihecpobichbaaW.PrintLast Go.Proofs.YtgihecpobichbaaW.PrintMore
set_option linter.unusedVariables false
set_option linter.unusedSimpArgs false

theorem refW_gt (s : ByteArray) (a : Int) (h0 : 0 ≤ a) (h1 : a ≤ s.size) : (refW s a).2 < 0 ∨ a < (refW s a).2 := by
  unfold refW
  rw [if_neg (by omega)]
  split
  · rename_i x l' h
    have := itemW_lt _ _ _ h
    rw [List.length_drop, bytesOf_length] at this
    right
    simp only
    omega
  · left
    simp only
    omega
/-- A row of one's own, of blocks that are there now. -/
theorem R_then {α : Type} {d : Kd α} {e base : Nat} {w : World} {v : Value} {xs : List α} (h : d.R e w base (fun _ => True) v xs) : d.R e w base (fun k => k < w.heap.size) v xs := Kd.R_mono (Kd.R_bound h) (fun k hk => hk.2.2.1)
theorem R_new_cell {α : Type} {d : Kd α} {e base g n : Nat} {w : World} {v : Value} {xs : List α} (h : d.R e w base (fun k => k < n) v xs) (hg : n ≤ g) (j : Nat) (u : Value) : d.R e (w.setCell ⟨g, j, none⟩ u) base (fun k => k < n) v xs :=
  Kd.R_grown h (gb_setAt w g j u) (fun k hk e => by injection e with e; omega)
set_option maxHeartbeats 8000000 in
set_option maxRecDepth 100000 in
theorem refPairs_walk (s : ByteArray) (hs : s.size ≤ 1000000) (w : World) (n k0 : Int) (hn0 : 0 ≤ n) (hn : n < 18446744073709551616) (hk : k0 ≤ s.size) (K0 K : Nat) (R : List Pa × Bool) (hU : headgateref04_Unnum.f K0 s 0 = some (n, k0)) (hL : loopX s.size (stP s) n K k0 [] 0 = some R) :
    Calls Try.prog 35 #[.string s] w fun e w' => ∃ v, e = .returned (.tuple #[v, .bool R.2]) ∧ Kd.R k74 74 w' w.heap.size (fun _ => True) v R.1 ∧ Below w.heap.size w w' := by
  have HW : Aside0 (∀ a : Int, a ≤ s.size → ∃ K, headgateref04_Unword.f K s a = some (refW s a)) := ⟨fun a ha => (refW_ev s hs a ha).rounds⟩
  have HL := Aside0.mk hL
  have HK := Aside0.mk hk
  have HS := Aside0.mk hs
  clear hL hk
  go_enter Try.func35, Try.ntmps35
  go_wp2_with fail
  refine (headgateref04_Unnum.calls K0 s 0 n k0 _ hU).mono ?_
  rintro e w1 ⟨rfl, hd1⟩
  have HB1 := Aside0.mk (dr_below hd1 w.heap.size)
  clear hd1 hU
  go_wp2_with fail
  go_loopg [5, 6, 7] K (fun kq v5 v6 v7 wr => ∃ (a : Int) (xs : List Pa) (i : Nat), v5 = .int .i64 a ∧ v7 = .int .u64 i ∧ Aside0 (loopX s.size (stP s) n kq a xs i = some R) ∧ Aside0 (a ≤ s.size ∧ (a < 0 ∨ (xs.length : Int) ≤ a + 1)) ∧ Aside0 (Kd.R k74 74 wr w.heap.size (fun _ => True) v6 xs) ∧ Aside0 (Below w.heap.size w wr))
  case atStart => exact ⟨k0, [], 0, rfl, rfl, HL, ⟨HK.out, by simp; omega⟩, ⟨Kd.R_nil _ _ _ _ _⟩, HB1⟩
  case round =>
    clear HL HB1
    obtain ⟨a, xs, i, rfl, rfl, HA, HI, HO, HB⟩ := hrel
    cases gk with
    | zero => exact absurd HA.out (by simp [loopX])
    | succ k1 =>
      have hA := HA.out
      simp only [loopX] at hA
      by_cases hc : (i : Int) < n ∧ 0 ≤ a
      · rw [if_pos hc] at hA
        have c1 : decide ((i : Int) < n) = true := decide_eq_true hc.1
        have c2 : decide (0 ≤ a) = true := decide_eq_true hc.2
        have hxl : (xs.length : Int) ≤ a + 1 := by have := HI.out.2; omega
        have hg1 := refW_gt s a hc.2 HI.out.1
        obtain ⟨Kw, hw1⟩ := HW.out a HI.out.1
        obtain ⟨Kw2, hw2⟩ := HW.out (refW s a).2 (refW_le s a)
        have hg2 := refW_le s (refW s a).2
        have hg3 : (refW s (refW s a).2).2 < 0 ∨ a + 1 < (refW s (refW s a).2).2 := by
          rcases hg1 with h | h
          · rw [refW_neg s h]
            left
            simp
          · have := refW_gt s (refW s a).2 (by omega) (refW_le s a)
            omega
        obtain ⟨x, a1, hxa⟩ : ∃ x a1, refW s a = (x, a1) := ⟨_, _, rfl⟩
        rw [hxa] at hw1 hw2 hg2 hg3
        simp only at hw2 hg2 hg3
        obtain ⟨y, a2, hya⟩ : ∃ y a2, refW s a1 = (y, a2) := ⟨_, _, rfl⟩
        rw [hya] at hw2 hg2 hg3
        simp only at hg2 hg3
        have hst : stP s a = (⟨x, y⟩, a2) := by
          unfold stP
          rw [hxa]
          simp only
          rw [hya]
        rw [hst] at hA
        simp only at hA
        have HA2 : Aside0 (loopX s.size (stP s) n k1 a2 (xs ++ [(⟨x, y⟩ : Pa)]) ((i + 1 : Nat) : Int) = some R) := ⟨by rw [show ((i + 1 : Nat) : Int) = (i : Int) + 1 by omega]; exact hA⟩
        have HW1 := Aside0.mk hw1
        have HW2 := Aside0.mk hw2
        have HG2 := Aside0.mk (show a2 ≤ (s.size : Int) ∧ (a2 < 0 ∨ ((xs ++ [(⟨x, y⟩ : Pa)]).length : Int) ≤ a2 + 1) from ⟨hg2, by rw [List.length_append]; simp; omega⟩)
        have HXL := Aside0.mk (show (xs.length : Int) ≤ 1000001 by have := HI.out.1; have := HS.out; omega)
        have hi1 : (i : Int) + 1 ≤ 18446744073709551615 := by omega
        have HZ := Aside0.mk (show w.heap.size ≤ wr.heap.size from HB.out.size)
        clear hA HA hw1 hw2 hg1 hg2 hg3 hst hxa hya hxl hc
        go_wp2_with fail
        refine (headgateref04_Unword.calls Kw s a x a1 _ HW1.out).mono ?_
        rintro e w2 ⟨rfl, hd2⟩
        have b2 : w2.heap[wr.heap.size]? = some (.cells #[.string ⟨#[]⟩, .string ⟨#[]⟩] 74 (0, 0)) := blk_below (blk_new wr _) (dr_below hd2 _)
        have HO2 : Aside0 (Kd.R k74 74 w2 w.heap.size (fun k => k < wr.heap.size) u6 xs) := ⟨Kd.R_below (Kd.R_alloc (R_then HO.out) _) (dr_below hd2 _)⟩
        have HB2 := Aside0.mk ((below_alloc HB.out _).trans (dr_below hd2 w.heap.size))
        have B2 := Aside0.mk b2
        have c20 : w2.cell? ⟨wr.heap.size, 0, none⟩ = some (.string ⟨#[]⟩) := (blk_cell b2 0).trans rfl
        have f20 := blk_frozen b2 0
        clear b2 hd2 HO HB
        go_wp2_with fail
        refine (headgateref04_Unword.calls Kw2 s a1 y a2 _ HW2.out).mono ?_
        rintro e w3 ⟨rfl, hd3⟩
        have b3 : w3.heap[wr.heap.size]? = some (.cells #[.string x, .string ⟨#[]⟩] 74 (0, 0)) := blk_below (blk_set B2.out 0 (.string x)) (dr_below hd3 _)
        have HO3 : Aside0 (Kd.R k74 74 w3 w.heap.size (fun k => k < wr.heap.size) u6 xs) := ⟨Kd.R_below (R_new_cell HO2.out (Nat.le_refl _) 0 (.string x)) (dr_below hd3 _)⟩
        have HB3 := Aside0.mk ((below_set HB2.out HZ.out (j := 0) (v := .string x)).trans (dr_below hd3 w.heap.size))
        have c30 : w3.cell? ⟨wr.heap.size, 0, none⟩ = some (.string x) := (blk_cell b3 0).trans rfl
        have c31 : w3.cell? ⟨wr.heap.size, 1, none⟩ = some (.string ⟨#[]⟩) := (blk_cell b3 1).trans rfl
        have f31 := blk_frozen b3 1
        have HO4 : Aside0 (Kd.R k74 74 (w3.setCell ⟨wr.heap.size, 1, none⟩ (.string y)) w.heap.size (fun _ => True) u6 xs) := ⟨Kd.R_mono (R_new_cell HO3.out (Nat.le_refl _) 1 (.string y)) (fun _ _ => trivial)⟩
        have HB4 := Aside0.mk (below_set HB3.out HZ.out (j := 1) (v := .string y))
        have HZ4 := Aside0.mk (show w.heap.size ≤ (w3.setCell ⟨wr.heap.size, 1, none⟩ (.string y)).heap.size from HB4.out.size)
        have b4 := blk_set b3 1 (.string y)
        have d0 : (w3.setCell ⟨wr.heap.size, 1, none⟩ (.string y)).cell? ⟨wr.heap.size, 0, none⟩ = some (.string x) := (blk_cell b4 0).trans rfl
        have d1 : (w3.setCell ⟨wr.heap.size, 1, none⟩ (.string y)).cell? ⟨wr.heap.size, 1, none⟩ = some (.string y) := (blk_cell b4 1).trans rfl
        clear b3 b4 hd3 HO2 HB2 B2 c20 f20 HO3 HB3
        go_upto_region 9 with (fail)
        clear c30 c31 f31
        generalize w3.setCell ⟨wr.heap.size, 1, none⟩ (.string y) = W4 at HO4 HB4 HZ4 d0 d1 ⊢
        go_wp2_with (first | ((with_reducible refine gate_builtin (b := .append) (xs := #[.tmp 38, .tmp 40]) rfl ?_); (try (refine gate_guard (by rfl) ?_; dsimp only)); at_builtin; refine Kd.R_append k74 (w0 := w) w.heap.size rfl (.tmp 38) (.tmp 40) 39 74 (.agg #[.string ⟨#[]⟩, .string ⟨#[]⟩]) 32 rfl Try.underlying39 info74 rfl (by decide) (by omega) u6 xs (⟨x, y⟩ : Pa) [.string x, .string y] (fun _ => True) (fun _ => False) rfl rfl ?aP (fun _ hk => hk.elim) ?aF ?aO ?aB ?aS ?aL ?_; (case aP => exact k74_mkM _ _ _ (⟨x, y⟩ : Pa)); (case aB => exact HB4.out); (case aF => exact (fun _ _ => trivial)); (case aO => exact HO4.out); (case aS => exact HZ4.out); (case aL => have := HXL.out; omega); intro v1 w4 ho hb hg hat; have HO5 := Aside0.mk ho; have HB5 := Aside0.mk hb; clear ho hb hg hat))
        go_roundg k1
        case measure => omega
        case rel => exact ⟨a2, xs ++ [⟨x, y⟩], i + 1, by congr 1, by congr 1, HA2, HG2, HO5, HB5⟩
      · rw [if_neg hc] at hA
        have cc : (decide ((i : Int) < n) && decide (0 ≤ a)) = false := by
          by_cases h1 : (i : Int) < n
          · have h2 : ¬ 0 ≤ a := fun h => hc ⟨h1, h⟩
            simp [h2]
          · simp [h1]
        obtain ⟨Ax, cx, rfl⟩ := Kd.R_slice HO.out
        have hsz : ¬ 16777216 < (s.size : Int) := by have := HS.out; omega
        have z1 : decide (16777216 < (s.size : Int)) = false := decide_eq_false hsz
        have z2 : decide (16777216 < s.size) = false := decide_eq_false (by omega)
        by_cases he : a = (s.size : Int)
        · rw [if_pos ⟨he, by omega⟩] at hA
          have hR := Option.some.inj hA
          subst hR
          have e1 : (a != (s.size : Int)) = false := by simpa using he
          have hcc : ¬ (i : Int) < n := fun h => hc ⟨h, by omega⟩
          have c1 : decide ((i : Int) < n) = false := decide_eq_false hcc
          clear hA HA hc hcc he
          go_wp2
          go_ret2
          exact ⟨_, rfl, HO.out, HB.out⟩
        · rw [if_neg (fun h => he h.1)] at hA
          have hR := Option.some.inj hA
          subst hR
          have e1 : (a != (s.size : Int)) = true := by simpa using he
          clear hA HA he
          by_cases h1 : (i : Int) < n
          · have c1 : decide ((i : Int) < n) = true := decide_eq_true h1
            have c2 : decide (0 ≤ a) = false := decide_eq_false (fun h => hc ⟨h1, h⟩)
            clear hc h1 cc
            go_wp2
            go_ret2
            exact ⟨_, rfl, Kd.R_nil _ _ _ _ _, HB.out⟩
          · have c1 : decide ((i : Int) < n) = false := decide_eq_false h1
            clear hc h1 cc
            go_wp2
            go_ret2
            exact ⟨_, rfl, Kd.R_nil _ _ _ _ _, HB.out⟩
set_option maxHeartbeats 8000000 in
set_option maxRecDepth 100000 in
theorem refCols_walk (s : ByteArray) (hs : s.size ≤ 1000000) (w : World) (n k0 : Int) (hn0 : 0 ≤ n) (hn : n < 18446744073709551616) (hk : k0 ≤ s.size) (K0 K : Nat) (R : List Co × Bool) (hU : headgateref04_Unnum.f K0 s 0 = some (n, k0)) (hL : loopX s.size (stC s) n K k0 [] 0 = some R) :
    Calls Try.prog 34 #[.string s] w fun e w' => ∃ v, e = .returned (.tuple #[v, .bool R.2]) ∧ Kd.R k43 43 w' w.heap.size (fun _ => True) v R.1 ∧ Below w.heap.size w w' := by
  have HW : Aside0 (∀ a : Int, a ≤ s.size → ∃ K, headgateref04_Unword.f K s a = some (refW s a)) := ⟨fun a ha => (refW_ev s hs a ha).rounds⟩
  have HL := Aside0.mk hL
  have HK := Aside0.mk hk
  have HS := Aside0.mk hs
  clear hL hk
  go_enter Try.func34, Try.ntmps34
  go_wp2_with fail
  refine (headgateref04_Unnum.calls K0 s 0 n k0 _ hU).mono ?_
  rintro e w1 ⟨rfl, hd1⟩
  have HB1 := Aside0.mk (dr_below hd1 w.heap.size)
  clear hd1 hU
  go_wp2_with fail
  go_loopg [5, 6, 7] K (fun kq v5 v6 v7 wr => ∃ (a : Int) (xs : List Co) (i : Nat), v5 = .int .i64 a ∧ v7 = .int .u64 i ∧ Aside0 (loopX s.size (stC s) n kq a xs i = some R) ∧ Aside0 (a ≤ s.size ∧ (a < 0 ∨ (xs.length : Int) ≤ a + 1)) ∧ Aside0 (Kd.R k43 43 wr w.heap.size (fun _ => True) v6 xs) ∧ Aside0 (Below w.heap.size w wr))
  case atStart => exact ⟨k0, [], 0, rfl, rfl, HL, ⟨HK.out, by simp; omega⟩, ⟨Kd.R_nil _ _ _ _ _⟩, HB1⟩
  case round =>
    clear HL HB1
    obtain ⟨a, xs, i, rfl, rfl, HA, HI, HO, HB⟩ := hrel
    cases gk with
    | zero => exact absurd HA.out (by simp [loopX])
    | succ k1 =>
      have hA := HA.out
      simp only [loopX] at hA
      by_cases hc : (i : Int) < n ∧ 0 ≤ a
      · rw [if_pos hc] at hA
        have c1 : decide ((i : Int) < n) = true := decide_eq_true hc.1
        have c2 : decide (0 ≤ a) = true := decide_eq_true hc.2
        have hxl : (xs.length : Int) ≤ a + 1 := by have := HI.out.2; omega
        have hg1 := refW_gt s a hc.2 HI.out.1
        obtain ⟨Kw, hw1⟩ := HW.out a HI.out.1
        obtain ⟨x, a1, hxa⟩ : ∃ x a1, refW s a = (x, a1) := ⟨_, _, rfl⟩
        rw [hxa] at hw1 hg1
        have hle : a1 ≤ s.size := by
          have := refW_le s a
          rw [hxa] at this
          exact this
        simp only at hg1
        have HW1 := Aside0.mk hw1
        have HXL := Aside0.mk (show (xs.length : Int) ≤ 1000001 by have := HI.out.1; have := HS.out; omega)
        have hi1 : (i : Int) + 1 ≤ 18446744073709551615 := by omega
        have HZ := Aside0.mk (show w.heap.size ≤ wr.heap.size from HB.out.size)
        clear HA hw1 hxl
        go_wp2_with fail
        refine (headgateref04_Unword.calls Kw s a x a1 _ HW1.out).mono ?_
        rintro e w2 ⟨rfl, hd2⟩
        have b2 : w2.heap[wr.heap.size]? = some (.cells #[.string ⟨#[]⟩, .int .i64 0] 43 (0, 0)) := blk_below (blk_new wr _) (dr_below hd2 _)
        have HO2 : Aside0 (Kd.R k43 43 w2 w.heap.size (fun k => k < wr.heap.size) u6 xs) := ⟨Kd.R_below (Kd.R_alloc (R_then HO.out) _) (dr_below hd2 _)⟩
        have HB2 := Aside0.mk ((below_alloc HB.out _).trans (dr_below hd2 w.heap.size))
        have B2 := Aside0.mk b2
        have c20 : w2.cell? ⟨wr.heap.size, 0, none⟩ = some (.string ⟨#[]⟩) := (blk_cell b2 0).trans rfl
        have f20 := blk_frozen b2 0
        clear b2 hd2 HO HB
        by_cases hbad : a1 < 0 ∨ a1 ≥ s.size
        · have hst : stC s a = (⟨⟨#[]⟩, 0⟩, -1) := by
            unfold stC
            rw [hxa]
            exact if_pos hbad
          rw [hst] at hA
          have hR : R = ([], false) := by
            cases k1 with
            | zero => simp [loopX] at hA
            | succ k2 =>
              simp only [loopX] at hA
              rw [if_neg (by omega), if_neg (by omega)] at hA
              exact (Option.some.inj hA).symm
          subst hR
          have HBe := Aside0.mk (below_set HB2.out HZ.out (j := 0) (v := .string x))
          have e1 : (decide (a1 < 0) || decide ((s.size : Int) ≤ a1)) = true := by
            rcases hbad with h | h
            · simp [h]
            · simp [show (s.size : Int) ≤ a1 from h]
          by_cases h0 : a1 < 0
          · have q0 : decide (a1 < 0) = true := decide_eq_true h0
            clear hA hst hbad hg1 hxa hle hc e1 h0
            go_wp2
            go_ret2
            exact ⟨_, rfl, Kd.R_nil _ _ _ _ _, HBe.out⟩
          · have q0 : decide (a1 < 0) = false := decide_eq_false h0
            have q1 : decide ((s.size : Int) ≤ a1) = true := decide_eq_true (by omega)
            clear hA hst hbad hg1 hxa hle hc e1 h0
            go_wp2
            go_ret2
            exact ⟨_, rfl, Kd.R_nil _ _ _ _ _, HBe.out⟩
        have h0 : ¬ a1 < 0 := fun h => hbad (.inl h)
        have h1 : ¬ (s.size : Int) ≤ a1 := fun h => hbad (.inr h)
        have hst : stC s a = (⟨x, wrap64 (bt s a1)⟩, a1 + 1) := by
          unfold stC
          rw [hxa]
          exact if_neg hbad
        rw [hst] at hA
        simp only at hA
        have HA2 : Aside0 (loopX s.size (stC s) n k1 (a1 + 1) (xs ++ [(⟨x, wrap64 (bt s a1)⟩ : Co)]) ((i + 1 : Nat) : Int) = some R) := ⟨by rw [show ((i + 1 : Nat) : Int) = (i : Int) + 1 by omega]; exact hA⟩
        have HG2 := Aside0.mk (show a1 + 1 ≤ (s.size : Int) ∧ (a1 + 1 < 0 ∨ ((xs ++ [(⟨x, wrap64 (bt s a1)⟩ : Co)]).length : Int) ≤ a1 + 1 + 1) from ⟨by omega, by rw [List.length_append]; simp only [List.length_cons, List.length_nil]; have := HI.out; omega⟩)
        have q0 : decide (a1 < 0) = false := decide_eq_false h0
        have q1 : decide ((s.size : Int) ≤ a1) = false := decide_eq_false h1
        have p0 := eq_true (show 0 ≤ a1 by omega)
        have p1 := eq_true (show a1 < (s.size : Int) by omega)
        have hx := bt_at s a1
        have hwa : wrap64 (a1 + 1) = a1 + 1 := wrap_in (by unfold in64; have := HS.out; omega)
        have b3 : (w2.setCell ⟨wr.heap.size, 0, none⟩ (.string x)).heap[wr.heap.size]? = some (.cells #[.string x, .int .i64 0] 43 (0, 0)) := blk_set B2.out 0 (.string x)
        have HO3 : Aside0 (Kd.R k43 43 (w2.setCell ⟨wr.heap.size, 0, none⟩ (.string x)) w.heap.size (fun k => k < wr.heap.size) u6 xs) := ⟨R_new_cell HO2.out (Nat.le_refl _) 0 (.string x)⟩
        have HB3 := Aside0.mk (below_set HB2.out HZ.out (j := 0) (v := .string x))
        clear hA hst hbad hg1 hxa hle hc h0 h1 HO2 HB2
        go_upto_region 10 with (fail)
        clear c20 f20
        generalize w2.setCell ⟨wr.heap.size, 0, none⟩ (.string x) = w3 at b3 HO3 HB3 ⊢
        have c31 : w3.cell? ⟨wr.heap.size, 1, none⟩ = some (.int .i64 0) := (blk_cell b3 1).trans rfl
        have f31 := blk_frozen b3 1
        have HO4 : Aside0 (Kd.R k43 43 (w3.setCell ⟨wr.heap.size, 1, none⟩ (.int .i64 (wrap64 (bt s a1)))) w.heap.size (fun _ => True) u6 xs) := ⟨Kd.R_mono (R_new_cell HO3.out (Nat.le_refl _) 1 (.int .i64 (wrap64 (bt s a1)))) (fun _ _ => trivial)⟩
        have HB4 := Aside0.mk (below_set HB3.out HZ.out (j := 1) (v := .int .i64 (wrap64 (bt s a1))))
        have HZ4 := Aside0.mk (show w.heap.size ≤ (w3.setCell ⟨wr.heap.size, 1, none⟩ (.int .i64 (wrap64 (bt s a1)))).heap.size from HB4.out.size)
        have b4 := blk_set b3 1 (.int .i64 (wrap64 (bt s a1)))
        have d0 : (w3.setCell ⟨wr.heap.size, 1, none⟩ (.int .i64 (wrap64 (bt s a1)))).cell? ⟨wr.heap.size, 0, none⟩ = some (.string x) := (blk_cell b4 0).trans rfl
        have d1 : (w3.setCell ⟨wr.heap.size, 1, none⟩ (.int .i64 (wrap64 (bt s a1)))).cell? ⟨wr.heap.size, 1, none⟩ = some (.int .i64 (wrap64 (bt s a1))) := (blk_cell b4 1).trans rfl
        clear b3 b4 B2 HO3 HB3
        go_upto_region 12 with (fail)
        clear c31 f31
        generalize w3.setCell ⟨wr.heap.size, 1, none⟩ (.int .i64 (wrap64 (bt s a1))) = W4 at HO4 HB4 HZ4 d0 d1 ⊢
        have hbb := wrap_byte (bt_range s a1)
        generalize hyb : wrap64 (bt s a1) = y at HA2 HG2 d0 d1 ⊢
        go_wp2_with (first | ((with_reducible refine gate_builtin (b := .append) (xs := #[.tmp 46, .tmp 48]) rfl ?_); (try (refine gate_guard (by rfl) ?_; dsimp only)); at_builtin; refine Kd.R_append k43 (w0 := w) w.heap.size rfl (.tmp 46) (.tmp 48) 38 43 (.agg #[.string ⟨#[]⟩, .int .i64 0]) 24 rfl Try.underlying38 info43 rfl (by decide) (by omega) u6 xs (⟨x, y⟩ : Co) [.string x, .int .i64 y] (fun _ => True) (fun _ => False) rfl rfl ?aP (fun _ hk => hk.elim) ?aF ?aO ?aB ?aS ?aL ?_; (case aP => exact k43_mkM _ _ _ (⟨x, y⟩ : Co)); (case aB => exact HB4.out); (case aF => exact (fun _ _ => trivial)); (case aO => exact HO4.out); (case aS => exact HZ4.out); (case aL => have := HXL.out; omega); intro v1 w4 ho hb hg hat; have HO5 := Aside0.mk ho; have HB5 := Aside0.mk hb; clear ho hb hg hat))
        go_roundg k1
        case measure => omega
        case rel => exact ⟨a1 + 1, xs ++ [⟨x, y⟩], i + 1, by congr 1, by congr 1, HA2, HG2, HO5, HB5⟩
      · rw [if_neg hc] at hA
        have cc : (decide ((i : Int) < n) && decide (0 ≤ a)) = false := by
          by_cases h1 : (i : Int) < n
          · have h2 : ¬ 0 ≤ a := fun h => hc ⟨h1, h⟩
            simp [h2]
          · simp [h1]
        obtain ⟨Ax, cx, rfl⟩ := Kd.R_slice HO.out
        have hsz : ¬ 16777216 < (s.size : Int) := by have := HS.out; omega
        have z1 : decide (16777216 < (s.size : Int)) = false := decide_eq_false hsz
        have z2 : decide (16777216 < s.size) = false := decide_eq_false (by omega)
        by_cases he : a = (s.size : Int)
        · rw [if_pos ⟨he, by omega⟩] at hA
          have hR := Option.some.inj hA
          subst hR
          have e1 : (a != (s.size : Int)) = false := by simpa using he
          have hcc : ¬ (i : Int) < n := fun h => hc ⟨h, by omega⟩
          have c1 : decide ((i : Int) < n) = false := decide_eq_false hcc
          clear hA HA hc hcc he
          go_wp2
          go_ret2
          exact ⟨_, rfl, HO.out, HB.out⟩
        · rw [if_neg (fun h => he h.1)] at hA
          have hR := Option.some.inj hA
          subst hR
          have e1 : (a != (s.size : Int)) = true := by simpa using he
          clear hA HA he
          by_cases h1 : (i : Int) < n
          · have c1 : decide ((i : Int) < n) = true := decide_eq_true h1
            have c2 : decide (0 ≤ a) = false := decide_eq_false (fun h => hc ⟨h1, h⟩)
            clear hc h1 cc
            go_wp2
            go_ret2
            exact ⟨_, rfl, Kd.R_nil _ _ _ _ _, HB.out⟩
          · have c1 : decide ((i : Int) < n) = false := decide_eq_false h1
            clear hc h1 cc
            go_wp2
            go_ret2
            exact ⟨_, rfl, Kd.R_nil _ _ _ _ _, HB.out⟩
end Go.Proofs.Ytgihecpobichbaa.Q
-- Written by a program of the session over the translation's print: functions as plain Lean, and that the machine's call comes to them.
namespace Go.Proofs.Ytgihecpobichbaa.Q
open Go.RowKit Go.Proofs.YtgihecpobichbaaW.PrintWords Go.Proofs.YtgihecpobichbaaW.PrintLast Go.Proofs.YtgihecpobichbaaW.PrintMore
attribute [local go_sem] max2_int min2_int max_two min_two max_three min_three max_four min_four   -- for this text's walks alone
set_option linter.unusedVariables false
set_option linter.unusedSimpArgs false

/-! ### headgateref04_Unvalue: function 94 -/
mutual
def headgateref04_Unvalue.j0 : Nat → ByteArray → Int → Bool → Option (Int × Int × ByteArray × Int)
  | 0, _, _, _ => none
  | k + 1, x0, x1, x15 => if x15 = true then (some (0, 0, (⟨#[]⟩ : ByteArray), (-1))) else (if 0 ≤ x1 then (if x1 < (x0.size : Int) then (if (wrap64 (bt x0 x1)) = 1 then ((headgateref04_Unint.f k x0 (wrap64 (x1 + 1))).bind fun bt106 => (headgateref04_Unvalue.j1 k bt106.2 (wrap64 (bt x0 x1)) bt106.1 (⟨#[]⟩ : ByteArray))) else (if (wrap64 (bt x0 x1)) = 2 then (if (wrap64 (x1 + 1)) ≥ (x0.size : Int) then (some (wrap64 (bt x0 x1), 0, (⟨#[]⟩ : ByteArray), (-1))) else (if 0 ≤ (wrap64 (x1 + 1)) then (if (wrap64 (x1 + 1)) < (x0.size : Int) then (headgateref04_Unvalue.j1 k (wrap64 ((wrap64 (x1 + 1)) + 1)) (wrap64 (bt x0 x1)) (wrap64 (bt x0 (wrap64 (x1 + 1)))) (⟨#[]⟩ : ByteArray)) else (none)) else (none))) else (if (wrap64 (bt x0 x1)) = 3 then ((headgateref04_Unword.f k x0 (wrap64 (x1 + 1))).bind fun bt108 => (headgateref04_Unvalue.j1 k bt108.2 (wrap64 (bt x0 x1)) 0 bt108.1)) else (headgateref04_Unvalue.j1 k (wrap64 (x1 + 1)) (wrap64 (bt x0 x1)) 0 (⟨#[]⟩ : ByteArray))))) else (none)) else (none))
def headgateref04_Unvalue.j1 : Nat → Int → Int → Int → ByteArray → Option (Int × Int × ByteArray × Int)
  | 0, _, _, _, _ => none
  | k + 1, x7, x106000, x106001, x106002 => (headgateref03_Check.f k x106000 x106001 x106002).bind fun t110 => (if t110 = 0 then (some (x106000, x106001, x106002, x7)) else (some (x106000, x106001, x106002, (-1))))
end
def headgateref04_Unvalue.f (k : Nat) (a0 : ByteArray) (a1 : Int) : Option (Int × Int × ByteArray × Int) := if a1 < 0 then (headgateref04_Unvalue.j0 k a0 a1 true) else (headgateref04_Unvalue.j0 k a0 a1 (decide (a1 ≥ (a0.size : Int))))
set_option maxHeartbeats 8000000 in
set_option maxRecDepth 100000 in
theorem headgateref04_Unvalue.calls (k : Nat) (a0 : ByteArray) (a1 : Int) (r1 : Int) (r2 : Int) (r3 : ByteArray) (r4 : Int) (w : World) (h : headgateref04_Unvalue.f k a0 a1 = some (r1, r2, r3, r4)) :
    Calls Try.prog 94 #[.string a0, .int .i64 a1] w fun e w' => e = .returned (.tuple #[.agg #[.int .i64 r1, .int .i64 r2, .string r3], .int .i64 r4]) ∧ Below w.heap.size w w' := by
  have hu116 := Try.underlying116
  have HB := Aside0.mk (Below.refl w.heap.size w)
  have H : (if a1 < 0 then (headgateref04_Unvalue.j0 k a0 a1 true) else (headgateref04_Unvalue.j0 k a0 a1 (decide (a1 ≥ (a0.size : Int))))) = some (r1, r2, r3, r4) := h
  clear h
  have HC3 := Aside0.mk H
  clear H
  go_enter Try.func94, Try.ntmps94
  go_upto_region 1 with (first | ((with_reducible refine gate_dst (N := 4) rfl ?_); (try (refine gate_guard (by rfl) ?_; dsimp only)); refine box_event ?hg (N := 4) ?hd (cs := #[.int .i64 0, .int .i64 0, .string (⟨#[]⟩ : ByteArray)]) (t := 116) ?hr ?_; (case hd => rfl); (case hg => rfl); (case hr => first | (go_simp; done) | (go_simp; rfl)); intro gb104 hg w4 hbox hb; have n0_ := Aside0.mk (below_step (by repeat (first | (with_reducible first | exact HB.out | apply below_alloc | apply pw_below_drewN | apply below_drew1) | exact HB.out)) hb); have n1_ := Aside0.mk (hbox); have n2_ := Aside0.mk ((by rw [hg]; exact (below_size (by repeat (first | (with_reducible first | exact HB.out | apply below_alloc | apply pw_below_drewN | apply below_drew1) | exact HB.out))) : w.heap.size ≤ gb104)); have n3_ := Aside0.mk ((by rw [hg]; exact (below_size (by repeat (first | (with_reducible first | exact HB.out | apply below_alloc | apply pw_below_drewN | apply below_drew1) | exact HB.out))) : w.heap.size ≤ gb104)); clear HB; have HB := n0_; have BK104 := n1_; have GW104 := n2_; have GE104 := n3_; clear n0_ n1_ n2_ n3_; clear hb hbox hg))
  (try simp only [Act.put, List.setIfInBounds_toArray, List.set_cons_zero, List.set_cons_succ])
  go_cut [15] (fun v15 wc => ∃ (kq : Nat) (x15_2 : Bool), v15 = .bool x15_2 ∧ Aside0 (headgateref04_Unvalue.j0 kq a0 a1 x15_2 = some (r1, r2, r3, r4)) ∧ Aside0 (kq ≤ k) ∧ Aside0 (wc.heap[gb104]? = some (.cells #[.int .i64 0, .int .i64 0, .string (⟨#[]⟩ : ByteArray)] 116 (0, 0))) ∧ Aside0 (Below w.heap.size w wc))
  case first =>
    have H := HC3.out
    clear HC3
    by_cases c5 : a1 < 0
    · rw [if_pos c5] at H
      have c5b0 : decide (a1 < 0) = true := decide_eq_true c5
      clear c5
      (first | rw [c5b0] | (simp only [i64_w, i32_w]; rw [c5b0]) | skip)
      have H' := Aside0.mk H
      clear H
      go_wp2
      go_meet
      case rel => exact ⟨_, (true), (by first | rfl | (simp; done) | (simp [*]; done) | (simp; rw [Bool.eq_iff_iff]; simp; done)), H', ⟨by first | omega | exact Nat.le_refl _⟩, ⟨by (with_reducible repeat (first | refine blk_drewN ?_ _ | refine blk_drew ?_ | refine blk_alloc ?_ _)); exact BK104.out⟩, ⟨by repeat (first | (with_reducible first | exact HB.out | apply below_alloc | apply pw_below_drewN | apply below_drew1 | refine below_set ?_ GE104.out) | exact HB.out)⟩⟩
    · rw [if_neg c5] at H
      have c5b0 : decide (a1 < 0) = false := decide_eq_false c5
      clear c5
      (first | rw [c5b0] | (simp only [i64_w, i32_w]; rw [c5b0]) | skip)
      have H' := Aside0.mk H
      clear H
      go_wp2
      go_meet
      case rel => exact ⟨_, (decide (a1 ≥ (a0.size : Int))), (by first | rfl | (simp; done) | (simp [*]; done) | (simp; rw [Bool.eq_iff_iff]; simp; done)), H', ⟨by first | omega | exact Nat.le_refl _⟩, ⟨by (with_reducible repeat (first | refine blk_drewN ?_ _ | refine blk_drew ?_ | refine blk_alloc ?_ _)); exact BK104.out⟩, ⟨by repeat (first | (with_reducible first | exact HB.out | apply below_alloc | apply pw_below_drewN | apply below_drew1 | refine below_set ?_ GE104.out) | exact HB.out)⟩⟩
  case rest =>
    clear HC3
    try clear p2
    try clear c5
    try clear c5b0
    obtain ⟨kq, x15_2, rfl, HA, HJ2, BK104, HB⟩ := hcut
    cases kq with
    | zero => exact absurd HA.out (by simp [headgateref04_Unvalue.j0])
    | succ kj2 =>
      have H := HA.out
      clear HA
      simp only [headgateref04_Unvalue.j0] at H
      by_cases c6 : x15_2 = true
      · subst c6
        have H1 : (some (0, 0, (⟨#[]⟩ : ByteArray), (-1))) = some (r1, r2, r3, r4) := by rw [if_pos rfl] at H; exact H
        clear H
        have H := H1
        clear H1
        simp only [Option.some.injEq, Prod.mk.injEq] at H
        obtain ⟨rfl, rfl, rfl, rfl⟩ := H
        obtain ⟨hcz7_0, hcz7_1, hcz7_2, hfz7_0, hfz7_1, hfz7_2⟩ := bf3 BK104.out
        go_wp2
        refine bodyPost_ret (results_ct rfl _ _ gb104 116 #[.int .i64 0, .int .i64 0, .string (⟨#[]⟩ : ByteArray)] (0, 0) _ rfl (by (with_reducible repeat (first | refine blk_drewN ?_ _ | refine blk_drew ?_ | refine blk_alloc ?_ _)); refine blk_put (cs := #[.int .i64 0, .int .i64 0, .string (⟨#[]⟩ : ByteArray)]) ?_ 2 _ rfl; (with_reducible repeat (first | refine blk_drewN ?_ _ | refine blk_drew ?_ | refine blk_alloc ?_ _)); refine blk_put (cs := #[.int .i64 0, .int .i64 0, .string (⟨#[]⟩ : ByteArray)]) ?_ 1 _ rfl; (with_reducible repeat (first | refine blk_drewN ?_ _ | refine blk_drew ?_ | refine blk_alloc ?_ _)); refine blk_put (cs := #[.int .i64 0, .int .i64 0, .string (⟨#[]⟩ : ByteArray)]) ?_ 0 _ rfl; (with_reducible repeat (first | refine blk_drewN ?_ _ | refine blk_drew ?_ | refine blk_alloc ?_ _)); exact BK104.out) Try.underlying116 rfl (by kernel_rfl)) rfl ?_
        exact ⟨by first | rfl | (simp [errW_none, errW_some] <;> rfl) | (simp [*, errW_none, errW_some] <;> rfl), by repeat (first | (with_reducible first | exact HB.out | apply below_alloc | apply pw_below_drewN | apply below_drew1 | refine below_set ?_ GE104.out) | exact HB.out)⟩
      · replace c6 := Bool.eq_false_iff.mpr c6
        subst c6
        have H1 : (if 0 ≤ a1 then (if a1 < (a0.size : Int) then (if (wrap64 (bt a0 a1)) = 1 then ((headgateref04_Unint.f kj2 a0 (wrap64 (a1 + 1))).bind fun bt106 => (headgateref04_Unvalue.j1 kj2 bt106.2 (wrap64 (bt a0 a1)) bt106.1 (⟨#[]⟩ : ByteArray))) else (if (wrap64 (bt a0 a1)) = 2 then (if (wrap64 (a1 + 1)) ≥ (a0.size : Int) then (some (wrap64 (bt a0 a1), 0, (⟨#[]⟩ : ByteArray), (-1))) else (if 0 ≤ (wrap64 (a1 + 1)) then (if (wrap64 (a1 + 1)) < (a0.size : Int) then (headgateref04_Unvalue.j1 kj2 (wrap64 ((wrap64 (a1 + 1)) + 1)) (wrap64 (bt a0 a1)) (wrap64 (bt a0 (wrap64 (a1 + 1)))) (⟨#[]⟩ : ByteArray)) else (none)) else (none))) else (if (wrap64 (bt a0 a1)) = 3 then ((headgateref04_Unword.f kj2 a0 (wrap64 (a1 + 1))).bind fun bt108 => (headgateref04_Unvalue.j1 kj2 bt108.2 (wrap64 (bt a0 a1)) 0 bt108.1)) else (headgateref04_Unvalue.j1 kj2 (wrap64 (a1 + 1)) (wrap64 (bt a0 a1)) 0 (⟨#[]⟩ : ByteArray))))) else (none)) else (none)) = some (r1, r2, r3, r4) := by rw [if_neg (show ¬ (false = true) by decide)] at H; exact H
        clear H
        have H := H1
        clear H1
        by_cases c8 : 0 ≤ a1
        · rw [if_pos c8] at H
          have c8b0 : decide (0 ≤ a1) = true := decide_eq_true c8
          clear c8
          by_cases c9 : a1 < (a0.size : Int)
          · rw [if_pos c9] at H
            have c9b0 : decide (a1 < (a0.size : Int)) = true := decide_eq_true c9
            clear c9
            have HC11 := Aside0.mk H
            clear H
            have p10 : 0 ≤ (a1 : Int) := of_decide_eq_true (by first | (with_reducible assumption) | assumption)
            have q10 : a1 < (a0.size : Int) := of_decide_eq_true (by first | (with_reducible assumption) | assumption)
            have hx10 := bt_at a0 a1
            replace p10 := eq_true p10
            replace q10 := eq_true q10
            go_upto_block 0 with (first | ((with_reducible refine gate_dst (N := 6) rfl ?_); (try (refine gate_guard (by rfl) ?_; dsimp only)); refine box_event ?hg (N := 6) ?hd (cs := #[.int .i64 0, .int .i64 0, .string (⟨#[]⟩ : ByteArray)]) (t := 116) ?hr ?_; (case hd => rfl); (case hg => rfl); (case hr => first | (go_simp; done) | (go_simp; rfl)); intro gb105 hg w12 hbox hb; have n0_ := Aside0.mk (blk_below (g := gb104) (o := .cells #[.int .i64 0, .int .i64 0, .string (⟨#[]⟩ : ByteArray)] 116 (0, 0)) (by (with_reducible repeat (first | refine blk_drewN ?_ _ | refine blk_drew ?_ | refine blk_alloc ?_ _)); exact BK104.out) hb); have n1_ := Aside0.mk (below_step (by repeat (first | (with_reducible first | exact HB.out | apply below_alloc | apply pw_below_drewN | apply below_drew1 | refine below_set ?_ GE104.out) | exact HB.out)) hb); have n2_ := Aside0.mk (hbox); have n3_ := Aside0.mk ((by rw [hg]; exact (below_size (by repeat (first | (with_reducible first | exact HB.out | apply below_alloc | apply pw_below_drewN | apply below_drew1 | refine below_set ?_ GE104.out) | exact HB.out))) : w.heap.size ≤ gb105)); have n4_ := Aside0.mk ((by rw [hg]; exact (below_size (by repeat (first | (with_reducible first | exact HB.out | apply below_alloc | apply pw_below_drewN | apply below_drew1 | refine below_set ?_ GE104.out) | exact HB.out))) : w.heap.size ≤ gb105)); have n5_ := Aside0.mk ((by rw [hg]; exact Nat.ne_of_lt (blk_lt (g := gb104) (o := .cells #[.int .i64 0, .int .i64 0, .string (⟨#[]⟩ : ByteArray)] 116 (0, 0)) (by (with_reducible repeat (first | refine blk_drewN ?_ _ | refine blk_drew ?_ | refine blk_alloc ?_ _)); exact BK104.out)) : gb104 ≠ gb105)); have n6_ := Aside0.mk ((by rw [hg]; exact Nat.ne_of_gt (blk_lt (g := gb104) (o := .cells #[.int .i64 0, .int .i64 0, .string (⟨#[]⟩ : ByteArray)] 116 (0, 0)) (by (with_reducible repeat (first | refine blk_drewN ?_ _ | refine blk_drew ?_ | refine blk_alloc ?_ _)); exact BK104.out)) : gb105 ≠ gb104)); clear BK104; clear HB; have BK104 := n0_; have HB := n1_; have BK105 := n2_; have GW105 := n3_; have GE105 := n4_; have NB104_105 := n5_; have NB105_104 := n6_; clear n0_ n1_ n2_ n3_ n4_ n5_ n6_; clear hb hbox hg; have hnb13 := NB105_104.out; have hnc13 := NB104_105.out; obtain ⟨hcz14_0, hcz14_1, hcz14_2, hfz14_0, hfz14_1, hfz14_2⟩ := bf3 BK105.out))
            (try simp only [Act.put, List.setIfInBounds_toArray, List.set_cons_zero, List.set_cons_succ])
            go_cut [7] (fun v7 wc => ∃ (kq : Nat) (x7_10 : Int) (x105000_10 : Int) (x105001_10 : Int) (x105002_10 : ByteArray) (x106001_10 : Int) (x106002_10 : ByteArray), v7 = .int .i64 x7_10 ∧ Aside0 (headgateref04_Unvalue.j1 kq x7_10 (wrap64 (bt a0 a1)) x106001_10 x106002_10 = some (r1, r2, r3, r4)) ∧ Aside0 (kq ≤ kj2) ∧ Aside0 (wc.heap[gb104]? = some (.cells #[.int .i64 x105000_10, .int .i64 x105001_10, .string x105002_10] 116 (0, 0))) ∧ Aside0 (wc.heap[gb105]? = some (.cells #[.int .i64 (wrap64 (bt a0 a1)), .int .i64 x106001_10, .string x106002_10] 116 (0, 0))) ∧ Aside0 (Below w.heap.size w wc))
            case first =>
              have H := HC11.out
              clear HC11
              by_cases c15 : (wrap64 (bt a0 a1)) = 1
              · rw [if_pos c15] at H
                have c15b0 : ((wrap64 (bt a0 a1)) == 1) = true := beq_iff_eq.mpr c15
                have c15b1 : ((wrap64 (bt a0 a1)) != 1) = false := bne_eq_false_iff_eq.mpr c15
                clear c15
                (first | rw [c15b0] | (simp only [i64_w, i32_w]; rw [c15b0]) | skip)
                replace H := Option.bind_eq_some_iff.mp H
                obtain ⟨⟨t106, t107⟩, A160, H⟩ := H
                replace H : (headgateref04_Unvalue.j1 kj2 t107 (wrap64 (bt a0 a1)) t106 (⟨#[]⟩ : ByteArray)) = some (r1, r2, r3, r4) := H
                have A16 := Aside0.mk A160
                clear A160
                have H' := Aside0.mk H
                clear H
                go_wp2_with (first | ((with_reducible refine gate_callee (f := 96) rfl ?_); refine goesL_ (some 31) rfl rfl Try.func96 (by kernel_rfl) rfl #[.string a0, .int .i64 (wrap64 (a1 + 1))] rfl (by (try simp only [List.map_toArray, List.map_cons, List.map_nil]); first | done | rfl | (simp only [List.length_drop, List.length_take]; rfl) | exact congrArg (fun x_ : Int => #[Value.int .u64 x_]) (show _ = _ % (18446744073709551616 : Int) by omega)) ?_; (with_reducible refine (headgateref04_Unint.calls kj2 a0 (wrap64 (a1 + 1)) t106 t107 _ A16.out).mono ?_); rintro e w' ⟨rfl, ⟨nd, rfl⟩⟩; refine ⟨_, rfl, ?_⟩; have hnb17 := NB105_104.out; have hnc17 := NB104_105.out; obtain ⟨hcz18_0, hcz18_1, hcz18_2, hfz18_0, hfz18_1, hfz18_2⟩ := bf3 BK105.out))
                go_meet
                case rel => exact ⟨_, (t107), (0), (0), ((⟨#[]⟩ : ByteArray)), (t106), ((⟨#[]⟩ : ByteArray)), (by first | rfl | (simp; done) | (simp [*]; done) | (simp; rw [Bool.eq_iff_iff]; simp; done)), H', ⟨by have := HJ2.out; first | omega | exact Nat.le_refl _⟩, ⟨by (with_reducible repeat (first | refine blk_drewN ?_ _ | refine blk_drew ?_ | refine blk_alloc ?_ _)); refine blk_far ?_ NB104_105.out _; (with_reducible repeat (first | refine blk_drewN ?_ _ | refine blk_drew ?_ | refine blk_alloc ?_ _)); refine blk_far ?_ NB104_105.out _; (with_reducible repeat (first | refine blk_drewN ?_ _ | refine blk_drew ?_ | refine blk_alloc ?_ _)); refine blk_far ?_ NB104_105.out _; (with_reducible repeat (first | refine blk_drewN ?_ _ | refine blk_drew ?_ | refine blk_alloc ?_ _)); refine blk_far ?_ NB104_105.out _; (with_reducible repeat (first | refine blk_drewN ?_ _ | refine blk_drew ?_ | refine blk_alloc ?_ _)); exact BK104.out⟩, ⟨by (with_reducible repeat (first | refine blk_drewN ?_ _ | refine blk_drew ?_ | refine blk_alloc ?_ _)); refine blk_put (cs := #[.int .i64 (wrap64 (bt a0 a1)), .int .i64 0, .string (⟨#[]⟩ : ByteArray)]) ?_ 1 _ rfl; (with_reducible repeat (first | refine blk_drewN ?_ _ | refine blk_drew ?_ | refine blk_alloc ?_ _)); refine blk_put (cs := #[.int .i64 (wrap64 (bt a0 a1)), .int .i64 0, .string (⟨#[]⟩ : ByteArray)]) ?_ 2 _ rfl; (with_reducible repeat (first | refine blk_drewN ?_ _ | refine blk_drew ?_ | refine blk_alloc ?_ _)); refine blk_put (cs := #[.int .i64 (wrap64 (bt a0 a1)), .int .i64 0, .string (⟨#[]⟩ : ByteArray)]) ?_ 1 _ rfl; (with_reducible repeat (first | refine blk_drewN ?_ _ | refine blk_drew ?_ | refine blk_alloc ?_ _)); refine blk_put (cs := #[.int .i64 0, .int .i64 0, .string (⟨#[]⟩ : ByteArray)]) ?_ 0 _ rfl; (with_reducible repeat (first | refine blk_drewN ?_ _ | refine blk_drew ?_ | refine blk_alloc ?_ _)); exact BK105.out⟩, ⟨by repeat (first | (with_reducible first | exact HB.out | apply below_alloc | apply pw_below_drewN | apply below_drew1 | refine below_set ?_ GE104.out | refine below_set ?_ GE105.out) | exact HB.out)⟩⟩
              · rw [if_neg c15] at H
                have c15b0 : ((wrap64 (bt a0 a1)) == 1) = false := beq_eq_false_iff_ne.mpr c15
                have c15b1 : ((wrap64 (bt a0 a1)) != 1) = true := bne_iff_ne.mpr c15
                (first | rw [c15b0] | (simp only [i64_w, i32_w]; rw [c15b0]) | skip)
                by_cases c19 : (wrap64 (bt a0 a1)) = 2
                · rw [if_pos c19] at H
                  have c19b0 : ((wrap64 (bt a0 a1)) == 2) = true := beq_iff_eq.mpr c19
                  have c19b1 : ((wrap64 (bt a0 a1)) != 2) = false := bne_eq_false_iff_eq.mpr c19
                  clear c19
                  by_cases c20 : (wrap64 (a1 + 1)) ≥ (a0.size : Int)
                  · rw [if_pos c20] at H
                    have c20b0 : decide ((a0.size : Int) ≤ (wrap64 (a1 + 1))) = true := decide_eq_true c20
                    clear c20
                    simp only [Option.some.injEq, Prod.mk.injEq] at H
                    obtain ⟨rfl, rfl, rfl, rfl⟩ := H
                    have hnb21 := NB105_104.out
                    have hnc21 := NB104_105.out
                    obtain ⟨hcz22_0, hcz22_1, hcz22_2, hfz22_0, hfz22_1, hfz22_2⟩ := bf3 BK105.out
                    obtain ⟨hcz23_0, hcz23_1, hcz23_2, hfz23_0, hfz23_1, hfz23_2⟩ := bf3 BK104.out
                    go_wp2
                    refine bodyPost_ret (results_ct rfl _ _ gb104 116 #[.int .i64 (wrap64 (bt a0 a1)), .int .i64 0, .string (⟨#[]⟩ : ByteArray)] (0, 0) _ rfl (by (with_reducible repeat (first | refine blk_drewN ?_ _ | refine blk_drew ?_ | refine blk_alloc ?_ _)); refine blk_put (cs := #[.int .i64 (wrap64 (bt a0 a1)), .int .i64 0, .string (⟨#[]⟩ : ByteArray)]) ?_ 2 _ rfl; (with_reducible repeat (first | refine blk_drewN ?_ _ | refine blk_drew ?_ | refine blk_alloc ?_ _)); refine blk_put (cs := #[.int .i64 (wrap64 (bt a0 a1)), .int .i64 0, .string (⟨#[]⟩ : ByteArray)]) ?_ 1 _ rfl; (with_reducible repeat (first | refine blk_drewN ?_ _ | refine blk_drew ?_ | refine blk_alloc ?_ _)); refine blk_put (cs := #[.int .i64 0, .int .i64 0, .string (⟨#[]⟩ : ByteArray)]) ?_ 0 _ rfl; (with_reducible repeat (first | refine blk_drewN ?_ _ | refine blk_drew ?_ | refine blk_alloc ?_ _)); refine blk_far ?_ NB104_105.out _; (with_reducible repeat (first | refine blk_drewN ?_ _ | refine blk_drew ?_ | refine blk_alloc ?_ _)); refine blk_far ?_ NB104_105.out _; (with_reducible repeat (first | refine blk_drewN ?_ _ | refine blk_drew ?_ | refine blk_alloc ?_ _)); refine blk_far ?_ NB104_105.out _; (with_reducible repeat (first | refine blk_drewN ?_ _ | refine blk_drew ?_ | refine blk_alloc ?_ _)); exact BK104.out) Try.underlying116 rfl (by kernel_rfl)) rfl ?_
                    exact ⟨by first | rfl | (simp [errW_none, errW_some] <;> rfl) | (simp [*, errW_none, errW_some] <;> rfl), by repeat (first | (with_reducible first | exact HB.out | apply below_alloc | apply pw_below_drewN | apply below_drew1 | refine below_set ?_ GE104.out | refine below_set ?_ GE105.out) | exact HB.out)⟩
                  · rw [if_neg c20] at H
                    have c20b0 : decide ((a0.size : Int) ≤ (wrap64 (a1 + 1))) = false := decide_eq_false c20
                    clear c20
                    obtain ⟨ji24, hji24⟩ : ∃ j_ : Int, (wrap64 (a1 + 1)) = j_ := ⟨_, rfl⟩
                    replace H : (if 0 ≤ (ji24) then (if (ji24) < (a0.size : Int) then (headgateref04_Unvalue.j1 kj2 (wrap64 ((ji24) + 1)) (wrap64 (bt a0 a1)) (wrap64 (bt a0 (ji24))) (⟨#[]⟩ : ByteArray)) else (none)) else (none)) = some (r1, r2, r3, r4) := by first | (rw [hji24] at H; exact H) | (simp only [hji24] at H ⊢; exact H)
                    (try rw [hji24] at c20b0)
                    have hji24w : (IntKind.i64.wrap (a1 + 1)) = ji24 := (i64_w _).trans hji24
                    by_cases c25 : 0 ≤ (ji24)
                    · rw [if_pos c25] at H
                      have c25b0 : decide (0 ≤ (ji24)) = true := decide_eq_true c25
                      clear c25
                      by_cases c26 : (ji24) < (a0.size : Int)
                      · rw [if_pos c26] at H
                        have c26b0 : decide ((ji24) < (a0.size : Int)) = true := decide_eq_true c26
                        clear c26
                        have H' := Aside0.mk H
                        clear H
                        have p27 : 0 ≤ ((ji24) : Int) := of_decide_eq_true (by first | (with_reducible assumption) | assumption)
                        have q27 : (ji24) < (a0.size : Int) := of_decide_eq_true (by first | (with_reducible assumption) | assumption)
                        have hx27 := bt_at a0 (ji24)
                        replace p27 := eq_true p27
                        replace q27 := eq_true q27
                        have hnb28 := NB105_104.out
                        have hnc28 := NB104_105.out
                        obtain ⟨hcz29_0, hcz29_1, hcz29_2, hfz29_0, hfz29_1, hfz29_2⟩ := bf3 BK105.out
                        go_wp2
                        go_meet
                        case rel => exact ⟨_, (wrap64 ((ji24) + 1)), (0), (0), ((⟨#[]⟩ : ByteArray)), (wrap64 (bt a0 (ji24))), ((⟨#[]⟩ : ByteArray)), (by first | rfl | (simp; done) | (simp only [← hji24] <;> (first | rfl | simp)) | (simp [*]; done)), H', ⟨by have := HJ2.out; first | omega | exact Nat.le_refl _⟩, ⟨by (with_reducible repeat (first | refine blk_drewN ?_ _ | refine blk_drew ?_ | refine blk_alloc ?_ _)); refine blk_far ?_ NB104_105.out _; (with_reducible repeat (first | refine blk_drewN ?_ _ | refine blk_drew ?_ | refine blk_alloc ?_ _)); refine blk_far ?_ NB104_105.out _; (with_reducible repeat (first | refine blk_drewN ?_ _ | refine blk_drew ?_ | refine blk_alloc ?_ _)); refine blk_far ?_ NB104_105.out _; (with_reducible repeat (first | refine blk_drewN ?_ _ | refine blk_drew ?_ | refine blk_alloc ?_ _)); refine blk_far ?_ NB104_105.out _; (with_reducible repeat (first | refine blk_drewN ?_ _ | refine blk_drew ?_ | refine blk_alloc ?_ _)); exact BK104.out⟩, ⟨by (with_reducible repeat (first | refine blk_drewN ?_ _ | refine blk_drew ?_ | refine blk_alloc ?_ _)); refine blk_put (cs := #[.int .i64 (wrap64 (bt a0 a1)), .int .i64 0, .string (⟨#[]⟩ : ByteArray)]) ?_ 1 _ rfl; (with_reducible repeat (first | refine blk_drewN ?_ _ | refine blk_drew ?_ | refine blk_alloc ?_ _)); refine blk_put (cs := #[.int .i64 (wrap64 (bt a0 a1)), .int .i64 0, .string (⟨#[]⟩ : ByteArray)]) ?_ 2 _ rfl; (with_reducible repeat (first | refine blk_drewN ?_ _ | refine blk_drew ?_ | refine blk_alloc ?_ _)); refine blk_put (cs := #[.int .i64 (wrap64 (bt a0 a1)), .int .i64 0, .string (⟨#[]⟩ : ByteArray)]) ?_ 1 _ rfl; (with_reducible repeat (first | refine blk_drewN ?_ _ | refine blk_drew ?_ | refine blk_alloc ?_ _)); refine blk_put (cs := #[.int .i64 0, .int .i64 0, .string (⟨#[]⟩ : ByteArray)]) ?_ 0 _ rfl; (with_reducible repeat (first | refine blk_drewN ?_ _ | refine blk_drew ?_ | refine blk_alloc ?_ _)); exact BK105.out⟩, ⟨by repeat (first | (with_reducible first | exact HB.out | apply below_alloc | apply pw_below_drewN | apply below_drew1 | refine below_set ?_ GE104.out | refine below_set ?_ GE105.out) | exact HB.out)⟩⟩
                      · rw [if_neg c26] at H
                        exact absurd H (by simp)
                    · rw [if_neg c25] at H
                      exact absurd H (by simp)
                · rw [if_neg c19] at H
                  have c19b0 : ((wrap64 (bt a0 a1)) == 2) = false := beq_eq_false_iff_ne.mpr c19
                  have c19b1 : ((wrap64 (bt a0 a1)) != 2) = true := bne_iff_ne.mpr c19
                  by_cases c30 : (wrap64 (bt a0 a1)) = 3
                  · rw [if_pos c30] at H
                    have c30b0 : ((wrap64 (bt a0 a1)) == 3) = true := beq_iff_eq.mpr c30
                    have c30b1 : ((wrap64 (bt a0 a1)) != 3) = false := bne_eq_false_iff_eq.mpr c30
                    clear c30
                    replace H := Option.bind_eq_some_iff.mp H
                    obtain ⟨⟨t108, t109⟩, A310, H⟩ := H
                    replace H : (headgateref04_Unvalue.j1 kj2 t109 (wrap64 (bt a0 a1)) 0 t108) = some (r1, r2, r3, r4) := H
                    have A31 := Aside0.mk A310
                    clear A310
                    have H' := Aside0.mk H
                    clear H
                    go_wp2_with (first | ((with_reducible refine gate_callee (f := 95) rfl ?_); refine goesL_ (some 54) rfl rfl Try.func95 (by kernel_rfl) rfl #[.string a0, .int .i64 (wrap64 (a1 + 1))] rfl (by (try simp only [List.map_toArray, List.map_cons, List.map_nil]); first | done | rfl | (simp only [List.length_drop, List.length_take]; rfl) | exact congrArg (fun x_ : Int => #[Value.int .u64 x_]) (show _ = _ % (18446744073709551616 : Int) by omega)) ?_; (with_reducible refine (headgateref04_Unword.calls kj2 a0 (wrap64 (a1 + 1)) t108 t109 _ A31.out).mono ?_); rintro e w' ⟨rfl, ⟨nd, rfl⟩⟩; refine ⟨_, rfl, ?_⟩; have hnb32 := NB105_104.out; have hnc32 := NB104_105.out; obtain ⟨hcz33_0, hcz33_1, hcz33_2, hfz33_0, hfz33_1, hfz33_2⟩ := bf3 BK105.out))
                    go_meet
                    case rel => exact ⟨_, (t109), (0), (0), ((⟨#[]⟩ : ByteArray)), (0), (t108), (by first | rfl | (simp; done) | (simp [*]; done) | (simp; rw [Bool.eq_iff_iff]; simp; done)), H', ⟨by have := HJ2.out; first | omega | exact Nat.le_refl _⟩, ⟨by (with_reducible repeat (first | refine blk_drewN ?_ _ | refine blk_drew ?_ | refine blk_alloc ?_ _)); refine blk_far ?_ NB104_105.out _; (with_reducible repeat (first | refine blk_drewN ?_ _ | refine blk_drew ?_ | refine blk_alloc ?_ _)); refine blk_far ?_ NB104_105.out _; (with_reducible repeat (first | refine blk_drewN ?_ _ | refine blk_drew ?_ | refine blk_alloc ?_ _)); refine blk_far ?_ NB104_105.out _; (with_reducible repeat (first | refine blk_drewN ?_ _ | refine blk_drew ?_ | refine blk_alloc ?_ _)); refine blk_far ?_ NB104_105.out _; (with_reducible repeat (first | refine blk_drewN ?_ _ | refine blk_drew ?_ | refine blk_alloc ?_ _)); exact BK104.out⟩, ⟨by (with_reducible repeat (first | refine blk_drewN ?_ _ | refine blk_drew ?_ | refine blk_alloc ?_ _)); refine blk_put (cs := #[.int .i64 (wrap64 (bt a0 a1)), .int .i64 0, .string (⟨#[]⟩ : ByteArray)]) ?_ 2 _ rfl; (with_reducible repeat (first | refine blk_drewN ?_ _ | refine blk_drew ?_ | refine blk_alloc ?_ _)); refine blk_put (cs := #[.int .i64 (wrap64 (bt a0 a1)), .int .i64 0, .string (⟨#[]⟩ : ByteArray)]) ?_ 2 _ rfl; (with_reducible repeat (first | refine blk_drewN ?_ _ | refine blk_drew ?_ | refine blk_alloc ?_ _)); refine blk_put (cs := #[.int .i64 (wrap64 (bt a0 a1)), .int .i64 0, .string (⟨#[]⟩ : ByteArray)]) ?_ 1 _ rfl; (with_reducible repeat (first | refine blk_drewN ?_ _ | refine blk_drew ?_ | refine blk_alloc ?_ _)); refine blk_put (cs := #[.int .i64 0, .int .i64 0, .string (⟨#[]⟩ : ByteArray)]) ?_ 0 _ rfl; (with_reducible repeat (first | refine blk_drewN ?_ _ | refine blk_drew ?_ | refine blk_alloc ?_ _)); exact BK105.out⟩, ⟨by repeat (first | (with_reducible first | exact HB.out | apply below_alloc | apply pw_below_drewN | apply below_drew1 | refine below_set ?_ GE104.out | refine below_set ?_ GE105.out) | exact HB.out)⟩⟩
                  · rw [if_neg c30] at H
                    have c30b0 : ((wrap64 (bt a0 a1)) == 3) = false := beq_eq_false_iff_ne.mpr c30
                    have c30b1 : ((wrap64 (bt a0 a1)) != 3) = true := bne_iff_ne.mpr c30
                    have H' := Aside0.mk H
                    clear H
                    go_wp2
                    go_meet
                    case rel => exact ⟨_, (wrap64 (a1 + 1)), (0), (0), ((⟨#[]⟩ : ByteArray)), (0), ((⟨#[]⟩ : ByteArray)), (by first | rfl | (simp; done) | (simp [*]; done) | (simp; rw [Bool.eq_iff_iff]; simp; done)), H', ⟨by have := HJ2.out; first | omega | exact Nat.le_refl _⟩, ⟨by (with_reducible repeat (first | refine blk_drewN ?_ _ | refine blk_drew ?_ | refine blk_alloc ?_ _)); refine blk_far ?_ NB104_105.out _; (with_reducible repeat (first | refine blk_drewN ?_ _ | refine blk_drew ?_ | refine blk_alloc ?_ _)); refine blk_far ?_ NB104_105.out _; (with_reducible repeat (first | refine blk_drewN ?_ _ | refine blk_drew ?_ | refine blk_alloc ?_ _)); refine blk_far ?_ NB104_105.out _; (with_reducible repeat (first | refine blk_drewN ?_ _ | refine blk_drew ?_ | refine blk_alloc ?_ _)); exact BK104.out⟩, ⟨by (with_reducible repeat (first | refine blk_drewN ?_ _ | refine blk_drew ?_ | refine blk_alloc ?_ _)); refine blk_put (cs := #[.int .i64 (wrap64 (bt a0 a1)), .int .i64 0, .string (⟨#[]⟩ : ByteArray)]) ?_ 2 _ rfl; (with_reducible repeat (first | refine blk_drewN ?_ _ | refine blk_drew ?_ | refine blk_alloc ?_ _)); refine blk_put (cs := #[.int .i64 (wrap64 (bt a0 a1)), .int .i64 0, .string (⟨#[]⟩ : ByteArray)]) ?_ 1 _ rfl; (with_reducible repeat (first | refine blk_drewN ?_ _ | refine blk_drew ?_ | refine blk_alloc ?_ _)); refine blk_put (cs := #[.int .i64 0, .int .i64 0, .string (⟨#[]⟩ : ByteArray)]) ?_ 0 _ rfl; (with_reducible repeat (first | refine blk_drewN ?_ _ | refine blk_drew ?_ | refine blk_alloc ?_ _)); exact BK105.out⟩, ⟨by repeat (first | (with_reducible first | exact HB.out | apply below_alloc | apply pw_below_drewN | apply below_drew1 | refine below_set ?_ GE104.out | refine below_set ?_ GE105.out) | exact HB.out)⟩⟩
            case rest =>
              clear HC11
              try clear c1
              try clear p1
              try clear q1
              try clear hx1
              try clear c2
              try clear p2
              try clear q2
              try clear hx2
              try clear c3
              try clear c5
              try clear c5b0
              try clear c6
              try clear p6
              try clear c8
              try clear c8b0
              try clear c9
              try clear c9b0
              try clear p10
              try clear q10
              try clear hx10
              try clear c13
              try clear c15
              try clear c15b0
              try clear c15b1
              try clear c17
              try clear c19
              try clear c19b0
              try clear c19b1
              try clear c20
              try clear c20b0
              try clear c21
              try clear c25
              try clear c25b0
              try clear c26
              try clear c26b0
              try clear p27
              try clear q27
              try clear hx27
              try clear c28
              try clear c30
              try clear c30b0
              try clear c30b1
              try clear c32
              try clear hcz14_0
              try clear hcz14_1
              try clear hcz14_2
              try clear hcz18_0
              try clear hcz18_1
              try clear hcz18_2
              try clear hcz22_0
              try clear hcz22_1
              try clear hcz22_2
              try clear hcz23_0
              try clear hcz23_1
              try clear hcz23_2
              try clear hcz29_0
              try clear hcz29_1
              try clear hcz29_2
              try clear hcz33_0
              try clear hcz33_1
              try clear hcz33_2
              try clear hcz7_0
              try clear hcz7_1
              try clear hcz7_2
              try clear hfz14_0
              try clear hfz14_1
              try clear hfz14_2
              try clear hfz18_0
              try clear hfz18_1
              try clear hfz18_2
              try clear hfz22_0
              try clear hfz22_1
              try clear hfz22_2
              try clear hfz23_0
              try clear hfz23_1
              try clear hfz23_2
              try clear hfz29_0
              try clear hfz29_1
              try clear hfz29_2
              try clear hfz33_0
              try clear hfz33_1
              try clear hfz33_2
              try clear hfz7_0
              try clear hfz7_1
              try clear hfz7_2
              try clear p10
              try clear p2
              try clear p27
              try clear q10
              try clear q27
              obtain ⟨kq, x7_10, x105000_10, x105001_10, x105002_10, x106001_10, x106002_10, rfl, HA, HJ10, BK104, BK105, HB⟩ := hcut
              cases kq with
              | zero => exact absurd HA.out (by simp [headgateref04_Unvalue.j1])
              | succ kj10 =>
                have H := HA.out
                clear HA
                simp only [headgateref04_Unvalue.j1] at H
                replace H := Option.bind_eq_some_iff.mp H
                obtain ⟨t110, A340, H⟩ := H
                replace H : (if t110 = 0 then (some ((wrap64 (bt a0 a1)), x106001_10, x106002_10, x7_10)) else (some ((wrap64 (bt a0 a1)), x106001_10, x106002_10, (-1)))) = some (r1, r2, r3, r4) := H
                have A34 := Aside0.mk A340
                clear A340
                by_cases c35 : t110 = 0
                · rw [if_pos c35] at H
                  have c35b0 : (t110 == 0) = true := beq_iff_eq.mpr c35
                  have c35b1 : (t110 != 0) = false := bne_eq_false_iff_eq.mpr c35
                  clear c35
                  simp only [Option.some.injEq, Prod.mk.injEq] at H
                  obtain ⟨rfl, rfl, rfl, rfl⟩ := H
                  have hnb36 := NB105_104.out
                  have hnc36 := NB104_105.out
                  obtain ⟨hcz37_0, hcz37_1, hcz37_2, hfz37_0, hfz37_1, hfz37_2⟩ := bf3 BK105.out
                  go_wp2_with (first | ((with_reducible refine gate_callee (f := 109) rfl ?_); refine goesL_ (some 59) rfl rfl Try.func109 (by kernel_rfl) rfl #[.agg #[.int .i64 (wrap64 (bt a0 a1)), .int .i64 x106001_10, .string x106002_10]] rfl (by (try simp only [List.map_toArray, List.map_cons, List.map_nil]); first | done | rfl | (simp only [List.length_drop, List.length_take]; rfl) | exact congrArg (fun x_ : Int => #[Value.int .u64 x_]) (show _ = _ % (18446744073709551616 : Int) by omega)) ?_; (with_reducible refine (headgateref03_Check.calls kj10 (wrap64 (bt a0 a1)) x106001_10 x106002_10 t110 _ A34.out).mono ?_); rintro e w38 ⟨rfl, hb⟩; refine ⟨_, rfl, ?_⟩; have n0_ := Aside0.mk (blk_below (g := gb104) (o := .cells #[.int .i64 x105000_10, .int .i64 x105001_10, .string x105002_10] 116 (0, 0)) (by (with_reducible repeat (first | refine blk_drewN ?_ _ | refine blk_drew ?_ | refine blk_alloc ?_ _)); exact BK104.out) hb); have n1_ := Aside0.mk (blk_below (g := gb105) (o := .cells #[.int .i64 (wrap64 (bt a0 a1)), .int .i64 x106001_10, .string x106002_10] 116 (0, 0)) (by (with_reducible repeat (first | refine blk_drewN ?_ _ | refine blk_drew ?_ | refine blk_alloc ?_ _)); exact BK105.out) hb); have n2_ := Aside0.mk (below_step (by repeat (first | (with_reducible first | exact HB.out | apply below_alloc | apply pw_below_drewN | apply below_drew1 | refine below_set ?_ GE104.out | refine below_set ?_ GE105.out) | exact HB.out)) hb); clear BK104; clear BK105; clear HB; have BK104 := n0_; have BK105 := n1_; have HB := n2_; clear n0_ n1_ n2_; (try clear hb); (try clear hb2); (try clear hk); (try clear hi); obtain ⟨hcz39_0, hcz39_1, hcz39_2, hfz39_0, hfz39_1, hfz39_2⟩ := bf3 BK105.out; obtain ⟨hcz40_0, hcz40_1, hcz40_2, hfz40_0, hfz40_1, hfz40_2⟩ := bf3 BK104.out))
                  refine bodyPost_ret (results_ct rfl _ _ gb104 116 #[.int .i64 (wrap64 (bt a0 a1)), .int .i64 x106001_10, .string x106002_10] (0, 0) _ rfl (by (with_reducible repeat (first | refine blk_drewN ?_ _ | refine blk_drew ?_ | refine blk_alloc ?_ _)); refine blk_put (cs := #[.int .i64 (wrap64 (bt a0 a1)), .int .i64 x106001_10, .string x105002_10]) ?_ 2 _ rfl; (with_reducible repeat (first | refine blk_drewN ?_ _ | refine blk_drew ?_ | refine blk_alloc ?_ _)); refine blk_put (cs := #[.int .i64 (wrap64 (bt a0 a1)), .int .i64 x105001_10, .string x105002_10]) ?_ 1 _ rfl; (with_reducible repeat (first | refine blk_drewN ?_ _ | refine blk_drew ?_ | refine blk_alloc ?_ _)); refine blk_put (cs := #[.int .i64 x105000_10, .int .i64 x105001_10, .string x105002_10]) ?_ 0 _ rfl; (with_reducible repeat (first | refine blk_drewN ?_ _ | refine blk_drew ?_ | refine blk_alloc ?_ _)); exact BK104.out) Try.underlying116 rfl (by kernel_rfl)) rfl ?_
                  exact ⟨by first | rfl | (simp [errW_none, errW_some] <;> rfl) | (simp [*, errW_none, errW_some] <;> rfl), by repeat (first | (with_reducible first | exact HB.out | apply below_alloc | apply pw_below_drewN | apply below_drew1 | refine below_set ?_ GE104.out | refine below_set ?_ GE105.out) | exact HB.out)⟩
                · rw [if_neg c35] at H
                  have c35b0 : (t110 == 0) = false := beq_eq_false_iff_ne.mpr c35
                  have c35b1 : (t110 != 0) = true := bne_iff_ne.mpr c35
                  simp only [Option.some.injEq, Prod.mk.injEq] at H
                  obtain ⟨rfl, rfl, rfl, rfl⟩ := H
                  have hnb41 := NB105_104.out
                  have hnc41 := NB104_105.out
                  obtain ⟨hcz42_0, hcz42_1, hcz42_2, hfz42_0, hfz42_1, hfz42_2⟩ := bf3 BK105.out
                  go_wp2_with (first | ((with_reducible refine gate_callee (f := 109) rfl ?_); refine goesL_ (some 59) rfl rfl Try.func109 (by kernel_rfl) rfl #[.agg #[.int .i64 (wrap64 (bt a0 a1)), .int .i64 x106001_10, .string x106002_10]] rfl (by (try simp only [List.map_toArray, List.map_cons, List.map_nil]); first | done | rfl | (simp only [List.length_drop, List.length_take]; rfl) | exact congrArg (fun x_ : Int => #[Value.int .u64 x_]) (show _ = _ % (18446744073709551616 : Int) by omega)) ?_; (with_reducible refine (headgateref03_Check.calls kj10 (wrap64 (bt a0 a1)) x106001_10 x106002_10 t110 _ A34.out).mono ?_); rintro e w43 ⟨rfl, hb⟩; refine ⟨_, rfl, ?_⟩; have n0_ := Aside0.mk (blk_below (g := gb104) (o := .cells #[.int .i64 x105000_10, .int .i64 x105001_10, .string x105002_10] 116 (0, 0)) (by (with_reducible repeat (first | refine blk_drewN ?_ _ | refine blk_drew ?_ | refine blk_alloc ?_ _)); exact BK104.out) hb); have n1_ := Aside0.mk (blk_below (g := gb105) (o := .cells #[.int .i64 (wrap64 (bt a0 a1)), .int .i64 x106001_10, .string x106002_10] 116 (0, 0)) (by (with_reducible repeat (first | refine blk_drewN ?_ _ | refine blk_drew ?_ | refine blk_alloc ?_ _)); exact BK105.out) hb); have n2_ := Aside0.mk (below_step (by repeat (first | (with_reducible first | exact HB.out | apply below_alloc | apply pw_below_drewN | apply below_drew1 | refine below_set ?_ GE104.out | refine below_set ?_ GE105.out) | exact HB.out)) hb); clear BK104; clear BK105; clear HB; have BK104 := n0_; have BK105 := n1_; have HB := n2_; clear n0_ n1_ n2_; (try clear hb); (try clear hb2); (try clear hk); (try clear hi); obtain ⟨hcz44_0, hcz44_1, hcz44_2, hfz44_0, hfz44_1, hfz44_2⟩ := bf3 BK105.out; obtain ⟨hcz45_0, hcz45_1, hcz45_2, hfz45_0, hfz45_1, hfz45_2⟩ := bf3 BK104.out))
                  refine bodyPost_ret (results_ct rfl _ _ gb104 116 #[.int .i64 (wrap64 (bt a0 a1)), .int .i64 x106001_10, .string x106002_10] (0, 0) _ rfl (by (with_reducible repeat (first | refine blk_drewN ?_ _ | refine blk_drew ?_ | refine blk_alloc ?_ _)); refine blk_put (cs := #[.int .i64 (wrap64 (bt a0 a1)), .int .i64 x106001_10, .string x105002_10]) ?_ 2 _ rfl; (with_reducible repeat (first | refine blk_drewN ?_ _ | refine blk_drew ?_ | refine blk_alloc ?_ _)); refine blk_put (cs := #[.int .i64 (wrap64 (bt a0 a1)), .int .i64 x105001_10, .string x105002_10]) ?_ 1 _ rfl; (with_reducible repeat (first | refine blk_drewN ?_ _ | refine blk_drew ?_ | refine blk_alloc ?_ _)); refine blk_put (cs := #[.int .i64 x105000_10, .int .i64 x105001_10, .string x105002_10]) ?_ 0 _ rfl; (with_reducible repeat (first | refine blk_drewN ?_ _ | refine blk_drew ?_ | refine blk_alloc ?_ _)); exact BK104.out) Try.underlying116 rfl (by kernel_rfl)) rfl ?_
                  exact ⟨by first | rfl | (simp [errW_none, errW_some] <;> rfl) | (simp [*, errW_none, errW_some] <;> rfl), by repeat (first | (with_reducible first | exact HB.out | apply below_alloc | apply pw_below_drewN | apply below_drew1 | refine below_set ?_ GE104.out | refine below_set ?_ GE105.out) | exact HB.out)⟩
          · rw [if_neg c9] at H
            exact absurd H (by simp)
        · rw [if_neg c8] at H
          exact absurd H (by simp)

/-! ### headgateref04_Unrows: function 33 -/
mutual
def headgateref04_Unrows.l0 : Nat → ByteArray → Int → Int → List (List (S116)) → Int → Option ((List (List (S116))) × Bool)
  | 0, _, _, _, _, _ => none
  | k + 1, x0, x4, x5, x6, x7 => if x7 < x4 then (headgateref04_Unrows.j1 k x0 x4 x5 x6 x7 (decide (x5 ≥ 0))) else (headgateref04_Unrows.j1 k x0 x4 x5 x6 x7 false)
def headgateref04_Unrows.j1 : Nat → ByteArray → Int → Int → List (List (S116)) → Int → Bool → Option ((List (List (S116))) × Bool)
  | 0, _, _, _, _, _, _ => none
  | k + 1, x0, x4, x5, x6, x7, x23 => if x23 = true then ((headgateref04_Unnum.f k x0 x5).bind fun bt113 => (headgateref04_Unrows.l1 k x0 x4 bt113.2 x6 x7 bt113.1 (([] : List (S116))) 0)) else (if x5 = (x0.size : Int) then (if (x0.size : Int) > 16777216 then (some (([] : List (List (S116))), false)) else (some (x6, true))) else (some (([] : List (List (S116))), false)))
def headgateref04_Unrows.j3 : Nat → ByteArray → Int → Int → List (List (S116)) → Int → Int → List (S116) → Option ((List (List (S116))) × Bool)
  | 0, _, _, _, _, _, _, _ => none
  | k + 1, x0, x4, x5, x6, x7, x8, x9 => if x8 > 12 then (some (([] : List (List (S116))), false)) else (if x6.length < 5864062014805 then (headgateref04_Unrows.l0 k x0 x4 x5 (x6 ++ [x9]) (IntKind.u64.wrap (x7 + 1))) else (none))
def headgateref04_Unrows.l1 : Nat → ByteArray → Int → Int → List (List (S116)) → Int → Int → List (S116) → Int → Option ((List (List (S116))) × Bool)
  | 0, _, _, _, _, _, _, _, _ => none
  | k + 1, x0, x4, x5, x6, x7, x8, x9, x10 => if x10 < x8 then (if x5 ≥ 0 then ((headgateref04_Unvalue.f k x0 x5).bind fun bt119 => (if x9.length < 4398046511104 then (headgateref04_Unrows.l1 k x0 x4 bt119.2.2.2 x6 x7 x8 (x9 ++ [(⟨bt119.1, bt119.2.1, bt119.2.2.1⟩ : S116)]) (IntKind.u64.wrap (x10 + 1))) else (none))) else (headgateref04_Unrows.j3 k x0 x4 x5 x6 x7 x8 x9)) else (headgateref04_Unrows.j3 k x0 x4 x5 x6 x7 x8 x9)
end
def headgateref04_Unrows.f (k : Nat) (a0 : ByteArray) : Option ((List (List (S116))) × Bool) := (headgateref04_Unnum.f k a0 0).bind fun bt111 => (headgateref04_Unrows.l0 k a0 bt111.1 bt111.2 ([] : List (List (S116))) 0)
set_option maxHeartbeats 8000000 in
set_option maxRecDepth 100000 in
theorem headgateref04_Unrows.calls (k : Nat) (a0 : ByteArray) (r1 : List (List (S116))) (r2 : Bool) (w : World) (h : headgateref04_Unrows.f k a0 = some (r1, r2)) :
    Calls Try.prog 33 #[.string a0] w fun e w' => ∃ v0_ : Value, e = .returned (.tuple #[v0_, .bool r2]) ∧ Kd.S (Kd.slice 116 k116) 111 w' w.heap.size (fun _ => True) v0_ r1 ∧ Below w.heap.size w w' := by
  have hu116 := Try.underlying116
  have HB := Aside0.mk (Below.refl w.heap.size w)
  have H : ((headgateref04_Unnum.f k a0 0).bind fun bt111 => (headgateref04_Unrows.l0 k a0 bt111.1 bt111.2 ([] : List (List (S116))) 0)) = some (r1, r2) := h
  clear h
  replace H := Option.bind_eq_some_iff.mp H
  obtain ⟨⟨t111, t112⟩, A20, H⟩ := H
  replace H : (headgateref04_Unrows.l0 k a0 t111 t112 ([] : List (List (S116))) 0) = some (r1, r2) := H
  have A2 := Aside0.mk A20
  clear A20
  have H' := Aside0.mk H
  clear H
  go_enter Try.func33, Try.ntmps33
  go_wp2_with (first | ((with_reducible refine gate_callee (f := 14) rfl ?_); refine goesL_ (some 14) rfl rfl Try.func14 (by kernel_rfl) rfl #[.string a0, .int .i64 0] rfl (by (try simp only [List.map_toArray, List.map_cons, List.map_nil]); first | done | rfl | (simp only [List.length_drop, List.length_take]; rfl) | exact congrArg (fun x_ : Int => #[Value.int .u64 x_]) (show _ = _ % (18446744073709551616 : Int) by omega)) ?_; (with_reducible refine (headgateref04_Unnum.calls k a0 0 t111 t112 _ A2.out).mono ?_); rintro e w' ⟨rfl, ⟨nd, rfl⟩⟩; refine ⟨_, rfl, ?_⟩))
  go_loopg [5, 6, 7] k (fun kq v5 v6 v7 w' => ∃ (x5_1 : Int) (x6_1 : List (List (S116))) (x7_1 : Int), v5 = .int .i64 x5_1 ∧ v7 = .int .u64 x7_1 ∧ Aside0 (headgateref04_Unrows.l0 kq a0 t111 x5_1 x6_1 x7_1 = some (r1, r2)) ∧ Aside0 (kq ≤ k) ∧ Aside0 (Kd.S (Kd.slice 116 k116) 111 w' w.heap.size (fun _ => True) v6 x6_1) ∧ Aside0 (Below w.heap.size w w'))
  case atStart => exact ⟨(t112), (([] : List (List (S116)))), (0), (by first | rfl | (simp; done) | (simp [*]; done) | (simp; rw [Bool.eq_iff_iff]; simp; done)), (by first | rfl | (simp; done) | (simp [*]; done) | (simp; rw [Bool.eq_iff_iff]; simp; done)), H', ⟨Nat.le_refl _⟩, ⟨by first | exact Kd.S_nil _ _ _ _ _ | exact Kd.N_nil _ _ _ _ _ | exact Kd.V_nil _ _ _ _ _ | exact Kd.Q_nil _ _ _ _ _ | exact Kd.R_nil _ _ _ _ _⟩, ⟨by repeat (first | (with_reducible first | exact HB.out | apply below_alloc | apply pw_below_drewN | apply below_drew1) | exact HB.out)⟩⟩
  case round =>
    clear H'
    try clear c1
    try clear p2
    obtain ⟨x5_1, x6_1, x7_1, rfl, rfl, HA, HK1, HO_6, HB⟩ := hrel
    cases gk with
    | zero => exact absurd HA.out (by simp [headgateref04_Unrows.l0])
    | succ k1 =>
      have H := HA.out
      clear HA
      simp only [headgateref04_Unrows.l0] at H
      have HC3 := Aside0.mk H
      clear H
      go_upto_region 4 with (fail)
      go_cut [23] (fun v23 wc => ∃ (kq : Nat) (x23_2 : Bool), v23 = .bool x23_2 ∧ Aside0 (headgateref04_Unrows.j1 kq a0 t111 x5_1 x6_1 x7_1 x23_2 = some (r1, r2)) ∧ Aside0 (kq ≤ k1) ∧ Aside0 (Kd.S (Kd.slice 116 k116) 111 wc w.heap.size (fun _ => True) u6 x6_1) ∧ Aside0 (Below w.heap.size w wc))
      case first =>
        have H := HC3.out
        clear HC3
        by_cases c4 : x7_1 < t111
        · rw [if_pos c4] at H
          have c4b0 : decide (x7_1 < t111) = true := decide_eq_true c4
          clear c4
          (first | rw [c4b0] | (simp only [i64_w, i32_w]; rw [c4b0]) | skip)
          have H' := Aside0.mk H
          clear H
          go_wp2
          go_meet
          case rel => exact ⟨_, (decide (x5_1 ≥ 0)), (by first | rfl | (simp; done) | (simp [*]; done) | (simp; rw [Bool.eq_iff_iff]; simp; done)), H', ⟨by have := HK1.out; first | omega | exact Nat.le_refl _⟩, ⟨by (with_reducible repeat (first | apply Kd.S_alloc | apply Kd.S_drewN | apply Kd.S_drew)); exact HO_6.out⟩, ⟨by repeat (first | (with_reducible first | exact HB.out | apply below_alloc | apply pw_below_drewN | apply below_drew1) | exact HB.out)⟩⟩
        · rw [if_neg c4] at H
          have c4b0 : decide (x7_1 < t111) = false := decide_eq_false c4
          clear c4
          (first | rw [c4b0] | (simp only [i64_w, i32_w]; rw [c4b0]) | skip)
          have H' := Aside0.mk H
          clear H
          go_wp2
          go_meet
          case rel => exact ⟨_, (false), (by first | rfl | (simp; done) | (simp [*]; done) | (simp; rw [Bool.eq_iff_iff]; simp; done)), H', ⟨by have := HK1.out; first | omega | exact Nat.le_refl _⟩, ⟨by (with_reducible repeat (first | apply Kd.S_alloc | apply Kd.S_drewN | apply Kd.S_drew)); exact HO_6.out⟩, ⟨by repeat (first | (with_reducible first | exact HB.out | apply below_alloc | apply pw_below_drewN | apply below_drew1) | exact HB.out)⟩⟩
      case rest =>
        clear HC3
        try clear c1
        try clear p2
        try clear c3
        try clear c4
        try clear c4b0
        try clear p2
        obtain ⟨kq, x23_2, rfl, HA, HJ2, HO_6, HB⟩ := hcut
        cases kq with
        | zero => exact absurd HA.out (by simp [headgateref04_Unrows.j1])
        | succ kj2 =>
          have H := HA.out
          clear HA
          simp only [headgateref04_Unrows.j1] at H
          by_cases c5 : x23_2 = true
          · subst c5
            have H1 : ((headgateref04_Unnum.f kj2 a0 x5_1).bind fun bt113 => (headgateref04_Unrows.l1 kj2 a0 t111 bt113.2 x6_1 x7_1 bt113.1 (([] : List (S116))) 0)) = some (r1, r2) := by rw [if_pos rfl] at H; exact H
            clear H
            have H := H1
            clear H1
            replace H := Option.bind_eq_some_iff.mp H
            obtain ⟨⟨t113, t114⟩, A60, H⟩ := H
            replace H : (headgateref04_Unrows.l1 kj2 a0 t111 t114 x6_1 x7_1 t113 (([] : List (S116))) 0) = some (r1, r2) := H
            have A6 := Aside0.mk A60
            clear A60
            obtain ⟨y115, hy115⟩ : ∃ y_ : List (S116), y_ = (([] : List (S116))) := ⟨_, rfl⟩
            replace H : (headgateref04_Unrows.l1 kj2 a0 t111 t114 x6_1 x7_1 t113 y115 0) = some (r1, r2) := by first | (rw [hy115]; with_reducible exact H) | (have H2_ := (Option.bind_some _ _).symm.trans H; rw [hy115]; with_reducible exact H2_) | (have H2_ := (Option.bind_some _ _).symm.trans H; with_reducible exact H2_) | with_reducible exact H | (rw [hy115]; exact H) | exact H
            have Ny115 := Aside0.mk hy115
            clear hy115
            have HC7 := Aside0.mk H
            clear H
            go_upto_block 2 with (first | ((with_reducible refine gate_callee (f := 14) rfl ?_); refine goesL_ (some 29) rfl rfl Try.func14 (by kernel_rfl) rfl #[.string a0, .int .i64 x5_1] rfl (by (try simp only [List.map_toArray, List.map_cons, List.map_nil]); first | done | rfl | (simp only [List.length_drop, List.length_take]; rfl) | exact congrArg (fun x_ : Int => #[Value.int .u64 x_]) (show _ = _ % (18446744073709551616 : Int) by omega)) ?_; (with_reducible refine (headgateref04_Unnum.calls kj2 a0 x5_1 t113 t114 _ A6.out).mono ?_); rintro e w' ⟨rfl, ⟨nd, rfl⟩⟩; refine ⟨_, rfl, ?_⟩) | ((with_reducible refine gate_dst (N := 32) rfl ?_); (try (refine gate_guard (by rfl) ?_; dsimp only)); refine Kd.R_lit k116 _ 116 ?hg (N := 32) ?hd (xs := ([] : List (S116))) (inner := []) (ok := fun _ => True) (okp := fun _ => True) ?hr ?hp (fun _ hk => hk) trivial (Below.refl _ _) (Nat.le_refl _) (by simp) ?_; (case hd => rfl); (case hg => rfl); (case hr => first | (go_simp; done) | (go_simp; rfl)); (case hp => exact (Reps.none _ _)); intro v116 w8 ho9 hb hg_ hnew_; clear hg_ hnew_; (first | rw [← Ny115.out] at ho9 | (simp only [Int.reduceToNat] at ho9; rw [← Ny115.out] at ho9)); have n0_ := Aside0.mk (Kd.S_elder' (by (with_reducible repeat (first | apply Kd.S_alloc | apply Kd.S_drewN | apply Kd.S_drew)); exact HO_6.out) (Kd.R_base ho9) hb); have n1_ := Aside0.mk (Kd.R_lower ho9 (below_size (by repeat (first | (with_reducible first | exact HB.out | apply below_alloc | apply pw_below_drewN | apply below_drew1) | exact HB.out)))); have n2_ := Aside0.mk (below_step (by repeat (first | (with_reducible first | exact HB.out | apply below_alloc | apply pw_below_drewN | apply below_drew1) | exact HB.out)) hb); clear HO_6; clear HB; have HO_6 := n0_; have HO117 := n1_; have HB := n2_; clear n0_ n1_ n2_; clear hb ho9))
            (try simp only [Act.put, List.setIfInBounds_toArray, List.set_cons_zero, List.set_cons_succ])
            go_cut [5, 9] (fun v5 v9 wc => ∃ (kq : Nat) (x5_6 : Int) (x9_6 : List (S116)), v5 = .int .i64 x5_6 ∧ Aside0 (headgateref04_Unrows.j3 kq a0 t111 x5_6 x6_1 x7_1 t113 x9_6 = some (r1, r2)) ∧ Aside0 (kq ≤ kj2) ∧ Aside0 (Kd.S (Kd.slice 116 k116) 111 wc w.heap.size (fun k_ => some k_ ≠ (v9 : Value).ownBlock) u6 x6_1) ∧ Aside0 (Kd.R k116 116 wc w.heap.size (fun _ => True) v9 x9_6) ∧ Aside0 (Below w.heap.size w wc))
            case first =>
              have H := HC7.out
              clear HC7
              have H' := Aside0.mk H
              clear H
              go_wp2
              go_loopg [5, 9, 10] kj2 (fun kq v5 v9 v10 w' => ∃ (x5_3 : Int) (x9_3 : List (S116)) (x10_3 : Int), v5 = .int .i64 x5_3 ∧ v10 = .int .u64 x10_3 ∧ Aside0 (headgateref04_Unrows.l1 kq a0 t111 x5_3 x6_1 x7_1 t113 x9_3 x10_3 = some (r1, r2)) ∧ Aside0 (kq ≤ kj2) ∧ Aside0 (Kd.S (Kd.slice 116 k116) 111 w' w.heap.size (fun k_ => some k_ ≠ (v9 : Value).ownBlock) u6 x6_1) ∧ Aside0 (Kd.R k116 116 w' w.heap.size (fun _ => True) v9 x9_3) ∧ Aside0 (Below w.heap.size w w'))
              case atStart => exact ⟨(t114), (y115), (0), (by first | rfl | (simp; done) | (simp [*]; done) | (simp; rw [Bool.eq_iff_iff]; simp; done)), (by first | rfl | (simp; done) | (simp [*]; done) | (simp; rw [Bool.eq_iff_iff]; simp; done)), H', ⟨Nat.le_refl _⟩, ⟨by (with_reducible repeat (first | apply Kd.S_alloc | apply Kd.S_drewN | apply Kd.S_drew)); exact Kd.S_mono HO_6.out (fun _ hk => hk.2)⟩, ⟨by (with_reducible repeat (first | apply Kd.R_alloc | apply Kd.R_drewN | apply Kd.R_drew)); exact HO117.out⟩, ⟨by repeat (first | (with_reducible first | exact HB.out | apply below_alloc | apply pw_below_drewN | apply below_drew1) | exact HB.out)⟩⟩
              case round =>
                clear H'
                try clear c1
                try clear p2
                try clear c3
                try clear c4
                try clear c4b0
                try clear c5
                try clear p2
                obtain ⟨x5_3, x9_3, x10_3, rfl, rfl, HA, HK3, HO_6, HO_9, HB⟩ := hrel
                cases gk with
                | zero => exact absurd HA.out (by simp [headgateref04_Unrows.l1])
                | succ k3 =>
                  have H := HA.out
                  clear HA
                  simp only [headgateref04_Unrows.l1] at H
                  by_cases c10 : x10_3 < t113
                  · rw [if_pos c10] at H
                    have c10b0 : decide (x10_3 < t113) = true := decide_eq_true c10
                    clear c10
                    (first | rw [c10b0] | (simp only [i64_w, i32_w]; rw [c10b0]) | skip)
                    by_cases c11 : x5_3 ≥ 0
                    · rw [if_pos c11] at H
                      have c11b0 : decide (0 ≤ x5_3) = true := decide_eq_true c11
                      clear c11
                      replace H := Option.bind_eq_some_iff.mp H
                      obtain ⟨⟨t119, t120, t121, t122⟩, A120, H⟩ := H
                      replace H : (if x9_3.length < 4398046511104 then (headgateref04_Unrows.l1 k3 a0 t111 t122 x6_1 x7_1 t113 (x9_3 ++ [(⟨t119, t120, t121⟩ : S116)]) (IntKind.u64.wrap (x10_3 + 1))) else (none)) = some (r1, r2) := H
                      have A12 := Aside0.mk A120
                      clear A120
                      by_cases c13 : x9_3.length < 4398046511104
                      · rw [if_pos c13] at H
                        have LMc13 := Aside0.mk c13
                        clear c13
                        obtain ⟨y123, hy123⟩ : ∃ y_ : List (S116), y_ = (x9_3 ++ [(⟨t119, t120, t121⟩ : S116)]) := ⟨_, rfl⟩
                        replace H : (headgateref04_Unrows.l1 k3 a0 t111 t122 x6_1 x7_1 t113 y123 (IntKind.u64.wrap (x10_3 + 1))) = some (r1, r2) := by first | (rw [hy123]; with_reducible exact H) | (have H2_ := (Option.bind_some _ _).symm.trans H; rw [hy123]; with_reducible exact H2_) | (have H2_ := (Option.bind_some _ _).symm.trans H; with_reducible exact H2_) | with_reducible exact H | (rw [hy123]; exact H) | exact H
                        have Ny123 := Aside0.mk hy123
                        clear hy123
                        have H' := Aside0.mk H
                        clear H
                        go_wp2_with (first | ((with_reducible refine gate_dst (N := 11) rfl ?_); (try (refine gate_guard (by rfl) ?_; dsimp only)); refine box_event ?hg (N := 11) ?hd (cs := #[.int .i64 0, .int .i64 0, .string (⟨#[]⟩ : ByteArray)]) (t := 116) ?hr ?_; (case hd => rfl); (case hg => rfl); (case hr => first | (go_simp; done) | (go_simp; rfl)); intro gb118 hg w14 hbox hb; have n0_ := Aside0.mk (Kd.S_below (Kd.S_elderB (by (with_reducible repeat (first | apply Kd.S_alloc | apply Kd.S_drewN | apply Kd.S_drew)); exact HO_6.out) gb118 (Nat.le_of_eq hg.symm)) hb); have n1_ := Aside0.mk (Kd.R_below (Kd.R_elderB (by (with_reducible repeat (first | apply Kd.R_alloc | apply Kd.R_drewN | apply Kd.R_drew)); exact HO_9.out) gb118 (Nat.le_of_eq hg.symm)) hb); have n2_ := Aside0.mk (below_step (by repeat (first | (with_reducible first | exact HB.out | apply below_alloc | apply pw_below_drewN | apply below_drew1) | exact HB.out)) hb); have n3_ := Aside0.mk (hbox); have n4_ := Aside0.mk ((by rw [hg]; exact (below_size (by repeat (first | (with_reducible first | exact HB.out | apply below_alloc | apply pw_below_drewN | apply below_drew1) | exact HB.out))) : w.heap.size ≤ gb118)); have n5_ := Aside0.mk ((by rw [hg]; exact (below_size (by repeat (first | (with_reducible first | exact HB.out | apply below_alloc | apply pw_below_drewN | apply below_drew1) | exact HB.out))) : w.heap.size ≤ gb118)); clear HO_6; clear HO_9; clear HB; have HO_6 := n0_; have HO_9 := n1_; have HB := n2_; have BK118 := n3_; have GW118 := n4_; have GE118 := n5_; clear n0_ n1_ n2_ n3_ n4_ n5_; clear hb hbox hg; obtain ⟨hcz15_0, hcz15_1, hcz15_2, hfz15_0, hfz15_1, hfz15_2⟩ := bf3 BK118.out) | ((with_reducible refine gate_callee (f := 94) rfl ?_); refine goesL_ (some 46) rfl rfl Try.func94 (by kernel_rfl) rfl #[.string a0, .int .i64 x5_3] rfl (by (try simp only [List.map_toArray, List.map_cons, List.map_nil]); first | done | rfl | (simp only [List.length_drop, List.length_take]; rfl) | exact congrArg (fun x_ : Int => #[Value.int .u64 x_]) (show _ = _ % (18446744073709551616 : Int) by omega)) ?_; (with_reducible refine (headgateref04_Unvalue.calls k3 a0 x5_3 t119 t120 t121 t122 _ A12.out).mono ?_); rintro e w16 ⟨rfl, hb⟩; refine ⟨_, rfl, ?_⟩; have n0_ := Aside0.mk (Kd.S_below (by (with_reducible repeat (first | apply Kd.S_alloc | apply Kd.S_drewN | apply Kd.S_drew)); exact (Kd.S_mono (Kd.S_far (p := ⟨gb118, 2, none⟩) (Kd.S_far (p := ⟨gb118, 1, none⟩) (Kd.S_far (p := ⟨gb118, 0, none⟩) (Kd.S_mono HO_6.out (fun k_ hk => (⟨hk, hk.2⟩ : _ ∧ k_ ≠ gb118))) (fun _ hk => hk.2) (.int .i64 0)) (fun _ hk => hk.2) (.int .i64 0)) (fun _ hk => hk.2) (.string (⟨#[]⟩ : ByteArray))) (fun _ h_ => h_.1))) hb); have n1_ := Aside0.mk (Kd.R_below (by (with_reducible repeat (first | apply Kd.R_alloc | apply Kd.R_drewN | apply Kd.R_drew)); exact (Kd.R_mono (Kd.R_far (p := ⟨gb118, 2, none⟩) (Kd.R_far (p := ⟨gb118, 1, none⟩) (Kd.R_far (p := ⟨gb118, 0, none⟩) (Kd.R_mono HO_9.out (fun k_ hk => (⟨hk, hk.2⟩ : _ ∧ k_ ≠ gb118))) (fun _ hk => hk.2) (.int .i64 0)) (fun _ hk => hk.2) (.int .i64 0)) (fun _ hk => hk.2) (.string (⟨#[]⟩ : ByteArray))) (fun _ h_ => h_.1))) hb); have n2_ := Aside0.mk (blk_below (g := gb118) (o := .cells #[.int .i64 0, .int .i64 0, .string (⟨#[]⟩ : ByteArray)] 116 (0, 0)) (by (with_reducible repeat (first | refine blk_drewN ?_ _ | refine blk_drew ?_ | refine blk_alloc ?_ _)); refine blk_put (cs := #[.int .i64 0, .int .i64 0, .string (⟨#[]⟩ : ByteArray)]) ?_ 2 _ rfl; (with_reducible repeat (first | refine blk_drewN ?_ _ | refine blk_drew ?_ | refine blk_alloc ?_ _)); refine blk_put (cs := #[.int .i64 0, .int .i64 0, .string (⟨#[]⟩ : ByteArray)]) ?_ 1 _ rfl; (with_reducible repeat (first | refine blk_drewN ?_ _ | refine blk_drew ?_ | refine blk_alloc ?_ _)); refine blk_put (cs := #[.int .i64 0, .int .i64 0, .string (⟨#[]⟩ : ByteArray)]) ?_ 0 _ rfl; (with_reducible repeat (first | refine blk_drewN ?_ _ | refine blk_drew ?_ | refine blk_alloc ?_ _)); exact BK118.out) hb); have n3_ := Aside0.mk (below_step (by repeat (first | (with_reducible first | exact HB.out | apply below_alloc | apply pw_below_drewN | apply below_drew1 | refine below_set ?_ GE118.out) | exact HB.out)) hb); clear HO_6; clear HO_9; clear BK118; clear HB; have HO_6 := n0_; have HO_9 := n1_; have BK118 := n2_; have HB := n3_; clear n0_ n1_ n2_ n3_; (try clear hb); (try clear hb2); (try clear hk); (try clear hi); obtain ⟨hcz17_0, hcz17_1, hcz17_2, hfz17_0, hfz17_1, hfz17_2⟩ := bf3 BK118.out) | ((with_reducible refine gate_builtin (b := .append) (xs := #[.tmp 49, .tmp 51]) rfl ?_); (try (refine gate_guard (by rfl) ?_; dsimp only)); at_builtin; refine Kd.R_append k116 (w0 := w) w.heap.size rfl (.tmp 49) (.tmp 51) 111 116 (.agg #[(.int .i64 0), (.int .i64 0), (.string ⟨#[]⟩)]) 32 rfl Try.underlying111 info116 rfl (by decide) (by omega) u9 x9_3 (⟨t119, t120, t121⟩ : S116) [.int .i64 t119, .int .i64 t120, .string t121] (fun k_ => k_ ≠ gb118) (fun _ => False) rfl (by first | (go_simp; done) | (go_simp; rfl)) ?aP (fun _ hk => hk.elim) ?aF ?aO ?aB ?aS ?aL ?_; (case aP => exact k116_mkM _ _ _ (⟨t119, t120, t121⟩ : S116)); (case aB => exact (by repeat (first | (with_reducible first | exact HB.out | apply below_alloc | apply pw_below_drewN | apply below_drew1 | refine below_set ?_ GE118.out) | exact HB.out))); (case aF => exact (fun k_ hk => Kd.freshB (g := gb118) (o := .cells #[.int .i64 t119, .int .i64 t120, .string t121] 116 (0, 0)) (by (with_reducible repeat (first | refine blk_drewN ?_ _ | refine blk_drew ?_ | refine blk_alloc ?_ _)); refine blk_put (cs := #[.int .i64 t119, .int .i64 t120, .string (⟨#[]⟩ : ByteArray)]) ?_ 2 _ rfl; (with_reducible repeat (first | refine blk_drewN ?_ _ | refine blk_drew ?_ | refine blk_alloc ?_ _)); refine blk_put (cs := #[.int .i64 t119, .int .i64 0, .string (⟨#[]⟩ : ByteArray)]) ?_ 1 _ rfl; (with_reducible repeat (first | refine blk_drewN ?_ _ | refine blk_drew ?_ | refine blk_alloc ?_ _)); refine blk_put (cs := #[.int .i64 0, .int .i64 0, .string (⟨#[]⟩ : ByteArray)]) ?_ 0 _ rfl; (with_reducible repeat (first | refine blk_drewN ?_ _ | refine blk_drew ?_ | refine blk_alloc ?_ _)); exact BK118.out) k_ hk)); (case aO => exact (by (with_reducible repeat (first | apply Kd.R_alloc | apply Kd.R_drewN | apply Kd.R_drew)); exact Kd.R_mono (Kd.R_far (p := ⟨gb118, 2, none⟩) (Kd.R_far (p := ⟨gb118, 1, none⟩) (Kd.R_far (p := ⟨gb118, 0, none⟩) (Kd.R_mono HO_9.out (fun k_ hk => (⟨hk, hk.2⟩ : _ ∧ k_ ≠ gb118))) (fun _ hk => hk.2) (.int .i64 t119)) (fun _ hk => hk.2) (.int .i64 t120)) (fun _ hk => hk.2) (.string t121)) (fun _ hk => hk.1.2))); (case aS => exact (below_size (by repeat (first | (with_reducible first | exact HB.out | apply below_alloc | apply pw_below_drewN | apply below_drew1 | refine below_set ?_ GE118.out) | exact HB.out)))); (case aL => have := LMc13.out; omega); intro v124 w18 ho hb hg hat; rw [← Ny123.out] at ho; have n0_ := Aside0.mk (Kd.S_after (ok := (fun k_ => k_ ≠ gb118)) (by (with_reducible repeat (first | apply Kd.S_alloc | apply Kd.S_drewN | apply Kd.S_drew)); exact Kd.S_mono (Kd.S_far (p := ⟨gb118, 2, none⟩) (Kd.S_far (p := ⟨gb118, 1, none⟩) (Kd.S_far (p := ⟨gb118, 0, none⟩) (Kd.S_mono HO_6.out (fun k_ hk => (⟨hk, hk.2⟩ : _ ∧ k_ ≠ gb118))) (fun _ hk => hk.2) (.int .i64 t119)) (fun _ hk => hk.2) (.int .i64 t120)) (fun _ hk => hk.2) (.string t121)) (fun _ hk => ⟨hk.1.2, hk.1.1⟩)) hg hat); have n1_ := Aside0.mk (blk_grown (g := gb118) (o := .cells #[.int .i64 t119, .int .i64 t120, .string t121] 116 (0, 0)) (by (with_reducible repeat (first | refine blk_drewN ?_ _ | refine blk_drew ?_ | refine blk_alloc ?_ _)); refine blk_put (cs := #[.int .i64 t119, .int .i64 t120, .string (⟨#[]⟩ : ByteArray)]) ?_ 2 _ rfl; (with_reducible repeat (first | refine blk_drewN ?_ _ | refine blk_drew ?_ | refine blk_alloc ?_ _)); refine blk_put (cs := #[.int .i64 t119, .int .i64 0, .string (⟨#[]⟩ : ByteArray)]) ?_ 1 _ rfl; (with_reducible repeat (first | refine blk_drewN ?_ _ | refine blk_drew ?_ | refine blk_alloc ?_ _)); refine blk_put (cs := #[.int .i64 0, .int .i64 0, .string (⟨#[]⟩ : ByteArray)]) ?_ 0 _ rfl; (with_reducible repeat (first | refine blk_drewN ?_ _ | refine blk_drew ?_ | refine blk_alloc ?_ _)); exact BK118.out) hg (Kd.R_away HO_9.out (fun _ hk => hk.2))); have n2_ := Aside0.mk (hb); have n3_ := Aside0.mk (ho); clear HO_6; clear BK118; clear HB; clear HO_9; have HO_6 := n0_; have BK118 := n1_; have HB := n2_; have HO125 := n3_; clear n0_ n1_ n2_ n3_; clear ho hb hg hat))
                        go_roundg k3
                        case measure => have := HK1.out; have := HJ2.out; have := HK3.out; omega
                        case rel => exact ⟨(t122), (y123), (IntKind.u64.wrap (x10_3 + 1)), (by first | rfl | (simp; done) | (simp [*]; done) | (simp; rw [Bool.eq_iff_iff]; simp; done)), (by first | rfl | (simp; done) | (simp [*]; done) | (simp; rw [Bool.eq_iff_iff]; simp; done)), H', ⟨by have := HK1.out; have := HJ2.out; have := HK3.out; omega⟩, ⟨by (with_reducible repeat (first | apply Kd.S_alloc | apply Kd.S_drewN | apply Kd.S_drew)); exact Kd.S_mono HO_6.out (fun _ hk => hk.2)⟩, ⟨by (with_reducible repeat (first | apply Kd.R_alloc | apply Kd.R_drewN | apply Kd.R_drew)); exact Kd.R_mono HO125.out (fun _ hk => trivial)⟩, ⟨by repeat (first | (with_reducible first | exact HB.out | apply below_alloc | apply pw_below_drewN | apply below_drew1 | refine below_set ?_ GE118.out) | exact HB.out)⟩⟩
                      · rw [if_neg c13] at H
                        exact absurd H (by simp)
                    · rw [if_neg c11] at H
                      have c11b0 : decide (0 ≤ x5_3) = false := decide_eq_false c11
                      clear c11
                      have H' := Aside0.mk H
                      clear H
                      go_wp2
                      go_meet
                      case rel => exact ⟨_, (x5_3), (x9_3), (by first | rfl | (simp; done) | (simp [*]; done) | (simp; rw [Bool.eq_iff_iff]; simp; done)), H', ⟨by have := HK1.out; have := HJ2.out; have := HK3.out; first | omega | exact Nat.le_refl _⟩, ⟨by (with_reducible repeat (first | apply Kd.S_alloc | apply Kd.S_drewN | apply Kd.S_drew)); exact HO_6.out⟩, ⟨by (with_reducible repeat (first | apply Kd.R_alloc | apply Kd.R_drewN | apply Kd.R_drew)); exact HO_9.out⟩, ⟨by repeat (first | (with_reducible first | exact HB.out | apply below_alloc | apply pw_below_drewN | apply below_drew1) | exact HB.out)⟩⟩
                  · rw [if_neg c10] at H
                    have c10b0 : decide (x10_3 < t113) = false := decide_eq_false c10
                    clear c10
                    (first | rw [c10b0] | (simp only [i64_w, i32_w]; rw [c10b0]) | skip)
                    have H' := Aside0.mk H
                    clear H
                    go_wp2
                    go_meet
                    case rel => exact ⟨_, (x5_3), (x9_3), (by first | rfl | (simp; done) | (simp [*]; done) | (simp; rw [Bool.eq_iff_iff]; simp; done)), H', ⟨by have := HK1.out; have := HJ2.out; have := HK3.out; first | omega | exact Nat.le_refl _⟩, ⟨by (with_reducible repeat (first | apply Kd.S_alloc | apply Kd.S_drewN | apply Kd.S_drew)); exact HO_6.out⟩, ⟨by (with_reducible repeat (first | apply Kd.R_alloc | apply Kd.R_drewN | apply Kd.R_drew)); exact HO_9.out⟩, ⟨by repeat (first | (with_reducible first | exact HB.out | apply below_alloc | apply pw_below_drewN | apply below_drew1) | exact HB.out)⟩⟩
            case rest =>
              clear HC7
              try clear c1
              try clear p2
              try clear c3
              try clear c4
              try clear c4b0
              try clear c5
              try clear c9
              try clear c10
              try clear c10b0
              try clear c11
              try clear c11b0
              try clear c13
              try clear c14
              try clear hcz15_0
              try clear hcz15_1
              try clear hcz15_2
              try clear hcz17_0
              try clear hcz17_1
              try clear hcz17_2
              try clear hfz15_0
              try clear hfz15_1
              try clear hfz15_2
              try clear hfz17_0
              try clear hfz17_1
              try clear hfz17_2
              try clear p2
              obtain ⟨kq, x5_6, x9_6, rfl, HA, HJ6, HO_6, HO_9, HB⟩ := hcut
              cases kq with
              | zero => exact absurd HA.out (by simp [headgateref04_Unrows.j3])
              | succ kj6 =>
                have H := HA.out
                clear HA
                simp only [headgateref04_Unrows.j3] at H
                by_cases c19 : t113 > 12
                · rw [if_pos c19] at H
                  have c19b0 : decide (12 < t113) = true := decide_eq_true c19
                  clear c19
                  simp only [Option.some.injEq, Prod.mk.injEq] at H
                  obtain ⟨rfl, rfl⟩ := H
                  go_wp2
                  go_ret2
                  exact ⟨_, by first | rfl | (simp [errW_none, errW_some] <;> rfl) | (simp [*, errW_none, errW_some] <;> rfl), by first | exact Kd.S_nil _ _ _ _ _ | exact Kd.N_nil _ _ _ _ _ | exact Kd.V_nil _ _ _ _ _ | exact Kd.Q_nil _ _ _ _ _ | exact Kd.R_nil _ _ _ _ _, by repeat (first | (with_reducible first | exact HB.out | apply below_alloc | apply pw_below_drewN | apply below_drew1) | exact HB.out)⟩
                · rw [if_neg c19] at H
                  have c19b0 : decide (12 < t113) = false := decide_eq_false c19
                  clear c19
                  by_cases c20 : x6_1.length < 5864062014805
                  · rw [if_pos c20] at H
                    have LMc20 := Aside0.mk c20
                    clear c20
                    obtain ⟨y126, hy126⟩ : ∃ y_ : List (List (S116)), y_ = (x6_1 ++ [x9_6]) := ⟨_, rfl⟩
                    replace H : (headgateref04_Unrows.l0 kj6 a0 t111 x5_6 y126 (IntKind.u64.wrap (x7_1 + 1))) = some (r1, r2) := by first | (rw [hy126]; with_reducible exact H) | (have H2_ := (Option.bind_some _ _).symm.trans H; rw [hy126]; with_reducible exact H2_) | (have H2_ := (Option.bind_some _ _).symm.trans H; with_reducible exact H2_) | with_reducible exact H | (rw [hy126]; exact H) | exact H
                    have Ny126 := Aside0.mk hy126
                    clear hy126
                    have H' := Aside0.mk H
                    clear H
                    obtain ⟨Ao22, co22, eo22⟩ := Kd.R_slice HO_9.out
                    subst eo22
                    go_wp2_with (first | ((with_reducible refine gate_builtin (b := .append) (xs := #[.tmp 55, .tmp 57]) rfl ?_); (try (refine gate_guard (by rfl) ?_; dsimp only)); at_builtin; refine Kd.S_append (Kd.slice 116 k116) (w0 := w) w.heap.size rfl (.tmp 55) (.tmp 57) 37 111 (.slice none 0 0) 24 rfl Try.underlying37 info111 rfl (by decide) (by omega) u6 x6_1 x9_6 [.slice Ao22 x9_6.length co22] (fun _ => True) (fun k_ => some k_ = (.slice Ao22 x9_6.length co22 : Value).ownBlock) rfl rfl ?aP (fun k_ hk_ => ((Kd.R_mono (ok' := fun k_ => ((fun _ => True)) k_ ∧ some k_ ≠ (u6 : Value).ownBlock) (Kd.R_apart' (HO_9.out) (Kd.S_typed HO_6.out) (by decide)) (fun k_ hk => ⟨trivial, hk.2⟩))).1 k_ hk_.symm) ?aF ?aO ?aB ?aS ?aL ?_; (case aP => exact Kd.M_row (Kd.R_mono (Kd.R_tight rfl (Kd.R_mono (ok' := fun k_ => ((fun _ => True)) k_ ∧ some k_ ≠ (u6 : Value).ownBlock) (Kd.R_apart' (HO_9.out) (Kd.S_typed HO_6.out) (by decide)) (fun k_ hk => ⟨trivial, hk.2⟩))) (fun _ h_ => h_))); (case aB => exact (by repeat (first | (with_reducible first | exact HB.out | apply below_alloc | apply pw_below_drewN | apply below_drew1) | exact HB.out))); (case aF => exact (fun _ _ => trivial)); (case aO => exact (by (with_reducible repeat (first | apply Kd.S_alloc | apply Kd.S_drewN | apply Kd.S_drew)); exact Kd.S_mono HO_6.out (fun k_ hk => ⟨trivial, fun e_ => hk e_⟩))); (case aS => exact (below_size (by repeat (first | (with_reducible first | exact HB.out | apply below_alloc | apply pw_below_drewN | apply below_drew1) | exact HB.out)))); (case aL => have := LMc20.out; omega); intro v127 w21 ho hb hg hat; rw [← Ny126.out] at ho; have n0_ := Aside0.mk (hb); have n1_ := Aside0.mk (ho); clear HB; clear HO_6; clear HO_9; have HB := n0_; have HO128 := n1_; clear n0_ n1_; clear ho hb hg hat))
                    go_roundg kj6
                    case measure => have := HK1.out; have := HJ2.out; have := HJ6.out; omega
                    case rel => exact ⟨(x5_6), (y126), (IntKind.u64.wrap (x7_1 + 1)), (by first | rfl | (simp; done) | (simp [*]; done) | (simp; rw [Bool.eq_iff_iff]; simp; done)), (by first | rfl | (simp; done) | (simp [*]; done) | (simp; rw [Bool.eq_iff_iff]; simp; done)), H', ⟨by have := HK1.out; have := HJ2.out; have := HJ6.out; omega⟩, ⟨by (with_reducible repeat (first | apply Kd.S_alloc | apply Kd.S_drewN | apply Kd.S_drew)); exact HO128.out⟩, ⟨by repeat (first | (with_reducible first | exact HB.out | apply below_alloc | apply pw_below_drewN | apply below_drew1) | exact HB.out)⟩⟩
                  · rw [if_neg c20] at H
                    exact absurd H (by simp)
          · replace c5 := Bool.eq_false_iff.mpr c5
            subst c5
            have H1 : (if x5_1 = (a0.size : Int) then (if (a0.size : Int) > 16777216 then (some (([] : List (List (S116))), false)) else (some (x6_1, true))) else (some (([] : List (List (S116))), false))) = some (r1, r2) := by rw [if_neg (show ¬ (false = true) by decide)] at H; exact H
            clear H
            have H := H1
            clear H1
            by_cases c23 : x5_1 = (a0.size : Int)
            · rw [if_pos c23] at H
              have c23b0 : (x5_1 == (a0.size : Int)) = true := beq_iff_eq.mpr c23
              have c23b1 : (x5_1 != (a0.size : Int)) = false := bne_eq_false_iff_eq.mpr c23
              clear c23
              by_cases c24 : (a0.size : Int) > 16777216
              · rw [if_pos c24] at H
                have c24b0 : decide (16777216 < (a0.size : Int)) = true := decide_eq_true c24
                have c24b1 : decide (16777216 < a0.size) = true := decide_eq_true (by omega)
                clear c24
                simp only [Option.some.injEq, Prod.mk.injEq] at H
                obtain ⟨rfl, rfl⟩ := H
                go_wp2
                go_ret2
                exact ⟨_, by first | rfl | (simp [errW_none, errW_some] <;> rfl) | (simp [*, errW_none, errW_some] <;> rfl), by first | exact Kd.S_nil _ _ _ _ _ | exact Kd.N_nil _ _ _ _ _ | exact Kd.V_nil _ _ _ _ _ | exact Kd.Q_nil _ _ _ _ _ | exact Kd.R_nil _ _ _ _ _, by repeat (first | (with_reducible first | exact HB.out | apply below_alloc | apply pw_below_drewN | apply below_drew1) | exact HB.out)⟩
              · rw [if_neg c24] at H
                have c24b0 : decide (16777216 < (a0.size : Int)) = false := decide_eq_false c24
                have c24b1 : decide (16777216 < a0.size) = false := decide_eq_false (by omega)
                clear c24
                simp only [Option.some.injEq, Prod.mk.injEq] at H
                obtain ⟨rfl, rfl⟩ := H
                go_wp2
                go_ret2
                exact ⟨_, by first | rfl | (simp [errW_none, errW_some] <;> rfl) | (simp [*, errW_none, errW_some] <;> rfl), by (with_reducible repeat (first | apply Kd.S_alloc | apply Kd.S_drewN | apply Kd.S_drew)); exact HO_6.out, by repeat (first | (with_reducible first | exact HB.out | apply below_alloc | apply pw_below_drewN | apply below_drew1) | exact HB.out)⟩
            · rw [if_neg c23] at H
              have c23b0 : (x5_1 == (a0.size : Int)) = false := beq_eq_false_iff_ne.mpr c23
              have c23b1 : (x5_1 != (a0.size : Int)) = true := bne_iff_ne.mpr c23
              simp only [Option.some.injEq, Prod.mk.injEq] at H
              obtain ⟨rfl, rfl⟩ := H
              go_wp2
              go_ret2
              exact ⟨_, by first | rfl | (simp [errW_none, errW_some] <;> rfl) | (simp [*, errW_none, errW_some] <;> rfl), by first | exact Kd.S_nil _ _ _ _ _ | exact Kd.N_nil _ _ _ _ _ | exact Kd.V_nil _ _ _ _ _ | exact Kd.Q_nil _ _ _ _ _ | exact Kd.R_nil _ _ _ _ _, by repeat (first | (with_reducible first | exact HB.out | apply below_alloc | apply pw_below_drewN | apply below_drew1) | exact HB.out)⟩

end Go.Proofs.Ytgihecpobichbaa.Q
/- The document's reader of rows, in plain words: no program in it. -/
namespace Go.Proofs.Ytgihecpobichbaa.Q
open Go.RowKit Go.Proofs.YtgihecpobichbaaW.PrintWords Go.Proofs.YtgihecpobichbaaW.PrintLast Go.Proofs.YtgihecpobichbaaW.PrintMore
set_option linter.unusedVariables false
set_option linter.unusedSimpArgs false

theorem refChk_ev (k n : Int) (s : ByteArray) : Ev (fun K => headgateref03_Check.f K k n s) (chkV ⟨k, n, s⟩) := by
  unfold headgateref03_Check.f chkV
  simp only
  have hj1 : ∀ b : Bool, Ev (fun K => headgateref03_Check.j1 K b) (if b = true then 31 else 0) := by
    intro b
    refine Ev.step (f := fun _ => some (if b = true then 31 else 0)) (fun k => ?_) (Ev.now _)
    simp only [headgateref03_Check.j1]
    split <;> rfl
  by_cases hneg : k < 0
  · refine Ev.congr (fun _ => if_pos hneg) (Ev.step (f := fun _ => some 30) (fun K => ?_) ?_)
    · simp only [headgateref03_Check.j0]
      rw [if_pos trivial]
    · rw [if_neg (by omega), if_neg (by omega), if_neg (by omega), if_neg (by omega)]
      exact Ev.now _
  refine Ev.congr (fun _ => if_neg hneg) ?_
  by_cases hbig : k > 3
  · rw [decide_eq_true hbig]
    refine Ev.step (f := fun _ => some 30) (fun K => ?_) ?_
    · simp only [headgateref03_Check.j0]
      rw [if_pos trivial]
    · rw [if_neg (by omega), if_neg (by omega), if_neg (by omega), if_neg (by omega)]
      exact Ev.now _
  rw [decide_eq_false hbig]
  by_cases h3 : k = 3
  · rw [if_neg (by omega), if_neg (by omega), if_neg (by omega), if_pos h3]
    by_cases hn : n = 0
    · by_cases hs : s.size ≤ 200
      · rw [if_pos ⟨hn, hs⟩]
        refine Ev.step (f := fun _ => some 0) (fun K => ?_) (Ev.now _)
        simp only [headgateref03_Check.j0]
        rw [if_neg (by simp), if_pos h3, if_pos hn, if_neg (by omega)]
      · rw [if_neg (fun h => hs h.2)]
        refine Ev.step (f := fun _ => some 31) (fun K => ?_) (Ev.now _)
        simp only [headgateref03_Check.j0]
        rw [if_neg (by simp), if_pos h3, if_pos hn, if_pos (by omega)]
    · rw [if_neg (fun h => hn h.1)]
      refine Ev.step (f := fun _ => some 31) (fun K => ?_) (Ev.now _)
      simp only [headgateref03_Check.j0]
      rw [if_neg (by simp), if_pos h3, if_neg hn]
  · by_cases hs : s.toList = []
    · by_cases h0 : k = 0
      · rw [if_pos h0]
        by_cases hn : n = 0
        · rw [if_pos ⟨hn, hs⟩]
          refine Ev.step (fun K => ?_) (hj1 false)
          simp only [headgateref03_Check.j0]
          rw [if_neg (by simp), if_neg h3, if_pos hs, if_pos h0, if_pos hn, if_neg (by omega)]
        · rw [if_neg (fun h => hn h.1)]
          refine Ev.step (fun K => ?_) (hj1 true)
          simp only [headgateref03_Check.j0]
          rw [if_neg (by simp), if_neg h3, if_pos hs, if_pos h0, if_neg hn]
      · rw [if_neg h0]
        by_cases h1 : k = 1
        · rw [if_pos h1, if_pos hs]
          refine Ev.step (fun K => ?_) (hj1 false)
          simp only [headgateref03_Check.j0]
          rw [if_neg (by simp), if_neg h3, if_pos hs, if_neg h0, if_neg (by omega)]
        · rw [if_neg h1]
          have h2 : k = 2 := by omega
          rw [if_pos h2]
          by_cases hn : n = 0
          · rw [if_pos ⟨.inl hn, hs⟩]
            refine Ev.step (fun K => ?_) (hj1 false)
            simp only [headgateref03_Check.j0]
            rw [if_neg (by simp), if_neg h3, if_pos hs, if_neg h0, if_pos h2, if_pos hn]
          · have hj := hj1 (n != 1)
            have e : (if (n != 1) = true then (31 : Int) else 0) = (if (n = 0 ∨ n = 1) ∧ s.toList = [] then 0 else 31) := by
              by_cases hn1 : n = 1
              · rw [if_neg (by simp [hn1]), if_pos ⟨.inr hn1, hs⟩]
              · rw [if_pos (by simpa using hn1), if_neg (fun h => by omega)]
            rw [e] at hj
            refine Ev.step (fun K => ?_) hj
            simp only [headgateref03_Check.j0]
            rw [if_neg (by simp), if_neg h3, if_pos hs, if_neg h0, if_pos h2, if_neg hn]
    · have e : (if k = 0 then (if n = 0 ∧ s.toList = [] then (0 : Int) else 31) else if k = 1 then (if s.toList = [] then 0 else 31) else if k = 2 then (if (n = 0 ∨ n = 1) ∧ s.toList = [] then 0 else 31) else if k = 3 then (if n = 0 ∧ s.size ≤ 200 then 0 else 31) else 30) = 31 := by
        by_cases h0 : k = 0
        · rw [if_pos h0, if_neg (fun h => hs h.2)]
        · rw [if_neg h0]
          by_cases h1 : k = 1
          · rw [if_pos h1, if_neg hs]
          · rw [if_neg h1, if_pos (show k = 2 by omega), if_neg (fun h => hs h.2)]
      rw [e]
      refine Ev.step (fun K => ?_) (hj1 true)
      simp only [headgateref03_Check.j0]
      rw [if_neg (by simp), if_neg h3, if_neg hs]
/-- A value at a place. -/
theorem refUnvalue_ev (s : ByteArray) (hs : s.size ≤ 1000000) (p : Nat) (hp : p ≤ s.size) :
    ∃ r : Int × Int × ByteArray × Int, Ev (fun k => headgateref04_Unvalue.f k s (p : Int)) r ∧ (∀ x l', itemV ((bytesOf s).drop p) = some (x, l') → r = (x.f0, x.f1, x.f2, (s.size : Int) - l'.length)) ∧ (itemV ((bytesOf s).drop p) = none → r.2.2.2 = -1) := by
  have hl := bytesOf_length s
  unfold headgateref04_Unvalue.f
  by_cases hend : p = s.size
  · have hnil : (bytesOf s).drop p = [] := List.drop_of_length_le (by omega)
    refine ⟨(0, 0, ⟨#[]⟩, -1), Ev.congr (fun _ => if_neg (by omega)) ?_, fun x l' h => ?_, fun _ => rfl⟩
    · rw [decide_eq_true (by omega)]
      refine Ev.step (f := fun _ => some (0, 0, ⟨#[]⟩, -1)) (fun K => ?_) (Ev.now _)
      simp only [headgateref04_Unvalue.j0]
      rw [if_pos trivial]
    · rw [hnil] at h
      simp [itemV, itemB] at h
  · have hlt : p < s.size := by omega
    have hd := rd_drop (bytesOf s) (p : Int) (by omega) (by omega)
    rw [show ((p : Int) + 1).toNat = p + 1 by omega, Int.toNat_natCast, rd_bytesOf] at hd
    have hb := bt_range s (p : Int)
    have hwb := wrap_byte hb
    obtain ⟨c, hc⟩ : ∃ c, bt s (p : Int) = c := ⟨_, rfl⟩
    rw [hc] at hd hb hwb
    have e1 : wrap64 ((p : Int) + 1) = ((p + 1 : Nat) : Int) := by
      have h : wrap64 ((p : Int) + 1) = (p : Int) + 1 := wrap_in (by unfold in64; omega)
      rw [h]
      omega
    have hv : itemV ((bytesOf s).drop p) = (preV c ((bytesOf s).drop (p + 1))).bind fun q => if chkV q.1 = 0 then some q else none := by
      rw [hd]
      unfold itemV
      simp only [itemB, Option.bind_some]
      rw [hwb]
    have hj1 : ∀ (v : Va) (nx : Int), Ev (fun k => headgateref04_Unvalue.j1 k nx v.f0 v.f1 v.f2) (if chkV v = 0 then (v.f0, v.f1, v.f2, nx) else (v.f0, v.f1, v.f2, -1)) := by
      intro v nx
      refine Ev.step (fun k => ?_) (Ev.bind (f := fun _ t110 => (if t110 = 0 then (some (v.f0, v.f1, v.f2, nx)) else (some (v.f0, v.f1, v.f2, (-1))))) (refChk_ev v.f0 v.f1 v.f2) ?_)
      · simp only [headgateref04_Unvalue.j1]
      · by_cases h : chkV v = 0
        · simp only [if_pos h]
          exact Ev.now _
        · simp only [if_neg h]
          exact Ev.now _
    have fin : ∀ (v : Va) (nx : Int) (l' : List Int), preV c ((bytesOf s).drop (p + 1)) = some (v, l') → nx = (s.size : Int) - l'.length → Ev (fun k => headgateref04_Unvalue.j0 k s (p : Int) false) (if chkV v = 0 then (v.f0, v.f1, v.f2, nx) else (v.f0, v.f1, v.f2, -1)) →
        ∃ r : Int × Int × ByteArray × Int, Ev (fun k => if (p : Int) < 0 then headgateref04_Unvalue.j0 k s (p : Int) true else headgateref04_Unvalue.j0 k s (p : Int) (decide ((p : Int) ≥ (s.size : Int)))) r ∧ (∀ x l', itemV ((bytesOf s).drop p) = some (x, l') → r = (x.f0, x.f1, x.f2, (s.size : Int) - l'.length)) ∧ (itemV ((bytesOf s).drop p) = none → r.2.2.2 = -1) := by
      intro v nx l' hp2 hnx hev
      refine ⟨_, Ev.congr (fun _ => if_neg (by omega)) (by rw [decide_eq_false (by omega)]; exact hev), fun x l2 h => ?_, fun h => ?_⟩
      · rw [hv, hp2] at h
        simp only [Option.bind_some] at h
        split at h
        · rename_i h0
          simp only [Option.some.injEq, Prod.mk.injEq] at h
          obtain ⟨rfl, rfl⟩ := h
          rw [if_pos h0, hnx]
        · cases h
      · rw [hv, hp2] at h
        simp only [Option.bind_some] at h
        split at h
        · cases h
        · rename_i h0
          rw [if_neg h0]
    have bad : ∀ (v : Va), preV c ((bytesOf s).drop (p + 1)) = none → (∃ nx, nx = -1 ∧ Ev (fun k => headgateref04_Unvalue.j0 k s (p : Int) false) (if chkV v = 0 then (v.f0, v.f1, v.f2, nx) else (v.f0, v.f1, v.f2, -1))) →
        ∃ r : Int × Int × ByteArray × Int, Ev (fun k => if (p : Int) < 0 then headgateref04_Unvalue.j0 k s (p : Int) true else headgateref04_Unvalue.j0 k s (p : Int) (decide ((p : Int) ≥ (s.size : Int)))) r ∧ (∀ x l', itemV ((bytesOf s).drop p) = some (x, l') → r = (x.f0, x.f1, x.f2, (s.size : Int) - l'.length)) ∧ (itemV ((bytesOf s).drop p) = none → r.2.2.2 = -1) := by
      intro v hp2 ⟨nx, hnx, hev⟩
      subst hnx
      refine ⟨_, Ev.congr (fun _ => if_neg (by omega)) (by rw [decide_eq_false (by omega)]; exact hev), fun x l2 h => ?_, fun _ => ?_⟩
      · rw [hv, hp2] at h
        cases h
      · split <;> rfl
    by_cases k1 : c = 1
    · subst k1
      have hI := refUnint_at s hs (p + 1) (by omega)
      have step : ∀ (x nx : Int), Ev (fun k => headgateref04_Unint.f k s ((p + 1 : Nat) : Int)) (x, nx) → Ev (fun k => headgateref04_Unvalue.j0 k s (p : Int) false) (if chkV ⟨1, x, ⟨#[]⟩⟩ = 0 then (1, x, ⟨#[]⟩, nx) else (1, x, ⟨#[]⟩, -1)) := by
        intro x nx hx
        refine Ev.step (fun k => ?_) (Ev.bind (f := fun k bt106 => headgateref04_Unvalue.j1 k bt106.2 1 bt106.1 ⟨#[]⟩) hx (hj1 ⟨1, x, ⟨#[]⟩⟩ nx))
        simp only [headgateref04_Unvalue.j0]
        rw [if_neg (by simp), if_pos (by omega), if_pos (by omega), hc, hwb, if_pos rfl, e1]
      cases hit : itemI ((bytesOf s).drop (p + 1)) with
      | none =>
        rw [hit] at hI
        exact bad ⟨1, 0, ⟨#[]⟩⟩ (by unfold preV; rw [if_pos rfl, hit]; rfl) ⟨-1, rfl, step 0 (-1) hI⟩
      | some q =>
        obtain ⟨x, l'⟩ := q
        rw [hit] at hI
        exact fin ⟨1, x, ⟨#[]⟩⟩ _ l' (by unfold preV; rw [if_pos rfl, hit]; rfl) rfl (step x _ hI)
    · by_cases k2 : c = 2
      · subst k2
        by_cases hend2 : p + 1 = s.size
        · have hnil : (bytesOf s).drop (p + 1) = [] := List.drop_of_length_le (by omega)
          have hpn : preV 2 ((bytesOf s).drop (p + 1)) = none := by
            rw [hnil]
            rfl
          refine ⟨(2, 0, ⟨#[]⟩, -1), Ev.congr (fun _ => if_neg (by omega)) ?_, fun x l' h => ?_, fun _ => rfl⟩
          · rw [decide_eq_false (by omega)]
            refine Ev.step (f := fun _ => some (2, 0, ⟨#[]⟩, -1)) (fun K => ?_) (Ev.now _)
            simp only [headgateref04_Unvalue.j0]
            rw [if_neg (by simp), if_pos (by omega), if_pos (by omega), hc, hwb, if_neg (by omega), if_pos rfl, e1, if_pos (by omega)]
          · rw [hv, hpn] at h
            cases h
        · have hd2 := rd_drop (bytesOf s) ((p + 1 : Nat) : Int) (by omega) (by omega)
          rw [show (((p + 1 : Nat) : Int) + 1).toNat = p + 2 by omega, Int.toNat_natCast, rd_bytesOf] at hd2
          have hb2 := wrap_byte (bt_range s ((p + 1 : Nat) : Int))
          have e2 : wrap64 (((p + 1 : Nat) : Int) + 1) = (p : Int) + 2 := by
            have h : wrap64 (((p + 1 : Nat) : Int) + 1) = ((p + 1 : Nat) : Int) + 1 := wrap_in (by unfold in64; omega)
            rw [h]
            omega
          refine fin ⟨2, wrap64 (bt s ((p + 1 : Nat) : Int)), ⟨#[]⟩⟩ ((p : Int) + 2) ((bytesOf s).drop (p + 2)) ?_ ?_ ?_
          · rw [hd2]
            unfold preV
            rw [if_neg (by omega), if_pos rfl]
            rfl
          · rw [List.length_drop]
            omega
          · refine Ev.step (fun k => ?_) (hj1 ⟨2, wrap64 (bt s ((p + 1 : Nat) : Int)), ⟨#[]⟩⟩ ((p : Int) + 2))
            simp only [headgateref04_Unvalue.j0]
            rw [if_neg (by simp), if_pos (by omega), if_pos (by omega), hc, hwb, if_neg (by omega), if_pos rfl, e1, if_neg (by omega), if_pos (by omega), if_pos (by omega), e2]
      · by_cases k3 : c = 3
        · subst k3
          have hW := refW_ev s hs ((p + 1 : Nat) : Int) (by omega)
          have step : ∀ (x : ByteArray) (nx : Int), Ev (fun k => headgateref04_Unword.f k s ((p + 1 : Nat) : Int)) (x, nx) → Ev (fun k => headgateref04_Unvalue.j0 k s (p : Int) false) (if chkV ⟨3, 0, x⟩ = 0 then (3, 0, x, nx) else (3, 0, x, -1)) := by
            intro x nx hx
            refine Ev.step (fun k => ?_) (Ev.bind (f := fun k bt108 => headgateref04_Unvalue.j1 k bt108.2 3 0 bt108.1) hx (hj1 ⟨3, 0, x⟩ nx))
            simp only [headgateref04_Unvalue.j0]
            rw [if_neg (by simp), if_pos (by omega), if_pos (by omega), hc, hwb, if_neg (by omega), if_neg (by omega), if_pos rfl, e1]
          cases hit : itemW ((bytesOf s).drop (p + 1)) with
          | none =>
            rw [refW_none s (p + 1) hit] at hW
            exact bad ⟨3, 0, ⟨#[]⟩⟩ (by unfold preV; rw [if_neg (by omega), if_neg (by omega), if_pos rfl, hit]; rfl) ⟨-1, rfl, step _ _ hW⟩
          | some q =>
            obtain ⟨x, l'⟩ := q
            rw [refW_some s (p + 1) x l' hit] at hW
            exact fin ⟨3, 0, x⟩ _ l' (by unfold preV; rw [if_neg (by omega), if_neg (by omega), if_pos rfl, hit]; rfl) rfl (step _ _ hW)
        · refine fin ⟨c, 0, ⟨#[]⟩⟩ ((p + 1 : Nat) : Int) ((bytesOf s).drop (p + 1)) ?_ ?_ ?_
          · unfold preV
            rw [if_neg k1, if_neg k2, if_neg k3]
          · rw [List.length_drop]
            omega
          · refine Ev.step (fun k => ?_) (hj1 ⟨c, 0, ⟨#[]⟩⟩ ((p + 1 : Nat) : Int))
            simp only [headgateref04_Unvalue.j0]
            rw [if_neg (by simp), if_pos (by omega), if_pos (by omega), hc, hwb, if_neg k1, if_neg k2, if_neg k3, e1]
/-- Where a place is none, there are no rows. -/
theorem rows_j1_bad (s : ByteArray) (n i : Int) (xs : List (List Va)) : Ev (fun k => headgateref04_Unrows.j1 k s n (-1) xs i false) ([], false) := by
  refine Ev.step (f := fun _ => some ([], false)) (fun k => ?_) (Ev.now _)
  simp only [headgateref04_Unrows.j1]
  rw [if_neg (by simp), if_neg (by omega)]
theorem rows_l0_bad (s : ByteArray) (n i : Int) (xs : List (List Va)) : Ev (fun k => headgateref04_Unrows.l0 k s n (-1) xs i) ([], false) := by
  refine Ev.step (f := fun k => headgateref04_Unrows.j1 k s n (-1) xs i false) (fun k => ?_) (rows_j1_bad s n i xs)
  simp only [headgateref04_Unrows.l0]
  rw [decide_eq_false (show ¬ (-1 : Int) ≥ 0 by omega)]
  split <;> rfl
theorem rows_j3_bad (s : ByteArray) (n i kc : Int) (xs : List (List Va)) (hx : xs.length ≤ 1000001) (row : List Va) : Ev (fun k => headgateref04_Unrows.j3 k s n (-1) xs i kc row) ([], false) := by
  by_cases h : kc > 12
  · refine Ev.step (f := fun _ => some ([], false)) (fun k => ?_) (Ev.now _)
    simp only [headgateref04_Unrows.j3]
    rw [if_pos h]
  · refine Ev.step (f := fun k => headgateref04_Unrows.l0 k s n (-1) (xs ++ [row]) (IntKind.u64.wrap (i + 1))) (fun k => ?_) (rows_l0_bad s n _ _)
    simp only [headgateref04_Unrows.j3]
    rw [if_neg h, if_pos (by omega)]
/-- One row's values. -/
theorem rows_l1 (s : ByteArray) (hs : s.size ≤ 1000000) (n i kc : Int) (hkc : kc < 18446744073709551616) (xs : List (List Va)) (hx : xs.length ≤ 1000001) (R : List (List Va) × Bool) : ∀ (m p d : Nat) (row : List Va) (j : Int), p ≤ s.size → s.size - p ≤ m → 0 ≤ j → kc = j + d → row.length ≤ p →
    (∀ ys l', readN itemV d ((bytesOf s).drop p) = some (ys, l') → Ev (fun k => headgateref04_Unrows.j3 k s n ((s.size : Int) - l'.length) xs i kc (row ++ ys)) R) → (readN itemV d ((bytesOf s).drop p) = none → R = ([], false)) →
    Ev (fun k => headgateref04_Unrows.l1 k s n (p : Int) xs i kc row j) R := by
  have hl := bytesOf_length s
  intro m
  induction m with
  | zero =>
    intro p d row j hp hm hj hd hr hy hno
    cases d with
    | zero =>
      have h := hy [] ((bytesOf s).drop p) rfl
      rw [List.append_nil, List.length_drop, hl, show ((s.size : Int) - ((s.size - p : Nat) : Int)) = (p : Int) by omega] at h
      refine Ev.step (fun k => ?_) h
      simp only [headgateref04_Unrows.l1]
      rw [if_neg (by omega)]
    | succ d =>
      obtain ⟨r, hr1, hr2, hr3⟩ := refUnvalue_ev s hs p hp
      have hnil : (bytesOf s).drop p = [] := List.drop_of_length_le (by omega)
      have hit : itemV ((bytesOf s).drop p) = none := by rw [hnil]; rfl
      have hR := hno (by simp only [readN, hit, Option.bind_none])
      subst hR
      have h3 := hr3 hit
      obtain ⟨r1, r2, r3, r4⟩ := r
      simp only at h3
      subst h3
      have h2 : Ev (fun k => headgateref04_Unrows.l1 k s n (-1) xs i kc (row ++ [(⟨r1, r2, r3⟩ : Va)]) (IntKind.u64.wrap (j + 1))) ([], false) := by
        refine Ev.step (fun k => ?_) (rows_j3_bad s n i kc xs hx (row ++ [⟨r1, r2, r3⟩]))
        simp only [headgateref04_Unrows.l1]
        rw [if_neg (show ¬ (-1 : Int) ≥ 0 by omega)]
        split <;> rfl
      refine Ev.step (fun k => ?_) (Ev.bind (f := fun k bt119 => if row.length < 4398046511104 then headgateref04_Unrows.l1 k s n bt119.2.2.2 xs i kc (row ++ [(⟨bt119.1, bt119.2.1, bt119.2.2.1⟩ : Va)]) (IntKind.u64.wrap (j + 1)) else none) hr1 (Ev.congr (fun k => if_pos (by omega)) h2))
      simp only [headgateref04_Unrows.l1]
      rw [if_pos (by omega), if_pos (by omega)]
  | succ m ih =>
    intro p d row j hp hm hj hd hr hy hno
    cases d with
    | zero =>
      have h := hy [] ((bytesOf s).drop p) rfl
      rw [List.append_nil, List.length_drop, hl, show ((s.size : Int) - ((s.size - p : Nat) : Int)) = (p : Int) by omega] at h
      refine Ev.step (fun k => ?_) h
      simp only [headgateref04_Unrows.l1]
      rw [if_neg (by omega)]
    | succ d =>
      obtain ⟨r, hr1, hr2, hr3⟩ := refUnvalue_ev s hs p hp
      have hw : IntKind.u64.wrap (j + 1) = j + 1 := wrap_u _ (by omega) (by omega)
      cases hit : itemV ((bytesOf s).drop p) with
      | none =>
        have hR := hno (by simp only [readN, hit, Option.bind_none])
        subst hR
        have h3 := hr3 hit
        obtain ⟨r1, r2, r3, r4⟩ := r
        simp only at h3
        subst h3
        have h2 : Ev (fun k => headgateref04_Unrows.l1 k s n (-1) xs i kc (row ++ [(⟨r1, r2, r3⟩ : Va)]) (IntKind.u64.wrap (j + 1))) ([], false) := by
          refine Ev.step (fun k => ?_) (rows_j3_bad s n i kc xs hx (row ++ [⟨r1, r2, r3⟩]))
          simp only [headgateref04_Unrows.l1]
          rw [if_neg (show ¬ (-1 : Int) ≥ 0 by omega)]
          split <;> rfl
        refine Ev.step (fun k => ?_) (Ev.bind (f := fun k bt119 => if row.length < 4398046511104 then headgateref04_Unrows.l1 k s n bt119.2.2.2 xs i kc (row ++ [(⟨bt119.1, bt119.2.1, bt119.2.2.1⟩ : Va)]) (IntKind.u64.wrap (j + 1)) else none) hr1 (Ev.congr (fun k => if_pos (by omega)) h2))
        simp only [headgateref04_Unrows.l1]
        rw [if_pos (by omega), if_pos (by omega)]
      | some q =>
        obtain ⟨x, l'⟩ := q
        have h3 := hr2 x l' hit
        subst h3
        have hless := itemV_less _ _ _ hit
        rw [List.length_drop] at hless
        have he := (itemV_only _ _ _ (fun y hy => bytesOf_range s y (List.mem_of_mem_drop hy)) hit).1
        have hdr := drop_rest he
        rw [hl] at hdr
        have h2 := ih (s.size - l'.length) d (row ++ [x]) (j + 1) (by omega) (by omega) (by omega) (by omega) (by rw [List.length_append]; simp; omega)
          (fun ys l2 h => by
            rw [← hdr] at h
            have := hy (x :: ys) l2 (by simp only [readN, hit, Option.bind_some, h, Option.map_some])
            rw [List.append_assoc]
            exact this)
          (fun h => hno (by
            rw [← hdr] at h
            simp only [readN, hit, Option.bind_some, h, Option.map_none]))
        rw [show ((s.size - l'.length : Nat) : Int) = (s.size : Int) - l'.length by omega] at h2
        refine Ev.step (fun k => ?_) (Ev.bind (f := fun k bt119 => if row.length < 4398046511104 then headgateref04_Unrows.l1 k s n bt119.2.2.2 xs i kc (row ++ [(⟨bt119.1, bt119.2.1, bt119.2.2.1⟩ : Va)]) (IntKind.u64.wrap (j + 1)) else none) hr1 (Ev.congr (fun k => if_pos (by omega)) (by rw [hw]; exact h2)))
        simp only [headgateref04_Unrows.l1]
        rw [if_pos (by omega), if_pos (by omega)]
theorem finX_none {α : Type} (N : Nat) (xs : List α) : finX N xs none = ([], false) := rfl
theorem rows_outer (s : ByteArray) (hs : s.size ≤ 1000000) (n : Int) (hn : n < 18446744073709551616) : ∀ (m p d : Nat) (xs : List (List Va)) (i : Int), p ≤ s.size → s.size - p ≤ m → 0 ≤ i → n = i + d → xs.length ≤ p →
    Ev (fun k => headgateref04_Unrows.l0 k s n (p : Int) xs i) (finX s.size xs (readN itemR d ((bytesOf s).drop p))) := by
  have hl := bytesOf_length s
  intro m
  induction m with
  | zero =>
    intro p d xs i hp hm hi hd hx
    have hnil : (bytesOf s).drop p = [] := List.drop_of_length_le (by omega)
    cases d with
    | zero =>
      simp only [readN, finX]
      rw [hnil, if_pos ⟨rfl, by omega⟩, List.append_nil]
      refine Ev.step (f := fun k => headgateref04_Unrows.j1 k s n (p : Int) xs i false) (fun k => ?_) (Ev.step (f := fun _ => some (xs, true)) (fun k => ?_) (Ev.now _))
      · simp only [headgateref04_Unrows.l0]
        rw [if_neg (by omega)]
      · simp only [headgateref04_Unrows.j1]
        rw [if_neg (by simp), if_pos (by omega), if_neg (by omega)]
    | succ d =>
      have hit : itemR ((bytesOf s).drop p) = none := by rw [hnil]; rfl
      simp only [readN, hit, Option.bind_none, finX_none]
      have hu := ref_at_nat s hs p hp
      rw [hnil] at hu
      have e : refOfA p (un []) = (0, -1) := rfl
      rw [e] at hu
      refine Ev.step (f := fun k => headgateref04_Unrows.j1 k s n (p : Int) xs i true) (fun k => ?_) (Ev.step (fun k => ?_) (Ev.bind (f := fun k bt113 => headgateref04_Unrows.l1 k s n bt113.2 xs i bt113.1 [] 0) hu (Ev.step (fun k => ?_) (rows_j3_bad s n i 0 xs (by omega) []))))
      · simp only [headgateref04_Unrows.l0]
        rw [if_pos (by omega), decide_eq_true (by omega)]
      · simp only [headgateref04_Unrows.j1]
        rw [if_pos trivial]
      · simp only [headgateref04_Unrows.l1]
        rw [if_neg (by omega)]
  | succ m ih =>
    intro p d xs i hp hm hi hd hx
    cases d with
    | zero =>
      simp only [readN, finX, List.length_drop, hl]
      refine Ev.step (f := fun k => headgateref04_Unrows.j1 k s n (p : Int) xs i false) (fun k => ?_) ?_
      · simp only [headgateref04_Unrows.l0]
        rw [if_neg (by omega)]
      · by_cases hq : p = s.size
        · rw [if_pos (by omega), List.append_nil]
          refine Ev.step (f := fun _ => some (xs, true)) (fun k => ?_) (Ev.now _)
          simp only [headgateref04_Unrows.j1]
          rw [if_neg (by simp), if_pos (by omega), if_neg (by omega)]
        · rw [if_neg (by omega)]
          refine Ev.step (f := fun _ => some ([], false)) (fun k => ?_) (Ev.now _)
          simp only [headgateref04_Unrows.j1]
          rw [if_neg (by simp), if_neg (by omega)]
    | succ d =>
      have hu := ref_at_nat s hs p hp
      have head : ∀ (q : Int × Int) (R : List (List Va) × Bool), Ev (fun k => headgateref04_Unnum.f k s (p : Int)) q → Ev (fun k => headgateref04_Unrows.l1 k s n q.2 xs i q.1 [] 0) R → Ev (fun k => headgateref04_Unrows.l0 k s n (p : Int) xs i) R := by
        intro q R hq hR
        refine Ev.step (f := fun k => headgateref04_Unrows.j1 k s n (p : Int) xs i true) (fun k => ?_) (Ev.step (fun k => ?_) (Ev.bind (f := fun k bt113 => headgateref04_Unrows.l1 k s n bt113.2 xs i bt113.1 [] 0) hq hR))
        · simp only [headgateref04_Unrows.l0]
          rw [if_pos (by omega), decide_eq_true (by omega)]
        · simp only [headgateref04_Unrows.j1]
          rw [if_pos trivial]
      have hw : IntKind.u64.wrap (i + 1) = i + 1 := wrap_u _ (by omega) (by omega)
      by_cases h : (un ((bytesOf s).drop p)).2.2 = 0
      · obtain ⟨kc, k1, he⟩ : ∃ kc k1, un ((bytesOf s).drop p) = (kc, k1, 0) := ⟨(un ((bytesOf s).drop p)).1, (un ((bytesOf s).drop p)).2.1, by rw [← h]⟩
        have hpos := un_pos h
        have hbp : Bytes ((bytesOf s).drop p) := fun y hy => bytesOf_range s y (List.mem_of_mem_drop hy)
        obtain ⟨r0, f1, f2, f3, f4⟩ := un_only hbp he
        rw [he] at hpos
        rw [List.length_drop, hl] at hpos
        simp only at hpos
        have e : refOfA p (un ((bytesOf s).drop p)) = (kc, (p : Int) + k1) := by
          unfold refOfA
          rw [he, if_pos rfl]
        rw [e] at hu
        refine head _ _ hu ?_
        have hdd : ((bytesOf s).drop p).drop k1.toNat = (bytesOf s).drop (p + k1.toNat) := by rw [List.drop_drop]
        have hcast : (p : Int) + k1 = ((p + k1.toNat : Nat) : Int) := by omega
        simp only
        rw [hcast]
        have hri : readItems itemV ((bytesOf s).drop p) = readN itemV kc.toNat ((bytesOf s).drop (p + k1.toNat)) := by
          unfold readItems
          rw [he, if_pos rfl]
          simp only
          rw [hdd]
          by_cases hg : kc > (((bytesOf s).drop (p + k1.toNat)).length : Int)
          · rw [if_pos hg, readN_short itemV itemV_less _ _ (by omega)]
          · rw [if_neg hg]
        refine rows_l1 s hs n i kc f4 xs (by omega) _ s.size (p + k1.toNat) kc.toNat [] 0 (by omega) (by omega) (by omega) (by omega) (by simp) (fun ys l' hy => ?_) (fun hno => ?_)
        · have hb2 : Bytes ((bytesOf s).drop (p + k1.toNat)) := fun y hy => bytesOf_range s y (List.mem_of_mem_drop hy)
          obtain ⟨g1, g2, g3⟩ := readN_only itemV encV goodV itemV_only _ _ _ _ hb2 hy
          have hle := readN_less itemV itemV_less _ _ _ _ hy
          rw [List.length_drop, hl] at hle
          rw [List.nil_append]
          by_cases h12 : kc > 12
          · have hnr : itemR ((bytesOf s).drop p) = none := by
              unfold itemR
              rw [hri, hy]
              simp only [Option.bind_some]
              refine if_neg (fun hr => ?_)
              unfold rowOk at hr
              rw [Bool.and_eq_true] at hr
              have := of_decide_eq_true hr.1
              omega
            simp only [readN, hnr, Option.bind_none, finX_none]
            refine Ev.step (f := fun _ => some ([], false)) (fun k => ?_) (Ev.now _)
            simp only [headgateref04_Unrows.j3]
            rw [if_pos h12]
          · have hsr : itemR ((bytesOf s).drop p) = some (ys, l') := by
              unfold itemR
              rw [hri, hy]
              simp only [Option.bind_some]
              refine if_pos ?_
              unfold rowOk
              rw [Bool.and_eq_true]
              exact ⟨decide_eq_true (by omega), List.all_eq_true.2 (fun v hv => by simpa using (g3 v hv).1)⟩
            have hdr := drop_rest (b := bytesOf s) (p := p + k1.toNat) g1
            rw [hl] at hdr
            have h2 := ih (s.size - l'.length) d (xs ++ [ys]) (i + 1) (by omega) (by omega) (by omega) (by omega) (by rw [List.length_append]; simp; omega)
            rw [← hdr, show ((s.size - l'.length : Nat) : Int) = (s.size : Int) - l'.length by omega] at h2
            have hfin : finX s.size (xs ++ [ys]) (readN itemR d l') = finX s.size xs (readN itemR (d + 1) ((bytesOf s).drop p)) := by
              simp only [readN, hsr, Option.bind_some]
              cases readN itemR d l' with
              | none => rfl
              | some q =>
                simp only [Option.map_some, finX]
                split <;> simp
            rw [hfin] at h2
            refine Ev.step (fun k => ?_) h2
            simp only [headgateref04_Unrows.j3]
            rw [if_neg h12, if_pos (by omega), hw]
        · have hnr : itemR ((bytesOf s).drop p) = none := by
            unfold itemR
            rw [hri, hno]
            rfl
          simp only [readN, hnr, Option.bind_none, finX_none]
      · have e : refOfA p (un ((bytesOf s).drop p)) = (0, -1) := by
          unfold refOfA
          rw [if_neg h]
        rw [e] at hu
        have hnr : itemR ((bytesOf s).drop p) = none := by
          unfold itemR readItems
          rw [if_neg h]
          rfl
        simp only [readN, hnr, Option.bind_none, finX_none]
        refine head _ _ hu (Ev.step (fun k => ?_) (rows_j3_bad s n i 0 xs (by omega) []))
        simp only [headgateref04_Unrows.l1]
        rw [if_neg (by omega)]
theorem refUnrows (s : ByteArray) (hs : s.size ≤ 1000000) : Ev (fun k => headgateref04_Unrows.f k s) ((readX itemR (bytesOf s)).1, decide ((readX itemR (bytesOf s)).2 = 0)) := by
  have hl := bytesOf_length s
  unfold headgateref04_Unrows.f
  rw [← finX_readX itemR itemR_less, hl]
  refine Ev.bind (ref_at_nat s hs 0 (by omega)) ?_
  rw [List.drop_zero]
  unfold refOfA
  by_cases h : (un (bytesOf s)).2.2 = 0
  · rw [if_pos h, if_pos h]
    obtain ⟨n, k, hu⟩ : ∃ n k, un (bytesOf s) = (n, k, 0) := ⟨(un (bytesOf s)).1, (un (bytesOf s)).2.1, by rw [← h]⟩
    have hpos := un_pos h
    obtain ⟨r, e1, e2, e3, e4⟩ := un_only (bytesOf_range s) hu
    rw [hu] at hpos ⊢
    simp only at hpos ⊢
    have h2 := rows_outer s hs n e4 s.size k.toNat n.toNat [] 0 (by omega) (by omega) (by omega) (by omega) (by simp)
    rw [show ((k.toNat : Nat) : Int) = ((0 : Nat) : Int) + k by omega] at h2
    exact h2
  · rw [if_neg h, if_neg h]
    exact rows_l0_bad s 0 0 []
end Go.Proofs.Ytgihecpobichbaa.Q
/- The law CodeReads: walked. Printed by wip/gen/codereads.py. -/
namespace Go.Proofs.Ytgihecpobichbaa.Q
open Go.RowKit Go.Proofs.YtgihecpobichbaaW.PrintWords Go.Proofs.YtgihecpobichbaaW.PrintLast Go.Proofs.YtgihecpobichbaaW.PrintMore
set_option linter.unusedVariables false
set_option linter.unusedSimpArgs false
theorem eqColumn (d : Nat) (w : World) (a : ByteArray) (b : Int) :
    (Op.equalIn (d + 2) 43 (.agg #[.string a, .int .i64 b]) (.agg #[.string a, .int .i64 b])).run Try.prog w = .ok true w := by
  refine eqA_of Try.underlying43 (by kernel_rfl) ?_
  refine eqf_cons (r := true) (s := true) (by rfl) (by go_simp; rfl) (by go_simp; rfl) (by go_simp) ?_
  exact eqf_last (by rfl) (by go_simp; rfl) (by go_simp; rfl) (by go_simp)
attribute [local go_sem high] eqPair eqColumn
set_option maxHeartbeats 8000000 in
set_option maxRecDepth 100000 in
theorem reads_walk (s : ByteArray) (hs : s.size ≤ 2000) (w : World) (lR : List (List Va)) (eR : Int) (hR : readR (bytesOf s) = (lR, eR)) (zR : headgatelaw04_wrong.f eR (decide (eR = 0)) = some true) (vR : ∀ W, Calls Try.prog 33 #[.string s] W fun e w' => ∃ v0_ : Value, e = .returned (.tuple #[v0_, .bool (decide (eR = 0))]) ∧ Kd.R (Kd.slice 116 k116) 111 w' W.heap.size (fun _ => True) v0_ lR ∧ Below W.heap.size W w') (lC : List Co) (eC : Int) (hC : readC (bytesOf s) = (lC, eC)) (zC : headgatelaw04_wrong.f eC (decide (eC = 0)) = some true) (vC : ∀ W, Calls Try.prog 34 #[.string s] W fun e w' => ∃ v0_ : Value, e = .returned (.tuple #[v0_, .bool (decide (eC = 0))]) ∧ Kd.R k43 43 w' W.heap.size (fun _ => True) v0_ lC ∧ Below W.heap.size W w') (lP : List Pa) (eP : Int) (hP : readP (bytesOf s) = (lP, eP)) (zP : headgatelaw04_wrong.f eP (decide (eP = 0)) = some true) (vP : ∀ W, Calls Try.prog 35 #[.string s] W fun e w' => ∃ v0_ : Value, e = .returned (.tuple #[v0_, .bool (decide (eP = 0))]) ∧ Kd.R k74 74 w' W.heap.size (fun _ => True) v0_ lP ∧ Below W.heap.size W w') (lI : List Int) (eI : Int) (hI : readI (bytesOf s) = (lI, eI)) (zI : headgatelaw04_wrong.f eI (decide (eI = 0)) = some true) (vI : ∀ W, Calls Try.prog 36 #[.string s] W fun e w' => ∃ v0_ : Value, e = .returned (.tuple #[v0_, .bool (decide (eI = 0))]) ∧ Kd.R (Kd.int .i64) 2 w' W.heap.size (fun _ => True) v0_ lI ∧ Below W.heap.size W w') (KS : Nat) (hSame : headgateref03_Rows.f KS lR lR = some true) (hmC : lC.length ≤ 9223372036854775806) (hmP : lP.length ≤ 9223372036854775806) (hmI : lI.length ≤ 9223372036854775806) :
    Calls Try.prog 6 #[.string s] w fun e w' => e = .returned (.bool true) ∧ Below w.heap.size w w' := by
  have kb := fun W => print_bytes (P := Try.prog) 9 27 5 Try.underlying9 Try.underlying27 Try.underlying5 s W
  have hs1 : decide (2000 < (s.size : Int)) = false := decide_eq_false (by omega)
  have hs2 : decide (2000 < s.size) = false := decide_eq_false (by omega)
  have UR : Aside0 (∀ W, Calls Try.prog 29 #[.slice (some ⟨W.heap.size, 0, none⟩) s.size (grownCap W s.size 0 5)] (Lib.bytesWorld W 5 s) fun e w' => ∃ v0_ : Value, e = .returned (.tuple #[v0_, .int .i64 eR]) ∧ Kd.R (Kd.slice 116 k116) 111 w' (Lib.bytesWorld W 5 s).heap.size (fun _ => True) v0_ lR ∧ Below (Lib.bytesWorld W 5 s).heap.size (Lib.bytesWorld W 5 s) w') := ⟨fun W => by have := unR_text s (by omega) W; rw [hR] at this; exact this⟩
  have VR : Aside0 (∀ W, Calls Try.prog 33 #[.string s] W fun e w' => ∃ v0_ : Value, e = .returned (.tuple #[v0_, .bool (decide (eR = 0))]) ∧ Kd.R (Kd.slice 116 k116) 111 w' W.heap.size (fun _ => True) v0_ lR ∧ Below W.heap.size W w') := ⟨vR⟩
  have ZR := Aside0.mk zR
  have UC : Aside0 (∀ W, Calls Try.prog 30 #[.slice (some ⟨W.heap.size, 0, none⟩) s.size (grownCap W s.size 0 5)] (Lib.bytesWorld W 5 s) fun e w' => ∃ v0_ : Value, e = .returned (.tuple #[v0_, .int .i64 eC]) ∧ Kd.R k43 43 w' (Lib.bytesWorld W 5 s).heap.size (fun _ => True) v0_ lC ∧ Below (Lib.bytesWorld W 5 s).heap.size (Lib.bytesWorld W 5 s) w') := ⟨fun W => by have := unC_text s (by omega) W; rw [hC] at this; exact this⟩
  have VC : Aside0 (∀ W, Calls Try.prog 34 #[.string s] W fun e w' => ∃ v0_ : Value, e = .returned (.tuple #[v0_, .bool (decide (eC = 0))]) ∧ Kd.R k43 43 w' W.heap.size (fun _ => True) v0_ lC ∧ Below W.heap.size W w') := ⟨vC⟩
  have ZC := Aside0.mk zC
  have UP : Aside0 (∀ W, Calls Try.prog 31 #[.slice (some ⟨W.heap.size, 0, none⟩) s.size (grownCap W s.size 0 5)] (Lib.bytesWorld W 5 s) fun e w' => ∃ v0_ : Value, e = .returned (.tuple #[v0_, .int .i64 eP]) ∧ Kd.R k74 74 w' (Lib.bytesWorld W 5 s).heap.size (fun _ => True) v0_ lP ∧ Below (Lib.bytesWorld W 5 s).heap.size (Lib.bytesWorld W 5 s) w') := ⟨fun W => by have := unP_text s (by omega) W; rw [hP] at this; exact this⟩
  have VP : Aside0 (∀ W, Calls Try.prog 35 #[.string s] W fun e w' => ∃ v0_ : Value, e = .returned (.tuple #[v0_, .bool (decide (eP = 0))]) ∧ Kd.R k74 74 w' W.heap.size (fun _ => True) v0_ lP ∧ Below W.heap.size W w') := ⟨vP⟩
  have ZP := Aside0.mk zP
  have UI : Aside0 (∀ W, Calls Try.prog 32 #[.slice (some ⟨W.heap.size, 0, none⟩) s.size (grownCap W s.size 0 5)] (Lib.bytesWorld W 5 s) fun e w' => ∃ v0_ : Value, e = .returned (.tuple #[v0_, .int .i64 eI]) ∧ Kd.R (Kd.int .i64) 2 w' (Lib.bytesWorld W 5 s).heap.size (fun _ => True) v0_ lI ∧ Below (Lib.bytesWorld W 5 s).heap.size (Lib.bytesWorld W 5 s) w') := ⟨fun W => by have := unI_text s (by omega) W; rw [hI] at this; exact this⟩
  have VI : Aside0 (∀ W, Calls Try.prog 36 #[.string s] W fun e w' => ∃ v0_ : Value, e = .returned (.tuple #[v0_, .bool (decide (eI = 0))]) ∧ Kd.R (Kd.int .i64) 2 w' W.heap.size (fun _ => True) v0_ lI ∧ Below W.heap.size W w') := ⟨vI⟩
  have ZI := Aside0.mk zI
  have HS := Aside0.mk hSame
  have MC := Aside0.mk hmC
  have MP := Aside0.mk hmP
  have MI := Aside0.mk hmI
  clear hR zR vR hC zC vC hP zP vP hI zI vI hSame hmC hmP hmI
  generalize decide (eR = 0) = rR at VR ZR
  generalize decide (eC = 0) = rC at VC ZC
  generalize decide (eP = 0) = rP at VP ZP
  generalize decide (eI = 0) = rI at VI ZI
  go_enter Try.func6, Try.ntmps6
  go_wp2_with fail
  refine (headgatelaw04_alive.calls 30 true _ alive04).mono ?_
  rintro e w1 ⟨rfl, hb1⟩
  have HB := Aside0.mk hb1
  clear hb1
  go_wp2_with fail
  refine (UR.out _).mono ?_
  rintro e wR ⟨vR, rfl, hRR, hbR⟩
  have HBn := Aside0.mk (below_step (bytes_below HB.out HB.out.size 5 s) hbR)
  clear HB
  have HB := HBn
  clear HBn
  obtain ⟨AR, cR, rfl⟩ := Kd.R_slice hRR
  have DR := Aside0.mk (Kd.R_reads' hRR).2.2
  have ER := Aside0.mk (Kd.R_reads' hRR).2.1
  clear hRR hbR UR
  go_wp2_with fail
  refine (UC.out _).mono ?_
  rintro e wC ⟨vC, rfl, hRC, hbC⟩
  have HBn := Aside0.mk (below_step (bytes_below HB.out HB.out.size 5 s) hbC)
  have TR := Aside0.mk (Kd.C_below (Kd.C_below DR.out (bytes_below (Below.refl _ _) (Nat.le_refl _) 5 s)) hbC)
  clear DR
  have DR := TR
  clear TR
  clear HB
  have HB := HBn
  clear HBn
  obtain ⟨AC, cC, rfl⟩ := Kd.R_slice hRC
  have DC := Aside0.mk (Kd.R_reads' hRC).2.2
  have EC := Aside0.mk (Kd.R_reads' hRC).2.1
  clear hRC hbC UC
  go_wp2_with fail
  refine (UP.out _).mono ?_
  rintro e wP ⟨vP, rfl, hRP, hbP⟩
  have HBn := Aside0.mk (below_step (bytes_below HB.out HB.out.size 5 s) hbP)
  have TR := Aside0.mk (Kd.C_below (Kd.C_below DR.out (bytes_below (Below.refl _ _) (Nat.le_refl _) 5 s)) hbP)
  clear DR
  have DR := TR
  clear TR
  have TC := Aside0.mk (Kd.C_below (Kd.C_below DC.out (bytes_below (Below.refl _ _) (Nat.le_refl _) 5 s)) hbP)
  clear DC
  have DC := TC
  clear TC
  clear HB
  have HB := HBn
  clear HBn
  obtain ⟨AP, cP, rfl⟩ := Kd.R_slice hRP
  have DP := Aside0.mk (Kd.R_reads' hRP).2.2
  have EP := Aside0.mk (Kd.R_reads' hRP).2.1
  clear hRP hbP UP
  go_wp2_with fail
  refine (UI.out _).mono ?_
  rintro e wI ⟨vI, rfl, hRI, hbI⟩
  have HBn := Aside0.mk (below_step (bytes_below HB.out HB.out.size 5 s) hbI)
  have TR := Aside0.mk (Kd.C_below (Kd.C_below DR.out (bytes_below (Below.refl _ _) (Nat.le_refl _) 5 s)) hbI)
  clear DR
  have DR := TR
  clear TR
  have TC := Aside0.mk (Kd.C_below (Kd.C_below DC.out (bytes_below (Below.refl _ _) (Nat.le_refl _) 5 s)) hbI)
  clear DC
  have DC := TC
  clear TC
  have TP := Aside0.mk (Kd.C_below (Kd.C_below DP.out (bytes_below (Below.refl _ _) (Nat.le_refl _) 5 s)) hbI)
  clear DP
  have DP := TP
  clear TP
  clear HB
  have HB := HBn
  clear HBn
  obtain ⟨AI, cI, rfl⟩ := Kd.R_slice hRI
  have DI := Aside0.mk (Kd.R_reads' hRI).2.2
  have EI := Aside0.mk (Kd.R_reads' hRI).2.1
  clear hRI hbI UI
  clear kb
  go_wp2_with fail
  refine (VR.out _).mono ?_
  rintro e xR ⟨yR, rfl, hRR, hbR⟩
  have HBn := Aside0.mk (below_step HB.out hbR)
  have TR := Aside0.mk (Kd.C_below DR.out hbR)
  clear DR
  have DR := TR
  clear TR
  have TC := Aside0.mk (Kd.C_below DC.out hbR)
  clear DC
  have DC := TC
  clear TC
  have TP := Aside0.mk (Kd.C_below DP.out hbR)
  clear DP
  have DP := TP
  clear TP
  have TI := Aside0.mk (Kd.C_below DI.out hbR)
  clear DI
  have DI := TI
  clear TI
  clear HB
  have HB := HBn
  clear HBn
  obtain ⟨BR, dR, rfl⟩ := Kd.R_slice hRR
  have DRx := Aside0.mk (Kd.R_reads' hRR).2.2
  have ERx := Aside0.mk (Kd.R_reads' hRR).2.1
  clear hRR hbR VR
  go_wp2_with fail
  refine (VC.out _).mono ?_
  rintro e xC ⟨yC, rfl, hRC, hbC⟩
  have HBn := Aside0.mk (below_step HB.out hbC)
  have TR := Aside0.mk (Kd.C_below DR.out hbC)
  clear DR
  have DR := TR
  clear TR
  have TC := Aside0.mk (Kd.C_below DC.out hbC)
  clear DC
  have DC := TC
  clear TC
  have TP := Aside0.mk (Kd.C_below DP.out hbC)
  clear DP
  have DP := TP
  clear TP
  have TI := Aside0.mk (Kd.C_below DI.out hbC)
  clear DI
  have DI := TI
  clear TI
  have TRx := Aside0.mk (Kd.C_below DRx.out hbC)
  clear DRx
  have DRx := TRx
  clear TRx
  clear HB
  have HB := HBn
  clear HBn
  obtain ⟨BC, dC, rfl⟩ := Kd.R_slice hRC
  have DCx := Aside0.mk (Kd.R_reads' hRC).2.2
  have ECx := Aside0.mk (Kd.R_reads' hRC).2.1
  clear hRC hbC VC
  go_wp2_with fail
  refine (VP.out _).mono ?_
  rintro e xP ⟨yP, rfl, hRP, hbP⟩
  have HBn := Aside0.mk (below_step HB.out hbP)
  have TR := Aside0.mk (Kd.C_below DR.out hbP)
  clear DR
  have DR := TR
  clear TR
  have TC := Aside0.mk (Kd.C_below DC.out hbP)
  clear DC
  have DC := TC
  clear TC
  have TP := Aside0.mk (Kd.C_below DP.out hbP)
  clear DP
  have DP := TP
  clear TP
  have TI := Aside0.mk (Kd.C_below DI.out hbP)
  clear DI
  have DI := TI
  clear TI
  have TRx := Aside0.mk (Kd.C_below DRx.out hbP)
  clear DRx
  have DRx := TRx
  clear TRx
  have TCx := Aside0.mk (Kd.C_below DCx.out hbP)
  clear DCx
  have DCx := TCx
  clear TCx
  clear HB
  have HB := HBn
  clear HBn
  obtain ⟨BP, dP, rfl⟩ := Kd.R_slice hRP
  have DPx := Aside0.mk (Kd.R_reads' hRP).2.2
  have EPx := Aside0.mk (Kd.R_reads' hRP).2.1
  clear hRP hbP VP
  go_wp2_with fail
  refine (VI.out _).mono ?_
  rintro e xI ⟨yI, rfl, hRI, hbI⟩
  have HBn := Aside0.mk (below_step HB.out hbI)
  have TR := Aside0.mk (Kd.C_below DR.out hbI)
  clear DR
  have DR := TR
  clear TR
  have TC := Aside0.mk (Kd.C_below DC.out hbI)
  clear DC
  have DC := TC
  clear TC
  have TP := Aside0.mk (Kd.C_below DP.out hbI)
  clear DP
  have DP := TP
  clear TP
  have TI := Aside0.mk (Kd.C_below DI.out hbI)
  clear DI
  have DI := TI
  clear TI
  have TRx := Aside0.mk (Kd.C_below DRx.out hbI)
  clear DRx
  have DRx := TRx
  clear TRx
  have TCx := Aside0.mk (Kd.C_below DCx.out hbI)
  clear DCx
  have DCx := TCx
  clear TCx
  have TPx := Aside0.mk (Kd.C_below DPx.out hbI)
  clear DPx
  have DPx := TPx
  clear TPx
  clear HB
  have HB := HBn
  clear HBn
  obtain ⟨BI, dI, rfl⟩ := Kd.R_slice hRI
  have DIx := Aside0.mk (Kd.R_reads' hRI).2.2
  have EIx := Aside0.mk (Kd.R_reads' hRI).2.1
  clear hRI hbI VI
  go_wp2_with fail
  refine (headgateref03_Rows.calls KS AR cR lR BR dR lR true _ DR.out ER.out DRx.out ERx.out HS.out).mono ?_
  rintro e w9 ⟨rfl, hb9⟩
  have HBn := Aside0.mk (below_step HB.out hb9)
  have TC := Aside0.mk (Kd.C_below DC.out hb9)
  clear DC
  have DC := TC
  clear TC
  have TP := Aside0.mk (Kd.C_below DP.out hb9)
  clear DP
  have DP := TP
  clear TP
  have TI := Aside0.mk (Kd.C_below DI.out hb9)
  clear DI
  have DI := TI
  clear TI
  have TCx := Aside0.mk (Kd.C_below DCx.out hb9)
  clear DCx
  have DCx := TCx
  clear TCx
  have TPx := Aside0.mk (Kd.C_below DPx.out hb9)
  clear DPx
  have DPx := TPx
  clear TPx
  have TIx := Aside0.mk (Kd.C_below DIx.out hb9)
  clear DIx
  have DIx := TIx
  clear TIx
  clear HB HS DR ER DRx ERx EC ECx EP EPx EI EIx hb9
  have HB := HBn
  clear HBn
  go_wp2_with fail
  go_loopg [19] lC.length (fun kq vi wr => ∃ (i : Nat), vi = .int .i64 i ∧ Aside0 (i + kq = lC.length) ∧ Aside0 (Drawn0 w9 wr))
  case atStart => exact ⟨0, rfl, ⟨by omega⟩, ⟨.refl _⟩⟩
  case round =>
    obtain ⟨i, rfl, HI, HD⟩ := hrel
    have hmx := MC.out
    cases gk with
    | succ k1 =>
      have hlt : i < lC.length := by have := HI.out; omega
      have hlb : decide ((i : Int) < (lC.length : Int)) = true := decide_eq_true (by omega)
      have hlb2 : decide (i < lC.length) = true := decide_eq_true hlt
      obtain ⟨ad, rfl, x0, x1⟩ := at_T43 (Kd.C_below DC.out (dr_below HD.out _)) (i : Int) (by omega) (by omega)
      obtain ⟨ae, rfl, y0, y1⟩ := at_T43 (Kd.C_below DCx.out (dr_below HD.out _)) (i : Int) (by omega) (by omega)
      generalize rd_T43 lC (i : Int) = y at x0 x1 y0 y1
      rw [Int.toNat_natCast] at x0 x1 y0 y1
      go_upto_region 18 with (fail)
      go_quiet (fail)
      go_wp2
      go_roundg k1
      case measure => omega
      case rel => exact ⟨i + 1, by congr 1, ⟨by have := HI.out; omega⟩, ⟨HD.out.step _⟩⟩
    | zero =>
      have hlb : decide ((i : Int) < (lC.length : Int)) = false := decide_eq_false (by have := HI.out; omega)
      have hlb2 : decide (i < lC.length) = false := decide_eq_false (by have := HI.out; omega)
      clear hmx DC DCx
      go_wp2_with fail
      go_loopg [20] lP.length (fun kq vi wr => ∃ (i : Nat), vi = .int .i64 i ∧ Aside0 (i + kq = lP.length) ∧ Aside0 (Drawn0 w9 wr))
      case atStart => exact ⟨0, rfl, ⟨by omega⟩, HD⟩
      case round =>
        clear HD HI
        obtain ⟨i, rfl, HI, HD⟩ := hrel
        have hmx := MP.out
        cases gk with
        | succ k1 =>
          have hlt : i < lP.length := by have := HI.out; omega
          have hlb : decide ((i : Int) < (lP.length : Int)) = true := decide_eq_true (by omega)
          have hlb2 : decide (i < lP.length) = true := decide_eq_true hlt
          obtain ⟨ad, rfl, x0, x1⟩ := at_T74 (Kd.C_below DP.out (dr_below HD.out _)) (i : Int) (by omega) (by omega)
          obtain ⟨ae, rfl, y0, y1⟩ := at_T74 (Kd.C_below DPx.out (dr_below HD.out _)) (i : Int) (by omega) (by omega)
          generalize rd_T74 lP (i : Int) = y at x0 x1 y0 y1
          rw [Int.toNat_natCast] at x0 x1 y0 y1
          go_upto_region 23 with (fail)
          go_quiet (fail)
          go_wp2
          go_roundg k1
          case measure => omega
          case rel => exact ⟨i + 1, by congr 1, ⟨by have := HI.out; omega⟩, ⟨HD.out.step _⟩⟩
        | zero =>
          have hlb : decide ((i : Int) < (lP.length : Int)) = false := decide_eq_false (by have := HI.out; omega)
          have hlb2 : decide (i < lP.length) = false := decide_eq_false (by have := HI.out; omega)
          clear hmx DP DPx
          go_wp2_with fail
          go_loopg [21] lI.length (fun kq vi wr => ∃ (i : Nat), vi = .int .i64 i ∧ Aside0 (i + kq = lI.length) ∧ Aside0 (Drawn0 w9 wr))
          case atStart => exact ⟨0, rfl, ⟨by omega⟩, HD⟩
          case round =>
            clear HD HI
            obtain ⟨i, rfl, HI, HD⟩ := hrel
            have hmx := MI.out
            cases gk with
            | succ k1 =>
              have hlt : i < lI.length := by have := HI.out; omega
              have hlb : decide ((i : Int) < (lI.length : Int)) = true := decide_eq_true (by omega)
              have hlb2 : decide (i < lI.length) = true := decide_eq_true hlt
              obtain ⟨ad, rfl, x0⟩ := Kd.at_int (Kd.C_below DI.out (dr_below HD.out _)) (i : Int) (by omega) (by omega)
              obtain ⟨ae, rfl, y0⟩ := Kd.at_int (Kd.C_below DIx.out (dr_below HD.out _)) (i : Int) (by omega) (by omega)
              generalize rd lI (i : Int) = y at x0 y0
              rw [Int.toNat_natCast] at x0 y0
              go_upto_region 28 with (fail)
              go_quiet (fail)
              go_wp2
              go_roundg k1
              case measure => omega
              case rel => exact ⟨i + 1, by congr 1, ⟨by have := HI.out; omega⟩, ⟨HD.out.step _⟩⟩
            | zero =>
              have hlb : decide ((i : Int) < (lI.length : Int)) = false := decide_eq_false (by have := HI.out; omega)
              have hlb2 : decide (i < lI.length) = false := decide_eq_false (by have := HI.out; omega)
              clear hmx DI DIx
              go_wp2_with fail
              refine (headgatelaw04_wrong.calls eR rR true _ ZR.out).mono ?_
              rintro e qR ⟨rfl, hdR⟩
              have HQ0 := Aside0.mk ((Aside0.mk (HB.out.trans (dr_below HD.out w.heap.size))).out.trans (dr_below hdR w.heap.size))
              clear hdR
              go_wp2_with fail
              refine (headgatelaw04_wrong.calls eC rC true _ ZC.out).mono ?_
              rintro e qC ⟨rfl, hdC⟩
              have HQ1 := Aside0.mk (HQ0.out.trans (dr_below hdC w.heap.size))
              clear hdC
              go_wp2_with fail
              refine (headgatelaw04_wrong.calls eP rP true _ ZP.out).mono ?_
              rintro e qP ⟨rfl, hdP⟩
              have HQ2 := Aside0.mk (HQ1.out.trans (dr_below hdP w.heap.size))
              clear hdP
              go_wp2_with fail
              refine (headgatelaw04_wrong.calls eI rI true _ ZI.out).mono ?_
              rintro e qI ⟨rfl, hdI⟩
              have HQ3 := Aside0.mk (HQ2.out.trans (dr_below hdI w.heap.size))
              clear hdI
              go_wp2
              go_ret
              exact ⟨rfl, HQ3.out⟩
theorem reads_long (s : ByteArray) (hs : 2000 < s.size) (w : World) :
    Calls Try.prog 6 #[.string s] w fun e w' => e = .returned (.bool true) ∧ Below w.heap.size w w' := by
  have hs1 : decide (2000 < (s.size : Int)) = true := decide_eq_true (by omega)
  have hs2 : decide (2000 < s.size) = true := decide_eq_true (by omega)
  go_enter Try.func6, Try.ntmps6
  go_wp2_with fail
  refine (headgatelaw04_alive.calls 30 true _ alive04).mono ?_
  rintro e w1 ⟨rfl, hb1⟩
  go_wp2
  go_ret
  exact ⟨rfl, hb1⟩
theorem wrong_ok {e : Int} (h : e = 0 ∨ e = 41) : headgatelaw04_wrong.f e (decide (e = 0)) = some true := by
  rcases h with rfl | rfl <;> rfl
theorem readX_e {α : Type} (item : List Int → Option (α × List Int)) (b : List Int) : (readX item b).2 = 0 ∨ (readX item b).2 = 41 := by
  rcases readX_err item b with h | h
  · exact .inl h
  · rw [h]
    exact .inr rfl
theorem readX_count {α : Type} (item : List Int → Option (α × List Int)) (hi : ∀ l a r, item l = some (a, r) → r.length < l.length) (b : List Int) : (readX item b).1.length ≤ b.length := by
  unfold readX
  split
  · rename_i xs l' h
    split
    · simp
    · exact readItems_count item hi b xs l' h
  · simp
theorem viewR (s : ByteArray) (hs : s.size ≤ 2000) (W : World) : Calls Try.prog 33 #[.string s] W fun e w' => ∃ v0_ : Value, e = .returned (.tuple #[v0_, .bool (decide ((readR (bytesOf s)).2 = 0))]) ∧ Kd.R (Kd.slice 116 k116) 111 w' W.heap.size (fun _ => True) v0_ (readR (bytesOf s)).1 ∧ Below W.heap.size W w' := by
  rw [readR_X]
  obtain ⟨K, hK⟩ := (refUnrows s (by omega)).rounds
  refine (headgateref04_Unrows.calls K s _ _ W hK).mono ?_
  rintro e w' ⟨v, rfl, hS, hb⟩
  exact ⟨v, rfl, Kd.S_R hS, hb⟩
theorem viewI (s : ByteArray) (hs : s.size ≤ 2000) (W : World) : Calls Try.prog 36 #[.string s] W fun e w' => ∃ v0_ : Value, e = .returned (.tuple #[v0_, .bool (decide ((readI (bytesOf s)).2 = 0))]) ∧ Kd.R (Kd.int .i64) 2 w' W.heap.size (fun _ => True) v0_ (readI (bytesOf s)).1 ∧ Below W.heap.size W w' := by
  obtain ⟨K, hK⟩ := (refUnnums s (by omega)).rounds
  exact headgateref04_Unnums.calls K s _ _ W hK
theorem first_num (s : ByteArray) (hs : s.size ≤ 2000) : ∃ n k K, headgateref04_Unnum.f K s 0 = some (n, k) ∧ (n, k) = (if (un (bytesOf s)).2.2 = 0 then ((un (bytesOf s)).1, (un (bytesOf s)).2.1) else (0, -1)) ∧ 0 ≤ n ∧ n < 18446744073709551616 ∧ k ≤ s.size := by
  obtain ⟨K, hK⟩ := (ref_un s hs).rounds
  by_cases h : (un (bytesOf s)).2.2 = 0
  · obtain ⟨n, k, hu⟩ : ∃ n k, un (bytesOf s) = (n, k, 0) := ⟨(un (bytesOf s)).1, (un (bytesOf s)).2.1, by rw [← h]⟩
    have hpos := un_pos h
    obtain ⟨r, e1, e2, e3, e4⟩ := un_only (bytesOf_range s) hu
    rw [hu, bytesOf_length] at hpos
    refine ⟨n, k, K, ?_, ?_, e3, e4, hpos.2⟩
    · rw [hK, hu]
      rfl
    · rw [if_pos h, hu]
  · refine ⟨0, -1, K, ?_, ?_, by omega, by omega, by omega⟩
    · rw [hK]
      unfold refOf
      rw [if_neg h]
    · rw [if_neg h]
theorem viewP (s : ByteArray) (hs : s.size ≤ 2000) (W : World) : Calls Try.prog 35 #[.string s] W fun e w' => ∃ v0_ : Value, e = .returned (.tuple #[v0_, .bool (decide ((readP (bytesOf s)).2 = 0))]) ∧ Kd.R k74 74 w' W.heap.size (fun _ => True) v0_ (readP (bytesOf s)).1 ∧ Below W.heap.size W w' := by
  rw [readP_X]
  have hl := bytesOf_length s
  obtain ⟨n, k, K0, h0, hnk, hn0, hn1, hk⟩ := first_num s hs
  obtain ⟨K, hK⟩ := loopX_all itemP encP (bytesOf s) (bytesOf_range s) (fun l a r hb h => (itemP_only l a r hb h).1) itemP_less (stP s) (fun p x l' hp h => by rw [hl]; exact stP_some s p x l' h) (fun p hp h => stP_none s p h) n k hnk
  rw [hl] at hK
  exact refPairs_walk s (by omega) W n k hn0 hn1 hk K0 K _ h0 hK
theorem viewC (s : ByteArray) (hs : s.size ≤ 2000) (W : World) : Calls Try.prog 34 #[.string s] W fun e w' => ∃ v0_ : Value, e = .returned (.tuple #[v0_, .bool (decide ((readC (bytesOf s)).2 = 0))]) ∧ Kd.R k43 43 w' W.heap.size (fun _ => True) v0_ (readC (bytesOf s)).1 ∧ Below W.heap.size W w' := by
  rw [readC_X]
  have hl := bytesOf_length s
  obtain ⟨n, k, K0, h0, hnk, hn0, hn1, hk⟩ := first_num s hs
  obtain ⟨K, hK⟩ := loopX_all itemC encC (bytesOf s) (bytesOf_range s) (fun l a r hb h => (itemC_only l a r hb h).1) itemC_less (stC s) (fun p x l' hp h => by rw [hl]; exact stC_some s p x l' h) (fun p hp h => stC_none s p h) n k hnk
  rw [hl] at hK
  exact refCols_walk s (by omega) W n k hn0 hn1 hk K0 K _ h0 hK
def headgatelaw04_CodeReads.f (k : Nat) (a0 : ByteArray) : Option Bool := some true
theorem headgatelaw04_CodeReads.calls (k : Nat) (a0 : ByteArray) (r : Bool) (w : World) (h : headgatelaw04_CodeReads.f k a0 = some r) :
    Calls Try.prog 6 #[.string a0] w fun e w' => e = .returned (.bool r) ∧ Below w.heap.size w w' := by
  cases h
  by_cases hs : a0.size ≤ 2000
  · have hl := bytesOf_length a0
    have cR := readX_count itemR itemR_less (bytesOf a0)
    have cC := readX_count itemC itemC_less (bytesOf a0)
    have cP := readX_count itemP itemP_less (bytesOf a0)
    have cI := readX_count itemI itemI_less (bytesOf a0)
    rw [← readR_X] at cR
    rw [← readC_X] at cC
    rw [← readP_X] at cP
    rw [← readI_X] at cI
    have gR : ∀ r ∈ (readR (bytesOf a0)).1, r.length ≤ 9223372036854775806 := by
      intro r hr
      rcases readX_err itemR (bytesOf a0) with h | h
      · obtain ⟨xs, hx⟩ : ∃ xs, readX itemR (bytesOf a0) = (xs, 0) := ⟨(readX itemR (bytesOf a0)).1, by rw [← h]⟩
        obtain ⟨_, g, _⟩ := readX_only itemR encR goodR itemR_only (bytesOf a0) xs (bytesOf_range a0) hx
        rw [readR_X, hx] at hr
        have := (goodR_parts (g r hr)).1
        omega
      · rw [readR_X, h] at hr
        simp at hr
    obtain ⟨KS, hS⟩ := (rows_self (readR (bytesOf a0)).1 (by omega) gR).rounds
    exact reads_walk a0 hs w
      (readR (bytesOf a0)).1 (readR (bytesOf a0)).2 rfl (wrong_ok (by rw [readR_X]; exact readX_e _ _)) (viewR a0 hs)
      (readC (bytesOf a0)).1 (readC (bytesOf a0)).2 rfl (wrong_ok (by rw [readC_X]; exact readX_e _ _)) (viewC a0 hs)
      (readP (bytesOf a0)).1 (readP (bytesOf a0)).2 rfl (wrong_ok (by rw [readP_X]; exact readX_e _ _)) (viewP a0 hs)
      (readI (bytesOf a0)).1 (readI (bytesOf a0)).2 rfl (wrong_ok (by rw [readI_X]; exact readX_e _ _)) (viewI a0 hs)
      KS hS (by omega) (by omega) (by omega)
  · exact reads_long a0 (by omega) w
theorem CodeReads_pure (a0 : ByteArray) (_ : a0.size ≤ 140737488351232) : ∃ k, headgatelaw04_CodeReads.f k a0 = some true := ⟨0, rfl⟩
end Go.Proofs.Ytgihecpobichbaa.Q
