-- Written by a program of the session over the translation's print: functions as plain Lean, and that the machine's call comes to them.
import Derived.Test.YtapffiacgfdfaaaBx0
import Derived.Test.YtapffiacgfdfaaaAx1
import Derived.Test.YtapffiacgfdfaaaBx1
namespace Go.Proofs.Ytapffiacgfdfaaa.Q
open Go.RowKit Go.Proofs.YtapffiacgfdfaaaW.PrintWords Go.Proofs.YtapffiacgfdfaaaW.PrintLast Go.Proofs.YtapffiacgfdfaaaW.PrintMore
attribute [local go_sem] max2_int min2_int max_two min_two max_three min_three max_four min_four   -- for this text's walks alone
set_option linter.unusedVariables false
set_option linter.unusedSimpArgs false

/-! ### headgatelaw01_NumBack: function 6 -/
mutual
def headgatelaw01_NumBack.j0 : Nat → Int → Int → Option (Bool)
  | 0, _, _ => none
  | k + 1, x0, x1 => (num_Do.f k 7 x0 x1).bind fun bt133 => ((num_Do.f k 8 x0 x1).bind fun bt135 => (if bt133.2 = 0 then (headgatelaw01_NumBack.j1 k x0 x1 bt133.1 bt133.2 bt135.1 bt135.2 (bt135.2 != 0)) else (headgatelaw01_NumBack.j1 k x0 x1 bt133.1 bt133.2 bt135.1 bt135.2 true)))
def headgatelaw01_NumBack.j1 : Nat → Int → Int → Int → Int → Int → Int → Bool → Option (Bool)
  | 0, _, _, _, _, _, _, _ => none
  | k + 1, x0, x1, x9, x10, x11, x12, x57 => if x57 = true then (if x1 = 0 then (if x10 = 11 then (if x12 = 11 then (some true) else (if x1 = (-1) then (if x0 = (-9223372036854775808) then (if x10 = 10 then (some (x11 == 0)) else (some false)) else (some false)) else (some false))) else (if x1 = (-1) then (if x0 = (-9223372036854775808) then (if x10 = 10 then (some (x11 == 0)) else (some false)) else (some false)) else (some false))) else (if x1 = (-1) then (if x0 = (-9223372036854775808) then (if x10 = 10 then (some (x11 == 0)) else (some false)) else (some false)) else (some false))) else ((num_Do.f k 6 x9 x1).bind fun bt137 => ((num_Do.f k 4 bt137.1 x11).bind fun bt139 => (if bt137.2 = 0 then (if bt139.2 = 0 then (if bt139.1 = x0 then (if x11 = 0 then (some true) else (some ((decide (x11 < 0)) == (decide (x0 < 0))))) else (some false)) else (some false)) else (some false))))
end
def headgatelaw01_NumBack.f (k : Nat) (a0 : Int) (a1 : Int) : Option (Bool) := (headgatelaw01_alive.f k).bind fun t128 => (if t128 = true then ((num_Do.f k 4 a0 a1).bind fun bt129 => (if bt129.2 = 0 then ((num_Do.f k 5 bt129.1 a1).bind fun bt131 => (if bt131.2 = 0 then (if bt131.1 = a0 then (headgatelaw01_NumBack.j0 k a0 a1) else (some false)) else (some false))) else (headgatelaw01_NumBack.j0 k a0 a1))) else (some false))
theorem headgatelaw01_NumBack.mono_l : ∀ k, (∀ y0 y1, LeO (headgatelaw01_NumBack.j0 k y0 y1) (headgatelaw01_NumBack.j0 (k + 1) y0 y1)) ∧ (∀ y0 y1 y2 y3 y4 y5 y6, LeO (headgatelaw01_NumBack.j1 k y0 y1 y2 y3 y4 y5 y6) (headgatelaw01_NumBack.j1 (k + 1) y0 y1 y2 y3 y4 y5 y6))
  | 0 => ⟨fun _ _ r h => by simp [headgatelaw01_NumBack.j0] at h, fun _ _ _ _ _ _ _ r h => by simp [headgatelaw01_NumBack.j1] at h⟩
  | k + 1 => by
    obtain ⟨ih0, ih1⟩ := headgatelaw01_NumBack.mono_l k
    refine ⟨?_, ?_⟩
    · intro y0 y1
      unfold headgatelaw01_NumBack.j0
      repeat' first
      | (with_reducible exact ih0 _ _)
      | (with_reducible exact ih1 _ _ _ _ _ _ _)
      | (with_reducible exact headgatelaw01_alive.mono _)
      | (with_reducible exact num_Do.mono _ _ _ _)
      | (with_reducible exact LeO.refl _)
      | (with_reducible exact LeO.none _)
      | (with_reducible refine LeO.ite ?_ ?_)
      | (with_reducible refine LeO.bind ?_ (fun _ => ?_))
      | exact ih0 _ _
      | exact ih1 _ _ _ _ _ _ _
      | exact headgatelaw01_alive.mono _
      | exact num_Do.mono _ _ _ _
      | exact LeO.none _
      | refine LeO.ite ?_ ?_
      | refine LeO.bind ?_ (fun _ => ?_)
    · intro y0 y1 y2 y3 y4 y5 y6
      unfold headgatelaw01_NumBack.j1
      repeat' first
      | (with_reducible exact ih0 _ _)
      | (with_reducible exact ih1 _ _ _ _ _ _ _)
      | (with_reducible exact headgatelaw01_alive.mono _)
      | (with_reducible exact num_Do.mono _ _ _ _)
      | (with_reducible exact LeO.refl _)
      | (with_reducible exact LeO.none _)
      | (with_reducible refine LeO.ite ?_ ?_)
      | (with_reducible refine LeO.bind ?_ (fun _ => ?_))
      | exact ih0 _ _
      | exact ih1 _ _ _ _ _ _ _
      | exact headgatelaw01_alive.mono _
      | exact num_Do.mono _ _ _ _
      | exact LeO.none _
      | refine LeO.ite ?_ ?_
      | refine LeO.bind ?_ (fun _ => ?_)
theorem headgatelaw01_NumBack.mono : ∀ a0 a1 k, LeO (headgatelaw01_NumBack.f k a0 a1) (headgatelaw01_NumBack.f (k + 1) a0 a1) := by
  intro a0 a1 k
  obtain ⟨ih0, ih1⟩ := headgatelaw01_NumBack.mono_l k
  unfold headgatelaw01_NumBack.f
  repeat' first
      | (with_reducible exact ih0 _ _)
      | (with_reducible exact ih1 _ _ _ _ _ _ _)
      | (with_reducible exact headgatelaw01_alive.mono _)
      | (with_reducible exact num_Do.mono _ _ _ _)
      | (with_reducible exact LeO.refl _)
      | (with_reducible exact LeO.none _)
      | (with_reducible refine LeO.ite ?_ ?_)
      | (with_reducible refine LeO.bind ?_ (fun _ => ?_))
      | exact ih0 _ _
      | exact ih1 _ _ _ _ _ _ _
      | exact headgatelaw01_alive.mono _
      | exact num_Do.mono _ _ _ _
      | exact LeO.none _
      | refine LeO.ite ?_ ?_
      | refine LeO.bind ?_ (fun _ => ?_)
set_option maxHeartbeats 8000000 in
set_option maxRecDepth 100000 in
theorem headgatelaw01_NumBack.calls (k : Nat) (a0 : Int) (a1 : Int) (r : Bool) (w : World) (h : headgatelaw01_NumBack.f k a0 a1 = some r) :
    Calls Try.prog 6 #[.int .i64 a0, .int .i64 a1] w fun e w' => e = .returned (.bool r) ∧ Below w.heap.size w w' := by
  have HB := Aside0.mk (Below.refl w.heap.size w)
  have H : ((headgatelaw01_alive.f k).bind fun t128 => (if t128 = true then ((num_Do.f k 4 a0 a1).bind fun bt129 => (if bt129.2 = 0 then ((num_Do.f k 5 bt129.1 a1).bind fun bt131 => (if bt131.2 = 0 then (if bt131.1 = a0 then (headgatelaw01_NumBack.j0 k a0 a1) else (some false)) else (some false))) else (headgatelaw01_NumBack.j0 k a0 a1))) else (some false))) = some r := h
  clear h
  replace H := Option.bind_eq_some_iff.mp H
  obtain ⟨t128, A30, H⟩ := H
  replace H : (if t128 = true then ((num_Do.f k 4 a0 a1).bind fun bt129 => (if bt129.2 = 0 then ((num_Do.f k 5 bt129.1 a1).bind fun bt131 => (if bt131.2 = 0 then (if bt131.1 = a0 then (headgatelaw01_NumBack.j0 k a0 a1) else (some false)) else (some false))) else (headgatelaw01_NumBack.j0 k a0 a1))) else (some false)) = some r := H
  have A3 := Aside0.mk A30
  clear A30
  by_cases c4 : t128 = true
  · subst c4
    have H1 : ((num_Do.f k 4 a0 a1).bind fun bt129 => (if bt129.2 = 0 then ((num_Do.f k 5 bt129.1 a1).bind fun bt131 => (if bt131.2 = 0 then (if bt131.1 = a0 then (headgatelaw01_NumBack.j0 k a0 a1) else (some false)) else (some false))) else (headgatelaw01_NumBack.j0 k a0 a1))) = some r := by rw [if_pos rfl] at H; exact H
    clear H
    have H := H1
    clear H1
    replace H := Option.bind_eq_some_iff.mp H
    obtain ⟨⟨t129, t130⟩, A50, H⟩ := H
    replace H : (if t130 = 0 then ((num_Do.f k 5 t129 a1).bind fun bt131 => (if bt131.2 = 0 then (if bt131.1 = a0 then (headgatelaw01_NumBack.j0 k a0 a1) else (some false)) else (some false))) else (headgatelaw01_NumBack.j0 k a0 a1)) = some r := H
    have A5 := Aside0.mk A50
    clear A50
    have HC6 := Aside0.mk H
    clear H
    go_enter Try.func6, Try.ntmps6
    go_upto_if 26 with (first | ((with_reducible refine gate_callee (f := 10) rfl ?_); refine goesL_ (some 17) rfl rfl Try.func10 (by kernel_rfl) rfl #[] rfl (by (try simp only [List.map_toArray, List.map_cons, List.map_nil]); first | done | rfl | (simp only [List.length_drop, List.length_take]; rfl)) ?_; (with_reducible refine (headgatelaw01_alive.calls k  true _ A3.out).mono ?_); rintro e w7 ⟨rfl, hb⟩; refine ⟨_, rfl, ?_⟩; have n0_ := Aside0.mk (below_step (by repeat (first | (with_reducible first | exact HB.out | apply below_alloc | apply pw_below_drewN | apply below_drew1) | exact HB.out)) hb); clear HB; have HB := n0_; clear n0_; (try clear hb); (try clear hb2); (try clear hk); (try clear hi)) | ((with_reducible refine gate_callee (f := 11) rfl ?_); refine goesL_ (some 22) rfl rfl Try.func11 (by kernel_rfl) rfl #[.int .i64 4, .int .i64 a0, .int .i64 a1] rfl (by (try simp only [List.map_toArray, List.map_cons, List.map_nil]); first | done | rfl | (simp only [List.length_drop, List.length_take]; rfl)) ?_; (with_reducible refine (num_Do.calls k 4 a0 a1 t129 t130 _ A5.out).mono ?_); rintro e w' ⟨rfl, ⟨nd, rfl⟩⟩; refine ⟨_, rfl, ?_⟩))
    (try simp only [Act.put, List.setIfInBounds_toArray, List.set_cons_zero, List.set_cons_succ])
    go_cut [] (fun wc => ∃ (kq : Nat), Aside0 (headgatelaw01_NumBack.j0 kq a0 a1 = some r) ∧ Aside0 (kq ≤ k) ∧ Aside0 (Below w.heap.size w wc))
    case first =>
      have H := HC6.out
      clear HC6
      by_cases c8 : t130 = 0
      · rw [if_pos c8] at H
        have c8b0 : (t130 == 0) = true := beq_iff_eq.mpr c8
        have c8b1 : (t130 != 0) = false := bne_eq_false_iff_eq.mpr c8
        clear c8
        (first | rw [c8b0] | (simp only [i64_w, i32_w]; rw [c8b0]) | skip)
        replace H := Option.bind_eq_some_iff.mp H
        obtain ⟨⟨t131, t132⟩, A90, H⟩ := H
        replace H : (if t132 = 0 then (if t131 = a0 then (headgatelaw01_NumBack.j0 k a0 a1) else (some false)) else (some false)) = some r := H
        have A9 := Aside0.mk A90
        clear A90
        by_cases c10 : t132 = 0
        · rw [if_pos c10] at H
          have c10b0 : (t132 == 0) = true := beq_iff_eq.mpr c10
          have c10b1 : (t132 != 0) = false := bne_eq_false_iff_eq.mpr c10
          clear c10
          by_cases c11 : t131 = a0
          · rw [if_pos c11] at H
            have c11b0 : (t131 == a0) = true := beq_iff_eq.mpr c11
            have c11b1 : (t131 != a0) = false := bne_eq_false_iff_eq.mpr c11
            clear c11
            have H' := Aside0.mk H
            clear H
            go_wp2_with (first | ((with_reducible refine gate_callee (f := 11) rfl ?_); refine goesL_ (some 30) rfl rfl Try.func11 (by kernel_rfl) rfl #[.int .i64 5, .int .i64 t129, .int .i64 a1] rfl (by (try simp only [List.map_toArray, List.map_cons, List.map_nil]); first | done | rfl | (simp only [List.length_drop, List.length_take]; rfl)) ?_; (with_reducible refine (num_Do.calls k 5 t129 a1 t131 t132 _ A9.out).mono ?_); rintro e w' ⟨rfl, ⟨nd, rfl⟩⟩; refine ⟨_, rfl, ?_⟩))
            go_meet
            case rel => exact ⟨_, H', ⟨by first | omega | exact Nat.le_refl _⟩, ⟨by repeat (first | (with_reducible first | exact HB.out | apply below_alloc | apply pw_below_drewN | apply below_drew1) | exact HB.out)⟩⟩
          · rw [if_neg c11] at H
            have c11b0 : (t131 == a0) = false := beq_eq_false_iff_ne.mpr c11
            have c11b1 : (t131 != a0) = true := bne_iff_ne.mpr c11
            obtain rfl := Option.some.inj H
            go_wp2_with (first | ((with_reducible refine gate_callee (f := 11) rfl ?_); refine goesL_ (some 30) rfl rfl Try.func11 (by kernel_rfl) rfl #[.int .i64 5, .int .i64 t129, .int .i64 a1] rfl (by (try simp only [List.map_toArray, List.map_cons, List.map_nil]); first | done | rfl | (simp only [List.length_drop, List.length_take]; rfl)) ?_; (with_reducible refine (num_Do.calls k 5 t129 a1 t131 t132 _ A9.out).mono ?_); rintro e w' ⟨rfl, ⟨nd, rfl⟩⟩; refine ⟨_, rfl, ?_⟩))
            go_ret
            exact ⟨by first | rfl | (simp [errW_none, errW_some] <;> rfl) | (simp [*, errW_none, errW_some] <;> rfl), by repeat (first | (with_reducible first | exact HB.out | apply below_alloc | apply pw_below_drewN | apply below_drew1) | exact HB.out)⟩
        · rw [if_neg c10] at H
          have c10b0 : (t132 == 0) = false := beq_eq_false_iff_ne.mpr c10
          have c10b1 : (t132 != 0) = true := bne_iff_ne.mpr c10
          obtain rfl := Option.some.inj H
          go_wp2_with (first | ((with_reducible refine gate_callee (f := 11) rfl ?_); refine goesL_ (some 30) rfl rfl Try.func11 (by kernel_rfl) rfl #[.int .i64 5, .int .i64 t129, .int .i64 a1] rfl (by (try simp only [List.map_toArray, List.map_cons, List.map_nil]); first | done | rfl | (simp only [List.length_drop, List.length_take]; rfl)) ?_; (with_reducible refine (num_Do.calls k 5 t129 a1 t131 t132 _ A9.out).mono ?_); rintro e w' ⟨rfl, ⟨nd, rfl⟩⟩; refine ⟨_, rfl, ?_⟩))
          go_ret
          exact ⟨by first | rfl | (simp [errW_none, errW_some] <;> rfl) | (simp [*, errW_none, errW_some] <;> rfl), by repeat (first | (with_reducible first | exact HB.out | apply below_alloc | apply pw_below_drewN | apply below_drew1) | exact HB.out)⟩
      · rw [if_neg c8] at H
        have c8b0 : (t130 == 0) = false := beq_eq_false_iff_ne.mpr c8
        have c8b1 : (t130 != 0) = true := bne_iff_ne.mpr c8
        (first | rw [c8b0] | (simp only [i64_w, i32_w]; rw [c8b0]) | skip)
        have H' := Aside0.mk H
        clear H
        go_wp2
        go_meet
        case rel => exact ⟨_, H', ⟨by first | omega | exact Nat.le_refl _⟩, ⟨by repeat (first | (with_reducible first | exact HB.out | apply below_alloc | apply pw_below_drewN | apply below_drew1) | exact HB.out)⟩⟩
    case rest =>
      clear HC6
      try clear c1
      try clear p2
      try clear c4
      try clear c6
      try clear c8
      try clear c8b0
      try clear c8b1
      try clear c10
      try clear c10b0
      try clear c10b1
      try clear c11
      try clear c11b0
      try clear c11b1
      obtain ⟨kq, HA, HJ5, HB⟩ := hcut
      cases kq with
      | zero => exact absurd HA.out (by simp [headgatelaw01_NumBack.j0])
      | succ kj5 =>
        have H := HA.out
        clear HA
        simp only [headgatelaw01_NumBack.j0] at H
        replace H := Option.bind_eq_some_iff.mp H
        obtain ⟨⟨t133, t134⟩, A120, H⟩ := H
        replace H : ((num_Do.f kj5 8 a0 a1).bind fun bt135 => (if t134 = 0 then (headgatelaw01_NumBack.j1 kj5 a0 a1 t133 t134 bt135.1 bt135.2 (bt135.2 != 0)) else (headgatelaw01_NumBack.j1 kj5 a0 a1 t133 t134 bt135.1 bt135.2 true))) = some r := H
        have A12 := Aside0.mk A120
        clear A120
        replace H := Option.bind_eq_some_iff.mp H
        obtain ⟨⟨t135, t136⟩, A130, H⟩ := H
        replace H : (if t134 = 0 then (headgatelaw01_NumBack.j1 kj5 a0 a1 t133 t134 t135 t136 (t136 != 0)) else (headgatelaw01_NumBack.j1 kj5 a0 a1 t133 t134 t135 t136 true)) = some r := H
        have A13 := Aside0.mk A130
        clear A130
        have HC14 := Aside0.mk H
        clear H
        go_upto_region 10 with (first | ((with_reducible refine gate_callee (f := 11) rfl ?_); refine goesL_ (some 43) rfl rfl Try.func11 (by kernel_rfl) rfl #[.int .i64 7, .int .i64 a0, .int .i64 a1] rfl (by (try simp only [List.map_toArray, List.map_cons, List.map_nil]); first | done | rfl | (simp only [List.length_drop, List.length_take]; rfl)) ?_; (with_reducible refine (num_Do.calls kj5 7 a0 a1 t133 t134 _ A12.out).mono ?_); rintro e w' ⟨rfl, ⟨nd, rfl⟩⟩; refine ⟨_, rfl, ?_⟩) | ((with_reducible refine gate_callee (f := 11) rfl ?_); refine goesL_ (some 49) rfl rfl Try.func11 (by kernel_rfl) rfl #[.int .i64 8, .int .i64 a0, .int .i64 a1] rfl (by (try simp only [List.map_toArray, List.map_cons, List.map_nil]); first | done | rfl | (simp only [List.length_drop, List.length_take]; rfl)) ?_; (with_reducible refine (num_Do.calls kj5 8 a0 a1 t135 t136 _ A13.out).mono ?_); rintro e w' ⟨rfl, ⟨nd, rfl⟩⟩; refine ⟨_, rfl, ?_⟩))
        (try simp only [Act.put, List.setIfInBounds_toArray, List.set_cons_zero, List.set_cons_succ])
        go_cut [57] (fun v57 wc => ∃ (kq : Nat) (x57_13 : Bool), v57 = .bool x57_13 ∧ Aside0 (headgatelaw01_NumBack.j1 kq a0 a1 t133 t134 t135 t136 x57_13 = some r) ∧ Aside0 (kq ≤ kj5) ∧ Aside0 (Below w.heap.size w wc))
        case first =>
          have H := HC14.out
          clear HC14
          by_cases c15 : t134 = 0
          · rw [if_pos c15] at H
            have c15b0 : (t134 == 0) = true := beq_iff_eq.mpr c15
            have c15b1 : (t134 != 0) = false := bne_eq_false_iff_eq.mpr c15
            clear c15
            (first | rw [c15b0] | (simp only [i64_w, i32_w]; rw [c15b0]) | skip)
            have H' := Aside0.mk H
            clear H
            go_wp2
            go_meet
            case rel => exact ⟨_, ((t136 != 0)), (by first | rfl | (simp; done) | (simp [*]; done)), H', ⟨by have := HJ5.out; first | omega | exact Nat.le_refl _⟩, ⟨by repeat (first | (with_reducible first | exact HB.out | apply below_alloc | apply pw_below_drewN | apply below_drew1) | exact HB.out)⟩⟩
          · rw [if_neg c15] at H
            have c15b0 : (t134 == 0) = false := beq_eq_false_iff_ne.mpr c15
            have c15b1 : (t134 != 0) = true := bne_iff_ne.mpr c15
            (first | rw [c15b0] | (simp only [i64_w, i32_w]; rw [c15b0]) | skip)
            have H' := Aside0.mk H
            clear H
            go_wp2
            go_meet
            case rel => exact ⟨_, (true), (by first | rfl | (simp; done) | (simp [*]; done)), H', ⟨by have := HJ5.out; first | omega | exact Nat.le_refl _⟩, ⟨by repeat (first | (with_reducible first | exact HB.out | apply below_alloc | apply pw_below_drewN | apply below_drew1) | exact HB.out)⟩⟩
        case rest =>
          clear HC14
          try clear c1
          try clear p2
          try clear c4
          try clear c6
          try clear c8
          try clear c8b0
          try clear c8b1
          try clear c10
          try clear c10b0
          try clear c10b1
          try clear c11
          try clear c11b0
          try clear c11b1
          try clear c15
          try clear c15b0
          try clear c15b1
          try clear p2
          obtain ⟨kq, x57_13, rfl, HA, HJ13, HB⟩ := hcut
          cases kq with
          | zero => exact absurd HA.out (by simp [headgatelaw01_NumBack.j1])
          | succ kj13 =>
            have H := HA.out
            clear HA
            simp only [headgatelaw01_NumBack.j1] at H
            by_cases c16 : x57_13 = true
            · subst c16
              have H1 : (if a1 = 0 then (if t134 = 11 then (if t136 = 11 then (some true) else (if a1 = (-1) then (if a0 = (-9223372036854775808) then (if t134 = 10 then (some (t135 == 0)) else (some false)) else (some false)) else (some false))) else (if a1 = (-1) then (if a0 = (-9223372036854775808) then (if t134 = 10 then (some (t135 == 0)) else (some false)) else (some false)) else (some false))) else (if a1 = (-1) then (if a0 = (-9223372036854775808) then (if t134 = 10 then (some (t135 == 0)) else (some false)) else (some false)) else (some false))) = some r := by rw [if_pos rfl] at H; exact H
              clear H
              have H := H1
              clear H1
              by_cases c17 : a1 = 0
              · rw [if_pos c17] at H
                have c17b0 : (a1 == 0) = true := beq_iff_eq.mpr c17
                have c17b1 : (a1 != 0) = false := bne_eq_false_iff_eq.mpr c17
                clear c17
                by_cases c18 : t134 = 11
                · rw [if_pos c18] at H
                  have c18b0 : (t134 == 11) = true := beq_iff_eq.mpr c18
                  have c18b1 : (t134 != 11) = false := bne_eq_false_iff_eq.mpr c18
                  clear c18
                  by_cases c19 : t136 = 11
                  · rw [if_pos c19] at H
                    have c19b0 : (t136 == 11) = true := beq_iff_eq.mpr c19
                    have c19b1 : (t136 != 11) = false := bne_eq_false_iff_eq.mpr c19
                    clear c19
                    obtain rfl := Option.some.inj H
                    go_wp2
                    go_ret
                    exact ⟨by first | rfl | (simp [errW_none, errW_some] <;> rfl) | (simp [*, errW_none, errW_some] <;> rfl), by repeat (first | (with_reducible first | exact HB.out | apply below_alloc | apply pw_below_drewN | apply below_drew1) | exact HB.out)⟩
                  · rw [if_neg c19] at H
                    have c19b0 : (t136 == 11) = false := beq_eq_false_iff_ne.mpr c19
                    have c19b1 : (t136 != 11) = true := bne_iff_ne.mpr c19
                    by_cases c20 : a1 = (-1)
                    · rw [if_pos c20] at H
                      have c20b0 : (a1 == (-1)) = true := beq_iff_eq.mpr c20
                      have c20b1 : (a1 != (-1)) = false := bne_eq_false_iff_eq.mpr c20
                      clear c20
                      by_cases c21 : a0 = (-9223372036854775808)
                      · rw [if_pos c21] at H
                        have c21b0 : (a0 == (-9223372036854775808)) = true := beq_iff_eq.mpr c21
                        have c21b1 : (a0 != (-9223372036854775808)) = false := bne_eq_false_iff_eq.mpr c21
                        clear c21
                        by_cases c22 : t134 = 10
                        · rw [if_pos c22] at H
                          have c22b0 : (t134 == 10) = true := beq_iff_eq.mpr c22
                          have c22b1 : (t134 != 10) = false := bne_eq_false_iff_eq.mpr c22
                          clear c22
                          obtain rfl := Option.some.inj H
                          go_wp2
                          go_ret
                          exact ⟨by first | rfl | (simp [errW_none, errW_some] <;> rfl) | (simp [*, errW_none, errW_some] <;> rfl), by repeat (first | (with_reducible first | exact HB.out | apply below_alloc | apply pw_below_drewN | apply below_drew1) | exact HB.out)⟩
                        · rw [if_neg c22] at H
                          have c22b0 : (t134 == 10) = false := beq_eq_false_iff_ne.mpr c22
                          have c22b1 : (t134 != 10) = true := bne_iff_ne.mpr c22
                          obtain rfl := Option.some.inj H
                          go_wp2
                          go_ret
                          exact ⟨by first | rfl | (simp [errW_none, errW_some] <;> rfl) | (simp [*, errW_none, errW_some] <;> rfl), by repeat (first | (with_reducible first | exact HB.out | apply below_alloc | apply pw_below_drewN | apply below_drew1) | exact HB.out)⟩
                      · rw [if_neg c21] at H
                        have c21b0 : (a0 == (-9223372036854775808)) = false := beq_eq_false_iff_ne.mpr c21
                        have c21b1 : (a0 != (-9223372036854775808)) = true := bne_iff_ne.mpr c21
                        obtain rfl := Option.some.inj H
                        go_wp2
                        go_ret
                        exact ⟨by first | rfl | (simp [errW_none, errW_some] <;> rfl) | (simp [*, errW_none, errW_some] <;> rfl), by repeat (first | (with_reducible first | exact HB.out | apply below_alloc | apply pw_below_drewN | apply below_drew1) | exact HB.out)⟩
                    · rw [if_neg c20] at H
                      have c20b0 : (a1 == (-1)) = false := beq_eq_false_iff_ne.mpr c20
                      have c20b1 : (a1 != (-1)) = true := bne_iff_ne.mpr c20
                      obtain rfl := Option.some.inj H
                      go_wp2
                      go_ret
                      exact ⟨by first | rfl | (simp [errW_none, errW_some] <;> rfl) | (simp [*, errW_none, errW_some] <;> rfl), by repeat (first | (with_reducible first | exact HB.out | apply below_alloc | apply pw_below_drewN | apply below_drew1) | exact HB.out)⟩
                · rw [if_neg c18] at H
                  have c18b0 : (t134 == 11) = false := beq_eq_false_iff_ne.mpr c18
                  have c18b1 : (t134 != 11) = true := bne_iff_ne.mpr c18
                  by_cases c23 : a1 = (-1)
                  · rw [if_pos c23] at H
                    have c23b0 : (a1 == (-1)) = true := beq_iff_eq.mpr c23
                    have c23b1 : (a1 != (-1)) = false := bne_eq_false_iff_eq.mpr c23
                    clear c23
                    by_cases c24 : a0 = (-9223372036854775808)
                    · rw [if_pos c24] at H
                      have c24b0 : (a0 == (-9223372036854775808)) = true := beq_iff_eq.mpr c24
                      have c24b1 : (a0 != (-9223372036854775808)) = false := bne_eq_false_iff_eq.mpr c24
                      clear c24
                      by_cases c25 : t134 = 10
                      · rw [if_pos c25] at H
                        have c25b0 : (t134 == 10) = true := beq_iff_eq.mpr c25
                        have c25b1 : (t134 != 10) = false := bne_eq_false_iff_eq.mpr c25
                        clear c25
                        obtain rfl := Option.some.inj H
                        go_wp2
                        go_ret
                        exact ⟨by first | rfl | (simp [errW_none, errW_some] <;> rfl) | (simp [*, errW_none, errW_some] <;> rfl), by repeat (first | (with_reducible first | exact HB.out | apply below_alloc | apply pw_below_drewN | apply below_drew1) | exact HB.out)⟩
                      · rw [if_neg c25] at H
                        have c25b0 : (t134 == 10) = false := beq_eq_false_iff_ne.mpr c25
                        have c25b1 : (t134 != 10) = true := bne_iff_ne.mpr c25
                        obtain rfl := Option.some.inj H
                        go_wp2
                        go_ret
                        exact ⟨by first | rfl | (simp [errW_none, errW_some] <;> rfl) | (simp [*, errW_none, errW_some] <;> rfl), by repeat (first | (with_reducible first | exact HB.out | apply below_alloc | apply pw_below_drewN | apply below_drew1) | exact HB.out)⟩
                    · rw [if_neg c24] at H
                      have c24b0 : (a0 == (-9223372036854775808)) = false := beq_eq_false_iff_ne.mpr c24
                      have c24b1 : (a0 != (-9223372036854775808)) = true := bne_iff_ne.mpr c24
                      obtain rfl := Option.some.inj H
                      go_wp2
                      go_ret
                      exact ⟨by first | rfl | (simp [errW_none, errW_some] <;> rfl) | (simp [*, errW_none, errW_some] <;> rfl), by repeat (first | (with_reducible first | exact HB.out | apply below_alloc | apply pw_below_drewN | apply below_drew1) | exact HB.out)⟩
                  · rw [if_neg c23] at H
                    have c23b0 : (a1 == (-1)) = false := beq_eq_false_iff_ne.mpr c23
                    have c23b1 : (a1 != (-1)) = true := bne_iff_ne.mpr c23
                    obtain rfl := Option.some.inj H
                    go_wp2
                    go_ret
                    exact ⟨by first | rfl | (simp [errW_none, errW_some] <;> rfl) | (simp [*, errW_none, errW_some] <;> rfl), by repeat (first | (with_reducible first | exact HB.out | apply below_alloc | apply pw_below_drewN | apply below_drew1) | exact HB.out)⟩
              · rw [if_neg c17] at H
                have c17b0 : (a1 == 0) = false := beq_eq_false_iff_ne.mpr c17
                have c17b1 : (a1 != 0) = true := bne_iff_ne.mpr c17
                by_cases c26 : a1 = (-1)
                · rw [if_pos c26] at H
                  have c26b0 : (a1 == (-1)) = true := beq_iff_eq.mpr c26
                  have c26b1 : (a1 != (-1)) = false := bne_eq_false_iff_eq.mpr c26
                  clear c26
                  by_cases c27 : a0 = (-9223372036854775808)
                  · rw [if_pos c27] at H
                    have c27b0 : (a0 == (-9223372036854775808)) = true := beq_iff_eq.mpr c27
                    have c27b1 : (a0 != (-9223372036854775808)) = false := bne_eq_false_iff_eq.mpr c27
                    clear c27
                    by_cases c28 : t134 = 10
                    · rw [if_pos c28] at H
                      have c28b0 : (t134 == 10) = true := beq_iff_eq.mpr c28
                      have c28b1 : (t134 != 10) = false := bne_eq_false_iff_eq.mpr c28
                      clear c28
                      obtain rfl := Option.some.inj H
                      go_wp2
                      go_ret
                      exact ⟨by first | rfl | (simp [errW_none, errW_some] <;> rfl) | (simp [*, errW_none, errW_some] <;> rfl), by repeat (first | (with_reducible first | exact HB.out | apply below_alloc | apply pw_below_drewN | apply below_drew1) | exact HB.out)⟩
                    · rw [if_neg c28] at H
                      have c28b0 : (t134 == 10) = false := beq_eq_false_iff_ne.mpr c28
                      have c28b1 : (t134 != 10) = true := bne_iff_ne.mpr c28
                      obtain rfl := Option.some.inj H
                      go_wp2
                      go_ret
                      exact ⟨by first | rfl | (simp [errW_none, errW_some] <;> rfl) | (simp [*, errW_none, errW_some] <;> rfl), by repeat (first | (with_reducible first | exact HB.out | apply below_alloc | apply pw_below_drewN | apply below_drew1) | exact HB.out)⟩
                  · rw [if_neg c27] at H
                    have c27b0 : (a0 == (-9223372036854775808)) = false := beq_eq_false_iff_ne.mpr c27
                    have c27b1 : (a0 != (-9223372036854775808)) = true := bne_iff_ne.mpr c27
                    obtain rfl := Option.some.inj H
                    go_wp2
                    go_ret
                    exact ⟨by first | rfl | (simp [errW_none, errW_some] <;> rfl) | (simp [*, errW_none, errW_some] <;> rfl), by repeat (first | (with_reducible first | exact HB.out | apply below_alloc | apply pw_below_drewN | apply below_drew1) | exact HB.out)⟩
                · rw [if_neg c26] at H
                  have c26b0 : (a1 == (-1)) = false := beq_eq_false_iff_ne.mpr c26
                  have c26b1 : (a1 != (-1)) = true := bne_iff_ne.mpr c26
                  obtain rfl := Option.some.inj H
                  go_wp2
                  go_ret
                  exact ⟨by first | rfl | (simp [errW_none, errW_some] <;> rfl) | (simp [*, errW_none, errW_some] <;> rfl), by repeat (first | (with_reducible first | exact HB.out | apply below_alloc | apply pw_below_drewN | apply below_drew1) | exact HB.out)⟩
            · replace c16 := Bool.eq_false_iff.mpr c16
              subst c16
              have H1 : ((num_Do.f kj13 6 t133 a1).bind fun bt137 => ((num_Do.f kj13 4 bt137.1 t135).bind fun bt139 => (if bt137.2 = 0 then (if bt139.2 = 0 then (if bt139.1 = a0 then (if t135 = 0 then (some true) else (some ((decide (t135 < 0)) == (decide (a0 < 0))))) else (some false)) else (some false)) else (some false)))) = some r := by rw [if_neg (show ¬ (false = true) by decide)] at H; exact H
              clear H
              have H := H1
              clear H1
              replace H := Option.bind_eq_some_iff.mp H
              obtain ⟨⟨t137, t138⟩, A290, H⟩ := H
              replace H : ((num_Do.f kj13 4 t137 t135).bind fun bt139 => (if t138 = 0 then (if bt139.2 = 0 then (if bt139.1 = a0 then (if t135 = 0 then (some true) else (some ((decide (t135 < 0)) == (decide (a0 < 0))))) else (some false)) else (some false)) else (some false))) = some r := H
              have A29 := Aside0.mk A290
              clear A290
              replace H := Option.bind_eq_some_iff.mp H
              obtain ⟨⟨t139, t140⟩, A300, H⟩ := H
              replace H : (if t138 = 0 then (if t140 = 0 then (if t139 = a0 then (if t135 = 0 then (some true) else (some ((decide (t135 < 0)) == (decide (a0 < 0))))) else (some false)) else (some false)) else (some false)) = some r := H
              have A30 := Aside0.mk A300
              clear A300
              by_cases c31 : t138 = 0
              · rw [if_pos c31] at H
                have c31b0 : (t138 == 0) = true := beq_iff_eq.mpr c31
                have c31b1 : (t138 != 0) = false := bne_eq_false_iff_eq.mpr c31
                clear c31
                by_cases c32 : t140 = 0
                · rw [if_pos c32] at H
                  have c32b0 : (t140 == 0) = true := beq_iff_eq.mpr c32
                  have c32b1 : (t140 != 0) = false := bne_eq_false_iff_eq.mpr c32
                  clear c32
                  by_cases c33 : t139 = a0
                  · rw [if_pos c33] at H
                    have c33b0 : (t139 == a0) = true := beq_iff_eq.mpr c33
                    have c33b1 : (t139 != a0) = false := bne_eq_false_iff_eq.mpr c33
                    clear c33
                    by_cases c34 : t135 = 0
                    · rw [if_pos c34] at H
                      have c34b0 : (t135 == 0) = true := beq_iff_eq.mpr c34
                      have c34b1 : (t135 != 0) = false := bne_eq_false_iff_eq.mpr c34
                      clear c34
                      obtain rfl := Option.some.inj H
                      go_wp2_with (first | ((with_reducible refine gate_callee (f := 11) rfl ?_); refine goesL_ (some 87) rfl rfl Try.func11 (by kernel_rfl) rfl #[.int .i64 6, .int .i64 t133, .int .i64 a1] rfl (by (try simp only [List.map_toArray, List.map_cons, List.map_nil]); first | done | rfl | (simp only [List.length_drop, List.length_take]; rfl)) ?_; (with_reducible refine (num_Do.calls kj13 6 t133 a1 t137 t138 _ A29.out).mono ?_); rintro e w' ⟨rfl, ⟨nd, rfl⟩⟩; refine ⟨_, rfl, ?_⟩) | ((with_reducible refine gate_callee (f := 11) rfl ?_); refine goesL_ (some 93) rfl rfl Try.func11 (by kernel_rfl) rfl #[.int .i64 4, .int .i64 t137, .int .i64 t135] rfl (by (try simp only [List.map_toArray, List.map_cons, List.map_nil]); first | done | rfl | (simp only [List.length_drop, List.length_take]; rfl)) ?_; (with_reducible refine (num_Do.calls kj13 4 t137 t135 t139 t140 _ A30.out).mono ?_); rintro e w' ⟨rfl, ⟨nd, rfl⟩⟩; refine ⟨_, rfl, ?_⟩))
                      go_ret
                      exact ⟨by first | rfl | (simp [errW_none, errW_some] <;> rfl) | (simp [*, errW_none, errW_some] <;> rfl), by repeat (first | (with_reducible first | exact HB.out | apply below_alloc | apply pw_below_drewN | apply below_drew1) | exact HB.out)⟩
                    · rw [if_neg c34] at H
                      have c34b0 : (t135 == 0) = false := beq_eq_false_iff_ne.mpr c34
                      have c34b1 : (t135 != 0) = true := bne_iff_ne.mpr c34
                      obtain rfl := Option.some.inj H
                      go_wp2_with (first | ((with_reducible refine gate_callee (f := 11) rfl ?_); refine goesL_ (some 87) rfl rfl Try.func11 (by kernel_rfl) rfl #[.int .i64 6, .int .i64 t133, .int .i64 a1] rfl (by (try simp only [List.map_toArray, List.map_cons, List.map_nil]); first | done | rfl | (simp only [List.length_drop, List.length_take]; rfl)) ?_; (with_reducible refine (num_Do.calls kj13 6 t133 a1 t137 t138 _ A29.out).mono ?_); rintro e w' ⟨rfl, ⟨nd, rfl⟩⟩; refine ⟨_, rfl, ?_⟩) | ((with_reducible refine gate_callee (f := 11) rfl ?_); refine goesL_ (some 93) rfl rfl Try.func11 (by kernel_rfl) rfl #[.int .i64 4, .int .i64 t137, .int .i64 t135] rfl (by (try simp only [List.map_toArray, List.map_cons, List.map_nil]); first | done | rfl | (simp only [List.length_drop, List.length_take]; rfl)) ?_; (with_reducible refine (num_Do.calls kj13 4 t137 t135 t139 t140 _ A30.out).mono ?_); rintro e w' ⟨rfl, ⟨nd, rfl⟩⟩; refine ⟨_, rfl, ?_⟩))
                      go_ret
                      exact ⟨by first | rfl | (simp [errW_none, errW_some] <;> rfl) | (simp [*, errW_none, errW_some] <;> rfl), by repeat (first | (with_reducible first | exact HB.out | apply below_alloc | apply pw_below_drewN | apply below_drew1) | exact HB.out)⟩
                  · rw [if_neg c33] at H
                    have c33b0 : (t139 == a0) = false := beq_eq_false_iff_ne.mpr c33
                    have c33b1 : (t139 != a0) = true := bne_iff_ne.mpr c33
                    obtain rfl := Option.some.inj H
                    go_wp2_with (first | ((with_reducible refine gate_callee (f := 11) rfl ?_); refine goesL_ (some 87) rfl rfl Try.func11 (by kernel_rfl) rfl #[.int .i64 6, .int .i64 t133, .int .i64 a1] rfl (by (try simp only [List.map_toArray, List.map_cons, List.map_nil]); first | done | rfl | (simp only [List.length_drop, List.length_take]; rfl)) ?_; (with_reducible refine (num_Do.calls kj13 6 t133 a1 t137 t138 _ A29.out).mono ?_); rintro e w' ⟨rfl, ⟨nd, rfl⟩⟩; refine ⟨_, rfl, ?_⟩) | ((with_reducible refine gate_callee (f := 11) rfl ?_); refine goesL_ (some 93) rfl rfl Try.func11 (by kernel_rfl) rfl #[.int .i64 4, .int .i64 t137, .int .i64 t135] rfl (by (try simp only [List.map_toArray, List.map_cons, List.map_nil]); first | done | rfl | (simp only [List.length_drop, List.length_take]; rfl)) ?_; (with_reducible refine (num_Do.calls kj13 4 t137 t135 t139 t140 _ A30.out).mono ?_); rintro e w' ⟨rfl, ⟨nd, rfl⟩⟩; refine ⟨_, rfl, ?_⟩))
                    go_ret
                    exact ⟨by first | rfl | (simp [errW_none, errW_some] <;> rfl) | (simp [*, errW_none, errW_some] <;> rfl), by repeat (first | (with_reducible first | exact HB.out | apply below_alloc | apply pw_below_drewN | apply below_drew1) | exact HB.out)⟩
                · rw [if_neg c32] at H
                  have c32b0 : (t140 == 0) = false := beq_eq_false_iff_ne.mpr c32
                  have c32b1 : (t140 != 0) = true := bne_iff_ne.mpr c32
                  obtain rfl := Option.some.inj H
                  go_wp2_with (first | ((with_reducible refine gate_callee (f := 11) rfl ?_); refine goesL_ (some 87) rfl rfl Try.func11 (by kernel_rfl) rfl #[.int .i64 6, .int .i64 t133, .int .i64 a1] rfl (by (try simp only [List.map_toArray, List.map_cons, List.map_nil]); first | done | rfl | (simp only [List.length_drop, List.length_take]; rfl)) ?_; (with_reducible refine (num_Do.calls kj13 6 t133 a1 t137 t138 _ A29.out).mono ?_); rintro e w' ⟨rfl, ⟨nd, rfl⟩⟩; refine ⟨_, rfl, ?_⟩) | ((with_reducible refine gate_callee (f := 11) rfl ?_); refine goesL_ (some 93) rfl rfl Try.func11 (by kernel_rfl) rfl #[.int .i64 4, .int .i64 t137, .int .i64 t135] rfl (by (try simp only [List.map_toArray, List.map_cons, List.map_nil]); first | done | rfl | (simp only [List.length_drop, List.length_take]; rfl)) ?_; (with_reducible refine (num_Do.calls kj13 4 t137 t135 t139 t140 _ A30.out).mono ?_); rintro e w' ⟨rfl, ⟨nd, rfl⟩⟩; refine ⟨_, rfl, ?_⟩))
                  go_ret
                  exact ⟨by first | rfl | (simp [errW_none, errW_some] <;> rfl) | (simp [*, errW_none, errW_some] <;> rfl), by repeat (first | (with_reducible first | exact HB.out | apply below_alloc | apply pw_below_drewN | apply below_drew1) | exact HB.out)⟩
              · rw [if_neg c31] at H
                have c31b0 : (t138 == 0) = false := beq_eq_false_iff_ne.mpr c31
                have c31b1 : (t138 != 0) = true := bne_iff_ne.mpr c31
                obtain rfl := Option.some.inj H
                go_wp2_with (first | ((with_reducible refine gate_callee (f := 11) rfl ?_); refine goesL_ (some 87) rfl rfl Try.func11 (by kernel_rfl) rfl #[.int .i64 6, .int .i64 t133, .int .i64 a1] rfl (by (try simp only [List.map_toArray, List.map_cons, List.map_nil]); first | done | rfl | (simp only [List.length_drop, List.length_take]; rfl)) ?_; (with_reducible refine (num_Do.calls kj13 6 t133 a1 t137 t138 _ A29.out).mono ?_); rintro e w' ⟨rfl, ⟨nd, rfl⟩⟩; refine ⟨_, rfl, ?_⟩) | ((with_reducible refine gate_callee (f := 11) rfl ?_); refine goesL_ (some 93) rfl rfl Try.func11 (by kernel_rfl) rfl #[.int .i64 4, .int .i64 t137, .int .i64 t135] rfl (by (try simp only [List.map_toArray, List.map_cons, List.map_nil]); first | done | rfl | (simp only [List.length_drop, List.length_take]; rfl)) ?_; (with_reducible refine (num_Do.calls kj13 4 t137 t135 t139 t140 _ A30.out).mono ?_); rintro e w' ⟨rfl, ⟨nd, rfl⟩⟩; refine ⟨_, rfl, ?_⟩))
                go_ret
                exact ⟨by first | rfl | (simp [errW_none, errW_some] <;> rfl) | (simp [*, errW_none, errW_some] <;> rfl), by repeat (first | (with_reducible first | exact HB.out | apply below_alloc | apply pw_below_drewN | apply below_drew1) | exact HB.out)⟩
  · replace c4 := Bool.eq_false_iff.mpr c4
    subst c4
    have H1 : (some false) = some r := by rw [if_neg (show ¬ (false = true) by decide)] at H; exact H
    clear H
    have H := H1
    clear H1
    obtain rfl := Option.some.inj H
    go_enter Try.func6, Try.ntmps6
    go_wp2_with (first | ((with_reducible refine gate_callee (f := 10) rfl ?_); refine goesL_ (some 17) rfl rfl Try.func10 (by kernel_rfl) rfl #[] rfl (by (try simp only [List.map_toArray, List.map_cons, List.map_nil]); first | done | rfl | (simp only [List.length_drop, List.length_take]; rfl)) ?_; (with_reducible refine (headgatelaw01_alive.calls k  false _ A3.out).mono ?_); rintro e w35 ⟨rfl, hb⟩; refine ⟨_, rfl, ?_⟩; have n0_ := Aside0.mk (below_step (by repeat (first | (with_reducible first | exact HB.out | apply below_alloc | apply pw_below_drewN | apply below_drew1) | exact HB.out)) hb); clear HB; have HB := n0_; clear n0_; (try clear hb); (try clear hb2); (try clear hk); (try clear hi)))
    go_ret
    exact ⟨by first | rfl | (simp [errW_none, errW_some] <;> rfl) | (simp [*, errW_none, errW_some] <;> rfl), by repeat (first | (with_reducible first | exact HB.out | apply below_alloc | apply pw_below_drewN | apply below_drew1) | exact HB.out)⟩

/-- THE ONE PURE STATEMENT of headgatelaw01_NumBack: yours. -/
def headgatelaw01_NumBack.Pure : Prop := ∀ (a0 : Int) (a1 : Int), (Lit.int .i64 a0).wf = true → (Lit.int .i64 a1).wf = true → ∃ k, headgatelaw01_NumBack.f k a0 a1 = some true
theorem headgatelaw01_NumBack.walk (P : headgatelaw01_NumBack.Pure) (a0 : Int) (a1 : Int) (w : World) (w0 : (Lit.int .i64 a0).wf = true) (w1 : (Lit.int .i64 a1).wf = true) :
    Calls Try.prog 6 #[.int .i64 a0, .int .i64 a1] w fun e w' => e = .returned (.bool true) ∧ Below w.heap.size w w' := by
  obtain ⟨k, h⟩ := P a0 a1 w0 w1
  refine (headgatelaw01_NumBack.calls k a0 a1 true w h).mono ?_
  rintro e w' ⟨rfl, hd⟩
  exact ⟨rfl, hd⟩

end Go.Proofs.Ytapffiacgfdfaaa.Q
