/- Texts of the claim, put together. -/
import Derived.Test.YtgihecpobichbaaK
import Derived.Test.YtgihecpobichbaaZCodeBack2
import Derived.Test.YtgihecpobichbaaZCodeBack1
import Derived.Deep.QuietTactic
import Derived.Test.YtgihecpobichbaaRk
-- Written by a program of the session over the translation's print: functions as plain Lean, and that the machine's call comes to them.
namespace Go.Proofs.Ytgihecpobichbaa.Q
open Go.RowKit Go.Proofs.YtgihecpobichbaaW.PrintWords Go.Proofs.YtgihecpobichbaaW.PrintLast Go.Proofs.YtgihecpobichbaaW.PrintMore
attribute [local go_sem] max2_int min2_int max_two min_two max_three min_three max_four min_four   -- for this text's walks alone
set_option linter.unusedVariables false
set_option linter.unusedSimpArgs false

/-! ### headgateref03_Rows: function 37 -/
def headgateref03_Rows.l0 : Nat → List (List (S116)) → List (List (S116)) → Int → Option (Bool)
  | 0, _, _, _ => none
  | k + 1, x0, x1, x5 => if x5 < (x0.length : Int) then (if 0 ≤ x5 then (if x5 < (x1.length : Int) then ((headgateref03_Same.f k (rd_L12 x0 x5) (rd_L12 x1 x5)).bind fun t137 => (if t137 = true then (headgateref03_Rows.l0 k x0 x1 (wrap64 (x5 + 1))) else (some false))) else (none)) else (none)) else (some true)
def headgateref03_Rows.f (k : Nat) (l0 : List (List (S116))) (l1 : List (List (S116))) : Option (Bool) := if (l0.length : Int) = (l1.length : Int) then (headgateref03_Rows.l0 k l0 l1 0) else (some false)
def headgateref03_Rows.T6 : Bool × List (List Nat × List Nat) := (true, [([], []), ([], []), ([0, 1], [0, 1]), ([2], [2]), ([], []), ([], []), ([4, 5], [4, 5]), ([6], [6]), ([3, 7], [3, 7]), ([8], [8])])
def headgateref03_Rows.B6 : List Nat := [0, 0, 3, 7, 0, 0, 48, 112, 255, 511]
theorem headgateref03_Rows.tab6 : rtab .any (opsOf Try.f37 6) = headgateref03_Rows.T6 := by kernel_rfl
theorem headgateref03_Rows.bits6 : waitsOk headgateref03_Rows.T6.2 headgateref03_Rows.B6 = true := by kernel_rfl
set_option maxHeartbeats 8000000 in
set_option maxRecDepth 100000 in
theorem headgateref03_Rows.calls (k : Nat) (A0 : Option Addr) (c0 : Nat) (l0 : List (List (S116))) (A1 : Option Addr) (c1 : Nat) (l1 : List (List (S116))) (r : Bool) (w : World) (hr0 : Kd.C (Kd.slice 116 k116) w A0 l0.length l0) (hc0 : l0.length ≤ c0) (hr1 : Kd.C (Kd.slice 116 k116) w A1 l1.length l1) (hc1 : l1.length ≤ c1) (h : headgateref03_Rows.f k l0 l1 = some r) :
    Calls Try.prog 37 #[.slice A0 l0.length c0, .slice A1 l1.length c1] w fun e w' => e = .returned (.bool r) ∧ Below w.heap.size w w' := by
  have HR0 := Aside0.mk hr0
  have HC0 := Aside0.mk hc0
  clear hr0 hc0
  have HR1 := Aside0.mk hr1
  have HC1 := Aside0.mk hc1
  clear hr1 hc1
  have HB := Aside0.mk (Below.refl w.heap.size w)
  have H : (if (l0.length : Int) = (l1.length : Int) then (headgateref03_Rows.l0 k l0 l1 0) else (some false)) = some r := h
  clear h
  by_cases c3 : (l0.length : Int) = (l1.length : Int)
  · rw [if_pos c3] at H
    have c3b0 : ((l0.length : Int) == (l1.length : Int)) = true := beq_iff_eq.mpr c3
    have c3b1 : ((l0.length : Int) != (l1.length : Int)) = false := bne_eq_false_iff_eq.mpr c3
    have c3b2 : (l0.length == l1.length) = true := by first | simpa using c3 | (simp at c3 ⊢; omega)
    clear c3
    have H' := Aside0.mk H
    clear H
    go_enter Try.func37, Try.ntmps37
    go_wp2
    go_loopg [5] k (fun kq v5 w' => ∃ (x5_1 : Int), v5 = .int .i64 x5_1 ∧ Aside0 (headgateref03_Rows.l0 kq l0 l1 x5_1 = some r) ∧ Aside0 (kq ≤ k) ∧ Aside0 (Below w.heap.size w w'))
    case atStart => exact ⟨(0), (by first | rfl | (simp; done) | (simp [*]; done) | (simp; rw [Bool.eq_iff_iff]; simp; done)), H', ⟨Nat.le_refl _⟩, ⟨by repeat (first | (with_reducible first | exact HB.out | apply below_alloc | apply pw_below_drewN | apply below_drew1) | exact HB.out)⟩⟩
    case round =>
      clear H'
      try clear c1
      try clear p2
      try clear c3
      try clear c3b0
      try clear c3b1
      try clear c3b2
      obtain ⟨x5_1, rfl, HA, HK1, HB⟩ := hrel
      cases gk with
      | zero => exact absurd HA.out (by simp [headgateref03_Rows.l0])
      | succ k1 =>
        have H := HA.out
        clear HA
        simp only [headgateref03_Rows.l0] at H
        by_cases c4 : x5_1 < (l0.length : Int)
        · rw [if_pos c4] at H
          have c4b0 : decide (x5_1 < (l0.length : Int)) = true := decide_eq_true c4
          clear c4
          by_cases c5 : 0 ≤ x5_1
          · rw [if_pos c5] at H
            have c5b0 : decide (0 ≤ x5_1) = true := decide_eq_true c5
            clear c5
            by_cases c6 : x5_1 < (l1.length : Int)
            · rw [if_pos c6] at H
              have c6b0 : decide (x5_1 < (l1.length : Int)) = true := decide_eq_true c6
              clear c6
              replace H := Option.bind_eq_some_iff.mp H
              obtain ⟨t137, A70, H⟩ := H
              replace H : (if t137 = true then (headgateref03_Rows.l0 k1 l0 l1 (wrap64 (x5_1 + 1))) else (some false)) = some r := H
              have A7 := Aside0.mk A70
              clear A70
              by_cases c8 : t137 = true
              · subst c8
                have H1 : (headgateref03_Rows.l0 k1 l0 l1 (wrap64 (x5_1 + 1))) = some r := by rw [if_pos rfl] at H; exact H
                clear H
                have H := H1
                clear H1
                have H' := Aside0.mk H
                clear H
                try go_wp2
                have n0_ := Aside0.mk (below_drew1 HB.out)
                clear HB
                have HB := n0_
                clear n0_
                have p135 : 0 ≤ (x5_1 : Int) := of_decide_eq_true (by first | (with_reducible assumption) | assumption)
                have q135 : x5_1 < (l0.length : Int) := of_decide_eq_true (by first | (with_reducible assumption) | assumption)
                obtain ⟨ad135, A135_0, c135_0, e135, hx135_0, hl135_0, hi135_0⟩ := at_L12 HR0.out x5_1 p135 q135
                have hw135_0 := hx135_0
                cases e135
                replace hx135_0 := (HB.out.cell (World.block_lt_of_cell? w _ hx135_0)).trans hx135_0
                have HR135_0 := Aside0.mk hi135_0
                have HC135_0 := Aside0.mk hl135_0
                clear hi135_0 hl135_0
                replace p135 := eq_true p135
                replace q135 := eq_true q135
                have p136 : 0 ≤ (x5_1 : Int) := of_decide_eq_true (by first | (with_reducible assumption) | assumption)
                have q136 : x5_1 < (l1.length : Int) := of_decide_eq_true (by first | (with_reducible assumption) | assumption)
                obtain ⟨ad136, A136_0, c136_0, e136, hx136_0, hl136_0, hi136_0⟩ := at_L12 HR1.out x5_1 p136 q136
                have hw136_0 := hx136_0
                cases e136
                replace hx136_0 := (HB.out.cell (World.block_lt_of_cell? w _ hx136_0)).trans hx136_0
                have HR136_0 := Aside0.mk hi136_0
                have HC136_0 := Aside0.mk hl136_0
                clear hi136_0 hl136_0
                replace p136 := eq_true p136
                replace q136 := eq_true q136
                refine start_ (n := 10) (S := fun w' => w'.cell? (ad135.add (x5_1).toNat) = some (.slice A135_0 (rd_L12 l0 x5_1).length c135_0) ∧ w'.cell? (ad136.add (x5_1).toNat) = some (.slice A136_0 (rd_L12 l1 x5_1).length c136_0)) (ds := []) #[false, false, false, false, false, false, false, false, false, false] (by kernel_rfl) rfl rfl ⟨((HB.out.cell (World.block_lt_of_cell? w _ hw135_0)).trans hw135_0), ((HB.out.cell (World.block_lt_of_cell? w _ hw136_0)).trans hw136_0)⟩ (fun hHeld => ?_); refine with_tabW headgateref03_Rows.tab6 headgateref03_Rows.bits6 (fun HT_ HW_ => ?_)
                generalize wr.drew = w9 at HB HR135_0 HR136_0 hx135_0 hx136_0 hHeld ⊢
                refine pure_ (i := 0) (N := some 17) (v := ?_) (a' := ?_) #[true, false, false, false, false, false, false, false, false, false] rfl rfl (any_of HT_.out (by kernel_rfl)) (fun _ _ _ h => h) (Or.inl ⟨by rfl, ?_⟩) ?_ ?_
                rotate_left
                · intro w'
                  go_simp
                  with_reducible rfl
                rotate_left
                · simp only [Act.put, List.setIfInBounds_toArray, List.set_cons_zero, List.set_cons_succ, i64_w, i32_w]
                  rfl
                refine pure_ (i := 1) (N := some 18) (v := ?_) (a' := ?_) #[true, true, false, false, false, false, false, false, false, false] rfl rfl (any_of HT_.out (by kernel_rfl)) (fun _ _ _ h => h) (Or.inl ⟨by rfl, ?_⟩) ?_ ?_
                rotate_left
                · intro w'
                  go_simp
                  with_reducible rfl
                rotate_left
                · simp only [Act.put, List.setIfInBounds_toArray, List.set_cons_zero, List.set_cons_succ, i64_w, i32_w]
                  rfl
                refine pure_ (i := 2) (N := some 19) (v := ?_) (a' := ?_) #[true, true, true, false, false, false, false, false, false, false] rfl rfl (any_of HT_.out (by kernel_rfl)) (fun _ _ _ h => h) (Or.inl ⟨by rfl, ?_⟩) ?_ ?_
                rotate_left
                · intro w'
                  go_simp
                  with_reducible rfl
                rotate_left
                · simp only [Act.put, List.setIfInBounds_toArray, List.set_cons_zero, List.set_cons_succ, i64_w, i32_w]
                  rfl
                refine pure_ (i := 4) (N := some 21) (v := ?_) (a' := ?_) #[true, true, true, false, true, false, false, false, false, false] rfl rfl (any_of HT_.out (by kernel_rfl)) (fun _ _ _ h => h) (Or.inl ⟨by rfl, ?_⟩) ?_ ?_
                rotate_left
                · intro w'
                  go_simp
                  with_reducible rfl
                rotate_left
                · simp only [Act.put, List.setIfInBounds_toArray, List.set_cons_zero, List.set_cons_succ, i64_w, i32_w]
                  rfl
                refine pure_ (i := 5) (N := some 22) (v := ?_) (a' := ?_) #[true, true, true, false, true, true, false, false, false, false] rfl rfl (any_of HT_.out (by kernel_rfl)) (fun _ _ _ h => h) (Or.inl ⟨by rfl, ?_⟩) ?_ ?_
                rotate_left
                · intro w'
                  go_simp
                  with_reducible rfl
                rotate_left
                · simp only [Act.put, List.setIfInBounds_toArray, List.set_cons_zero, List.set_cons_succ, i64_w, i32_w]
                  rfl
                refine pure_ (i := 6) (N := some 23) (v := ?_) (a' := ?_) #[true, true, true, false, true, true, true, false, false, false] rfl rfl (any_of HT_.out (by kernel_rfl)) (fun _ _ _ h => h) (Or.inl ⟨by rfl, ?_⟩) ?_ ?_
                rotate_left
                · intro w'
                  go_simp
                  with_reducible rfl
                rotate_left
                · simp only [Act.put, List.setIfInBounds_toArray, List.set_cons_zero, List.set_cons_succ, i64_w, i32_w]
                  rfl
                refine take_ (i := 3) (N := some 20) (v := ?_) (a' := ?_) #[true, true, true, true, true, true, true, false, false, false] rfl rfl (take_ofW HT_.out HW_.out (by kernel_rfl)) (fun _ _ _ h => h) (Or.inl ⟨by rfl, ?_⟩) hHeld ?_ ?_
                rotate_left
                · rintro w' ⟨s0, s1⟩
                  go_simp
                  with_reducible rfl
                rotate_left
                · simp only [Act.put, List.setIfInBounds_toArray, List.set_cons_zero, List.set_cons_succ, i64_w, i32_w]
                  rfl
                refine take_ (i := 7) (N := some 24) (v := ?_) (a' := ?_) #[true, true, true, true, true, true, true, true, false, false] rfl rfl (take_ofW HT_.out HW_.out (by kernel_rfl)) (fun _ _ _ h => h) (Or.inl ⟨by rfl, ?_⟩) hHeld ?_ ?_
                rotate_left
                · rintro w' ⟨s0, s1⟩
                  go_simp
                  with_reducible rfl
                rotate_left
                · simp only [Act.put, List.setIfInBounds_toArray, List.set_cons_zero, List.set_cons_succ, i64_w, i32_w]
                  rfl
                refine one_ (i := 8) (N := some 25) #[true, true, true, true, true, true, true, true, true, false] rfl rfl (one_of HT_.out (by kernel_rfl)) (by decide) (fun K hK => ?_)
                refine goes_ Try.func97 (by kernel_rfl) rfl #[.slice A135_0 (rd_L12 l0 x5_1).length c135_0, .slice A136_0 (rd_L12 l1 x5_1).length c136_0] (by rfl) rfl rfl (by (try simp only [List.map_toArray, List.map_cons, List.map_nil]); first | done | rfl | (simp only [List.length_drop, List.length_take]; rfl) | exact congrArg (fun x_ : Int => #[Value.int .u64 x_]) (show _ = _ % (18446744073709551616 : Int) by omega)) ?_
                with_reducible refine (headgateref03_Same.calls k1 _ _ (rd_L12 l0 x5_1) _ _ (rd_L12 l1 x5_1) true _ ?side1 ?side2 ?side3 ?side4 A7.out).mono ?_
                (case side1 => repeat (first | exact (Kd.C_below HR135_0.out HB.out) | (with_reducible refine Kd.C_alloc ?_ _) | (with_reducible refine Kd.C_drewN ?_ _) | (with_reducible refine Kd.C_drew ?_)))
                (case side2 => exact HC135_0.out)
                (case side3 => repeat (first | exact (Kd.C_below HR136_0.out HB.out) | (with_reducible refine Kd.C_alloc ?_ _) | (with_reducible refine Kd.C_drewN ?_ _) | (with_reducible refine Kd.C_drew ?_)))
                (case side4 => exact HC136_0.out)
                rintro e w10 ⟨rfl, hb⟩
                refine ⟨_, rfl, ?_⟩
                have n0_ := Aside0.mk (below_step (by repeat (first | (with_reducible first | exact HB.out | apply below_alloc | apply pw_below_drewN | apply below_drew1) | exact HB.out)) hb)
                clear HB
                have HB := n0_
                clear n0_
                (try clear hb)
                (try clear hb2)
                (try clear hk)
                (try clear hi)
                refine hK.out _ _ ⟨((HB.out.cell (World.block_lt_of_cell? w _ hw135_0)).trans hw135_0), ((HB.out.cell (World.block_lt_of_cell? w _ hw136_0)).trans hw136_0)⟩ (fun hHeld => ?_)
                clear hK K
                refine norm_ (a' := ?_) ?_ ?_
                rotate_left
                · show Act.put _ (some 25) _ = _
                  simp only [Act.put, List.setIfInBounds_toArray, List.set_cons_zero, List.set_cons_succ, i64_w, i32_w]
                  rfl
                refine pure_ (i := 9) (N := some 26) (v := ?_) (a' := ?_) #[true, true, true, true, true, true, true, true, true, true] rfl rfl (any_of HT_.out (by kernel_rfl)) (fun _ _ _ h => h) (Or.inl ⟨by rfl, ?_⟩) ?_ ?_
                rotate_left
                · intro w'
                  go_simp
                  with_reducible rfl
                rotate_left
                · simp only [Act.put, List.setIfInBounds_toArray, List.set_cons_zero, List.set_cons_succ, i64_w, i32_w]
                  rfl
                refine done_ (done_of HT_.out (by kernel_rfl)) ?_
                try go_wp2
                go_roundg k1
                case measure => have := HK1.out; omega
                case rel => exact ⟨(wrap64 (x5_1 + 1)), (by first | rfl | (simp; done) | (simp [*]; done) | (simp; rw [Bool.eq_iff_iff]; simp; done)), H', ⟨by have := HK1.out; omega⟩, ⟨by repeat (first | (with_reducible first | exact HB.out | apply below_alloc | apply pw_below_drewN | apply below_drew1) | exact HB.out)⟩⟩
              · replace c8 := Bool.eq_false_iff.mpr c8
                subst c8
                have H1 : (some false) = some r := by rw [if_neg (show ¬ (false = true) by decide)] at H; exact H
                clear H
                have H := H1
                clear H1
                obtain rfl := Option.some.inj H
                try go_wp2
                have n0_ := Aside0.mk (below_drew1 HB.out)
                clear HB
                have HB := n0_
                clear n0_
                have p135 : 0 ≤ (x5_1 : Int) := of_decide_eq_true (by first | (with_reducible assumption) | assumption)
                have q135 : x5_1 < (l0.length : Int) := of_decide_eq_true (by first | (with_reducible assumption) | assumption)
                obtain ⟨ad135, A135_0, c135_0, e135, hx135_0, hl135_0, hi135_0⟩ := at_L12 HR0.out x5_1 p135 q135
                have hw135_0 := hx135_0
                cases e135
                replace hx135_0 := (HB.out.cell (World.block_lt_of_cell? w _ hx135_0)).trans hx135_0
                have HR135_0 := Aside0.mk hi135_0
                have HC135_0 := Aside0.mk hl135_0
                clear hi135_0 hl135_0
                replace p135 := eq_true p135
                replace q135 := eq_true q135
                have p136 : 0 ≤ (x5_1 : Int) := of_decide_eq_true (by first | (with_reducible assumption) | assumption)
                have q136 : x5_1 < (l1.length : Int) := of_decide_eq_true (by first | (with_reducible assumption) | assumption)
                obtain ⟨ad136, A136_0, c136_0, e136, hx136_0, hl136_0, hi136_0⟩ := at_L12 HR1.out x5_1 p136 q136
                have hw136_0 := hx136_0
                cases e136
                replace hx136_0 := (HB.out.cell (World.block_lt_of_cell? w _ hx136_0)).trans hx136_0
                have HR136_0 := Aside0.mk hi136_0
                have HC136_0 := Aside0.mk hl136_0
                clear hi136_0 hl136_0
                replace p136 := eq_true p136
                replace q136 := eq_true q136
                refine start_ (n := 10) (S := fun w' => w'.cell? (ad135.add (x5_1).toNat) = some (.slice A135_0 (rd_L12 l0 x5_1).length c135_0) ∧ w'.cell? (ad136.add (x5_1).toNat) = some (.slice A136_0 (rd_L12 l1 x5_1).length c136_0)) (ds := []) #[false, false, false, false, false, false, false, false, false, false] (by kernel_rfl) rfl rfl ⟨((HB.out.cell (World.block_lt_of_cell? w _ hw135_0)).trans hw135_0), ((HB.out.cell (World.block_lt_of_cell? w _ hw136_0)).trans hw136_0)⟩ (fun hHeld => ?_); refine with_tabW headgateref03_Rows.tab6 headgateref03_Rows.bits6 (fun HT_ HW_ => ?_)
                generalize wr.drew = w11 at HB HR135_0 HR136_0 hx135_0 hx136_0 hHeld ⊢
                refine pure_ (i := 0) (N := some 17) (v := ?_) (a' := ?_) #[true, false, false, false, false, false, false, false, false, false] rfl rfl (any_of HT_.out (by kernel_rfl)) (fun _ _ _ h => h) (Or.inl ⟨by rfl, ?_⟩) ?_ ?_
                rotate_left
                · intro w'
                  go_simp
                  with_reducible rfl
                rotate_left
                · simp only [Act.put, List.setIfInBounds_toArray, List.set_cons_zero, List.set_cons_succ, i64_w, i32_w]
                  rfl
                refine pure_ (i := 1) (N := some 18) (v := ?_) (a' := ?_) #[true, true, false, false, false, false, false, false, false, false] rfl rfl (any_of HT_.out (by kernel_rfl)) (fun _ _ _ h => h) (Or.inl ⟨by rfl, ?_⟩) ?_ ?_
                rotate_left
                · intro w'
                  go_simp
                  with_reducible rfl
                rotate_left
                · simp only [Act.put, List.setIfInBounds_toArray, List.set_cons_zero, List.set_cons_succ, i64_w, i32_w]
                  rfl
                refine pure_ (i := 2) (N := some 19) (v := ?_) (a' := ?_) #[true, true, true, false, false, false, false, false, false, false] rfl rfl (any_of HT_.out (by kernel_rfl)) (fun _ _ _ h => h) (Or.inl ⟨by rfl, ?_⟩) ?_ ?_
                rotate_left
                · intro w'
                  go_simp
                  with_reducible rfl
                rotate_left
                · simp only [Act.put, List.setIfInBounds_toArray, List.set_cons_zero, List.set_cons_succ, i64_w, i32_w]
                  rfl
                refine pure_ (i := 4) (N := some 21) (v := ?_) (a' := ?_) #[true, true, true, false, true, false, false, false, false, false] rfl rfl (any_of HT_.out (by kernel_rfl)) (fun _ _ _ h => h) (Or.inl ⟨by rfl, ?_⟩) ?_ ?_
                rotate_left
                · intro w'
                  go_simp
                  with_reducible rfl
                rotate_left
                · simp only [Act.put, List.setIfInBounds_toArray, List.set_cons_zero, List.set_cons_succ, i64_w, i32_w]
                  rfl
                refine pure_ (i := 5) (N := some 22) (v := ?_) (a' := ?_) #[true, true, true, false, true, true, false, false, false, false] rfl rfl (any_of HT_.out (by kernel_rfl)) (fun _ _ _ h => h) (Or.inl ⟨by rfl, ?_⟩) ?_ ?_
                rotate_left
                · intro w'
                  go_simp
                  with_reducible rfl
                rotate_left
                · simp only [Act.put, List.setIfInBounds_toArray, List.set_cons_zero, List.set_cons_succ, i64_w, i32_w]
                  rfl
                refine pure_ (i := 6) (N := some 23) (v := ?_) (a' := ?_) #[true, true, true, false, true, true, true, false, false, false] rfl rfl (any_of HT_.out (by kernel_rfl)) (fun _ _ _ h => h) (Or.inl ⟨by rfl, ?_⟩) ?_ ?_
                rotate_left
                · intro w'
                  go_simp
                  with_reducible rfl
                rotate_left
                · simp only [Act.put, List.setIfInBounds_toArray, List.set_cons_zero, List.set_cons_succ, i64_w, i32_w]
                  rfl
                refine take_ (i := 3) (N := some 20) (v := ?_) (a' := ?_) #[true, true, true, true, true, true, true, false, false, false] rfl rfl (take_ofW HT_.out HW_.out (by kernel_rfl)) (fun _ _ _ h => h) (Or.inl ⟨by rfl, ?_⟩) hHeld ?_ ?_
                rotate_left
                · rintro w' ⟨s0, s1⟩
                  go_simp
                  with_reducible rfl
                rotate_left
                · simp only [Act.put, List.setIfInBounds_toArray, List.set_cons_zero, List.set_cons_succ, i64_w, i32_w]
                  rfl
                refine take_ (i := 7) (N := some 24) (v := ?_) (a' := ?_) #[true, true, true, true, true, true, true, true, false, false] rfl rfl (take_ofW HT_.out HW_.out (by kernel_rfl)) (fun _ _ _ h => h) (Or.inl ⟨by rfl, ?_⟩) hHeld ?_ ?_
                rotate_left
                · rintro w' ⟨s0, s1⟩
                  go_simp
                  with_reducible rfl
                rotate_left
                · simp only [Act.put, List.setIfInBounds_toArray, List.set_cons_zero, List.set_cons_succ, i64_w, i32_w]
                  rfl
                refine one_ (i := 8) (N := some 25) #[true, true, true, true, true, true, true, true, true, false] rfl rfl (one_of HT_.out (by kernel_rfl)) (by decide) (fun K hK => ?_)
                refine goes_ Try.func97 (by kernel_rfl) rfl #[.slice A135_0 (rd_L12 l0 x5_1).length c135_0, .slice A136_0 (rd_L12 l1 x5_1).length c136_0] (by rfl) rfl rfl (by (try simp only [List.map_toArray, List.map_cons, List.map_nil]); first | done | rfl | (simp only [List.length_drop, List.length_take]; rfl) | exact congrArg (fun x_ : Int => #[Value.int .u64 x_]) (show _ = _ % (18446744073709551616 : Int) by omega)) ?_
                with_reducible refine (headgateref03_Same.calls k1 _ _ (rd_L12 l0 x5_1) _ _ (rd_L12 l1 x5_1) false _ ?side1 ?side2 ?side3 ?side4 A7.out).mono ?_
                (case side1 => repeat (first | exact (Kd.C_below HR135_0.out HB.out) | (with_reducible refine Kd.C_alloc ?_ _) | (with_reducible refine Kd.C_drewN ?_ _) | (with_reducible refine Kd.C_drew ?_)))
                (case side2 => exact HC135_0.out)
                (case side3 => repeat (first | exact (Kd.C_below HR136_0.out HB.out) | (with_reducible refine Kd.C_alloc ?_ _) | (with_reducible refine Kd.C_drewN ?_ _) | (with_reducible refine Kd.C_drew ?_)))
                (case side4 => exact HC136_0.out)
                rintro e w12 ⟨rfl, hb⟩
                refine ⟨_, rfl, ?_⟩
                have n0_ := Aside0.mk (below_step (by repeat (first | (with_reducible first | exact HB.out | apply below_alloc | apply pw_below_drewN | apply below_drew1) | exact HB.out)) hb)
                clear HB
                have HB := n0_
                clear n0_
                (try clear hb)
                (try clear hb2)
                (try clear hk)
                (try clear hi)
                refine hK.out _ _ ⟨((HB.out.cell (World.block_lt_of_cell? w _ hw135_0)).trans hw135_0), ((HB.out.cell (World.block_lt_of_cell? w _ hw136_0)).trans hw136_0)⟩ (fun hHeld => ?_)
                clear hK K
                refine norm_ (a' := ?_) ?_ ?_
                rotate_left
                · show Act.put _ (some 25) _ = _
                  simp only [Act.put, List.setIfInBounds_toArray, List.set_cons_zero, List.set_cons_succ, i64_w, i32_w]
                  rfl
                refine pure_ (i := 9) (N := some 26) (v := ?_) (a' := ?_) #[true, true, true, true, true, true, true, true, true, true] rfl rfl (any_of HT_.out (by kernel_rfl)) (fun _ _ _ h => h) (Or.inl ⟨by rfl, ?_⟩) ?_ ?_
                rotate_left
                · intro w'
                  go_simp
                  with_reducible rfl
                rotate_left
                · simp only [Act.put, List.setIfInBounds_toArray, List.set_cons_zero, List.set_cons_succ, i64_w, i32_w]
                  rfl
                refine done_ (done_of HT_.out (by kernel_rfl)) ?_
                try go_wp2
                go_ret
                exact ⟨by first | rfl | (simp [errW_none, errW_some] <;> rfl) | (simp [*, errW_none, errW_some] <;> rfl), by repeat (first | (with_reducible first | exact HB.out | apply below_alloc | apply pw_below_drewN | apply below_drew1) | exact HB.out)⟩
            · rw [if_neg c6] at H
              exact absurd H (by simp)
          · rw [if_neg c5] at H
            exact absurd H (by simp)
        · rw [if_neg c4] at H
          have c4b0 : decide (x5_1 < (l0.length : Int)) = false := decide_eq_false c4
          clear c4
          obtain rfl := Option.some.inj H
          go_wp2
          go_ret
          exact ⟨by first | rfl | (simp [errW_none, errW_some] <;> rfl) | (simp [*, errW_none, errW_some] <;> rfl), by repeat (first | (with_reducible first | exact HB.out | apply below_alloc | apply pw_below_drewN | apply below_drew1) | exact HB.out)⟩
  · rw [if_neg c3] at H
    have c3b0 : ((l0.length : Int) == (l1.length : Int)) = false := beq_eq_false_iff_ne.mpr c3
    have c3b1 : ((l0.length : Int) != (l1.length : Int)) = true := bne_iff_ne.mpr c3
    have c3b2 : (l0.length == l1.length) = false := by first | simpa using c3 | (simp at c3 ⊢; omega)
    obtain rfl := Option.some.inj H
    go_enter Try.func37, Try.ntmps37
    go_wp2
    go_ret
    exact ⟨by first | rfl | (simp [errW_none, errW_some] <;> rfl) | (simp [*, errW_none, errW_some] <;> rfl), by repeat (first | (with_reducible first | exact HB.out | apply below_alloc | apply pw_below_drewN | apply below_drew1) | exact HB.out)⟩

/-! ### headgateref03_Big: function 55 -/
def headgateref03_Big.l0 : Nat → List (S116) → Int → Option (Bool)
  | 0, _, _ => none
  | k + 1, x0, x3 => if x3 < (x0.length : Int) then (if 0 ≤ x3 then (if (((rd_T116 x0 x3).f2).size : Int) > 600 then (some true) else (headgateref03_Big.l0 k x0 (wrap64 (x3 + 1)))) else (none)) else (some false)
def headgateref03_Big.f (k : Nat) (l0 : List (S116)) : Option (Bool) := if (l0.length : Int) > 40 then (some true) else (headgateref03_Big.l0 k l0 0)
set_option maxHeartbeats 8000000 in
set_option maxRecDepth 100000 in
theorem headgateref03_Big.calls (k : Nat) (A0 : Option Addr) (c0 : Nat) (l0 : List (S116)) (r : Bool) (w : World) (hr0 : Kd.C k116 w A0 l0.length l0) (hc0 : l0.length ≤ c0) (h : headgateref03_Big.f k l0 = some r) :
    Calls Try.prog 55 #[.slice A0 l0.length c0] w fun e w' => e = .returned (.bool r) ∧ Drawn0 w w' := by
  have HR0 := Aside0.mk hr0
  have HC0 := Aside0.mk hc0
  clear hr0 hc0
  have H : (if (l0.length : Int) > 40 then (some true) else (headgateref03_Big.l0 k l0 0)) = some r := h
  clear h
  by_cases c2 : (l0.length : Int) > 40
  · rw [if_pos c2] at H
    have c2b0 : decide (40 < (l0.length : Int)) = true := decide_eq_true c2
    have c2b1 : decide (40 < l0.length) = true := decide_eq_true (by omega)
    clear c2
    obtain rfl := Option.some.inj H
    go_enter Try.func55, Try.ntmps55
    go_wp2
    go_ret
    exact ⟨by first | rfl | (simp; done) | (simp [*]; done), by repeat (first | exact Drawn0.refl _ | apply Drawn0.step)⟩
  · rw [if_neg c2] at H
    have c2b0 : decide (40 < (l0.length : Int)) = false := decide_eq_false c2
    have c2b1 : decide (40 < l0.length) = false := decide_eq_false (by omega)
    clear c2
    have H' := Aside0.mk H
    clear H
    go_enter Try.func55, Try.ntmps55
    go_wp2
    go_loopg [3] k (fun kq v3 w' => ∃ (x3_1 : Int), v3 = .int .i64 x3_1 ∧ Aside0 (headgateref03_Big.l0 kq l0 x3_1 = some r) ∧ Aside0 (kq ≤ k) ∧ Drawn0 w w')
    case atStart => exact ⟨(0), (by first | rfl | (simp; done) | (simp [*]; done) | (simp; rw [Bool.eq_iff_iff]; simp; done)), H', ⟨Nat.le_refl _⟩, by repeat (first | exact Drawn0.refl _ | apply Drawn0.step)⟩
    case round =>
      clear H'
      try clear c2
      try clear c2b0
      try clear c2b1
      try clear p2
      obtain ⟨x3_1, rfl, HA, HK1, ⟨m1, rfl⟩⟩ := hrel
      cases gk with
      | zero => exact absurd HA.out (by simp [headgateref03_Big.l0])
      | succ k1 =>
        have H := HA.out
        clear HA
        simp only [headgateref03_Big.l0] at H
        by_cases c3 : x3_1 < (l0.length : Int)
        · rw [if_pos c3] at H
          have c3b0 : decide (x3_1 < (l0.length : Int)) = true := decide_eq_true c3
          clear c3
          by_cases c4 : 0 ≤ x3_1
          · rw [if_pos c4] at H
            have c4b0 : decide (0 ≤ x3_1) = true := decide_eq_true c4
            clear c4
            by_cases c5 : (((rd_T116 l0 x3_1).f2).size : Int) > 600
            · rw [if_pos c5] at H
              have c5b0 : decide (600 < (((rd_T116 l0 x3_1).f2).size : Int)) = true := decide_eq_true c5
              have c5b1 : decide (600 < ((rd_T116 l0 x3_1).f2).size) = true := decide_eq_true (by omega)
              clear c5
              obtain rfl := Option.some.inj H
              have p138 : 0 ≤ (x3_1 : Int) := of_decide_eq_true (by first | (with_reducible assumption) | assumption)
              have q138 : x3_1 < (l0.length : Int) := of_decide_eq_true (by first | (with_reducible assumption) | assumption)
              obtain ⟨ad138, e138, hx138_0, hx138_1, hx138_2⟩ := at_T116 HR0.out x3_1 p138 q138
              cases e138
              replace p138 := eq_true p138
              replace q138 := eq_true q138
              go_wp2
              go_ret
              exact ⟨by first | rfl | (simp; done) | (simp [*]; done), by repeat (first | exact Drawn0.refl _ | apply Drawn0.step)⟩
            · rw [if_neg c5] at H
              have c5b0 : decide (600 < (((rd_T116 l0 x3_1).f2).size : Int)) = false := decide_eq_false c5
              have c5b1 : decide (600 < ((rd_T116 l0 x3_1).f2).size) = false := decide_eq_false (by omega)
              clear c5
              have H' := Aside0.mk H
              clear H
              have p138 : 0 ≤ (x3_1 : Int) := of_decide_eq_true (by first | (with_reducible assumption) | assumption)
              have q138 : x3_1 < (l0.length : Int) := of_decide_eq_true (by first | (with_reducible assumption) | assumption)
              obtain ⟨ad138, e138, hx138_0, hx138_1, hx138_2⟩ := at_T116 HR0.out x3_1 p138 q138
              cases e138
              replace p138 := eq_true p138
              replace q138 := eq_true q138
              go_wp2
              go_roundg k1
              case measure => have := HK1.out; omega
              case rel => exact ⟨(wrap64 (x3_1 + 1)), (by first | rfl | (simp; done) | (simp [*]; done) | (simp; rw [Bool.eq_iff_iff]; simp; done)), H', ⟨by have := HK1.out; omega⟩, by repeat (first | exact Drawn0.refl _ | apply Drawn0.step)⟩
          · rw [if_neg c4] at H
            exact absurd H (by simp)
        · rw [if_neg c3] at H
          have c3b0 : decide (x3_1 < (l0.length : Int)) = false := decide_eq_false c3
          clear c3
          obtain rfl := Option.some.inj H
          go_wp2
          go_ret
          exact ⟨by first | rfl | (simp; done) | (simp [*]; done), by repeat (first | exact Drawn0.refl _ | apply Drawn0.step)⟩

end Go.Proofs.Ytgihecpobichbaa.Q
-- Written by a program of the session over the translation's print: functions as plain Lean, and that the machine's call comes to them.
namespace Go.Proofs.Ytgihecpobichbaa.Q
open Go.RowKit Go.Proofs.YtgihecpobichbaaW.PrintWords Go.Proofs.YtgihecpobichbaaW.PrintLast Go.Proofs.YtgihecpobichbaaW.PrintMore
attribute [local go_sem] max2_int min2_int max_two min_two max_three min_three max_four min_four   -- for this text's walks alone
set_option linter.unusedVariables false
set_option linter.unusedSimpArgs false

end Go.Proofs.Ytgihecpobichbaa.Q
-- Written by a program of the session over the translation's print: functions as plain Lean, and that the machine's call comes to them.
namespace Go.Proofs.Ytgihecpobichbaa.Q
open Go.RowKit Go.Proofs.YtgihecpobichbaaW.PrintWords Go.Proofs.YtgihecpobichbaaW.PrintLast Go.Proofs.YtgihecpobichbaaW.PrintMore
attribute [local go_sem] max2_int min2_int max_two min_two max_three min_three max_four min_four   -- for this text's walks alone
set_option linter.unusedVariables false
set_option linter.unusedSimpArgs false

/-! ### headgatelaw04_long: function 19 -/
mutual
def headgatelaw04_long.j0 : Nat → List (List (S116)) → List (S74) → Bool → Option (Bool)
  | 0, _, _, _ => none
  | k + 1, x0, x1, x14 => if x14 = true then (some true) else (headgatelaw04_long.l0 k x0 x1 0)
def headgatelaw04_long.l0 : Nat → List (List (S116)) → List (S74) → Int → Option (Bool)
  | 0, _, _, _ => none
  | k + 1, x0, x1, x5 => if x5 < (x0.length : Int) then (if 0 ≤ x5 then ((headgateref03_Big.f k (rd_L12 x0 x5)).bind fun t102 => (if t102 = true then (some true) else (headgatelaw04_long.l0 k x0 x1 (wrap64 (x5 + 1))))) else (none)) else (headgatelaw04_long.l1 k x1 0)
def headgatelaw04_long.l1 : Nat → List (S74) → Int → Option (Bool)
  | 0, _, _ => none
  | k + 1, x1, x6 => if x6 < (x1.length : Int) then (if 0 ≤ x6 then (if (((rd_T74 x1 x6).f0).size : Int) > 2000 then (some true) else (if (((rd_T74 x1 x6).f1).size : Int) > 2000 then (some true) else (headgatelaw04_long.l1 k x1 (wrap64 (x6 + 1))))) else (none)) else (some false)
end
def headgatelaw04_long.f (k : Nat) (l0 : List (List (S116))) (l1 : List (S74)) : Option (Bool) := if (l0.length : Int) > 300 then (headgatelaw04_long.j0 k l0 l1 true) else (headgatelaw04_long.j0 k l0 l1 (decide ((l1.length : Int) > 300)))
set_option maxHeartbeats 8000000 in
set_option maxRecDepth 100000 in
theorem headgatelaw04_long.calls (k : Nat) (A0 : Option Addr) (c0 : Nat) (l0 : List (List (S116))) (A1 : Option Addr) (c1 : Nat) (l1 : List (S74)) (r : Bool) (w : World) (hr0 : Kd.C (Kd.slice 116 k116) w A0 l0.length l0) (hc0 : l0.length ≤ c0) (hr1 : Kd.C k74 w A1 l1.length l1) (hc1 : l1.length ≤ c1) (h : headgatelaw04_long.f k l0 l1 = some r) :
    Calls Try.prog 19 #[.slice A0 l0.length c0, .slice A1 l1.length c1] w fun e w' => e = .returned (.bool r) ∧ Drawn0 w w' := by
  have HR0 := Aside0.mk hr0
  have HC0 := Aside0.mk hc0
  clear hr0 hc0
  have HR1 := Aside0.mk hr1
  have HC1 := Aside0.mk hc1
  clear hr1 hc1
  have H : (if (l0.length : Int) > 300 then (headgatelaw04_long.j0 k l0 l1 true) else (headgatelaw04_long.j0 k l0 l1 (decide ((l1.length : Int) > 300)))) = some r := h
  clear h
  have HC3 := Aside0.mk H
  clear H
  go_enter Try.func19, Try.ntmps19
  go_upto_region 1 with (fail)
  go_cut [14] (fun v14 wc => ∃ (kq : Nat) (x14_2 : Bool), v14 = .bool x14_2 ∧ Aside0 (headgatelaw04_long.j0 kq l0 l1 x14_2 = some r) ∧ Aside0 (kq ≤ k) ∧ Drawn0 w wc)
  case first =>
    have H := HC3.out
    clear HC3
    by_cases c4 : (l0.length : Int) > 300
    · rw [if_pos c4] at H
      have c4b0 : decide (300 < (l0.length : Int)) = true := decide_eq_true c4
      have c4b1 : decide (300 < l0.length) = true := decide_eq_true (by omega)
      clear c4
      (first | rw [c4b0] | (simp only [i64_w, i32_w]; rw [c4b0]) | skip)
      have H' := Aside0.mk H
      clear H
      go_wp2
      go_meet
      case rel => exact ⟨_, (true), (by first | rfl | (simp; done) | (simp [*]; done) | (simp; rw [Bool.eq_iff_iff]; simp; done)), H', ⟨by first | omega | exact Nat.le_refl _⟩, by repeat (first | exact Drawn0.refl _ | apply Drawn0.step)⟩
    · rw [if_neg c4] at H
      have c4b0 : decide (300 < (l0.length : Int)) = false := decide_eq_false c4
      have c4b1 : decide (300 < l0.length) = false := decide_eq_false (by omega)
      clear c4
      (first | rw [c4b0] | (simp only [i64_w, i32_w]; rw [c4b0]) | skip)
      have H' := Aside0.mk H
      clear H
      go_wp2
      go_meet
      case rel => exact ⟨_, (decide ((l1.length : Int) > 300)), (by first | rfl | (simp; done) | (simp [*]; done) | (simp; rw [Bool.eq_iff_iff]; simp; done)), H', ⟨by first | omega | exact Nat.le_refl _⟩, by repeat (first | exact Drawn0.refl _ | apply Drawn0.step)⟩
  case rest =>
    clear HC3
    try clear c1
    try clear p2
    try clear c4
    try clear c4b0
    try clear c4b1
    obtain ⟨kq, x14_2, rfl, HA, HJ2, ⟨mc2, rfl⟩⟩ := hcut
    cases kq with
    | zero => exact absurd HA.out (by simp [headgatelaw04_long.j0])
    | succ kj2 =>
      have H := HA.out
      clear HA
      simp only [headgatelaw04_long.j0] at H
      by_cases c5 : x14_2 = true
      · subst c5
        have H1 : (some true) = some r := by rw [if_pos rfl] at H; exact H
        clear H
        have H := H1
        clear H1
        obtain rfl := Option.some.inj H
        go_wp2
        go_ret
        exact ⟨by first | rfl | (simp; done) | (simp [*]; done), by repeat (first | exact Drawn0.refl _ | apply Drawn0.step)⟩
      · replace c5 := Bool.eq_false_iff.mpr c5
        subst c5
        have H1 : (headgatelaw04_long.l0 kj2 l0 l1 0) = some r := by rw [if_neg (show ¬ (false = true) by decide)] at H; exact H
        clear H
        have H := H1
        clear H1
        have H' := Aside0.mk H
        clear H
        go_wp2
        go_loopg [5] kj2 (fun kq v5 w' => ∃ (x5_2 : Int), v5 = .int .i64 x5_2 ∧ Aside0 (headgatelaw04_long.l0 kq l0 l1 x5_2 = some r) ∧ Aside0 (kq ≤ kj2) ∧ Drawn0 w w')
        case atStart => exact ⟨(0), (by first | rfl | (simp; done) | (simp [*]; done) | (simp; rw [Bool.eq_iff_iff]; simp; done)), H', ⟨Nat.le_refl _⟩, by repeat (first | exact Drawn0.refl _ | apply Drawn0.step)⟩
        case round =>
          clear H'
          try clear c1
          try clear c2
          try clear p2
          try clear c4
          try clear c4b0
          try clear c4b1
          try clear c5
          try clear p2
          obtain ⟨x5_2, rfl, HA, HK2, ⟨m2, rfl⟩⟩ := hrel
          cases gk with
          | zero => exact absurd HA.out (by simp [headgatelaw04_long.l0])
          | succ k2 =>
            have H := HA.out
            clear HA
            simp only [headgatelaw04_long.l0] at H
            by_cases c6 : x5_2 < (l0.length : Int)
            · rw [if_pos c6] at H
              have c6b0 : decide (x5_2 < (l0.length : Int)) = true := decide_eq_true c6
              clear c6
              by_cases c7 : 0 ≤ x5_2
              · rw [if_pos c7] at H
                have c7b0 : decide (0 ≤ x5_2) = true := decide_eq_true c7
                clear c7
                replace H := Option.bind_eq_some_iff.mp H
                obtain ⟨t102, A80, H⟩ := H
                replace H : (if t102 = true then (some true) else (headgatelaw04_long.l0 k2 l0 l1 (wrap64 (x5_2 + 1)))) = some r := H
                have A8 := Aside0.mk A80
                clear A80
                by_cases c9 : t102 = true
                · subst c9
                  have H1 : (some true) = some r := by rw [if_pos rfl] at H; exact H
                  clear H
                  have H := H1
                  clear H1
                  obtain rfl := Option.some.inj H
                  have p101 : 0 ≤ (x5_2 : Int) := of_decide_eq_true (by first | (with_reducible assumption) | assumption)
                  have q101 : x5_2 < (l0.length : Int) := of_decide_eq_true (by first | (with_reducible assumption) | assumption)
                  obtain ⟨ad101, A101_0, c101_0, e101, hx101_0, hl101_0, hi101_0⟩ := at_L12 HR0.out x5_2 p101 q101
                  cases e101
                  have HR101_0 := Aside0.mk hi101_0
                  have HC101_0 := Aside0.mk hl101_0
                  clear hi101_0 hl101_0
                  replace p101 := eq_true p101
                  replace q101 := eq_true q101
                  go_wp2_with (first | ((with_reducible refine gate_callee (f := 55) rfl ?_); refine goesL_ (some 25) rfl rfl Try.func55 (by kernel_rfl) rfl #[.slice A101_0 (rd_L12 l0 x5_2).length c101_0] rfl (by (try simp only [List.map_toArray, List.map_cons, List.map_nil]); first | done | rfl | (simp only [List.length_drop, List.length_take]; rfl) | exact congrArg (fun x_ : Int => #[Value.int .u64 x_]) (show _ = _ % (18446744073709551616 : Int) by omega)) ?_; (with_reducible refine (headgateref03_Big.calls k2 _ _ (rd_L12 l0 x5_2) true _ ?side1 ?side2 A8.out).mono ?_); (case side1 => repeat (first | exact HR101_0.out | (with_reducible refine Kd.C_alloc ?_ _) | (with_reducible refine Kd.C_drewN ?_ _) | (with_reducible refine Kd.C_drew ?_))); (case side2 => exact HC101_0.out); rintro e w' ⟨rfl, ⟨nd, rfl⟩⟩; refine ⟨_, rfl, ?_⟩))
                  go_ret
                  exact ⟨by first | rfl | (simp; done) | (simp [*]; done), by repeat (first | exact Drawn0.refl _ | apply Drawn0.step)⟩
                · replace c9 := Bool.eq_false_iff.mpr c9
                  subst c9
                  have H1 : (headgatelaw04_long.l0 k2 l0 l1 (wrap64 (x5_2 + 1))) = some r := by rw [if_neg (show ¬ (false = true) by decide)] at H; exact H
                  clear H
                  have H := H1
                  clear H1
                  have H' := Aside0.mk H
                  clear H
                  have p101 : 0 ≤ (x5_2 : Int) := of_decide_eq_true (by first | (with_reducible assumption) | assumption)
                  have q101 : x5_2 < (l0.length : Int) := of_decide_eq_true (by first | (with_reducible assumption) | assumption)
                  obtain ⟨ad101, A101_0, c101_0, e101, hx101_0, hl101_0, hi101_0⟩ := at_L12 HR0.out x5_2 p101 q101
                  cases e101
                  have HR101_0 := Aside0.mk hi101_0
                  have HC101_0 := Aside0.mk hl101_0
                  clear hi101_0 hl101_0
                  replace p101 := eq_true p101
                  replace q101 := eq_true q101
                  go_wp2_with (first | ((with_reducible refine gate_callee (f := 55) rfl ?_); refine goesL_ (some 25) rfl rfl Try.func55 (by kernel_rfl) rfl #[.slice A101_0 (rd_L12 l0 x5_2).length c101_0] rfl (by (try simp only [List.map_toArray, List.map_cons, List.map_nil]); first | done | rfl | (simp only [List.length_drop, List.length_take]; rfl) | exact congrArg (fun x_ : Int => #[Value.int .u64 x_]) (show _ = _ % (18446744073709551616 : Int) by omega)) ?_; (with_reducible refine (headgateref03_Big.calls k2 _ _ (rd_L12 l0 x5_2) false _ ?side1 ?side2 A8.out).mono ?_); (case side1 => repeat (first | exact HR101_0.out | (with_reducible refine Kd.C_alloc ?_ _) | (with_reducible refine Kd.C_drewN ?_ _) | (with_reducible refine Kd.C_drew ?_))); (case side2 => exact HC101_0.out); rintro e w' ⟨rfl, ⟨nd, rfl⟩⟩; refine ⟨_, rfl, ?_⟩))
                  go_roundg k2
                  case measure => have := HJ2.out; have := HK2.out; omega
                  case rel => exact ⟨(wrap64 (x5_2 + 1)), (by first | rfl | (simp; done) | (simp [*]; done) | (simp; rw [Bool.eq_iff_iff]; simp; done)), H', ⟨by have := HJ2.out; have := HK2.out; omega⟩, by repeat (first | exact Drawn0.refl _ | apply Drawn0.step)⟩
              · rw [if_neg c7] at H
                exact absurd H (by simp)
            · rw [if_neg c6] at H
              have c6b0 : decide (x5_2 < (l0.length : Int)) = false := decide_eq_false c6
              clear c6
              have H' := Aside0.mk H
              clear H
              go_wp2
              go_loopg [6] k2 (fun kq v6 w' => ∃ (x6_3 : Int), v6 = .int .i64 x6_3 ∧ Aside0 (headgatelaw04_long.l1 kq l1 x6_3 = some r) ∧ Aside0 (kq ≤ k2) ∧ Drawn0 w w')
              case atStart => exact ⟨(0), (by first | rfl | (simp; done) | (simp [*]; done) | (simp; rw [Bool.eq_iff_iff]; simp; done)), H', ⟨Nat.le_refl _⟩, by repeat (first | exact Drawn0.refl _ | apply Drawn0.step)⟩
              case round =>
                clear H'
                try clear c1
                try clear p1
                try clear q1
                try clear hx1
                try clear c2
                try clear p2
                try clear c4
                try clear c4b0
                try clear c4b1
                try clear c5
                try clear c6
                try clear c6b0
                try clear p6
                try clear c7
                try clear c7b0
                try clear c9
                try clear hx101_0
                try clear p101
                try clear p2
                try clear q101
                obtain ⟨x6_3, rfl, HA, HK3, ⟨m3, rfl⟩⟩ := hrel
                cases gk with
                | zero => exact absurd HA.out (by simp [headgatelaw04_long.l1])
                | succ k3 =>
                  have H := HA.out
                  clear HA
                  simp only [headgatelaw04_long.l1] at H
                  by_cases c10 : x6_3 < (l1.length : Int)
                  · rw [if_pos c10] at H
                    have c10b0 : decide (x6_3 < (l1.length : Int)) = true := decide_eq_true c10
                    clear c10
                    by_cases c11 : 0 ≤ x6_3
                    · rw [if_pos c11] at H
                      have c11b0 : decide (0 ≤ x6_3) = true := decide_eq_true c11
                      clear c11
                      by_cases c12 : (((rd_T74 l1 x6_3).f0).size : Int) > 2000
                      · rw [if_pos c12] at H
                        have c12b0 : decide (2000 < (((rd_T74 l1 x6_3).f0).size : Int)) = true := decide_eq_true c12
                        have c12b1 : decide (2000 < ((rd_T74 l1 x6_3).f0).size) = true := decide_eq_true (by omega)
                        clear c12
                        obtain rfl := Option.some.inj H
                        have p103 : 0 ≤ (x6_3 : Int) := of_decide_eq_true (by first | (with_reducible assumption) | assumption)
                        have q103 : x6_3 < (l1.length : Int) := of_decide_eq_true (by first | (with_reducible assumption) | assumption)
                        obtain ⟨ad103, e103, hx103_0, hx103_1⟩ := at_T74 HR1.out x6_3 p103 q103
                        cases e103
                        replace p103 := eq_true p103
                        replace q103 := eq_true q103
                        go_wp2
                        go_ret
                        exact ⟨by first | rfl | (simp; done) | (simp [*]; done), by repeat (first | exact Drawn0.refl _ | apply Drawn0.step)⟩
                      · rw [if_neg c12] at H
                        have c12b0 : decide (2000 < (((rd_T74 l1 x6_3).f0).size : Int)) = false := decide_eq_false c12
                        have c12b1 : decide (2000 < ((rd_T74 l1 x6_3).f0).size) = false := decide_eq_false (by omega)
                        clear c12
                        by_cases c13 : (((rd_T74 l1 x6_3).f1).size : Int) > 2000
                        · rw [if_pos c13] at H
                          have c13b0 : decide (2000 < (((rd_T74 l1 x6_3).f1).size : Int)) = true := decide_eq_true c13
                          have c13b1 : decide (2000 < ((rd_T74 l1 x6_3).f1).size) = true := decide_eq_true (by omega)
                          clear c13
                          obtain rfl := Option.some.inj H
                          have p103 : 0 ≤ (x6_3 : Int) := of_decide_eq_true (by first | (with_reducible assumption) | assumption)
                          have q103 : x6_3 < (l1.length : Int) := of_decide_eq_true (by first | (with_reducible assumption) | assumption)
                          obtain ⟨ad103, e103, hx103_0, hx103_1⟩ := at_T74 HR1.out x6_3 p103 q103
                          cases e103
                          replace p103 := eq_true p103
                          replace q103 := eq_true q103
                          have p104 : 0 ≤ (x6_3 : Int) := of_decide_eq_true (by first | (with_reducible assumption) | assumption)
                          have q104 : x6_3 < (l1.length : Int) := of_decide_eq_true (by first | (with_reducible assumption) | assumption)
                          obtain ⟨ad104, e104, hx104_0, hx104_1⟩ := at_T74 HR1.out x6_3 p104 q104
                          obtain rfl : ad103 = ad104 := (by injection e104)
                          replace p104 := eq_true p104
                          replace q104 := eq_true q104
                          go_wp2
                          go_ret
                          exact ⟨by first | rfl | (simp; done) | (simp [*]; done), by repeat (first | exact Drawn0.refl _ | apply Drawn0.step)⟩
                        · rw [if_neg c13] at H
                          have c13b0 : decide (2000 < (((rd_T74 l1 x6_3).f1).size : Int)) = false := decide_eq_false c13
                          have c13b1 : decide (2000 < ((rd_T74 l1 x6_3).f1).size) = false := decide_eq_false (by omega)
                          clear c13
                          have H' := Aside0.mk H
                          clear H
                          have p103 : 0 ≤ (x6_3 : Int) := of_decide_eq_true (by first | (with_reducible assumption) | assumption)
                          have q103 : x6_3 < (l1.length : Int) := of_decide_eq_true (by first | (with_reducible assumption) | assumption)
                          obtain ⟨ad103, e103, hx103_0, hx103_1⟩ := at_T74 HR1.out x6_3 p103 q103
                          cases e103
                          replace p103 := eq_true p103
                          replace q103 := eq_true q103
                          have p104 : 0 ≤ (x6_3 : Int) := of_decide_eq_true (by first | (with_reducible assumption) | assumption)
                          have q104 : x6_3 < (l1.length : Int) := of_decide_eq_true (by first | (with_reducible assumption) | assumption)
                          obtain ⟨ad104, e104, hx104_0, hx104_1⟩ := at_T74 HR1.out x6_3 p104 q104
                          obtain rfl : ad103 = ad104 := (by injection e104)
                          replace p104 := eq_true p104
                          replace q104 := eq_true q104
                          go_wp2
                          go_roundg k3
                          case measure => have := HJ2.out; have := HK2.out; have := HK3.out; omega
                          case rel => exact ⟨(wrap64 (x6_3 + 1)), (by first | rfl | (simp; done) | (simp [*]; done) | (simp; rw [Bool.eq_iff_iff]; simp; done)), H', ⟨by have := HJ2.out; have := HK2.out; have := HK3.out; omega⟩, by repeat (first | exact Drawn0.refl _ | apply Drawn0.step)⟩
                    · rw [if_neg c11] at H
                      exact absurd H (by simp)
                  · rw [if_neg c10] at H
                    have c10b0 : decide (x6_3 < (l1.length : Int)) = false := decide_eq_false c10
                    clear c10
                    obtain rfl := Option.some.inj H
                    go_wp2
                    go_ret
                    exact ⟨by first | rfl | (simp; done) | (simp [*]; done), by repeat (first | exact Drawn0.refl _ | apply Drawn0.step)⟩

/-! ### headgatelaw04_told: function 22 -/
/-! ### headgatelaw04_wrong: function 38 -/
/-! ### headgateref04_Word: function 67 -/
/-! ### headgateref04_Value: function 63 -/
end Go.Proofs.Ytgihecpobichbaa.Q
/- The law CodeBack: walked. -/
namespace Go.Proofs.Ytgihecpobichbaa.Q
open Go.RowKit Go.Proofs.YtgihecpobichbaaW.PrintWords Go.Proofs.YtgihecpobichbaaW.PrintLast Go.Proofs.YtgihecpobichbaaW.PrintMore
set_option linter.unusedVariables false
set_option linter.unusedSimpArgs false
theorem alive04 : headgatelaw04_alive.f 30 = some true := by kernel_rfl
theorem eqPair (d : Nat) (w : World) (a b : ByteArray) :
    (Op.equalIn (d + 2) 74 (.agg #[.string a, .string b]) (.agg #[.string a, .string b])).run Try.prog w = .ok true w := by
  refine eqA_of Try.underlying74 (by kernel_rfl) ?_
  refine eqf_cons (r := true) (s := true) (by rfl) (by go_simp; rfl) (by go_simp; rfl) (by go_simp) ?_
  exact eqf_last (by rfl) (by go_simp; rfl) (by go_simp; rfl) (by go_simp)
attribute [local go_sem high] eqPair
set_option maxHeartbeats 8000000 in
set_option maxRecDepth 100000 in
theorem back_walk (A0 : Option Addr) (c0 : Nat) (l : List (List Va)) (A1 : Option Addr) (c1 : Nat) (p : List Pa) (A2 : Option Addr) (c2 : Nat) (n : List Int) (w : World)
    (hr0 : Kd.C (Kd.slice 116 k116) w A0 l.length l) (hc0 : l.length ≤ c0) (hr1 : Kd.C k74 w A1 p.length p) (hc1 : p.length ≤ c1) (hr2 : Kd.C (Kd.int .i64) w A2 n.length n) (hc2 : n.length ≤ c2)
    (K0 K1 K2 K3 K4 : Nat) (bR bP bN : List Int) (eR eP eN : Int) (hL : headgatelaw04_long.f K0 l p = some false) (hp : p.length ≤ 300) (hn : n.length ≤ 2000) (hRows : code_Rows.f K1 l = some (bR, eR)) (hUR : eR = 0 → code_Unrows.f 0 bR = some (l, 0)) (hSame : headgateref03_Rows.f K2 l l = some true)
    (hPairs : code_Pairs.f K3 p = some (bP, eP)) (hUP : code_Unpairs.f 0 bP = some (p, 0)) (hNums : code_Nums.f K4 n = some (bN, eN)) (hUN : code_Unnums.f 0 bN = some (n, 0)) :
    Calls Try.prog 7 #[.slice A0 l.length c0, .slice A1 p.length c1, .slice A2 n.length c2] w fun e w' => e = .returned (.bool true) ∧ Below w.heap.size w w' := by
  have hn1 : decide (2000 < (n.length : Int)) = false := decide_eq_false (by omega)
  have hn2 : decide (2000 < n.length) = false := decide_eq_false (by omega)
  have C0 : Aside0 (∀ W, Below w.heap.size w W → Kd.C (Kd.slice 116 k116) W A0 l.length l) := ⟨fun W h => Kd.C_below hr0 h⟩
  have C1 : Aside0 (∀ W, Below w.heap.size w W → Kd.C k74 W A1 p.length p) := ⟨fun W h => Kd.C_below hr1 h⟩
  have C2 : Aside0 (∀ W, Below w.heap.size w W → Kd.C (Kd.int .i64) W A2 n.length n) := ⟨fun W h => Kd.C_below hr2 h⟩
  have HL := Aside0.mk hL
  have HRows := Aside0.mk hRows
  have HUR := Aside0.mk hUR
  have HSame := Aside0.mk hSame
  have HPairs := Aside0.mk hPairs
  have HUP := Aside0.mk hUP
  have HNums := Aside0.mk hNums
  have HUN := Aside0.mk hUN
  clear hr0 hr1 hr2 hL hRows hUR hSame hPairs hUP hNums hUN
  go_enter Try.func7, Try.ntmps7
  go_wp2_with fail
  refine (headgatelaw04_alive.calls 30 true _ alive04).mono ?_
  rintro e w1 ⟨rfl, hb1⟩
  have HB := Aside0.mk hb1
  clear hb1
  go_wp2_with fail
  refine (headgatelaw04_long.calls K0 A0 c0 l A1 c1 p false _ (C0.out _ HB.out) hc0 (C1.out _ HB.out) hc1 HL.out).mono ?_
  rintro e w2 ⟨rfl, hd2⟩
  have HBn := Aside0.mk (HB.out.trans (dr_below hd2 _))
  clear HB hd2
  have HB := HBn
  clear HBn
  go_wp2_with fail
  refine (code_Rows.calls K1 A0 c0 l bR eR _ (C0.out _ HB.out) hc0 HRows.out).mono ?_
  rintro e w3 ⟨v7, rfl, hR3, hb3⟩
  have HBn := Aside0.mk (below_step HB.out hb3)
  clear HB
  have HB := HBn
  clear HBn
  obtain ⟨A7, c7, rfl⟩ := Kd.R_slice hR3
  have D7 := Aside0.mk (Kd.R_reads' hR3)
  clear hR3 hb3
  by_cases zR : eR = 0
  case' pos =>
    subst zR
    have hUR := HUR.out rfl
    have HUR1 := Aside0.mk hUR
    clear hUR HUR
    go_wp2_with fail
    refine (code_Unrows.calls 0 A7 c7 bR l 0 _ D7.out.2.2 D7.out.2.1 HUR1.out).mono ?_
    rintro e w4 ⟨v9, rfl, hR4, hb4⟩
    have HBn := Aside0.mk (below_step HB.out hb4)
    clear HB
    have HB := HBn
    clear HBn
    obtain ⟨A9, c9, rfl⟩ := Kd.R_slice hR4
    have D9 := Aside0.mk (Kd.R_reads' hR4)
    clear hR4 hb4 D7
    go_wp2_with fail
    refine (headgateref03_Rows.calls K2 A0 c0 l A9 c9 l true _ (C0.out _ HB.out) hc0 D9.out.2.2 D9.out.2.1 HSame.out).mono ?_
    rintro e w5 ⟨rfl, hb5⟩
    have HBn := Aside0.mk (below_step HB.out hb5)
    clear HB
    have HB := HBn
    clear HBn D9 hb5
    go_upto_region 10 with (fail)
  case' neg =>
    have nR : (eR == 0) = false := by simpa using zR
    clear zR D7 HUR
    go_upto_region 10 with (fail)
    clear nR
  all_goals
    clear HRows HSame
    go_wp2_with fail
    refine (code_Pairs.calls K3 A1 c1 p bP eP _ (C1.out _ HB.out) hc1 HPairs.out).mono ?_
    rintro e w6 ⟨v6, rfl, hR6, hb6⟩
    have HBn := Aside0.mk (below_step HB.out hb6)
    clear HB
    have HB := HBn
    clear HBn
    obtain ⟨A6, c6, rfl⟩ := Kd.R_slice hR6
    have D6 := Aside0.mk (Kd.R_reads' hR6)
    clear hR6 hb6
    go_wp2_with fail
    refine (code_Unpairs.calls 0 A6 c6 bP p 0 _ D6.out.2.2 D6.out.2.1 HUP.out).mono ?_
    rintro e w11 ⟨v11, rfl, hR11, hb11⟩
    have HBn := Aside0.mk (below_step HB.out hb11)
    clear HB
    have HB := HBn
    clear HBn
    obtain ⟨A11, c11, rfl⟩ := Kd.R_slice hR11
    have D11 := Aside0.mk hR11
    clear hR11 hb11 D6
    go_wp2_with fail
    refine (code_Nums.calls K4 A2 c2 n bN eN _ (C2.out _ HB.out) hc2 HNums.out).mono ?_
    rintro e w13 ⟨v13, rfl, hR13, hb13⟩
    have HBn := Aside0.mk (below_step HB.out hb13)
    clear HB
    have HB := HBn
    clear HBn
    have DD := Aside0.mk (Kd.R_below D11.out hb13)
    clear D11
    obtain ⟨A13, c13, rfl⟩ := Kd.R_slice hR13
    have D13 := Aside0.mk (Kd.R_reads' hR13)
    clear hR13 hb13
    go_wp2_with fail
    refine (code_Unnums.calls 0 A13 c13 bN n 0 _ D13.out.2.2 D13.out.2.1 HUN.out).mono ?_
    rintro e w15 ⟨v15, rfl, hR15, hb15⟩
    have HBn := Aside0.mk (below_step HB.out hb15)
    clear HB
    have HB := HBn
    clear HBn
    have DP := Aside0.mk (Kd.R_reads' (Kd.R_below DD.out hb15)).2.2
    clear DD
    obtain ⟨A15, c15, rfl⟩ := Kd.R_slice hR15
    have DN := Aside0.mk (Kd.R_reads' hR15).2.2
    clear hR15 hb15 D13 HPairs HUP HNums HUN HL
    have F1 := Aside0.mk (C1.out _ HB.out)
    have F2 := Aside0.mk (C2.out _ HB.out)
    go_wp2_with fail
    go_loopg [17] p.length (fun kq v17 wr => ∃ (i : Nat), v17 = .int .i64 i ∧ Aside0 (i + kq = p.length) ∧ Aside0 (Drawn0 w15 wr))
    case atStart => exact ⟨0, rfl, ⟨by omega⟩, ⟨.refl _⟩⟩
    case round =>
      obtain ⟨i, rfl, HI, HD⟩ := hrel
      cases gk with
      | succ k1 =>
        have hlt : i < p.length := by have := HI.out; omega
        have hlb : decide ((i : Int) < (p.length : Int)) = true := decide_eq_true (by omega)
        have hlb2 : decide (i < p.length) = true := decide_eq_true hlt
        obtain ⟨ad, rfl, x0, x1⟩ := at_T74 (Kd.C_below F1.out (dr_below HD.out _)) (i : Int) (by omega) (by omega)
        obtain ⟨ae, rfl, y0, y1⟩ := at_T74 (Kd.C_below DP.out (dr_below HD.out _)) (i : Int) (by omega) (by omega)
        generalize rd_T74 p (i : Int) = y at x0 x1 y0 y1
        rw [Int.toNat_natCast] at x0 x1 y0 y1
        go_upto_region 19 with (fail)
        go_quiet (fail)
        go_wp2
        go_roundg k1
        case measure => omega
        case rel => exact ⟨i + 1, by congr 1, ⟨by have := HI.out; omega⟩, ⟨HD.out.step _⟩⟩
      | zero =>
        have hi : i = p.length := HI.out
        have hlb : decide ((i : Int) < (p.length : Int)) = false := decide_eq_false (by omega)
        have hlb2 : decide (i < p.length) = false := decide_eq_false (by omega)
        clear hi
        go_wp2_with fail
        go_loopg [18] n.length (fun kq v18 wr2 => ∃ (j : Nat), v18 = .int .i64 j ∧ Aside0 (j + kq = n.length) ∧ Aside0 (Drawn0 w15 wr2))
        case atStart => exact ⟨0, rfl, ⟨by omega⟩, HD⟩
        case round =>
          clear HI HD hlb hlb2
          obtain ⟨j, rfl, HJ, HE⟩ := hrel
          cases gk with
          | succ k1 =>
            have hlt : j < n.length := by have := HJ.out; omega
            have hlb : decide ((j : Int) < (n.length : Int)) = true := decide_eq_true (by omega)
            have hlb2 : decide (j < n.length) = true := decide_eq_true hlt
            obtain ⟨ad, rfl, x0⟩ := Kd.at_int (Kd.C_below F2.out (dr_below HE.out _)) (j : Int) (by omega) (by omega)
            obtain ⟨ae, rfl, y0⟩ := Kd.at_int (Kd.C_below DN.out (dr_below HE.out _)) (j : Int) (by omega) (by omega)
            generalize rd n (j : Int) = y at x0 y0
            rw [Int.toNat_natCast] at x0 y0
            go_upto_region 24 with (fail)
            go_quiet (fail)
            go_wp2
            go_roundg k1
            case measure => omega
            case rel => exact ⟨j + 1, by congr 1, ⟨by have := HJ.out; omega⟩, ⟨HE.out.step _⟩⟩
          | zero =>
            have hlb : decide ((j : Int) < (n.length : Int)) = false := decide_eq_false (by have := HJ.out; omega)
            have hlb2 : decide (j < n.length) = false := decide_eq_false (by have := HJ.out; omega)
            go_wp2
            go_ret
            exact ⟨rfl, HB.out.trans (dr_below HE.out _)⟩
theorem big_some (r : List Va) (hr : r.length ≤ 9223372036854775806) : ∃ b, Ev (fun k => headgateref03_Big.f k r) b := by
  unfold headgateref03_Big.f
  by_cases h : (r.length : Int) > 40
  · exact ⟨true, Ev.congr (fun k => if_pos h) (Ev.now _)⟩
  · have loop : ∀ (d : Nat) (i : Int), 0 ≤ i → i + d = r.length → ∃ b, Ev (fun k => headgateref03_Big.l0 k r i) b := by
      intro d
      induction d with
      | zero =>
        intro i h0 hi
        exact ⟨false, Ev.step (f := fun _ => some false) (fun k => by simp only [headgateref03_Big.l0]; rw [if_neg (by omega)]) (Ev.now _)⟩
      | succ d ih =>
        intro i h0 hi
        have e2 : wrap64 (i + 1) = i + 1 := wrap_in (by unfold in64; omega)
        by_cases hs : ((rd_T116 r i).f2.size : Int) > 600
        · exact ⟨true, Ev.step (f := fun _ => some true) (fun k => by simp only [headgateref03_Big.l0]; rw [if_pos (by omega), if_pos h0, if_pos hs]) (Ev.now _)⟩
        · obtain ⟨b, hb⟩ := ih (i + 1) (by omega) (by omega)
          exact ⟨b, Ev.step (fun k => by simp only [headgateref03_Big.l0]; rw [if_pos (by omega), if_pos h0, if_neg hs, e2]) hb⟩
    obtain ⟨b, hb⟩ := loop r.length 0 (by omega) (by omega)
    exact ⟨b, Ev.congr (fun k => if_neg h) hb⟩
theorem long_some (l : List (List Va)) (p : List Pa) (hl : l.length ≤ 9223372036854775806) (hp : p.length ≤ 9223372036854775806) (hr : ∀ r ∈ l, r.length ≤ 9223372036854775806) :
    ∃ b, Ev (fun k => headgatelaw04_long.f k l p) b ∧ (b = false → l.length ≤ 300 ∧ p.length ≤ 300 ∧ ∀ x ∈ p, x.f0.size ≤ 2000 ∧ x.f1.size ≤ 2000) := by
  have l1 : ∀ (d : Nat) (i : Int), 0 ≤ i → i + d = p.length → (∀ x ∈ p.take i.toNat, x.f0.size ≤ 2000 ∧ x.f1.size ≤ 2000) → ∃ b, Ev (fun k => headgatelaw04_long.l1 k p i) b ∧ (b = false → ∀ x ∈ p, x.f0.size ≤ 2000 ∧ x.f1.size ≤ 2000) := by
    intro d
    induction d with
    | zero =>
      intro i h0 hi hx
      rw [List.take_of_length_le (by omega)] at hx
      exact ⟨false, Ev.step (f := fun _ => some false) (fun k => by simp only [headgatelaw04_long.l1]; rw [if_neg (by omega)]) (Ev.now _), fun _ => hx⟩
    | succ d ih =>
      intro i h0 hi hx
      have e2 : wrap64 (i + 1) = i + 1 := wrap_in (by unfold in64; omega)
      have hd := rdP_drop p i h0 (by omega)
      by_cases hs : ((rd_T74 p i).f0.size : Int) > 2000
      · exact ⟨true, Ev.step (f := fun _ => some true) (fun k => by simp only [headgatelaw04_long.l1]; rw [if_pos (by omega), if_pos h0, if_pos hs]) (Ev.now _), fun z => by cases z⟩
      · by_cases hs2 : ((rd_T74 p i).f1.size : Int) > 2000
        · exact ⟨true, Ev.step (f := fun _ => some true) (fun k => by simp only [headgatelaw04_long.l1]; rw [if_pos (by omega), if_pos h0, if_neg hs, if_pos hs2]) (Ev.now _), fun z => by cases z⟩
        · obtain ⟨b, hb, hb2⟩ := ih (i + 1) (by omega) (by omega) (by
            have hlt : i.toNat < p.length := by omega
            have h3 : p[i.toNat] = rd_T74 p i := by
              unfold rd_T74
              rw [List.getD_eq_getElem?_getD, List.getElem?_eq_getElem hlt]
              rfl
            have e : p.take (i + 1).toNat = p.take i.toNat ++ [rd_T74 p i] := by
              rw [show (i + 1).toNat = i.toNat + 1 by omega, List.take_add_one, List.getElem?_eq_getElem hlt, h3]
              rfl
            rw [e]
            intro x hx'
            rcases List.mem_append.1 hx' with h | h
            · exact hx x h
            · rw [List.mem_singleton.1 h]
              omega)
          exact ⟨b, Ev.step (fun k => by simp only [headgatelaw04_long.l1]; rw [if_pos (by omega), if_pos h0, if_neg hs, if_neg hs2, e2]) hb, hb2⟩
  have l0 : ∀ (d : Nat) (i : Int), 0 ≤ i → i + d = l.length → ∃ b, Ev (fun k => headgatelaw04_long.l0 k l p i) b ∧ (b = false → ∀ x ∈ p, x.f0.size ≤ 2000 ∧ x.f1.size ≤ 2000) := by
    intro d
    induction d with
    | zero =>
      intro i h0 hi
      obtain ⟨b, hb, hb2⟩ := l1 p.length 0 (by omega) (by omega) (by simp)
      exact ⟨b, Ev.step (fun k => by simp only [headgatelaw04_long.l0]; rw [if_neg (by omega)]) hb, hb2⟩
    | succ d ih =>
      intro i h0 hi
      have e2 : wrap64 (i + 1) = i + 1 := wrap_in (by unfold in64; omega)
      have hd := rdR_drop l i h0 (by omega)
      have hm : rd_L12 l i ∈ l := by
        have : rd_L12 l i ∈ l.drop i.toNat := by rw [hd]; simp
        exact List.mem_of_mem_drop this
      obtain ⟨bb, hbb⟩ := big_some (rd_L12 l i) (hr _ hm)
      cases bb with
      | true =>
        refine ⟨true, Ev.step (fun k => ?_) (Ev.bind (f := fun k t102 => (if t102 = true then (some true) else (headgatelaw04_long.l0 k l p (wrap64 (i + 1))))) hbb (Ev.congr (fun k => if_pos rfl) (Ev.now _))), fun z => by cases z⟩
        simp only [headgatelaw04_long.l0]
        rw [if_pos (by omega), if_pos h0]
      | false =>
        obtain ⟨b, hb, hb2⟩ := ih (i + 1) (by omega) (by omega)
        refine ⟨b, Ev.step (fun k => ?_) (Ev.bind (f := fun k t102 => (if t102 = true then (some true) else (headgatelaw04_long.l0 k l p (wrap64 (i + 1))))) hbb (Ev.congr (fun k => if_neg (by simp)) (by rw [e2]; exact hb))), hb2⟩
        simp only [headgatelaw04_long.l0]
        rw [if_pos (by omega), if_pos h0]
  unfold headgatelaw04_long.f
  have j1 : Ev (fun k => headgatelaw04_long.j0 k l p true) true := Ev.step (f := fun _ => some true) (fun k => by simp only [headgatelaw04_long.j0]; rw [if_pos trivial]) (Ev.now _)
  by_cases h1 : (l.length : Int) > 300
  · exact ⟨true, Ev.congr (fun k => if_pos h1) j1, fun z => by cases z⟩
  · by_cases h2 : (p.length : Int) > 300
    · refine ⟨true, Ev.congr (fun k => if_neg h1) ?_, fun z => by cases z⟩
      rw [decide_eq_true h2]
      exact j1
    · obtain ⟨b, hb, hb2⟩ := l0 l.length 0 (by omega) (by omega)
      refine ⟨b, Ev.congr (fun k => if_neg h1) ?_, fun z => ⟨by omega, by omega, hb2 z⟩⟩
      rw [decide_eq_false h2]
      exact Ev.step (fun k => by simp only [headgatelaw04_long.j0]; rw [if_neg (by simp)]) hb
theorem bl_self : ∀ l : List UInt8, Op.bytesLess l l = false
  | [] => rfl
  | x :: l => by
    have := bl_self l
    simp [Op.bytesLess, this]
theorem cmp_self (v : Va) : Ev (fun k => headgateref03_Cmp.f k v.f0 v.f1 v.f2 v.f0 v.f1 v.f2) 0 := by
  unfold headgateref03_Cmp.f
  refine Ev.congr (fun k => if_neg (by omega)) (Ev.congr (fun k => if_pos rfl) (Ev.congr (fun k => if_neg (by omega)) (Ev.congr (fun k => if_pos rfl) ?_)))
  rw [bl_self]
  refine Ev.step (f := fun _ => some 0) (fun k => ?_) (Ev.now _)
  simp only [headgateref03_Cmp.j0]
  rw [if_neg (by simp), if_pos (by simp)]
theorem cmpRow_self (r : List Va) (hr : r.length ≤ 9223372036854775806) : Ev (fun k => headgateref03_CmpRow.f k r r) 0 := by
  have loop : ∀ (d : Nat) (i : Int), 0 ≤ i → i + d = r.length → Ev (fun k => headgateref03_CmpRow.l0 k r r i) 0 := by
    intro d
    induction d with
    | zero =>
      intro i h0 hi
      exact Ev.step (f := fun _ => some 0) (fun k => by simp only [headgateref03_CmpRow.l0]; rw [if_neg (by omega), if_neg (by omega)]) (Ev.now _)
    | succ d ih =>
      intro i h0 hi
      have e2 : wrap64 (i + 1) = i + 1 := wrap_in (by unfold in64; omega)
      refine Ev.step (fun k => ?_) (Ev.bind (f := fun k t151 => (if t151 = 0 then (headgateref03_CmpRow.l0 k r r (wrap64 (i + 1))) else (some t151))) (cmp_self (rd_T116 r i)) (Ev.congr (fun k => if_pos rfl) (by rw [e2]; exact ih (i + 1) (by omega) (by omega))))
      simp only [headgateref03_CmpRow.l0]
      rw [if_pos (by omega), if_neg (by omega), if_pos h0, if_pos (by omega)]
  exact loop r.length 0 (by omega) (by omega)
theorem same_self (r : List Va) (hr : r.length ≤ 9223372036854775806) : Ev (fun k => headgateref03_Same.f k r r) true := by
  unfold headgateref03_Same.f
  exact Ev.congr (fun k => if_pos rfl) (Ev.bind (cmpRow_self r hr) (Ev.now _))
theorem rows_self (l : List (List Va)) (hl : l.length ≤ 9223372036854775806) (hr : ∀ r ∈ l, r.length ≤ 9223372036854775806) : Ev (fun k => headgateref03_Rows.f k l l) true := by
  have loop : ∀ (d : Nat) (i : Int), 0 ≤ i → i + d = l.length → Ev (fun k => headgateref03_Rows.l0 k l l i) true := by
    intro d
    induction d with
    | zero =>
      intro i h0 hi
      exact Ev.step (f := fun _ => some true) (fun k => by simp only [headgateref03_Rows.l0]; rw [if_neg (by omega)]) (Ev.now _)
    | succ d ih =>
      intro i h0 hi
      have e2 : wrap64 (i + 1) = i + 1 := wrap_in (by unfold in64; omega)
      have hd := rdR_drop l i h0 (by omega)
      have hm : rd_L12 l i ∈ l := by
        have : rd_L12 l i ∈ l.drop i.toNat := by rw [hd]; simp
        exact List.mem_of_mem_drop this
      refine Ev.step (fun k => ?_) (Ev.bind (f := fun k t155 => (if t155 = true then (headgateref03_Rows.l0 k l l (wrap64 (i + 1))) else (some false))) (same_self (rd_L12 l i) (hr _ hm)) (Ev.congr (fun k => if_pos rfl) (by rw [e2]; exact ih (i + 1) (by omega) (by omega))))
      simp only [headgateref03_Rows.l0]
      rw [if_pos (by omega), if_pos h0, if_pos (by omega)]
  unfold headgateref03_Rows.f
  exact Ev.congr (fun k => if_pos rfl) (loop l.length 0 (by omega) (by omega))
set_option maxHeartbeats 4000000 in
theorem back_many (A0 : Option Addr) (c0 : Nat) (l : List (List Va)) (A1 : Option Addr) (c1 : Nat) (p : List Pa) (A2 : Option Addr) (c2 : Nat) (n : List Int) (w : World)
    (hr0 : Kd.C (Kd.slice 116 k116) w A0 l.length l) (hc0 : l.length ≤ c0) (hr1 : Kd.C k74 w A1 p.length p) (hc1 : p.length ≤ c1)
    (K0 : Nat) (b : Bool) (hL : headgatelaw04_long.f K0 l p = some b) (hx : b = true ∨ 2000 < n.length) :
    Calls Try.prog 7 #[.slice A0 l.length c0, .slice A1 p.length c1, .slice A2 n.length c2] w fun e w' => e = .returned (.bool true) ∧ Below w.heap.size w w' := by
  have C0 : Aside0 (∀ W, Below w.heap.size w W → Kd.C (Kd.slice 116 k116) W A0 l.length l) := ⟨fun W h => Kd.C_below hr0 h⟩
  have C1 : Aside0 (∀ W, Below w.heap.size w W → Kd.C k74 W A1 p.length p) := ⟨fun W h => Kd.C_below hr1 h⟩
  have HL := Aside0.mk hL
  clear hr0 hr1 hL
  cases b with
  | true =>
    clear hx
    go_enter Try.func7, Try.ntmps7
    go_wp2_with fail
    refine (headgatelaw04_alive.calls 30 true _ alive04).mono ?_
    rintro e w1 ⟨rfl, hb1⟩
    have HB := Aside0.mk hb1
    clear hb1
    go_wp2_with fail
    refine (headgatelaw04_long.calls K0 A0 c0 l A1 c1 p true _ (C0.out _ HB.out) hc0 (C1.out _ HB.out) hc1 HL.out).mono ?_
    rintro e w2 ⟨rfl, hd2⟩
    have HBn := Aside0.mk (HB.out.trans (dr_below hd2 _))
    clear hd2
    go_wp2
    go_ret
    exact ⟨rfl, HBn.out⟩
  | false =>
    have hn : 2000 < n.length := hx.elim (fun h => by cases h) id
    have hn1 : decide (2000 < (n.length : Int)) = true := decide_eq_true (by omega)
    have hn2 : decide (2000 < n.length) = true := decide_eq_true hn
    clear hx hn
    go_enter Try.func7, Try.ntmps7
    go_wp2_with fail
    refine (headgatelaw04_alive.calls 30 true _ alive04).mono ?_
    rintro e w1 ⟨rfl, hb1⟩
    have HB := Aside0.mk hb1
    clear hb1
    go_wp2_with fail
    refine (headgatelaw04_long.calls K0 A0 c0 l A1 c1 p false _ (C0.out _ HB.out) hc0 (C1.out _ HB.out) hc1 HL.out).mono ?_
    rintro e w2 ⟨rfl, hd2⟩
    have HBn := Aside0.mk (HB.out.trans (dr_below hd2 _))
    clear hd2
    go_wp2
    go_ret
    exact ⟨rfl, HBn.out⟩
theorem toldB_parts (b : List Int) : (b.length > 16777216 ∧ toldB b = ([], 42)) ∨ (b.length ≤ 16777216 ∧ toldB b = (b, 0)) := by
  unfold toldB
  by_cases h : b.length > 16777216
  · exact .inl ⟨h, if_pos h⟩
  · exact .inr ⟨by omega, if_neg h⟩
def okRows (l : List (List Va)) : Prop := ∀ r ∈ l, r.length ≤ 9223372036854775806 ∧ ∀ v ∈ r, in64 v.f1
instance (l : List (List Va)) : Decidable (okRows l) := by unfold okRows; infer_instance
instance (l : List Int) : Decidable (∀ x ∈ l, in64 x) := inferInstance
def headgatelaw04_CodeBack.f (k : Nat) (l0 : List (List Va)) (l1 : List Pa) (l2 : List Int) : Option Bool :=
  if l0.length ≤ 9223372036854775806 ∧ l1.length ≤ 9223372036854775806 ∧ okRows l0 ∧ ∀ x ∈ l2, in64 x then some true else none
theorem headgatelaw04_CodeBack.calls (k : Nat) (A0 : Option Addr) (c0 : Nat) (l0 : List (List Va)) (A1 : Option Addr) (c1 : Nat) (l1 : List Pa) (A2 : Option Addr) (c2 : Nat) (l2 : List Int) (r : Bool) (w : World)
    (hr0 : Kd.C (Kd.slice 116 k116) w A0 l0.length l0) (hc0 : l0.length ≤ c0) (hr1 : Kd.C k74 w A1 l1.length l1) (hc1 : l1.length ≤ c1) (hr2 : Kd.C (Kd.int .i64) w A2 l2.length l2) (hc2 : l2.length ≤ c2) (h : headgatelaw04_CodeBack.f k l0 l1 l2 = some r) :
    Calls Try.prog 7 #[.slice A0 l0.length c0, .slice A1 l1.length c1, .slice A2 l2.length c2] w fun e w' => e = .returned (.bool r) ∧ Below w.heap.size w w' := by
  unfold headgatelaw04_CodeBack.f at h
  split at h
  · rename_i ha
    cases h
    obtain ⟨h1, h2, h3, h4⟩ := ha
    obtain ⟨b, hb, hb2⟩ := long_some l0 l1 h1 h2 (fun r hr => (h3 r hr).1)
    obtain ⟨K0, hL⟩ := hb.rounds
    by_cases hx : b = true ∨ 2000 < l2.length
    · exact back_many A0 c0 l0 A1 c1 l1 A2 c2 l2 w hr0 hc0 hr1 hc1 K0 b hL hx
    · have hbf : b = false := by cases b; rfl; exact absurd (.inl rfl) hx
      obtain ⟨q1, q2, q3⟩ := hb2 hbf
      have hn : l2.length ≤ 2000 := by
        rcases Nat.lt_or_ge 2000 l2.length with h' | h'
        · exact absurd (.inr h') hx
        · exact h'
      rw [hbf] at hL
      obtain ⟨K1, hRows⟩ := (codeRows_ev l0 (by omega) h3).rounds
      obtain ⟨K2, hSame⟩ := (rows_self l0 h1 (fun r hr => (h3 r hr).1)).rounds
      obtain ⟨K3, hPairs⟩ := (codePairs_ev l1 (by omega) (fun p hp => by have := q3 p hp; omega)).rounds
      obtain ⟨K4, hNums⟩ := (codeNums_ev l2 (by omega) h4).rounds
      have hsP := listB_le encP 4020 l1 (fun p hp => by have := encP_len p; have := q3 p hp; omega)
      have hsN := numsAll_len l2
      have hP0 : toldB (listB encP l1) = (listB encP l1, 0) := by
        rcases toldB_parts (listB encP l1) with ⟨h, _⟩ | ⟨_, h⟩
        · omega
        · exact h
      have hN0 : codeNums l2 = (numsAll l2, 0) := by
        unfold codeNums
        rw [if_neg (by omega)]
      rw [hP0] at hPairs
      rw [hN0] at hNums
      have hUP : code_Unpairs.f 0 (listB encP l1) = some (l1, 0) := by
        unfold code_Unpairs.f
        rw [if_pos (by omega), readP_X]
        exact congrArg some (readX_back itemP encP encP_pos l1 (show (listB encP l1).length ≤ 16777216 by omega) (fun a ha r => itemP_back a (by have := q3 a ha; omega) (by have := q3 a ha; omega) r))
      have hUN : code_Unnums.f 0 (numsAll l2) = some (l2, 0) := by
        unfold code_Unnums.f
        rw [if_pos (by omega), readI_back l2 h4 (by omega)]
      have fin : ∀ bR eR, codeRows l0 = (bR, eR) → (eR = 0 → code_Unrows.f 0 bR = some (l0, 0)) → Calls Try.prog 7 #[.slice A0 l0.length c0, .slice A1 l1.length c1, .slice A2 l2.length c2] w fun e w' => e = .returned (.bool true) ∧ Below w.heap.size w w' := by
        intro bR eR he hu
        rw [he] at hRows
        exact back_walk A0 c0 l0 A1 c1 l1 A2 c2 l2 w hr0 hc0 hr1 hc1 hr2 hc2 K0 K1 K2 K3 K4 bR _ _ eR 0 0 hL q2 hn hRows hu hSame hPairs hUP hNums hUN
      by_cases hall : l0.all rowOk = true
      · have hg : ∀ r ∈ l0, goodR r := fun r hr => ⟨List.all_eq_true.1 hall r hr, (h3 r hr).2⟩
        rcases toldB_parts (listB encR l0) with ⟨hs, hT⟩ | ⟨hs, hT⟩
        · exact fin [] 42 (by unfold codeRows; rw [if_pos hall, hT]) (fun z => by cases z)
        · refine fin (listB encR l0) 0 (by unfold codeRows; rw [if_pos hall, hT]) (fun _ => ?_)
          unfold code_Unrows.f
          rw [if_pos (by omega), readR_X]
          exact congrArg some (readX_back itemR encR encR_pos l0 hs (fun a ha r => itemR_back (hg a ha) r))
      · exact fin [] 41 (by unfold codeRows; rw [if_neg hall]) (fun z => by cases z)
  · cases h
theorem CodeBack_pure (l : List (List Va)) (p : List Pa) (n : List Int) (h0 : l.length * 24 ≤ 140737488351232 ∧ ∀ y ∈ l, y.length * 32 ≤ 140737488351232 ∧ ∀ z ∈ y, (Lit.int .i64 z.f0).wf = true ∧ (Lit.int .i64 z.f1).wf = true ∧ z.f2.size ≤ 140737488351232)
    (h1 : p.length * 32 ≤ 140737488351232 ∧ ∀ z ∈ p, z.f0.size ≤ 140737488351232 ∧ z.f1.size ≤ 140737488351232) (h2 : n.length * 8 ≤ 140737488351232 ∧ ∀ x ∈ n, (Lit.int .i64 x).wf = true) : ∃ k, headgatelaw04_CodeBack.f k l p n = some true :=
  ⟨0, if_pos ⟨by omega, by omega, fun r hr => ⟨by have := (h0.2 r hr).1; omega, fun v hv => wf64 ((h0.2 r hr).2 v hv).2.1⟩, fun x hx => wf64 (h2.2 x hx)⟩⟩
end Go.Proofs.Ytgihecpobichbaa.Q
/- Of each struct type that an argument leads to: what the reader reads is a value of its kind, and good. -/
namespace Go.Proofs.Ytgihecpobichbaa.Q
open Go.RowKit Go.Proofs.YtgihecpobichbaaR Go.Proofs.YtgihecpobichbaaW.PrintWords
set_option linter.unusedVariables false
theorem opens116 (W : World) : Opens Try.prog W 116 k116 (fun x => ((Lit.int .i64 x.f0).wf = true) ∧ ((Lit.int .i64 x.f1).wf = true) ∧ (x.f2.size ≤ 140737488351232)) :=
  (opens_struct (f := fun x : S116 => (x.f0, x.f1, x.f2)) Try.underlying116 (by kernel_rfl) (fun m => (opensF_cons rfl (by kernel_rfl) ((opens_int Try.underlying3) m) (opensF_cons rfl (by kernel_rfl) ((opens_int Try.underlying2) m) (opensF_one rfl (by kernel_rfl) ((opens_string Try.underlying9) m))))) (fun p => ⟨p.1, p.2.1, p.2.2⟩) (fun _ => rfl)).imp (fun x h => by simpa only [and_true] using h)
theorem opens74 (W : World) : Opens Try.prog W 74 k74 (fun x => (x.f0.size ≤ 140737488351232) ∧ (x.f1.size ≤ 140737488351232)) :=
  (opens_struct (f := fun x : S74 => (x.f0, x.f1)) Try.underlying74 (by kernel_rfl) (fun m => (opensF_cons rfl (by kernel_rfl) ((opens_string Try.underlying9) m) (opensF_one rfl (by kernel_rfl) ((opens_string Try.underlying9) m)))) (fun p => ⟨p.1, p.2⟩) (fun _ => rfl)).imp (fun x h => by simpa only [and_true] using h)
end Go.Proofs.Ytgihecpobichbaa.Q
