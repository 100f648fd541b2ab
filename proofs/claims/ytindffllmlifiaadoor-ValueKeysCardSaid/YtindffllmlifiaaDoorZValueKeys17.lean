/- Texts of the claim, put together. -/
import Derived.Test.YtindffllmlifiaaDoorK
import Derived.Test.YtindffllmlifiaaDoorZValueKeys1
import Derived.Test.YtindffllmlifiaaDoorZValueKeys11
import Derived.Test.YtindffllmlifiaaDoorZValueKeys15
import Derived.Test.YtindffllmlifiaaDoorZValueKeys5
import Derived.Test.YtindffllmlifiaaDoorZValueKeys16
import Derived.Test.YtindffllmlifiaaDoorZValueKeys8
-- Written by a program of the session over the translation's print: functions as plain Lean, and that the machine's call comes to them.
namespace Go.Proofs.YtindffllmlifiaaDoor.Q
open Go.RowKit Go.Proofs.YtindffllmlifiaaDoorW.PrintWords Go.Proofs.YtindffllmlifiaaDoorW.PrintLast Go.Proofs.YtindffllmlifiaaDoorW.PrintMore
attribute [local go_sem] max2_int min2_int max_two min_two max_three min_three max_four min_four   -- for this text's walks alone
set_option linter.unusedVariables false
set_option linter.unusedSimpArgs false

attribute [local go_sem high] eqA23
/-! ### headgatelaw03_alive: function 10 -/
def headgatelaw03_alive.f (k : Nat)  : Option (Bool) := (value_Int.f (-1)).bind fun bt106 => ((value_Key.f (([(⟨bt106.1, bt106.2.1, bt106.2.2⟩ : S23)] : List (S23)))).bind fun bt112 => ((value_Unkey.f k (⟨#[4, 97, 0, 0]⟩ : ByteArray)).bind fun bt114 => (if bt112.2 = 0 then (if bt112.1.toList = ([2, 127, 255, 255, 255, 255, 255, 255, 255] : List UInt8) then (if bt114.2 = 0 then (if (bt114.1.length : Int) = 1 then (if 0 < (bt114.1.length : Int) then ((value_Text.f (⟨#[97]⟩ : ByteArray)).bind fun bt119 => (some (((rd_T23 bt114.1 0).f0) == bt119.1 && (((rd_T23 bt114.1 0).f1) == bt119.2.1 && ((((rd_T23 bt114.1 0).f2).toList) == bt119.2.2.toList))))) else (none)) else (some false)) else (some false)) else (some false)) else (some false))))
theorem headgatelaw03_alive.mono : ∀ k, LeO (headgatelaw03_alive.f k ) (headgatelaw03_alive.f (k + 1) ) := by
  intro  k
  unfold headgatelaw03_alive.f
  repeat' first
      | (with_reducible exact value_Unkey.mono _ _)
      | (with_reducible exact LeO.refl _)
      | (with_reducible exact LeO.none _)
      | (with_reducible refine LeO.ite ?_ ?_)
      | (with_reducible refine LeO.bind ?_ (fun _ => ?_))
      | exact value_Unkey.mono _ _
      | exact LeO.none _
      | refine LeO.ite ?_ ?_
      | refine LeO.bind ?_ (fun _ => ?_)
def headgatelaw03_alive.T3 : Bool × List (List Nat × List Nat) := (true, [([], []), ([0], [0]), ([1], [1]), ([2], [2]), ([3, 2], [2, 3]), ([2, 4], [2, 4]), ([5, 2], [5]), ([6], [6]), ([7, 6], [6, 7]), ([6, 8], [6, 8]), ([9, 6], [9]), ([10], [10]), ([11, 10], [10, 11]), ([12, 10], [10, 12]), ([10, 13], [10, 13]), ([14, 10], [14]), ([15], [15]), ([16, 15], [15, 16]), ([17, 15], [15, 17]), ([15, 15], [15]), ([18, 19, 15], [15, 18, 19]), ([15, 20], [15, 20]), ([21, 19, 0, 1, 2, 3, 4, 5, 6, 7, 8, 9, 10, 11, 12, 13, 14, 15, 16, 17, 18, 19, 20, 21], [21])])
def headgatelaw03_alive.B3 : List Nat := [0, 1, 3, 7, 15, 31, 63, 127, 255, 511, 1023, 2047, 4095, 8191, 16383, 32767, 65535, 131071, 262143, 65535, 1048575, 2097151, 4194303]
theorem headgatelaw03_alive.tab3 : rtab .any (opsOf Tryd.f10 3) = headgatelaw03_alive.T3 := by kernel_rfl
theorem headgatelaw03_alive.bits3 : waitsOk headgatelaw03_alive.T3.2 headgatelaw03_alive.B3 = true := by kernel_rfl
set_option maxHeartbeats 8000000 in
set_option maxRecDepth 100000 in
theorem headgatelaw03_alive.calls (k : Nat)  (r : Bool) (w : World) (h : headgatelaw03_alive.f k  = some r) :
    Calls Tryd.prog 10 #[] w fun e w' => e = .returned (.bool r) ∧ Below w.heap.size w w' := by
  have hu23 := Tryd.underlying23
  have HB := Aside0.mk (Below.refl w.heap.size w)
  have H : ((value_Int.f (-1)).bind fun bt106 => ((value_Key.f (([(⟨bt106.1, bt106.2.1, bt106.2.2⟩ : S23)] : List (S23)))).bind fun bt112 => ((value_Unkey.f k (⟨#[4, 97, 0, 0]⟩ : ByteArray)).bind fun bt114 => (if bt112.2 = 0 then (if bt112.1.toList = ([2, 127, 255, 255, 255, 255, 255, 255, 255] : List UInt8) then (if bt114.2 = 0 then (if (bt114.1.length : Int) = 1 then (if 0 < (bt114.1.length : Int) then ((value_Text.f (⟨#[97]⟩ : ByteArray)).bind fun bt119 => (some (((rd_T23 bt114.1 0).f0) == bt119.1 && (((rd_T23 bt114.1 0).f1) == bt119.2.1 && ((((rd_T23 bt114.1 0).f2).toList) == bt119.2.2.toList))))) else (none)) else (some false)) else (some false)) else (some false)) else (some false))))) = some r := h
  clear h
  replace H := Option.bind_eq_some_iff.mp H
  obtain ⟨⟨t106, t107, t108⟩, A10, H⟩ := H
  replace H : ((value_Key.f (([(⟨t106, t107, t108⟩ : S23)] : List (S23)))).bind fun bt112 => ((value_Unkey.f k (⟨#[4, 97, 0, 0]⟩ : ByteArray)).bind fun bt114 => (if bt112.2 = 0 then (if bt112.1.toList = ([2, 127, 255, 255, 255, 255, 255, 255, 255] : List UInt8) then (if bt114.2 = 0 then (if (bt114.1.length : Int) = 1 then (if 0 < (bt114.1.length : Int) then ((value_Text.f (⟨#[97]⟩ : ByteArray)).bind fun bt119 => (some (((rd_T23 bt114.1 0).f0) == bt119.1 && (((rd_T23 bt114.1 0).f1) == bt119.2.1 && ((((rd_T23 bt114.1 0).f2).toList) == bt119.2.2.toList))))) else (none)) else (some false)) else (some false)) else (some false)) else (some false)))) = some r := H
  have A1 := Aside0.mk A10
  clear A10
  obtain ⟨y109, hy109⟩ : ∃ y_ : List (S23), y_ = (([(⟨t106, t107, t108⟩ : S23)] : List (S23))) := ⟨_, rfl⟩
  replace H : ((value_Key.f y109).bind fun bt112 => ((value_Unkey.f k (⟨#[4, 97, 0, 0]⟩ : ByteArray)).bind fun bt114 => (if bt112.2 = 0 then (if bt112.1.toList = ([2, 127, 255, 255, 255, 255, 255, 255, 255] : List UInt8) then (if bt114.2 = 0 then (if (bt114.1.length : Int) = 1 then (if 0 < (bt114.1.length : Int) then ((value_Text.f (⟨#[97]⟩ : ByteArray)).bind fun bt119 => (some (((rd_T23 bt114.1 0).f0) == bt119.1 && (((rd_T23 bt114.1 0).f1) == bt119.2.1 && ((((rd_T23 bt114.1 0).f2).toList) == bt119.2.2.toList))))) else (none)) else (some false)) else (some false)) else (some false)) else (some false)))) = some r := by first | (rw [hy109]; with_reducible exact H) | (have H2_ := (Option.bind_some _ _).symm.trans H; rw [hy109]; with_reducible exact H2_) | (have H2_ := (Option.bind_some _ _).symm.trans H; with_reducible exact H2_) | with_reducible exact H | (rw [hy109]; exact H) | exact H
  have Ny109 := Aside0.mk hy109
  clear hy109
  replace H := Option.bind_eq_some_iff.mp H
  obtain ⟨⟨t112, t113⟩, A20, H⟩ := H
  replace H : ((value_Unkey.f k (⟨#[4, 97, 0, 0]⟩ : ByteArray)).bind fun bt114 => (if t113 = 0 then (if t112.toList = ([2, 127, 255, 255, 255, 255, 255, 255, 255] : List UInt8) then (if bt114.2 = 0 then (if (bt114.1.length : Int) = 1 then (if 0 < (bt114.1.length : Int) then ((value_Text.f (⟨#[97]⟩ : ByteArray)).bind fun bt119 => (some (((rd_T23 bt114.1 0).f0) == bt119.1 && (((rd_T23 bt114.1 0).f1) == bt119.2.1 && ((((rd_T23 bt114.1 0).f2).toList) == bt119.2.2.toList))))) else (none)) else (some false)) else (some false)) else (some false)) else (some false))) = some r := H
  have A2 := Aside0.mk A20
  clear A20
  replace H := Option.bind_eq_some_iff.mp H
  obtain ⟨⟨t114, t115⟩, A30, H⟩ := H
  replace H : (if t113 = 0 then (if t112.toList = ([2, 127, 255, 255, 255, 255, 255, 255, 255] : List UInt8) then (if t115 = 0 then (if (t114.length : Int) = 1 then (if 0 < (t114.length : Int) then ((value_Text.f (⟨#[97]⟩ : ByteArray)).bind fun bt119 => (some (((rd_T23 t114 0).f0) == bt119.1 && (((rd_T23 t114 0).f1) == bt119.2.1 && ((((rd_T23 t114 0).f2).toList) == bt119.2.2.toList))))) else (none)) else (some false)) else (some false)) else (some false)) else (some false)) = some r := H
  have A3 := Aside0.mk A30
  clear A30
  by_cases c4 : t113 = 0
  · rw [if_pos c4] at H
    have c4b0 : (t113 == 0) = true := beq_iff_eq.mpr c4
    have c4b1 : (t113 != 0) = false := bne_eq_false_iff_eq.mpr c4
    clear c4
    by_cases c5 : t112.toList = ([2, 127, 255, 255, 255, 255, 255, 255, 255] : List UInt8)
    · rw [if_pos c5] at H
      have c5b0 : (t112.toList == ([2, 127, 255, 255, 255, 255, 255, 255, 255] : List UInt8)) = true := beq_iff_eq.mpr c5
      have c5b1 : (t112.toList != ([2, 127, 255, 255, 255, 255, 255, 255, 255] : List UInt8)) = false := bne_eq_false_iff_eq.mpr c5
      clear c5
      by_cases c6 : t115 = 0
      · rw [if_pos c6] at H
        have c6b0 : (t115 == 0) = true := beq_iff_eq.mpr c6
        have c6b1 : (t115 != 0) = false := bne_eq_false_iff_eq.mpr c6
        clear c6
        by_cases c7 : (t114.length : Int) = 1
        · rw [if_pos c7] at H
          have c7b0 : ((t114.length : Int) == 1) = true := beq_iff_eq.mpr c7
          have c7b1 : ((t114.length : Int) != 1) = false := bne_eq_false_iff_eq.mpr c7
          clear c7
          by_cases c8 : 0 < (t114.length : Int)
          · rw [if_pos c8] at H
            have c8b0 : decide (0 < (t114.length : Int)) = true := decide_eq_true c8
            have c8b1 : decide (0 < t114.length) = true := decide_eq_true (by omega)
            clear c8
            replace H := Option.bind_eq_some_iff.mp H
            obtain ⟨⟨t119, t120, t121⟩, A90, H⟩ := H
            replace H : (some (((rd_T23 t114 0).f0) == t119 && (((rd_T23 t114 0).f1) == t120 && ((((rd_T23 t114 0).f2).toList) == t121.toList)))) = some r := H
            have A9 := Aside0.mk A90
            clear A90
            obtain rfl := Option.some.inj H
            go_enter Tryd.func10, Tryd.ntmps10
            try go_wp2_with (first | ((with_reducible refine gate_callee (f := 23) rfl ?_); refine goesL_ (some 6) rfl rfl Tryd.func23 (by kernel_rfl) rfl #[.int .i64 (-1)] rfl (by (try simp only [List.map_toArray, List.map_cons, List.map_nil]); first | done | rfl | (simp only [List.length_drop, List.length_take]; rfl) | exact congrArg (fun x_ : Int => #[Value.int .u64 x_]) (show _ = _ % (18446744073709551616 : Int) by omega)) ?_; (with_reducible refine (value_Int.calls (-1) t106 t107 t108 _ A1.out).mono ?_); rintro e w10 ⟨rfl, hb⟩; refine ⟨_, rfl, ?_⟩; have n0_ := Aside0.mk (below_step (by repeat (first | (with_reducible first | exact HB.out | apply below_alloc | apply pw_below_drewN | apply below_drew1) | exact HB.out)) hb); clear HB; have HB := n0_; clear n0_; (try clear hb); (try clear hb2); (try clear hk); (try clear hi)) | ((with_reducible refine gate_dst (N := 7) rfl ?_); (try (refine gate_guard (by rfl) ?_; dsimp only)); refine Kd.R_lit k23 _ 23 ?hg (N := 7) ?hd (xs := ([(⟨t106, t107, t108⟩ : S23)] : List (S23))) (inner := [.int .i64 t106, .int .i64 t107, .string t108]) (ok := fun _ => True) (okp := fun _ => True) ?hr ?hp (fun _ hk => hk) trivial (Below.refl _ _) (Nat.le_refl _) (by simp) ?_; (case hd => rfl); (case hg => rfl); (case hr => first | (go_simp; done) | (go_simp; rfl)); (case hp => exact (Reps.c3 (show Kd.M k23 _ _ _ (⟨t106, t107, t108⟩ : S23) [.int .i64 t106, .int .i64 t107, .string t108] from (k23_mkM _ _ _ (⟨t106, t107, t108⟩ : S23) )) (Reps.none _ _))); intro v110 w11 ho12 hb hg_ hnew_; clear hg_ hnew_; (first | rw [← Ny109.out] at ho12 | (simp only [Int.reduceToNat] at ho12; rw [← Ny109.out] at ho12)); have n0_ := Aside0.mk (Kd.R_lower ho12 (below_size (by repeat (first | (with_reducible first | exact HB.out | apply below_alloc | apply pw_below_drewN | apply below_drew1) | exact HB.out)))); have n1_ := Aside0.mk (below_step (by repeat (first | (with_reducible first | exact HB.out | apply below_alloc | apply pw_below_drewN | apply below_drew1) | exact HB.out)) hb); clear HB; have HO111 := n0_; have HB := n1_; clear n0_ n1_; clear hb ho12; obtain ⟨Ao13, co13, eo13⟩ := Kd.R_slice HO111.out; subst eo13) | ((with_reducible refine gate_callee (f := 16) rfl ?_); refine goesL_ (some 8) rfl rfl Tryd.func16 (by kernel_rfl) rfl #[.slice Ao13 y109.length co13] rfl (by (try simp only [List.map_toArray, List.map_cons, List.map_nil]); first | done | rfl | (simp only [List.length_drop, List.length_take]; rfl) | exact congrArg (fun x_ : Int => #[Value.int .u64 x_]) (show _ = _ % (18446744073709551616 : Int) by omega)) ?_; (with_reducible refine (value_Key.calls _ _ y109 t112 t113 _ ?side1 ?side2 A2.out).mono ?_); (case side1 => repeat (first | exact (Kd.R_reads' HO111.out).2.2 | (with_reducible refine Kd.C_alloc ?_ _) | (with_reducible refine Kd.C_drewN ?_ _) | (with_reducible refine Kd.C_drew ?_))); (case side2 => exact (Kd.R_reads' HO111.out).2.1); rintro e w14 ⟨rfl, hb⟩; refine ⟨_, rfl, ?_⟩; have n0_ := Aside0.mk (Kd.R_below (by (with_reducible repeat (first | apply Kd.R_alloc | apply Kd.R_drewN | apply Kd.R_drew)); exact HO111.out) hb); have n1_ := Aside0.mk (below_step (by repeat (first | (with_reducible first | exact HB.out | apply below_alloc | apply pw_below_drewN | apply below_drew1) | exact HB.out)) hb); clear HO111; clear HB; have HO111 := n0_; have HB := n1_; clear n0_ n1_; (try clear hb); (try clear hb2); (try clear hk); (try clear hi)) | ((with_reducible refine gate_callee (f := 18) rfl ?_); refine goesL_ (some 12) rfl rfl Tryd.func18 (by kernel_rfl) rfl #[.string (⟨#[4, 97, 0, 0]⟩ : ByteArray)] rfl (by (try simp only [List.map_toArray, List.map_cons, List.map_nil]); first | done | rfl | (simp only [List.length_drop, List.length_take]; rfl) | exact congrArg (fun x_ : Int => #[Value.int .u64 x_]) (show _ = _ % (18446744073709551616 : Int) by omega)) ?_; (with_reducible refine (value_Unkey.calls k (⟨#[4, 97, 0, 0]⟩ : ByteArray) t114 t115 _ A3.out).mono ?_); rintro e w15 ⟨v116, rfl, ho0, hb⟩; refine ⟨_, rfl, ?_⟩; have n0_ := Aside0.mk (Kd.R_elder' (by (with_reducible repeat (first | apply Kd.R_alloc | apply Kd.R_drewN | apply Kd.R_drew)); exact HO111.out) (Kd.R_base ho0) hb); have n1_ := Aside0.mk (Kd.R_lower (Kd.R_new' ho0 (Kd.R_lt (by (with_reducible repeat (first | apply Kd.R_alloc | apply Kd.R_drewN | apply Kd.R_drew)); exact HO111.out))) (below_size (by repeat (first | (with_reducible first | exact HB.out | apply below_alloc | apply pw_below_drewN | apply below_drew1) | exact HB.out)))); have n2_ := Aside0.mk (below_step (by repeat (first | (with_reducible first | exact HB.out | apply below_alloc | apply pw_below_drewN | apply below_drew1) | exact HB.out)) hb); clear HO111; clear HB; have HO111 := n0_; have HO117 := n1_; have HB := n2_; clear n0_ n1_ n2_; (try clear hb); (try clear hb2); (try clear hk); (try clear hi); (try clear ho0)))
            have n0_ := Aside0.mk (Kd.R_drew HO111.out)
            have n1_ := Aside0.mk (Kd.R_drew HO117.out)
            have n2_ := Aside0.mk (below_drew1 HB.out)
            clear HO111
            clear HO117
            clear HB
            have HO111 := n0_
            have HO117 := n1_
            have HB := n2_
            clear n0_ n1_ n2_
            obtain ⟨Ao17, co17, eo17⟩ := Kd.R_slice HO117.out
            (first | subst eo17 | (injection eo17 with f1_ f2_ f3_; have f4_ := f1_.symm; have f5_ := f3_.symm; clear f1_ f2_ f3_; subst f4_; subst f5_))
            have p118 : 0 ≤ (0 : Int) := (by omega)
            have q118 : 0 < (t114.length : Int) := of_decide_eq_true (by first | (with_reducible assumption) | assumption)
            obtain ⟨ad118, e118, hx118_0, hx118_1, hx118_2⟩ := at_T23 (Kd.R_reads' HO117.out).2.2 0 p118 q118
            cases e118
            have qi118 : (0 < t114.length) = True := eq_true (by omega)
            (try rw [show ((0 : Int)).toNat = 0 from rfl] at hx118_0)
            (try rw [show 0 * 3 = 0 from rfl] at hx118_0)
            (try rw [Addr.add_zero'] at hx118_0)
            (try rw [show ((0 : Int)).toNat = 0 from rfl] at hx118_1)
            (try rw [show 0 * 3 = 0 from rfl] at hx118_1)
            (try rw [Addr.add_zero'] at hx118_1)
            (try rw [show ((0 : Int)).toNat = 0 from rfl] at hx118_2)
            (try rw [show 0 * 3 = 0 from rfl] at hx118_2)
            (try rw [Addr.add_zero'] at hx118_2)
            replace p118 := eq_true p118
            replace q118 := eq_true q118
            refine start_ (n := 23) (S := fun w' => w'.cell? ad118 = some (.int .i64 ((rd_T23 t114 0).f0)) ∧ w'.cell? ⟨ad118.block, ad118.off + 1, none⟩ = some (.int .i64 ((rd_T23 t114 0).f1)) ∧ w'.cell? ⟨ad118.block, ad118.off + 2, none⟩ = some (.string ((rd_T23 t114 0).f2))) (ds := []) #[false, false, false, false, false, false, false, false, false, false, false, false, false, false, false, false, false, false, false, false, false, false, false] (by kernel_rfl) rfl rfl ⟨hx118_0, hx118_1, hx118_2⟩ (fun hHeld => ?_); refine with_tabW headgatelaw03_alive.tab3 headgatelaw03_alive.bits3 (fun HT_ HW_ => ?_)
            generalize w15.drew = w16 at HO111 HO117 HB hx118_0 hx118_1 hx118_2 hHeld ⊢
            refine pure_ (i := 0) (N := some 15) (v := ?_) (a' := ?_) #[true, false, false, false, false, false, false, false, false, false, false, false, false, false, false, false, false, false, false, false, false, false, false] rfl rfl (any_of HT_.out (by kernel_rfl)) (fun _ _ _ h => h) (Or.inl ⟨by rfl, ?_⟩) ?_ ?_
            rotate_left
            · intro w'
              go_simp
              with_reducible rfl
            rotate_left
            · simp only [Act.put, List.setIfInBounds_toArray, List.set_cons_zero, List.set_cons_succ, i64_w, i32_w]
              rfl
            refine pure_ (i := 1) (N := some 16) (v := ?_) (a' := ?_) #[true, true, false, false, false, false, false, false, false, false, false, false, false, false, false, false, false, false, false, false, false, false, false] rfl rfl (any_of HT_.out (by kernel_rfl)) (fun _ _ _ h => h) (Or.inl ⟨by rfl, ?_⟩) ?_ ?_
            rotate_left
            · intro w'
              go_simp
              with_reducible rfl
            rotate_left
            · simp only [Act.put, List.setIfInBounds_toArray, List.set_cons_zero, List.set_cons_succ, i64_w, i32_w]
              rfl
            refine pure_ (i := 2) (N := some 17) (v := ?_) (a' := ?_) #[true, true, true, false, false, false, false, false, false, false, false, false, false, false, false, false, false, false, false, false, false, false, false] rfl rfl (any_of HT_.out (by kernel_rfl)) (fun _ _ _ h => h) (Or.inl ⟨by rfl, ?_⟩) ?_ ?_
            rotate_left
            · intro w'
              go_simp
              with_reducible rfl
            rotate_left
            · simp only [Act.put, List.setIfInBounds_toArray, List.set_cons_zero, List.set_cons_succ, i64_w, i32_w]
              rfl
            refine pure_ (i := 3) (N := some 18) (v := ?_) (a' := ?_) #[true, true, true, true, false, false, false, false, false, false, false, false, false, false, false, false, false, false, false, false, false, false, false] rfl rfl (any_of HT_.out (by kernel_rfl)) (fun _ _ _ h => h) (Or.inl ⟨by rfl, ?_⟩) ?_ ?_
            rotate_left
            · intro w'
              go_simp
              with_reducible rfl
            rotate_left
            · simp only [Act.put, List.setIfInBounds_toArray, List.set_cons_zero, List.set_cons_succ, i64_w, i32_w]
              rfl
            refine pure_ (i := 4) (N := some 19) (v := ?_) (a' := ?_) #[true, true, true, true, true, false, false, false, false, false, false, false, false, false, false, false, false, false, false, false, false, false, false] rfl rfl (any_of HT_.out (by kernel_rfl)) (fun _ _ _ h => h) (Or.inl ⟨by rfl, ?_⟩) ?_ ?_
            rotate_left
            · intro w'
              go_simp
              with_reducible rfl
            rotate_left
            · simp only [Act.put, List.setIfInBounds_toArray, List.set_cons_zero, List.set_cons_succ, i64_w, i32_w]
              rfl
            refine pure_ (i := 5) (N := some 20) (v := ?_) (a' := ?_) #[true, true, true, true, true, true, false, false, false, false, false, false, false, false, false, false, false, false, false, false, false, false, false] rfl rfl (any_of HT_.out (by kernel_rfl)) (fun _ _ _ h => h) (Or.inl ⟨by rfl, ?_⟩) ?_ ?_
            rotate_left
            · intro w'
              go_simp
              with_reducible rfl
            rotate_left
            · simp only [Act.put, List.setIfInBounds_toArray, List.set_cons_zero, List.set_cons_succ, i64_w, i32_w]
              rfl
            refine pure_ (i := 6) (N := some 21) (v := ?_) (a' := ?_) #[true, true, true, true, true, true, true, false, false, false, false, false, false, false, false, false, false, false, false, false, false, false, false] rfl rfl (any_of HT_.out (by kernel_rfl)) (fun _ _ _ h => h) (Or.inl ⟨by rfl, ?_⟩) ?_ ?_
            rotate_left
            · intro w'
              go_simp
              with_reducible rfl
            rotate_left
            · simp only [Act.put, List.setIfInBounds_toArray, List.set_cons_zero, List.set_cons_succ, i64_w, i32_w]
              rfl
            refine pure_ (i := 7) (N := some 22) (v := ?_) (a' := ?_) #[true, true, true, true, true, true, true, true, false, false, false, false, false, false, false, false, false, false, false, false, false, false, false] rfl rfl (any_of HT_.out (by kernel_rfl)) (fun _ _ _ h => h) (Or.inl ⟨by rfl, ?_⟩) ?_ ?_
            rotate_left
            · intro w'
              go_simp
              with_reducible rfl
            rotate_left
            · simp only [Act.put, List.setIfInBounds_toArray, List.set_cons_zero, List.set_cons_succ, i64_w, i32_w]
              rfl
            refine pure_ (i := 8) (N := some 23) (v := ?_) (a' := ?_) #[true, true, true, true, true, true, true, true, true, false, false, false, false, false, false, false, false, false, false, false, false, false, false] rfl rfl (any_of HT_.out (by kernel_rfl)) (fun _ _ _ h => h) (Or.inl ⟨by rfl, ?_⟩) ?_ ?_
            rotate_left
            · intro w'
              go_simp
              with_reducible rfl
            rotate_left
            · simp only [Act.put, List.setIfInBounds_toArray, List.set_cons_zero, List.set_cons_succ, i64_w, i32_w]
              rfl
            refine pure_ (i := 9) (N := some 24) (v := ?_) (a' := ?_) #[true, true, true, true, true, true, true, true, true, true, false, false, false, false, false, false, false, false, false, false, false, false, false] rfl rfl (any_of HT_.out (by kernel_rfl)) (fun _ _ _ h => h) (Or.inl ⟨by rfl, ?_⟩) ?_ ?_
            rotate_left
            · intro w'
              go_simp
              with_reducible rfl
            rotate_left
            · simp only [Act.put, List.setIfInBounds_toArray, List.set_cons_zero, List.set_cons_succ, i64_w, i32_w]
              rfl
            refine pure_ (i := 10) (N := some 25) (v := ?_) (a' := ?_) #[true, true, true, true, true, true, true, true, true, true, true, false, false, false, false, false, false, false, false, false, false, false, false] rfl rfl (any_of HT_.out (by kernel_rfl)) (fun _ _ _ h => h) (Or.inl ⟨by rfl, ?_⟩) ?_ ?_
            rotate_left
            · intro w'
              go_simp
              with_reducible rfl
            rotate_left
            · simp only [Act.put, List.setIfInBounds_toArray, List.set_cons_zero, List.set_cons_succ, i64_w, i32_w]
              rfl
            refine pure_ (i := 11) (N := some 26) (v := ?_) (a' := ?_) #[true, true, true, true, true, true, true, true, true, true, true, true, false, false, false, false, false, false, false, false, false, false, false] rfl rfl (any_of HT_.out (by kernel_rfl)) (fun _ _ _ h => h) (Or.inl ⟨by rfl, ?_⟩) ?_ ?_
            rotate_left
            · intro w'
              go_simp
              with_reducible rfl
            rotate_left
            · simp only [Act.put, List.setIfInBounds_toArray, List.set_cons_zero, List.set_cons_succ, i64_w, i32_w]
              rfl
            refine pure_ (i := 12) (N := some 27) (v := ?_) (a' := ?_) #[true, true, true, true, true, true, true, true, true, true, true, true, true, false, false, false, false, false, false, false, false, false, false] rfl rfl (any_of HT_.out (by kernel_rfl)) (fun _ _ _ h => h) (Or.inl ⟨by rfl, ?_⟩) ?_ ?_
            rotate_left
            · intro w'
              go_simp
              with_reducible rfl
            rotate_left
            · simp only [Act.put, List.setIfInBounds_toArray, List.set_cons_zero, List.set_cons_succ, i64_w, i32_w]
              rfl
            refine pure_ (i := 13) (N := some 28) (v := ?_) (a' := ?_) #[true, true, true, true, true, true, true, true, true, true, true, true, true, true, false, false, false, false, false, false, false, false, false] rfl rfl (any_of HT_.out (by kernel_rfl)) (fun _ _ _ h => h) (Or.inl ⟨by rfl, ?_⟩) ?_ ?_
            rotate_left
            · intro w'
              go_simp
              with_reducible rfl
            rotate_left
            · simp only [Act.put, List.setIfInBounds_toArray, List.set_cons_zero, List.set_cons_succ, i64_w, i32_w]
              rfl
            refine pure_ (i := 14) (N := some 29) (v := ?_) (a' := ?_) #[true, true, true, true, true, true, true, true, true, true, true, true, true, true, true, false, false, false, false, false, false, false, false] rfl rfl (any_of HT_.out (by kernel_rfl)) (fun _ _ _ h => h) (Or.inl ⟨by rfl, ?_⟩) ?_ ?_
            rotate_left
            · intro w'
              go_simp
              with_reducible rfl
            rotate_left
            · simp only [Act.put, List.setIfInBounds_toArray, List.set_cons_zero, List.set_cons_succ, i64_w, i32_w]
              rfl
            refine pure_ (i := 15) (N := some 30) (v := ?_) (a' := ?_) #[true, true, true, true, true, true, true, true, true, true, true, true, true, true, true, true, false, false, false, false, false, false, false] rfl rfl (any_of HT_.out (by kernel_rfl)) (fun _ _ _ h => h) (Or.inl ⟨by rfl, ?_⟩) ?_ ?_
            rotate_left
            · intro w'
              go_simp
              with_reducible rfl
            rotate_left
            · simp only [Act.put, List.setIfInBounds_toArray, List.set_cons_zero, List.set_cons_succ, i64_w, i32_w]
              rfl
            refine pure_ (i := 16) (N := some 31) (v := ?_) (a' := ?_) #[true, true, true, true, true, true, true, true, true, true, true, true, true, true, true, true, true, false, false, false, false, false, false] rfl rfl (any_of HT_.out (by kernel_rfl)) (fun _ _ _ h => h) (Or.inl ⟨by rfl, ?_⟩) ?_ ?_
            rotate_left
            · intro w'
              go_simp
              with_reducible rfl
            rotate_left
            · simp only [Act.put, List.setIfInBounds_toArray, List.set_cons_zero, List.set_cons_succ, i64_w, i32_w]
              rfl
            refine pure_ (i := 17) (N := some 32) (v := ?_) (a' := ?_) #[true, true, true, true, true, true, true, true, true, true, true, true, true, true, true, true, true, true, false, false, false, false, false] rfl rfl (any_of HT_.out (by kernel_rfl)) (fun _ _ _ h => h) (Or.inl ⟨by rfl, ?_⟩) ?_ ?_
            rotate_left
            · intro w'
              go_simp
              with_reducible rfl
            rotate_left
            · simp only [Act.put, List.setIfInBounds_toArray, List.set_cons_zero, List.set_cons_succ, i64_w, i32_w]
              rfl
            refine take_ (i := 18) (N := some 33) (v := ?_) (a' := ?_) #[true, true, true, true, true, true, true, true, true, true, true, true, true, true, true, true, true, true, true, false, false, false, false] rfl rfl (take_ofW HT_.out HW_.out (by kernel_rfl)) (fun _ _ _ h => h) (Or.inl ⟨by rfl, ?_⟩) hHeld ?_ ?_
            rotate_left
            · rintro w' ⟨s0, s1, s2⟩
              go_simp
              with_reducible rfl
            rotate_left
            · simp only [Act.put, List.setIfInBounds_toArray, List.set_cons_zero, List.set_cons_succ, i64_w, i32_w]
              rfl
            refine one_ (i := 19) (N := some 34) #[true, true, true, true, true, true, true, true, true, true, true, true, true, true, true, true, true, true, true, true, false, false, false] rfl rfl (one_of HT_.out (by kernel_rfl)) (by decide) (fun K hK => ?_)
            refine goes_ Tryd.func25 (by kernel_rfl) rfl #[.string (⟨#[97]⟩ : ByteArray)] (by rfl) rfl rfl (by (try simp only [List.map_toArray, List.map_cons, List.map_nil]); first | done | rfl | (simp only [List.length_drop, List.length_take]; rfl) | exact congrArg (fun x_ : Int => #[Value.int .u64 x_]) (show _ = _ % (18446744073709551616 : Int) by omega)) ?_
            with_reducible refine (value_Text.calls (⟨#[97]⟩ : ByteArray) t119 t120 t121 _ A9.out).mono ?_
            rintro e w18 ⟨rfl, hb⟩
            have HS0_ := (hb.cell (World.block_lt_of_cell? _ _ (hHeld.1))).trans (hHeld.1)
            have HS1_ := (hb.cell (World.block_lt_of_cell? _ _ (hHeld.2.1))).trans (hHeld.2.1)
            have HS2_ := (hb.cell (World.block_lt_of_cell? _ _ (hHeld.2.2))).trans (hHeld.2.2)
            refine ⟨_, rfl, ?_⟩
            have n0_ := Aside0.mk (Kd.R_below (by (with_reducible repeat (first | apply Kd.R_alloc | apply Kd.R_drewN | apply Kd.R_drew)); exact HO111.out) hb)
            have n1_ := Aside0.mk (Kd.R_below (by (with_reducible repeat (first | apply Kd.R_alloc | apply Kd.R_drewN | apply Kd.R_drew)); exact HO117.out) hb)
            have n2_ := Aside0.mk (below_step (by repeat (first | (with_reducible first | exact HB.out | apply below_alloc | apply pw_below_drewN | apply below_drew1) | exact HB.out)) hb)
            clear HO111
            clear HO117
            clear HB
            have HO111 := n0_
            have HO117 := n1_
            have HB := n2_
            clear n0_ n1_ n2_
            (try clear hb)
            (try clear hb2)
            (try clear hk)
            (try clear hi)
            refine hK.out _ _ ⟨HS0_, HS1_, HS2_⟩ (fun hHeld => ?_)
            clear hK K
            refine norm_ (a' := ?_) ?_ ?_
            rotate_left
            · show Act.put _ (some 34) _ = _
              simp only [Act.put, List.setIfInBounds_toArray, List.set_cons_zero, List.set_cons_succ, i64_w, i32_w]
              rfl
            refine pure_ (i := 20) (N := some 35) (v := ?_) (a' := ?_) #[true, true, true, true, true, true, true, true, true, true, true, true, true, true, true, true, true, true, true, true, true, false, false] rfl rfl (any_of HT_.out (by kernel_rfl)) (fun _ _ _ h => h) (Or.inl ⟨by rfl, ?_⟩) ?_ ?_
            rotate_left
            · intro w'
              go_simp
              with_reducible rfl
            rotate_left
            · simp only [Act.put, List.setIfInBounds_toArray, List.set_cons_zero, List.set_cons_succ, i64_w, i32_w]
              rfl
            refine pure_ (i := 21) (N := some 36) (v := ?_) (a' := ?_) #[true, true, true, true, true, true, true, true, true, true, true, true, true, true, true, true, true, true, true, true, true, true, false] rfl rfl (any_of HT_.out (by kernel_rfl)) (fun _ _ _ h => h) (Or.inl ⟨by rfl, ?_⟩) ?_ ?_
            rotate_left
            · intro w'
              go_simp
              with_reducible rfl
            rotate_left
            · simp only [Act.put, List.setIfInBounds_toArray, List.set_cons_zero, List.set_cons_succ, i64_w, i32_w]
              rfl
            refine pure_ (i := 22) (N := some 0) (v := ?_) (a' := ?_) #[true, true, true, true, true, true, true, true, true, true, true, true, true, true, true, true, true, true, true, true, true, true, true] rfl rfl (any_of HT_.out (by kernel_rfl)) (fun _ _ _ h => h) (Or.inl ⟨by rfl, ?_⟩) ?_ ?_
            rotate_left
            · intro w'
              go_simp
              with_reducible rfl
            rotate_left
            · simp only [Act.put, List.setIfInBounds_toArray, List.set_cons_zero, List.set_cons_succ, i64_w, i32_w]
              rfl
            refine done_ (done_of HT_.out (by kernel_rfl)) ?_
            try go_wp2
            go_ret
            exact ⟨by first | rfl | (simp [errW_none, errW_some] <;> rfl) | (simp [*, errW_none, errW_some] <;> rfl), by repeat (first | (with_reducible first | exact HB.out | apply below_alloc | apply pw_below_drewN | apply below_drew1) | exact HB.out)⟩
          · rw [if_neg c8] at H
            exact absurd H (by simp)
        · rw [if_neg c7] at H
          have c7b0 : ((t114.length : Int) == 1) = false := beq_eq_false_iff_ne.mpr c7
          have c7b1 : ((t114.length : Int) != 1) = true := bne_iff_ne.mpr c7
          obtain rfl := Option.some.inj H
          go_enter Tryd.func10, Tryd.ntmps10
          try go_wp2_with (first | ((with_reducible refine gate_callee (f := 23) rfl ?_); refine goesL_ (some 6) rfl rfl Tryd.func23 (by kernel_rfl) rfl #[.int .i64 (-1)] rfl (by (try simp only [List.map_toArray, List.map_cons, List.map_nil]); first | done | rfl | (simp only [List.length_drop, List.length_take]; rfl) | exact congrArg (fun x_ : Int => #[Value.int .u64 x_]) (show _ = _ % (18446744073709551616 : Int) by omega)) ?_; (with_reducible refine (value_Int.calls (-1) t106 t107 t108 _ A1.out).mono ?_); rintro e w19 ⟨rfl, hb⟩; refine ⟨_, rfl, ?_⟩; have n0_ := Aside0.mk (below_step (by repeat (first | (with_reducible first | exact HB.out | apply below_alloc | apply pw_below_drewN | apply below_drew1) | exact HB.out)) hb); clear HB; have HB := n0_; clear n0_; (try clear hb); (try clear hb2); (try clear hk); (try clear hi)) | ((with_reducible refine gate_dst (N := 7) rfl ?_); (try (refine gate_guard (by rfl) ?_; dsimp only)); refine Kd.R_lit k23 _ 23 ?hg (N := 7) ?hd (xs := ([(⟨t106, t107, t108⟩ : S23)] : List (S23))) (inner := [.int .i64 t106, .int .i64 t107, .string t108]) (ok := fun _ => True) (okp := fun _ => True) ?hr ?hp (fun _ hk => hk) trivial (Below.refl _ _) (Nat.le_refl _) (by simp) ?_; (case hd => rfl); (case hg => rfl); (case hr => first | (go_simp; done) | (go_simp; rfl)); (case hp => exact (Reps.c3 (show Kd.M k23 _ _ _ (⟨t106, t107, t108⟩ : S23) [.int .i64 t106, .int .i64 t107, .string t108] from (k23_mkM _ _ _ (⟨t106, t107, t108⟩ : S23) )) (Reps.none _ _))); intro v110 w20 ho21 hb hg_ hnew_; clear hg_ hnew_; (first | rw [← Ny109.out] at ho21 | (simp only [Int.reduceToNat] at ho21; rw [← Ny109.out] at ho21)); have n0_ := Aside0.mk (Kd.R_lower ho21 (below_size (by repeat (first | (with_reducible first | exact HB.out | apply below_alloc | apply pw_below_drewN | apply below_drew1) | exact HB.out)))); have n1_ := Aside0.mk (below_step (by repeat (first | (with_reducible first | exact HB.out | apply below_alloc | apply pw_below_drewN | apply below_drew1) | exact HB.out)) hb); clear HB; have HO111 := n0_; have HB := n1_; clear n0_ n1_; clear hb ho21; obtain ⟨Ao22, co22, eo22⟩ := Kd.R_slice HO111.out; subst eo22) | ((with_reducible refine gate_callee (f := 16) rfl ?_); refine goesL_ (some 8) rfl rfl Tryd.func16 (by kernel_rfl) rfl #[.slice Ao22 y109.length co22] rfl (by (try simp only [List.map_toArray, List.map_cons, List.map_nil]); first | done | rfl | (simp only [List.length_drop, List.length_take]; rfl) | exact congrArg (fun x_ : Int => #[Value.int .u64 x_]) (show _ = _ % (18446744073709551616 : Int) by omega)) ?_; (with_reducible refine (value_Key.calls _ _ y109 t112 t113 _ ?side1 ?side2 A2.out).mono ?_); (case side1 => repeat (first | exact (Kd.R_reads' HO111.out).2.2 | (with_reducible refine Kd.C_alloc ?_ _) | (with_reducible refine Kd.C_drewN ?_ _) | (with_reducible refine Kd.C_drew ?_))); (case side2 => exact (Kd.R_reads' HO111.out).2.1); rintro e w23 ⟨rfl, hb⟩; refine ⟨_, rfl, ?_⟩; have n0_ := Aside0.mk (Kd.R_below (by (with_reducible repeat (first | apply Kd.R_alloc | apply Kd.R_drewN | apply Kd.R_drew)); exact HO111.out) hb); have n1_ := Aside0.mk (below_step (by repeat (first | (with_reducible first | exact HB.out | apply below_alloc | apply pw_below_drewN | apply below_drew1) | exact HB.out)) hb); clear HO111; clear HB; have HO111 := n0_; have HB := n1_; clear n0_ n1_; (try clear hb); (try clear hb2); (try clear hk); (try clear hi)) | ((with_reducible refine gate_callee (f := 18) rfl ?_); refine goesL_ (some 12) rfl rfl Tryd.func18 (by kernel_rfl) rfl #[.string (⟨#[4, 97, 0, 0]⟩ : ByteArray)] rfl (by (try simp only [List.map_toArray, List.map_cons, List.map_nil]); first | done | rfl | (simp only [List.length_drop, List.length_take]; rfl) | exact congrArg (fun x_ : Int => #[Value.int .u64 x_]) (show _ = _ % (18446744073709551616 : Int) by omega)) ?_; (with_reducible refine (value_Unkey.calls k (⟨#[4, 97, 0, 0]⟩ : ByteArray) t114 t115 _ A3.out).mono ?_); rintro e w24 ⟨v116, rfl, ho0, hb⟩; refine ⟨_, rfl, ?_⟩; have n0_ := Aside0.mk (Kd.R_elder' (by (with_reducible repeat (first | apply Kd.R_alloc | apply Kd.R_drewN | apply Kd.R_drew)); exact HO111.out) (Kd.R_base ho0) hb); have n1_ := Aside0.mk (Kd.R_lower (Kd.R_new' ho0 (Kd.R_lt (by (with_reducible repeat (first | apply Kd.R_alloc | apply Kd.R_drewN | apply Kd.R_drew)); exact HO111.out))) (below_size (by repeat (first | (with_reducible first | exact HB.out | apply below_alloc | apply pw_below_drewN | apply below_drew1) | exact HB.out)))); have n2_ := Aside0.mk (below_step (by repeat (first | (with_reducible first | exact HB.out | apply below_alloc | apply pw_below_drewN | apply below_drew1) | exact HB.out)) hb); clear HO111; clear HB; have HO111 := n0_; have HO117 := n1_; have HB := n2_; clear n0_ n1_ n2_; (try clear hb); (try clear hb2); (try clear hk); (try clear hi); (try clear ho0)))
          have n0_ := Aside0.mk (Kd.R_drew HO111.out)
          have n1_ := Aside0.mk (Kd.R_drew HO117.out)
          have n2_ := Aside0.mk (below_drew1 HB.out)
          clear HO111
          clear HO117
          clear HB
          have HO111 := n0_
          have HO117 := n1_
          have HB := n2_
          clear n0_ n1_ n2_
          obtain ⟨Ao26, co26, eo26⟩ := Kd.R_slice HO117.out
          (first | subst eo26 | (injection eo26 with f1_ f2_ f3_; have f4_ := f1_.symm; have f5_ := f3_.symm; clear f1_ f2_ f3_; subst f4_; subst f5_))
          refine start_ (n := 23) (S := fun w' => True) (ds := []) #[false, false, false, false, false, false, false, false, false, false, false, false, false, false, false, false, false, false, false, false, false, false, false] (by kernel_rfl) rfl rfl trivial (fun hHeld => ?_); refine with_tabW headgatelaw03_alive.tab3 headgatelaw03_alive.bits3 (fun HT_ HW_ => ?_)
          generalize w24.drew = w25 at HO111 HO117 HB hHeld ⊢
          refine pure_ (i := 0) (N := some 15) (v := ?_) (a' := ?_) #[true, false, false, false, false, false, false, false, false, false, false, false, false, false, false, false, false, false, false, false, false, false, false] rfl rfl (any_of HT_.out (by kernel_rfl)) (fun _ _ _ h => h) (Or.inl ⟨by rfl, ?_⟩) ?_ ?_
          rotate_left
          · intro w'
            go_simp
            with_reducible rfl
          rotate_left
          · simp only [Act.put, List.setIfInBounds_toArray, List.set_cons_zero, List.set_cons_succ, i64_w, i32_w]
            rfl
          refine pure_ (i := 1) (N := some 16) (v := ?_) (a' := ?_) #[true, true, false, false, false, false, false, false, false, false, false, false, false, false, false, false, false, false, false, false, false, false, false] rfl rfl (any_of HT_.out (by kernel_rfl)) (fun _ _ _ h => h) (Or.inl ⟨by rfl, ?_⟩) ?_ ?_
          rotate_left
          · intro w'
            go_simp
            with_reducible rfl
          rotate_left
          · simp only [Act.put, List.setIfInBounds_toArray, List.set_cons_zero, List.set_cons_succ, i64_w, i32_w]
            rfl
          refine pure_ (i := 2) (N := some 17) (v := ?_) (a' := ?_) #[true, true, true, false, false, false, false, false, false, false, false, false, false, false, false, false, false, false, false, false, false, false, false] rfl rfl (any_of HT_.out (by kernel_rfl)) (fun _ _ _ h => h) (Or.inl ⟨by rfl, ?_⟩) ?_ ?_
          rotate_left
          · intro w'
            go_simp
            with_reducible rfl
          rotate_left
          · simp only [Act.put, List.setIfInBounds_toArray, List.set_cons_zero, List.set_cons_succ, i64_w, i32_w]
            rfl
          refine pure_ (i := 3) (N := some 18) (v := ?_) (a' := ?_) #[true, true, true, true, false, false, false, false, false, false, false, false, false, false, false, false, false, false, false, false, false, false, false] rfl rfl (any_of HT_.out (by kernel_rfl)) (fun _ _ _ h => h) (Or.inl ⟨by rfl, ?_⟩) ?_ ?_
          rotate_left
          · intro w'
            go_simp
            with_reducible rfl
          rotate_left
          · simp only [Act.put, List.setIfInBounds_toArray, List.set_cons_zero, List.set_cons_succ, i64_w, i32_w]
            rfl
          refine pure_ (i := 4) (N := some 19) (v := ?_) (a' := ?_) #[true, true, true, true, true, false, false, false, false, false, false, false, false, false, false, false, false, false, false, false, false, false, false] rfl rfl (any_of HT_.out (by kernel_rfl)) (fun _ _ _ h => h) (Or.inl ⟨by rfl, ?_⟩) ?_ ?_
          rotate_left
          · intro w'
            go_simp
            with_reducible rfl
          rotate_left
          · simp only [Act.put, List.setIfInBounds_toArray, List.set_cons_zero, List.set_cons_succ, i64_w, i32_w]
            rfl
          refine pure_ (i := 5) (N := some 20) (v := ?_) (a' := ?_) #[true, true, true, true, true, true, false, false, false, false, false, false, false, false, false, false, false, false, false, false, false, false, false] rfl rfl (any_of HT_.out (by kernel_rfl)) (fun _ _ _ h => h) (Or.inl ⟨by rfl, ?_⟩) ?_ ?_
          rotate_left
          · intro w'
            go_simp
            with_reducible rfl
          rotate_left
          · simp only [Act.put, List.setIfInBounds_toArray, List.set_cons_zero, List.set_cons_succ, i64_w, i32_w]
            rfl
          refine pure_ (i := 6) (N := some 21) (v := ?_) (a' := ?_) #[true, true, true, true, true, true, true, false, false, false, false, false, false, false, false, false, false, false, false, false, false, false, false] rfl rfl (any_of HT_.out (by kernel_rfl)) (fun _ _ _ h => h) (Or.inl ⟨by rfl, ?_⟩) ?_ ?_
          rotate_left
          · intro w'
            go_simp
            with_reducible rfl
          rotate_left
          · simp only [Act.put, List.setIfInBounds_toArray, List.set_cons_zero, List.set_cons_succ, i64_w, i32_w]
            rfl
          refine pure_ (i := 7) (N := some 22) (v := ?_) (a' := ?_) #[true, true, true, true, true, true, true, true, false, false, false, false, false, false, false, false, false, false, false, false, false, false, false] rfl rfl (any_of HT_.out (by kernel_rfl)) (fun _ _ _ h => h) (Or.inl ⟨by rfl, ?_⟩) ?_ ?_
          rotate_left
          · intro w'
            go_simp
            with_reducible rfl
          rotate_left
          · simp only [Act.put, List.setIfInBounds_toArray, List.set_cons_zero, List.set_cons_succ, i64_w, i32_w]
            rfl
          refine pure_ (i := 8) (N := some 23) (v := ?_) (a' := ?_) #[true, true, true, true, true, true, true, true, true, false, false, false, false, false, false, false, false, false, false, false, false, false, false] rfl rfl (any_of HT_.out (by kernel_rfl)) (fun _ _ _ h => h) (Or.inl ⟨by rfl, ?_⟩) ?_ ?_
          rotate_left
          · intro w'
            go_simp
            with_reducible rfl
          rotate_left
          · simp only [Act.put, List.setIfInBounds_toArray, List.set_cons_zero, List.set_cons_succ, i64_w, i32_w]
            rfl
          refine pure_ (i := 9) (N := some 24) (v := ?_) (a' := ?_) #[true, true, true, true, true, true, true, true, true, true, false, false, false, false, false, false, false, false, false, false, false, false, false] rfl rfl (any_of HT_.out (by kernel_rfl)) (fun _ _ _ h => h) (Or.inl ⟨by rfl, ?_⟩) ?_ ?_
          rotate_left
          · intro w'
            go_simp
            with_reducible rfl
          rotate_left
          · simp only [Act.put, List.setIfInBounds_toArray, List.set_cons_zero, List.set_cons_succ, i64_w, i32_w]
            rfl
          refine pure_ (i := 10) (N := some 25) (v := ?_) (a' := ?_) #[true, true, true, true, true, true, true, true, true, true, true, false, false, false, false, false, false, false, false, false, false, false, false] rfl rfl (any_of HT_.out (by kernel_rfl)) (fun _ _ _ h => h) (Or.inl ⟨by rfl, ?_⟩) ?_ ?_
          rotate_left
          · intro w'
            go_simp
            with_reducible rfl
          rotate_left
          · simp only [Act.put, List.setIfInBounds_toArray, List.set_cons_zero, List.set_cons_succ, i64_w, i32_w]
            rfl
          refine pure_ (i := 11) (N := some 26) (v := ?_) (a' := ?_) #[true, true, true, true, true, true, true, true, true, true, true, true, false, false, false, false, false, false, false, false, false, false, false] rfl rfl (any_of HT_.out (by kernel_rfl)) (fun _ _ _ h => h) (Or.inl ⟨by rfl, ?_⟩) ?_ ?_
          rotate_left
          · intro w'
            go_simp
            with_reducible rfl
          rotate_left
          · simp only [Act.put, List.setIfInBounds_toArray, List.set_cons_zero, List.set_cons_succ, i64_w, i32_w]
            rfl
          refine pure_ (i := 12) (N := some 27) (v := ?_) (a' := ?_) #[true, true, true, true, true, true, true, true, true, true, true, true, true, false, false, false, false, false, false, false, false, false, false] rfl rfl (any_of HT_.out (by kernel_rfl)) (fun _ _ _ h => h) (Or.inl ⟨by rfl, ?_⟩) ?_ ?_
          rotate_left
          · intro w'
            go_simp
            with_reducible rfl
          rotate_left
          · simp only [Act.put, List.setIfInBounds_toArray, List.set_cons_zero, List.set_cons_succ, i64_w, i32_w]
            rfl
          refine pure_ (i := 13) (N := some 28) (v := ?_) (a' := ?_) #[true, true, true, true, true, true, true, true, true, true, true, true, true, true, false, false, false, false, false, false, false, false, false] rfl rfl (any_of HT_.out (by kernel_rfl)) (fun _ _ _ h => h) (Or.inl ⟨by rfl, ?_⟩) ?_ ?_
          rotate_left
          · intro w'
            go_simp
            with_reducible rfl
          rotate_left
          · simp only [Act.put, List.setIfInBounds_toArray, List.set_cons_zero, List.set_cons_succ, i64_w, i32_w]
            rfl
          refine pure_ (i := 14) (N := some 29) (v := ?_) (a' := ?_) #[true, true, true, true, true, true, true, true, true, true, true, true, true, true, true, false, false, false, false, false, false, false, false] rfl rfl (any_of HT_.out (by kernel_rfl)) (fun _ _ _ h => h) (Or.inl ⟨by rfl, ?_⟩) ?_ ?_
          rotate_left
          · intro w'
            go_simp
            with_reducible rfl
          rotate_left
          · simp only [Act.put, List.setIfInBounds_toArray, List.set_cons_zero, List.set_cons_succ, i64_w, i32_w]
            rfl
          refine pure_ (i := 15) (N := some 30) (v := ?_) (a' := ?_) #[true, true, true, true, true, true, true, true, true, true, true, true, true, true, true, true, false, false, false, false, false, false, false] rfl rfl (any_of HT_.out (by kernel_rfl)) (fun _ _ _ h => h) (Or.inl ⟨by rfl, ?_⟩) ?_ ?_
          rotate_left
          · intro w'
            go_simp
            with_reducible rfl
          rotate_left
          · simp only [Act.put, List.setIfInBounds_toArray, List.set_cons_zero, List.set_cons_succ, i64_w, i32_w]
            rfl
          refine pure_ (i := 16) (N := some 31) (v := undef) (a' := ?_) #[true, true, true, true, true, true, true, true, true, true, true, true, true, true, true, true, true, false, false, false, false, false, false] rfl rfl (any_of HT_.out (by kernel_rfl)) (fun _ _ _ h => h) (Or.inr ⟨by rfl, rfl⟩) ?_ ?_
          rotate_left
          · simp only [Act.put, List.setIfInBounds_toArray, List.set_cons_zero, List.set_cons_succ, i64_w, i32_w]
            rfl
          refine pure_ (i := 17) (N := some 32) (v := undef) (a' := ?_) #[true, true, true, true, true, true, true, true, true, true, true, true, true, true, true, true, true, true, false, false, false, false, false] rfl rfl (any_of HT_.out (by kernel_rfl)) (fun _ _ _ h => h) (Or.inr ⟨by rfl, rfl⟩) ?_ ?_
          rotate_left
          · simp only [Act.put, List.setIfInBounds_toArray, List.set_cons_zero, List.set_cons_succ, i64_w, i32_w]
            rfl
          refine pure_ (i := 18) (N := some 33) (v := undef) (a' := ?_) #[true, true, true, true, true, true, true, true, true, true, true, true, true, true, true, true, true, true, true, false, false, false, false] rfl rfl (any_of HT_.out (by kernel_rfl)) (fun _ _ _ h => h) (Or.inr ⟨by rfl, rfl⟩) ?_ ?_
          rotate_left
          · simp only [Act.put, List.setIfInBounds_toArray, List.set_cons_zero, List.set_cons_succ, i64_w, i32_w]
            rfl
          refine pure_ (i := 19) (N := some 34) (v := undef) (a' := ?_) #[true, true, true, true, true, true, true, true, true, true, true, true, true, true, true, true, true, true, true, true, false, false, false] rfl rfl (any_of HT_.out (by kernel_rfl)) (fun _ _ _ h => h) (Or.inr ⟨by rfl, rfl⟩) ?_ ?_
          rotate_left
          · simp only [Act.put, List.setIfInBounds_toArray, List.set_cons_zero, List.set_cons_succ, i64_w, i32_w]
            rfl
          refine pure_ (i := 20) (N := some 35) (v := undef) (a' := ?_) #[true, true, true, true, true, true, true, true, true, true, true, true, true, true, true, true, true, true, true, true, true, false, false] rfl rfl (any_of HT_.out (by kernel_rfl)) (fun _ _ _ h => h) (Or.inr ⟨by rfl, rfl⟩) ?_ ?_
          rotate_left
          · simp only [Act.put, List.setIfInBounds_toArray, List.set_cons_zero, List.set_cons_succ, i64_w, i32_w]
            rfl
          refine pure_ (i := 21) (N := some 36) (v := ?_) (a' := ?_) #[true, true, true, true, true, true, true, true, true, true, true, true, true, true, true, true, true, true, true, true, true, true, false] rfl rfl (any_of HT_.out (by kernel_rfl)) (fun _ _ _ h => h) (Or.inl ⟨by rfl, ?_⟩) ?_ ?_
          rotate_left
          · intro w'
            go_simp
            with_reducible rfl
          rotate_left
          · simp only [Act.put, List.setIfInBounds_toArray, List.set_cons_zero, List.set_cons_succ, i64_w, i32_w]
            rfl
          refine pure_ (i := 22) (N := some 0) (v := ?_) (a' := ?_) #[true, true, true, true, true, true, true, true, true, true, true, true, true, true, true, true, true, true, true, true, true, true, true] rfl rfl (any_of HT_.out (by kernel_rfl)) (fun _ _ _ h => h) (Or.inl ⟨by rfl, ?_⟩) ?_ ?_
          rotate_left
          · intro w'
            go_simp
            with_reducible rfl
          rotate_left
          · simp only [Act.put, List.setIfInBounds_toArray, List.set_cons_zero, List.set_cons_succ, i64_w, i32_w]
            rfl
          refine done_ (done_of HT_.out (by kernel_rfl)) ?_
          try go_wp2
          go_ret
          exact ⟨by first | rfl | (simp [errW_none, errW_some] <;> rfl) | (simp [*, errW_none, errW_some] <;> rfl), by repeat (first | (with_reducible first | exact HB.out | apply below_alloc | apply pw_below_drewN | apply below_drew1) | exact HB.out)⟩
      · rw [if_neg c6] at H
        have c6b0 : (t115 == 0) = false := beq_eq_false_iff_ne.mpr c6
        have c6b1 : (t115 != 0) = true := bne_iff_ne.mpr c6
        obtain rfl := Option.some.inj H
        go_enter Tryd.func10, Tryd.ntmps10
        try go_wp2_with (first | ((with_reducible refine gate_callee (f := 23) rfl ?_); refine goesL_ (some 6) rfl rfl Tryd.func23 (by kernel_rfl) rfl #[.int .i64 (-1)] rfl (by (try simp only [List.map_toArray, List.map_cons, List.map_nil]); first | done | rfl | (simp only [List.length_drop, List.length_take]; rfl) | exact congrArg (fun x_ : Int => #[Value.int .u64 x_]) (show _ = _ % (18446744073709551616 : Int) by omega)) ?_; (with_reducible refine (value_Int.calls (-1) t106 t107 t108 _ A1.out).mono ?_); rintro e w27 ⟨rfl, hb⟩; refine ⟨_, rfl, ?_⟩; have n0_ := Aside0.mk (below_step (by repeat (first | (with_reducible first | exact HB.out | apply below_alloc | apply pw_below_drewN | apply below_drew1) | exact HB.out)) hb); clear HB; have HB := n0_; clear n0_; (try clear hb); (try clear hb2); (try clear hk); (try clear hi)) | ((with_reducible refine gate_dst (N := 7) rfl ?_); (try (refine gate_guard (by rfl) ?_; dsimp only)); refine Kd.R_lit k23 _ 23 ?hg (N := 7) ?hd (xs := ([(⟨t106, t107, t108⟩ : S23)] : List (S23))) (inner := [.int .i64 t106, .int .i64 t107, .string t108]) (ok := fun _ => True) (okp := fun _ => True) ?hr ?hp (fun _ hk => hk) trivial (Below.refl _ _) (Nat.le_refl _) (by simp) ?_; (case hd => rfl); (case hg => rfl); (case hr => first | (go_simp; done) | (go_simp; rfl)); (case hp => exact (Reps.c3 (show Kd.M k23 _ _ _ (⟨t106, t107, t108⟩ : S23) [.int .i64 t106, .int .i64 t107, .string t108] from (k23_mkM _ _ _ (⟨t106, t107, t108⟩ : S23) )) (Reps.none _ _))); intro v110 w28 ho29 hb hg_ hnew_; clear hg_ hnew_; (first | rw [← Ny109.out] at ho29 | (simp only [Int.reduceToNat] at ho29; rw [← Ny109.out] at ho29)); have n0_ := Aside0.mk (Kd.R_lower ho29 (below_size (by repeat (first | (with_reducible first | exact HB.out | apply below_alloc | apply pw_below_drewN | apply below_drew1) | exact HB.out)))); have n1_ := Aside0.mk (below_step (by repeat (first | (with_reducible first | exact HB.out | apply below_alloc | apply pw_below_drewN | apply below_drew1) | exact HB.out)) hb); clear HB; have HO111 := n0_; have HB := n1_; clear n0_ n1_; clear hb ho29; obtain ⟨Ao30, co30, eo30⟩ := Kd.R_slice HO111.out; subst eo30) | ((with_reducible refine gate_callee (f := 16) rfl ?_); refine goesL_ (some 8) rfl rfl Tryd.func16 (by kernel_rfl) rfl #[.slice Ao30 y109.length co30] rfl (by (try simp only [List.map_toArray, List.map_cons, List.map_nil]); first | done | rfl | (simp only [List.length_drop, List.length_take]; rfl) | exact congrArg (fun x_ : Int => #[Value.int .u64 x_]) (show _ = _ % (18446744073709551616 : Int) by omega)) ?_; (with_reducible refine (value_Key.calls _ _ y109 t112 t113 _ ?side1 ?side2 A2.out).mono ?_); (case side1 => repeat (first | exact (Kd.R_reads' HO111.out).2.2 | (with_reducible refine Kd.C_alloc ?_ _) | (with_reducible refine Kd.C_drewN ?_ _) | (with_reducible refine Kd.C_drew ?_))); (case side2 => exact (Kd.R_reads' HO111.out).2.1); rintro e w31 ⟨rfl, hb⟩; refine ⟨_, rfl, ?_⟩; have n0_ := Aside0.mk (Kd.R_below (by (with_reducible repeat (first | apply Kd.R_alloc | apply Kd.R_drewN | apply Kd.R_drew)); exact HO111.out) hb); have n1_ := Aside0.mk (below_step (by repeat (first | (with_reducible first | exact HB.out | apply below_alloc | apply pw_below_drewN | apply below_drew1) | exact HB.out)) hb); clear HO111; clear HB; have HO111 := n0_; have HB := n1_; clear n0_ n1_; (try clear hb); (try clear hb2); (try clear hk); (try clear hi)) | ((with_reducible refine gate_callee (f := 18) rfl ?_); refine goesL_ (some 12) rfl rfl Tryd.func18 (by kernel_rfl) rfl #[.string (⟨#[4, 97, 0, 0]⟩ : ByteArray)] rfl (by (try simp only [List.map_toArray, List.map_cons, List.map_nil]); first | done | rfl | (simp only [List.length_drop, List.length_take]; rfl) | exact congrArg (fun x_ : Int => #[Value.int .u64 x_]) (show _ = _ % (18446744073709551616 : Int) by omega)) ?_; (with_reducible refine (value_Unkey.calls k (⟨#[4, 97, 0, 0]⟩ : ByteArray) t114 t115 _ A3.out).mono ?_); rintro e w32 ⟨v116, rfl, ho0, hb⟩; refine ⟨_, rfl, ?_⟩; have n0_ := Aside0.mk (Kd.R_elder' (by (with_reducible repeat (first | apply Kd.R_alloc | apply Kd.R_drewN | apply Kd.R_drew)); exact HO111.out) (Kd.R_base ho0) hb); have n1_ := Aside0.mk (Kd.R_lower (Kd.R_new' ho0 (Kd.R_lt (by (with_reducible repeat (first | apply Kd.R_alloc | apply Kd.R_drewN | apply Kd.R_drew)); exact HO111.out))) (below_size (by repeat (first | (with_reducible first | exact HB.out | apply below_alloc | apply pw_below_drewN | apply below_drew1) | exact HB.out)))); have n2_ := Aside0.mk (below_step (by repeat (first | (with_reducible first | exact HB.out | apply below_alloc | apply pw_below_drewN | apply below_drew1) | exact HB.out)) hb); clear HO111; clear HB; have HO111 := n0_; have HO117 := n1_; have HB := n2_; clear n0_ n1_ n2_; (try clear hb); (try clear hb2); (try clear hk); (try clear hi); (try clear ho0)))
        have n0_ := Aside0.mk (Kd.R_drew HO111.out)
        have n1_ := Aside0.mk (Kd.R_drew HO117.out)
        have n2_ := Aside0.mk (below_drew1 HB.out)
        clear HO111
        clear HO117
        clear HB
        have HO111 := n0_
        have HO117 := n1_
        have HB := n2_
        clear n0_ n1_ n2_
        refine start_ (n := 23) (S := fun w' => True) (ds := []) #[false, false, false, false, false, false, false, false, false, false, false, false, false, false, false, false, false, false, false, false, false, false, false] (by kernel_rfl) rfl rfl trivial (fun hHeld => ?_); refine with_tabW headgatelaw03_alive.tab3 headgatelaw03_alive.bits3 (fun HT_ HW_ => ?_)
        generalize w32.drew = w33 at HO111 HO117 HB hHeld ⊢
        refine pure_ (i := 0) (N := some 15) (v := ?_) (a' := ?_) #[true, false, false, false, false, false, false, false, false, false, false, false, false, false, false, false, false, false, false, false, false, false, false] rfl rfl (any_of HT_.out (by kernel_rfl)) (fun _ _ _ h => h) (Or.inl ⟨by rfl, ?_⟩) ?_ ?_
        rotate_left
        · intro w'
          go_simp
          with_reducible rfl
        rotate_left
        · simp only [Act.put, List.setIfInBounds_toArray, List.set_cons_zero, List.set_cons_succ, i64_w, i32_w]
          rfl
        refine pure_ (i := 1) (N := some 16) (v := ?_) (a' := ?_) #[true, true, false, false, false, false, false, false, false, false, false, false, false, false, false, false, false, false, false, false, false, false, false] rfl rfl (any_of HT_.out (by kernel_rfl)) (fun _ _ _ h => h) (Or.inl ⟨by rfl, ?_⟩) ?_ ?_
        rotate_left
        · intro w'
          go_simp
          with_reducible rfl
        rotate_left
        · simp only [Act.put, List.setIfInBounds_toArray, List.set_cons_zero, List.set_cons_succ, i64_w, i32_w]
          rfl
        refine pure_ (i := 2) (N := some 17) (v := ?_) (a' := ?_) #[true, true, true, false, false, false, false, false, false, false, false, false, false, false, false, false, false, false, false, false, false, false, false] rfl rfl (any_of HT_.out (by kernel_rfl)) (fun _ _ _ h => h) (Or.inl ⟨by rfl, ?_⟩) ?_ ?_
        rotate_left
        · intro w'
          go_simp
          with_reducible rfl
        rotate_left
        · simp only [Act.put, List.setIfInBounds_toArray, List.set_cons_zero, List.set_cons_succ, i64_w, i32_w]
          rfl
        refine pure_ (i := 3) (N := some 18) (v := ?_) (a' := ?_) #[true, true, true, true, false, false, false, false, false, false, false, false, false, false, false, false, false, false, false, false, false, false, false] rfl rfl (any_of HT_.out (by kernel_rfl)) (fun _ _ _ h => h) (Or.inl ⟨by rfl, ?_⟩) ?_ ?_
        rotate_left
        · intro w'
          go_simp
          with_reducible rfl
        rotate_left
        · simp only [Act.put, List.setIfInBounds_toArray, List.set_cons_zero, List.set_cons_succ, i64_w, i32_w]
          rfl
        refine pure_ (i := 4) (N := some 19) (v := ?_) (a' := ?_) #[true, true, true, true, true, false, false, false, false, false, false, false, false, false, false, false, false, false, false, false, false, false, false] rfl rfl (any_of HT_.out (by kernel_rfl)) (fun _ _ _ h => h) (Or.inl ⟨by rfl, ?_⟩) ?_ ?_
        rotate_left
        · intro w'
          go_simp
          with_reducible rfl
        rotate_left
        · simp only [Act.put, List.setIfInBounds_toArray, List.set_cons_zero, List.set_cons_succ, i64_w, i32_w]
          rfl
        refine pure_ (i := 5) (N := some 20) (v := ?_) (a' := ?_) #[true, true, true, true, true, true, false, false, false, false, false, false, false, false, false, false, false, false, false, false, false, false, false] rfl rfl (any_of HT_.out (by kernel_rfl)) (fun _ _ _ h => h) (Or.inl ⟨by rfl, ?_⟩) ?_ ?_
        rotate_left
        · intro w'
          go_simp
          with_reducible rfl
        rotate_left
        · simp only [Act.put, List.setIfInBounds_toArray, List.set_cons_zero, List.set_cons_succ, i64_w, i32_w]
          rfl
        refine pure_ (i := 6) (N := some 21) (v := ?_) (a' := ?_) #[true, true, true, true, true, true, true, false, false, false, false, false, false, false, false, false, false, false, false, false, false, false, false] rfl rfl (any_of HT_.out (by kernel_rfl)) (fun _ _ _ h => h) (Or.inl ⟨by rfl, ?_⟩) ?_ ?_
        rotate_left
        · intro w'
          go_simp
          with_reducible rfl
        rotate_left
        · simp only [Act.put, List.setIfInBounds_toArray, List.set_cons_zero, List.set_cons_succ, i64_w, i32_w]
          rfl
        refine pure_ (i := 7) (N := some 22) (v := ?_) (a' := ?_) #[true, true, true, true, true, true, true, true, false, false, false, false, false, false, false, false, false, false, false, false, false, false, false] rfl rfl (any_of HT_.out (by kernel_rfl)) (fun _ _ _ h => h) (Or.inl ⟨by rfl, ?_⟩) ?_ ?_
        rotate_left
        · intro w'
          go_simp
          with_reducible rfl
        rotate_left
        · simp only [Act.put, List.setIfInBounds_toArray, List.set_cons_zero, List.set_cons_succ, i64_w, i32_w]
          rfl
        refine pure_ (i := 8) (N := some 23) (v := ?_) (a' := ?_) #[true, true, true, true, true, true, true, true, true, false, false, false, false, false, false, false, false, false, false, false, false, false, false] rfl rfl (any_of HT_.out (by kernel_rfl)) (fun _ _ _ h => h) (Or.inl ⟨by rfl, ?_⟩) ?_ ?_
        rotate_left
        · intro w'
          go_simp
          with_reducible rfl
        rotate_left
        · simp only [Act.put, List.setIfInBounds_toArray, List.set_cons_zero, List.set_cons_succ, i64_w, i32_w]
          rfl
        refine pure_ (i := 9) (N := some 24) (v := ?_) (a' := ?_) #[true, true, true, true, true, true, true, true, true, true, false, false, false, false, false, false, false, false, false, false, false, false, false] rfl rfl (any_of HT_.out (by kernel_rfl)) (fun _ _ _ h => h) (Or.inl ⟨by rfl, ?_⟩) ?_ ?_
        rotate_left
        · intro w'
          go_simp
          with_reducible rfl
        rotate_left
        · simp only [Act.put, List.setIfInBounds_toArray, List.set_cons_zero, List.set_cons_succ, i64_w, i32_w]
          rfl
        refine pure_ (i := 10) (N := some 25) (v := ?_) (a' := ?_) #[true, true, true, true, true, true, true, true, true, true, true, false, false, false, false, false, false, false, false, false, false, false, false] rfl rfl (any_of HT_.out (by kernel_rfl)) (fun _ _ _ h => h) (Or.inl ⟨by rfl, ?_⟩) ?_ ?_
        rotate_left
        · intro w'
          go_simp
          with_reducible rfl
        rotate_left
        · simp only [Act.put, List.setIfInBounds_toArray, List.set_cons_zero, List.set_cons_succ, i64_w, i32_w]
          rfl
        refine pure_ (i := 11) (N := some 26) (v := undef) (a' := ?_) #[true, true, true, true, true, true, true, true, true, true, true, true, false, false, false, false, false, false, false, false, false, false, false] rfl rfl (any_of HT_.out (by kernel_rfl)) (fun _ _ _ h => h) (Or.inr ⟨by rfl, rfl⟩) ?_ ?_
        rotate_left
        · simp only [Act.put, List.setIfInBounds_toArray, List.set_cons_zero, List.set_cons_succ, i64_w, i32_w]
          rfl
        refine pure_ (i := 12) (N := some 27) (v := undef) (a' := ?_) #[true, true, true, true, true, true, true, true, true, true, true, true, true, false, false, false, false, false, false, false, false, false, false] rfl rfl (any_of HT_.out (by kernel_rfl)) (fun _ _ _ h => h) (Or.inr ⟨by rfl, rfl⟩) ?_ ?_
        rotate_left
        · simp only [Act.put, List.setIfInBounds_toArray, List.set_cons_zero, List.set_cons_succ, i64_w, i32_w]
          rfl
        refine pure_ (i := 13) (N := some 28) (v := undef) (a' := ?_) #[true, true, true, true, true, true, true, true, true, true, true, true, true, true, false, false, false, false, false, false, false, false, false] rfl rfl (any_of HT_.out (by kernel_rfl)) (fun _ _ _ h => h) (Or.inr ⟨by rfl, rfl⟩) ?_ ?_
        rotate_left
        · simp only [Act.put, List.setIfInBounds_toArray, List.set_cons_zero, List.set_cons_succ, i64_w, i32_w]
          rfl
        refine pure_ (i := 14) (N := some 29) (v := ?_) (a' := ?_) #[true, true, true, true, true, true, true, true, true, true, true, true, true, true, true, false, false, false, false, false, false, false, false] rfl rfl (any_of HT_.out (by kernel_rfl)) (fun _ _ _ h => h) (Or.inl ⟨by rfl, ?_⟩) ?_ ?_
        rotate_left
        · intro w'
          go_simp
          with_reducible rfl
        rotate_left
        · simp only [Act.put, List.setIfInBounds_toArray, List.set_cons_zero, List.set_cons_succ, i64_w, i32_w]
          rfl
        refine pure_ (i := 15) (N := some 30) (v := ?_) (a' := ?_) #[true, true, true, true, true, true, true, true, true, true, true, true, true, true, true, true, false, false, false, false, false, false, false] rfl rfl (any_of HT_.out (by kernel_rfl)) (fun _ _ _ h => h) (Or.inl ⟨by rfl, ?_⟩) ?_ ?_
        rotate_left
        · intro w'
          go_simp
          with_reducible rfl
        rotate_left
        · simp only [Act.put, List.setIfInBounds_toArray, List.set_cons_zero, List.set_cons_succ, i64_w, i32_w]
          rfl
        refine pure_ (i := 16) (N := some 31) (v := undef) (a' := ?_) #[true, true, true, true, true, true, true, true, true, true, true, true, true, true, true, true, true, false, false, false, false, false, false] rfl rfl (any_of HT_.out (by kernel_rfl)) (fun _ _ _ h => h) (Or.inr ⟨by rfl, rfl⟩) ?_ ?_
        rotate_left
        · simp only [Act.put, List.setIfInBounds_toArray, List.set_cons_zero, List.set_cons_succ, i64_w, i32_w]
          rfl
        refine pure_ (i := 17) (N := some 32) (v := undef) (a' := ?_) #[true, true, true, true, true, true, true, true, true, true, true, true, true, true, true, true, true, true, false, false, false, false, false] rfl rfl (any_of HT_.out (by kernel_rfl)) (fun _ _ _ h => h) (Or.inr ⟨by rfl, rfl⟩) ?_ ?_
        rotate_left
        · simp only [Act.put, List.setIfInBounds_toArray, List.set_cons_zero, List.set_cons_succ, i64_w, i32_w]
          rfl
        refine pure_ (i := 18) (N := some 33) (v := undef) (a' := ?_) #[true, true, true, true, true, true, true, true, true, true, true, true, true, true, true, true, true, true, true, false, false, false, false] rfl rfl (any_of HT_.out (by kernel_rfl)) (fun _ _ _ h => h) (Or.inr ⟨by rfl, rfl⟩) ?_ ?_
        rotate_left
        · simp only [Act.put, List.setIfInBounds_toArray, List.set_cons_zero, List.set_cons_succ, i64_w, i32_w]
          rfl
        refine pure_ (i := 19) (N := some 34) (v := undef) (a' := ?_) #[true, true, true, true, true, true, true, true, true, true, true, true, true, true, true, true, true, true, true, true, false, false, false] rfl rfl (any_of HT_.out (by kernel_rfl)) (fun _ _ _ h => h) (Or.inr ⟨by rfl, rfl⟩) ?_ ?_
        rotate_left
        · simp only [Act.put, List.setIfInBounds_toArray, List.set_cons_zero, List.set_cons_succ, i64_w, i32_w]
          rfl
        refine pure_ (i := 20) (N := some 35) (v := undef) (a' := ?_) #[true, true, true, true, true, true, true, true, true, true, true, true, true, true, true, true, true, true, true, true, true, false, false] rfl rfl (any_of HT_.out (by kernel_rfl)) (fun _ _ _ h => h) (Or.inr ⟨by rfl, rfl⟩) ?_ ?_
        rotate_left
        · simp only [Act.put, List.setIfInBounds_toArray, List.set_cons_zero, List.set_cons_succ, i64_w, i32_w]
          rfl
        refine pure_ (i := 21) (N := some 36) (v := ?_) (a' := ?_) #[true, true, true, true, true, true, true, true, true, true, true, true, true, true, true, true, true, true, true, true, true, true, false] rfl rfl (any_of HT_.out (by kernel_rfl)) (fun _ _ _ h => h) (Or.inl ⟨by rfl, ?_⟩) ?_ ?_
        rotate_left
        · intro w'
          go_simp
          with_reducible rfl
        rotate_left
        · simp only [Act.put, List.setIfInBounds_toArray, List.set_cons_zero, List.set_cons_succ, i64_w, i32_w]
          rfl
        refine pure_ (i := 22) (N := some 0) (v := ?_) (a' := ?_) #[true, true, true, true, true, true, true, true, true, true, true, true, true, true, true, true, true, true, true, true, true, true, true] rfl rfl (any_of HT_.out (by kernel_rfl)) (fun _ _ _ h => h) (Or.inl ⟨by rfl, ?_⟩) ?_ ?_
        rotate_left
        · intro w'
          go_simp
          with_reducible rfl
        rotate_left
        · simp only [Act.put, List.setIfInBounds_toArray, List.set_cons_zero, List.set_cons_succ, i64_w, i32_w]
          rfl
        refine done_ (done_of HT_.out (by kernel_rfl)) ?_
        try go_wp2
        go_ret
        exact ⟨by first | rfl | (simp [errW_none, errW_some] <;> rfl) | (simp [*, errW_none, errW_some] <;> rfl), by repeat (first | (with_reducible first | exact HB.out | apply below_alloc | apply pw_below_drewN | apply below_drew1) | exact HB.out)⟩
    · rw [if_neg c5] at H
      have c5b0 : (t112.toList == ([2, 127, 255, 255, 255, 255, 255, 255, 255] : List UInt8)) = false := beq_eq_false_iff_ne.mpr c5
      have c5b1 : (t112.toList != ([2, 127, 255, 255, 255, 255, 255, 255, 255] : List UInt8)) = true := bne_iff_ne.mpr c5
      obtain rfl := Option.some.inj H
      go_enter Tryd.func10, Tryd.ntmps10
      try go_wp2_with (first | ((with_reducible refine gate_callee (f := 23) rfl ?_); refine goesL_ (some 6) rfl rfl Tryd.func23 (by kernel_rfl) rfl #[.int .i64 (-1)] rfl (by (try simp only [List.map_toArray, List.map_cons, List.map_nil]); first | done | rfl | (simp only [List.length_drop, List.length_take]; rfl) | exact congrArg (fun x_ : Int => #[Value.int .u64 x_]) (show _ = _ % (18446744073709551616 : Int) by omega)) ?_; (with_reducible refine (value_Int.calls (-1) t106 t107 t108 _ A1.out).mono ?_); rintro e w34 ⟨rfl, hb⟩; refine ⟨_, rfl, ?_⟩; have n0_ := Aside0.mk (below_step (by repeat (first | (with_reducible first | exact HB.out | apply below_alloc | apply pw_below_drewN | apply below_drew1) | exact HB.out)) hb); clear HB; have HB := n0_; clear n0_; (try clear hb); (try clear hb2); (try clear hk); (try clear hi)) | ((with_reducible refine gate_dst (N := 7) rfl ?_); (try (refine gate_guard (by rfl) ?_; dsimp only)); refine Kd.R_lit k23 _ 23 ?hg (N := 7) ?hd (xs := ([(⟨t106, t107, t108⟩ : S23)] : List (S23))) (inner := [.int .i64 t106, .int .i64 t107, .string t108]) (ok := fun _ => True) (okp := fun _ => True) ?hr ?hp (fun _ hk => hk) trivial (Below.refl _ _) (Nat.le_refl _) (by simp) ?_; (case hd => rfl); (case hg => rfl); (case hr => first | (go_simp; done) | (go_simp; rfl)); (case hp => exact (Reps.c3 (show Kd.M k23 _ _ _ (⟨t106, t107, t108⟩ : S23) [.int .i64 t106, .int .i64 t107, .string t108] from (k23_mkM _ _ _ (⟨t106, t107, t108⟩ : S23) )) (Reps.none _ _))); intro v110 w35 ho36 hb hg_ hnew_; clear hg_ hnew_; (first | rw [← Ny109.out] at ho36 | (simp only [Int.reduceToNat] at ho36; rw [← Ny109.out] at ho36)); have n0_ := Aside0.mk (Kd.R_lower ho36 (below_size (by repeat (first | (with_reducible first | exact HB.out | apply below_alloc | apply pw_below_drewN | apply below_drew1) | exact HB.out)))); have n1_ := Aside0.mk (below_step (by repeat (first | (with_reducible first | exact HB.out | apply below_alloc | apply pw_below_drewN | apply below_drew1) | exact HB.out)) hb); clear HB; have HO111 := n0_; have HB := n1_; clear n0_ n1_; clear hb ho36; obtain ⟨Ao37, co37, eo37⟩ := Kd.R_slice HO111.out; subst eo37) | ((with_reducible refine gate_callee (f := 16) rfl ?_); refine goesL_ (some 8) rfl rfl Tryd.func16 (by kernel_rfl) rfl #[.slice Ao37 y109.length co37] rfl (by (try simp only [List.map_toArray, List.map_cons, List.map_nil]); first | done | rfl | (simp only [List.length_drop, List.length_take]; rfl) | exact congrArg (fun x_ : Int => #[Value.int .u64 x_]) (show _ = _ % (18446744073709551616 : Int) by omega)) ?_; (with_reducible refine (value_Key.calls _ _ y109 t112 t113 _ ?side1 ?side2 A2.out).mono ?_); (case side1 => repeat (first | exact (Kd.R_reads' HO111.out).2.2 | (with_reducible refine Kd.C_alloc ?_ _) | (with_reducible refine Kd.C_drewN ?_ _) | (with_reducible refine Kd.C_drew ?_))); (case side2 => exact (Kd.R_reads' HO111.out).2.1); rintro e w38 ⟨rfl, hb⟩; refine ⟨_, rfl, ?_⟩; have n0_ := Aside0.mk (Kd.R_below (by (with_reducible repeat (first | apply Kd.R_alloc | apply Kd.R_drewN | apply Kd.R_drew)); exact HO111.out) hb); have n1_ := Aside0.mk (below_step (by repeat (first | (with_reducible first | exact HB.out | apply below_alloc | apply pw_below_drewN | apply below_drew1) | exact HB.out)) hb); clear HO111; clear HB; have HO111 := n0_; have HB := n1_; clear n0_ n1_; (try clear hb); (try clear hb2); (try clear hk); (try clear hi)) | ((with_reducible refine gate_callee (f := 18) rfl ?_); refine goesL_ (some 12) rfl rfl Tryd.func18 (by kernel_rfl) rfl #[.string (⟨#[4, 97, 0, 0]⟩ : ByteArray)] rfl (by (try simp only [List.map_toArray, List.map_cons, List.map_nil]); first | done | rfl | (simp only [List.length_drop, List.length_take]; rfl) | exact congrArg (fun x_ : Int => #[Value.int .u64 x_]) (show _ = _ % (18446744073709551616 : Int) by omega)) ?_; (with_reducible refine (value_Unkey.calls k (⟨#[4, 97, 0, 0]⟩ : ByteArray) t114 t115 _ A3.out).mono ?_); rintro e w39 ⟨v116, rfl, ho0, hb⟩; refine ⟨_, rfl, ?_⟩; have n0_ := Aside0.mk (Kd.R_elder' (by (with_reducible repeat (first | apply Kd.R_alloc | apply Kd.R_drewN | apply Kd.R_drew)); exact HO111.out) (Kd.R_base ho0) hb); have n1_ := Aside0.mk (Kd.R_lower (Kd.R_new' ho0 (Kd.R_lt (by (with_reducible repeat (first | apply Kd.R_alloc | apply Kd.R_drewN | apply Kd.R_drew)); exact HO111.out))) (below_size (by repeat (first | (with_reducible first | exact HB.out | apply below_alloc | apply pw_below_drewN | apply below_drew1) | exact HB.out)))); have n2_ := Aside0.mk (below_step (by repeat (first | (with_reducible first | exact HB.out | apply below_alloc | apply pw_below_drewN | apply below_drew1) | exact HB.out)) hb); clear HO111; clear HB; have HO111 := n0_; have HO117 := n1_; have HB := n2_; clear n0_ n1_ n2_; (try clear hb); (try clear hb2); (try clear hk); (try clear hi); (try clear ho0)))
      have n0_ := Aside0.mk (Kd.R_drew HO111.out)
      have n1_ := Aside0.mk (Kd.R_drew HO117.out)
      have n2_ := Aside0.mk (below_drew1 HB.out)
      clear HO111
      clear HO117
      clear HB
      have HO111 := n0_
      have HO117 := n1_
      have HB := n2_
      clear n0_ n1_ n2_
      refine start_ (n := 23) (S := fun w' => True) (ds := []) #[false, false, false, false, false, false, false, false, false, false, false, false, false, false, false, false, false, false, false, false, false, false, false] (by kernel_rfl) rfl rfl trivial (fun hHeld => ?_); refine with_tabW headgatelaw03_alive.tab3 headgatelaw03_alive.bits3 (fun HT_ HW_ => ?_)
      generalize w39.drew = w40 at HO111 HO117 HB hHeld ⊢
      refine pure_ (i := 0) (N := some 15) (v := ?_) (a' := ?_) #[true, false, false, false, false, false, false, false, false, false, false, false, false, false, false, false, false, false, false, false, false, false, false] rfl rfl (any_of HT_.out (by kernel_rfl)) (fun _ _ _ h => h) (Or.inl ⟨by rfl, ?_⟩) ?_ ?_
      rotate_left
      · intro w'
        go_simp
        with_reducible rfl
      rotate_left
      · simp only [Act.put, List.setIfInBounds_toArray, List.set_cons_zero, List.set_cons_succ, i64_w, i32_w]
        rfl
      refine pure_ (i := 1) (N := some 16) (v := ?_) (a' := ?_) #[true, true, false, false, false, false, false, false, false, false, false, false, false, false, false, false, false, false, false, false, false, false, false] rfl rfl (any_of HT_.out (by kernel_rfl)) (fun _ _ _ h => h) (Or.inl ⟨by rfl, ?_⟩) ?_ ?_
      rotate_left
      · intro w'
        go_simp
        with_reducible rfl
      rotate_left
      · simp only [Act.put, List.setIfInBounds_toArray, List.set_cons_zero, List.set_cons_succ, i64_w, i32_w]
        rfl
      refine pure_ (i := 2) (N := some 17) (v := ?_) (a' := ?_) #[true, true, true, false, false, false, false, false, false, false, false, false, false, false, false, false, false, false, false, false, false, false, false] rfl rfl (any_of HT_.out (by kernel_rfl)) (fun _ _ _ h => h) (Or.inl ⟨by rfl, ?_⟩) ?_ ?_
      rotate_left
      · intro w'
        go_simp
        with_reducible rfl
      rotate_left
      · simp only [Act.put, List.setIfInBounds_toArray, List.set_cons_zero, List.set_cons_succ, i64_w, i32_w]
        rfl
      refine pure_ (i := 3) (N := some 18) (v := ?_) (a' := ?_) #[true, true, true, true, false, false, false, false, false, false, false, false, false, false, false, false, false, false, false, false, false, false, false] rfl rfl (any_of HT_.out (by kernel_rfl)) (fun _ _ _ h => h) (Or.inl ⟨by rfl, ?_⟩) ?_ ?_
      rotate_left
      · intro w'
        go_simp
        with_reducible rfl
      rotate_left
      · simp only [Act.put, List.setIfInBounds_toArray, List.set_cons_zero, List.set_cons_succ, i64_w, i32_w]
        rfl
      refine pure_ (i := 4) (N := some 19) (v := ?_) (a' := ?_) #[true, true, true, true, true, false, false, false, false, false, false, false, false, false, false, false, false, false, false, false, false, false, false] rfl rfl (any_of HT_.out (by kernel_rfl)) (fun _ _ _ h => h) (Or.inl ⟨by rfl, ?_⟩) ?_ ?_
      rotate_left
      · intro w'
        go_simp
        with_reducible rfl
      rotate_left
      · simp only [Act.put, List.setIfInBounds_toArray, List.set_cons_zero, List.set_cons_succ, i64_w, i32_w]
        rfl
      refine pure_ (i := 5) (N := some 20) (v := ?_) (a' := ?_) #[true, true, true, true, true, true, false, false, false, false, false, false, false, false, false, false, false, false, false, false, false, false, false] rfl rfl (any_of HT_.out (by kernel_rfl)) (fun _ _ _ h => h) (Or.inl ⟨by rfl, ?_⟩) ?_ ?_
      rotate_left
      · intro w'
        go_simp
        with_reducible rfl
      rotate_left
      · simp only [Act.put, List.setIfInBounds_toArray, List.set_cons_zero, List.set_cons_succ, i64_w, i32_w]
        rfl
      refine pure_ (i := 6) (N := some 21) (v := ?_) (a' := ?_) #[true, true, true, true, true, true, true, false, false, false, false, false, false, false, false, false, false, false, false, false, false, false, false] rfl rfl (any_of HT_.out (by kernel_rfl)) (fun _ _ _ h => h) (Or.inl ⟨by rfl, ?_⟩) ?_ ?_
      rotate_left
      · intro w'
        go_simp
        with_reducible rfl
      rotate_left
      · simp only [Act.put, List.setIfInBounds_toArray, List.set_cons_zero, List.set_cons_succ, i64_w, i32_w]
        rfl
      refine pure_ (i := 7) (N := some 22) (v := undef) (a' := ?_) #[true, true, true, true, true, true, true, true, false, false, false, false, false, false, false, false, false, false, false, false, false, false, false] rfl rfl (any_of HT_.out (by kernel_rfl)) (fun _ _ _ h => h) (Or.inr ⟨by rfl, rfl⟩) ?_ ?_
      rotate_left
      · simp only [Act.put, List.setIfInBounds_toArray, List.set_cons_zero, List.set_cons_succ, i64_w, i32_w]
        rfl
      refine pure_ (i := 8) (N := some 23) (v := undef) (a' := ?_) #[true, true, true, true, true, true, true, true, true, false, false, false, false, false, false, false, false, false, false, false, false, false, false] rfl rfl (any_of HT_.out (by kernel_rfl)) (fun _ _ _ h => h) (Or.inr ⟨by rfl, rfl⟩) ?_ ?_
      rotate_left
      · simp only [Act.put, List.setIfInBounds_toArray, List.set_cons_zero, List.set_cons_succ, i64_w, i32_w]
        rfl
      refine pure_ (i := 9) (N := some 24) (v := ?_) (a' := ?_) #[true, true, true, true, true, true, true, true, true, true, false, false, false, false, false, false, false, false, false, false, false, false, false] rfl rfl (any_of HT_.out (by kernel_rfl)) (fun _ _ _ h => h) (Or.inl ⟨by rfl, ?_⟩) ?_ ?_
      rotate_left
      · intro w'
        go_simp
        with_reducible rfl
      rotate_left
      · simp only [Act.put, List.setIfInBounds_toArray, List.set_cons_zero, List.set_cons_succ, i64_w, i32_w]
        rfl
      refine pure_ (i := 10) (N := some 25) (v := ?_) (a' := ?_) #[true, true, true, true, true, true, true, true, true, true, true, false, false, false, false, false, false, false, false, false, false, false, false] rfl rfl (any_of HT_.out (by kernel_rfl)) (fun _ _ _ h => h) (Or.inl ⟨by rfl, ?_⟩) ?_ ?_
      rotate_left
      · intro w'
        go_simp
        with_reducible rfl
      rotate_left
      · simp only [Act.put, List.setIfInBounds_toArray, List.set_cons_zero, List.set_cons_succ, i64_w, i32_w]
        rfl
      refine pure_ (i := 11) (N := some 26) (v := undef) (a' := ?_) #[true, true, true, true, true, true, true, true, true, true, true, true, false, false, false, false, false, false, false, false, false, false, false] rfl rfl (any_of HT_.out (by kernel_rfl)) (fun _ _ _ h => h) (Or.inr ⟨by rfl, rfl⟩) ?_ ?_
      rotate_left
      · simp only [Act.put, List.setIfInBounds_toArray, List.set_cons_zero, List.set_cons_succ, i64_w, i32_w]
        rfl
      refine pure_ (i := 12) (N := some 27) (v := undef) (a' := ?_) #[true, true, true, true, true, true, true, true, true, true, true, true, true, false, false, false, false, false, false, false, false, false, false] rfl rfl (any_of HT_.out (by kernel_rfl)) (fun _ _ _ h => h) (Or.inr ⟨by rfl, rfl⟩) ?_ ?_
      rotate_left
      · simp only [Act.put, List.setIfInBounds_toArray, List.set_cons_zero, List.set_cons_succ, i64_w, i32_w]
        rfl
      refine pure_ (i := 13) (N := some 28) (v := undef) (a' := ?_) #[true, true, true, true, true, true, true, true, true, true, true, true, true, true, false, false, false, false, false, false, false, false, false] rfl rfl (any_of HT_.out (by kernel_rfl)) (fun _ _ _ h => h) (Or.inr ⟨by rfl, rfl⟩) ?_ ?_
      rotate_left
      · simp only [Act.put, List.setIfInBounds_toArray, List.set_cons_zero, List.set_cons_succ, i64_w, i32_w]
        rfl
      refine pure_ (i := 14) (N := some 29) (v := ?_) (a' := ?_) #[true, true, true, true, true, true, true, true, true, true, true, true, true, true, true, false, false, false, false, false, false, false, false] rfl rfl (any_of HT_.out (by kernel_rfl)) (fun _ _ _ h => h) (Or.inl ⟨by rfl, ?_⟩) ?_ ?_
      rotate_left
      · intro w'
        go_simp
        with_reducible rfl
      rotate_left
      · simp only [Act.put, List.setIfInBounds_toArray, List.set_cons_zero, List.set_cons_succ, i64_w, i32_w]
        rfl
      refine pure_ (i := 15) (N := some 30) (v := ?_) (a' := ?_) #[true, true, true, true, true, true, true, true, true, true, true, true, true, true, true, true, false, false, false, false, false, false, false] rfl rfl (any_of HT_.out (by kernel_rfl)) (fun _ _ _ h => h) (Or.inl ⟨by rfl, ?_⟩) ?_ ?_
      rotate_left
      · intro w'
        go_simp
        with_reducible rfl
      rotate_left
      · simp only [Act.put, List.setIfInBounds_toArray, List.set_cons_zero, List.set_cons_succ, i64_w, i32_w]
        rfl
      refine pure_ (i := 16) (N := some 31) (v := undef) (a' := ?_) #[true, true, true, true, true, true, true, true, true, true, true, true, true, true, true, true, true, false, false, false, false, false, false] rfl rfl (any_of HT_.out (by kernel_rfl)) (fun _ _ _ h => h) (Or.inr ⟨by rfl, rfl⟩) ?_ ?_
      rotate_left
      · simp only [Act.put, List.setIfInBounds_toArray, List.set_cons_zero, List.set_cons_succ, i64_w, i32_w]
        rfl
      refine pure_ (i := 17) (N := some 32) (v := undef) (a' := ?_) #[true, true, true, true, true, true, true, true, true, true, true, true, true, true, true, true, true, true, false, false, false, false, false] rfl rfl (any_of HT_.out (by kernel_rfl)) (fun _ _ _ h => h) (Or.inr ⟨by rfl, rfl⟩) ?_ ?_
      rotate_left
      · simp only [Act.put, List.setIfInBounds_toArray, List.set_cons_zero, List.set_cons_succ, i64_w, i32_w]
        rfl
      refine pure_ (i := 18) (N := some 33) (v := undef) (a' := ?_) #[true, true, true, true, true, true, true, true, true, true, true, true, true, true, true, true, true, true, true, false, false, false, false] rfl rfl (any_of HT_.out (by kernel_rfl)) (fun _ _ _ h => h) (Or.inr ⟨by rfl, rfl⟩) ?_ ?_
      rotate_left
      · simp only [Act.put, List.setIfInBounds_toArray, List.set_cons_zero, List.set_cons_succ, i64_w, i32_w]
        rfl
      refine pure_ (i := 19) (N := some 34) (v := undef) (a' := ?_) #[true, true, true, true, true, true, true, true, true, true, true, true, true, true, true, true, true, true, true, true, false, false, false] rfl rfl (any_of HT_.out (by kernel_rfl)) (fun _ _ _ h => h) (Or.inr ⟨by rfl, rfl⟩) ?_ ?_
      rotate_left
      · simp only [Act.put, List.setIfInBounds_toArray, List.set_cons_zero, List.set_cons_succ, i64_w, i32_w]
        rfl
      refine pure_ (i := 20) (N := some 35) (v := undef) (a' := ?_) #[true, true, true, true, true, true, true, true, true, true, true, true, true, true, true, true, true, true, true, true, true, false, false] rfl rfl (any_of HT_.out (by kernel_rfl)) (fun _ _ _ h => h) (Or.inr ⟨by rfl, rfl⟩) ?_ ?_
      rotate_left
      · simp only [Act.put, List.setIfInBounds_toArray, List.set_cons_zero, List.set_cons_succ, i64_w, i32_w]
        rfl
      refine pure_ (i := 21) (N := some 36) (v := ?_) (a' := ?_) #[true, true, true, true, true, true, true, true, true, true, true, true, true, true, true, true, true, true, true, true, true, true, false] rfl rfl (any_of HT_.out (by kernel_rfl)) (fun _ _ _ h => h) (Or.inl ⟨by rfl, ?_⟩) ?_ ?_
      rotate_left
      · intro w'
        go_simp
        with_reducible rfl
      rotate_left
      · simp only [Act.put, List.setIfInBounds_toArray, List.set_cons_zero, List.set_cons_succ, i64_w, i32_w]
        rfl
      refine pure_ (i := 22) (N := some 0) (v := ?_) (a' := ?_) #[true, true, true, true, true, true, true, true, true, true, true, true, true, true, true, true, true, true, true, true, true, true, true] rfl rfl (any_of HT_.out (by kernel_rfl)) (fun _ _ _ h => h) (Or.inl ⟨by rfl, ?_⟩) ?_ ?_
      rotate_left
      · intro w'
        go_simp
        with_reducible rfl
      rotate_left
      · simp only [Act.put, List.setIfInBounds_toArray, List.set_cons_zero, List.set_cons_succ, i64_w, i32_w]
        rfl
      refine done_ (done_of HT_.out (by kernel_rfl)) ?_
      try go_wp2
      go_ret
      exact ⟨by first | rfl | (simp [errW_none, errW_some] <;> rfl) | (simp [*, errW_none, errW_some] <;> rfl), by repeat (first | (with_reducible first | exact HB.out | apply below_alloc | apply pw_below_drewN | apply below_drew1) | exact HB.out)⟩
  · rw [if_neg c4] at H
    have c4b0 : (t113 == 0) = false := beq_eq_false_iff_ne.mpr c4
    have c4b1 : (t113 != 0) = true := bne_iff_ne.mpr c4
    obtain rfl := Option.some.inj H
    go_enter Tryd.func10, Tryd.ntmps10
    try go_wp2_with (first | ((with_reducible refine gate_callee (f := 23) rfl ?_); refine goesL_ (some 6) rfl rfl Tryd.func23 (by kernel_rfl) rfl #[.int .i64 (-1)] rfl (by (try simp only [List.map_toArray, List.map_cons, List.map_nil]); first | done | rfl | (simp only [List.length_drop, List.length_take]; rfl) | exact congrArg (fun x_ : Int => #[Value.int .u64 x_]) (show _ = _ % (18446744073709551616 : Int) by omega)) ?_; (with_reducible refine (value_Int.calls (-1) t106 t107 t108 _ A1.out).mono ?_); rintro e w41 ⟨rfl, hb⟩; refine ⟨_, rfl, ?_⟩; have n0_ := Aside0.mk (below_step (by repeat (first | (with_reducible first | exact HB.out | apply below_alloc | apply pw_below_drewN | apply below_drew1) | exact HB.out)) hb); clear HB; have HB := n0_; clear n0_; (try clear hb); (try clear hb2); (try clear hk); (try clear hi)) | ((with_reducible refine gate_dst (N := 7) rfl ?_); (try (refine gate_guard (by rfl) ?_; dsimp only)); refine Kd.R_lit k23 _ 23 ?hg (N := 7) ?hd (xs := ([(⟨t106, t107, t108⟩ : S23)] : List (S23))) (inner := [.int .i64 t106, .int .i64 t107, .string t108]) (ok := fun _ => True) (okp := fun _ => True) ?hr ?hp (fun _ hk => hk) trivial (Below.refl _ _) (Nat.le_refl _) (by simp) ?_; (case hd => rfl); (case hg => rfl); (case hr => first | (go_simp; done) | (go_simp; rfl)); (case hp => exact (Reps.c3 (show Kd.M k23 _ _ _ (⟨t106, t107, t108⟩ : S23) [.int .i64 t106, .int .i64 t107, .string t108] from (k23_mkM _ _ _ (⟨t106, t107, t108⟩ : S23) )) (Reps.none _ _))); intro v110 w42 ho43 hb hg_ hnew_; clear hg_ hnew_; (first | rw [← Ny109.out] at ho43 | (simp only [Int.reduceToNat] at ho43; rw [← Ny109.out] at ho43)); have n0_ := Aside0.mk (Kd.R_lower ho43 (below_size (by repeat (first | (with_reducible first | exact HB.out | apply below_alloc | apply pw_below_drewN | apply below_drew1) | exact HB.out)))); have n1_ := Aside0.mk (below_step (by repeat (first | (with_reducible first | exact HB.out | apply below_alloc | apply pw_below_drewN | apply below_drew1) | exact HB.out)) hb); clear HB; have HO111 := n0_; have HB := n1_; clear n0_ n1_; clear hb ho43; obtain ⟨Ao44, co44, eo44⟩ := Kd.R_slice HO111.out; subst eo44) | ((with_reducible refine gate_callee (f := 16) rfl ?_); refine goesL_ (some 8) rfl rfl Tryd.func16 (by kernel_rfl) rfl #[.slice Ao44 y109.length co44] rfl (by (try simp only [List.map_toArray, List.map_cons, List.map_nil]); first | done | rfl | (simp only [List.length_drop, List.length_take]; rfl) | exact congrArg (fun x_ : Int => #[Value.int .u64 x_]) (show _ = _ % (18446744073709551616 : Int) by omega)) ?_; (with_reducible refine (value_Key.calls _ _ y109 t112 t113 _ ?side1 ?side2 A2.out).mono ?_); (case side1 => repeat (first | exact (Kd.R_reads' HO111.out).2.2 | (with_reducible refine Kd.C_alloc ?_ _) | (with_reducible refine Kd.C_drewN ?_ _) | (with_reducible refine Kd.C_drew ?_))); (case side2 => exact (Kd.R_reads' HO111.out).2.1); rintro e w45 ⟨rfl, hb⟩; refine ⟨_, rfl, ?_⟩; have n0_ := Aside0.mk (Kd.R_below (by (with_reducible repeat (first | apply Kd.R_alloc | apply Kd.R_drewN | apply Kd.R_drew)); exact HO111.out) hb); have n1_ := Aside0.mk (below_step (by repeat (first | (with_reducible first | exact HB.out | apply below_alloc | apply pw_below_drewN | apply below_drew1) | exact HB.out)) hb); clear HO111; clear HB; have HO111 := n0_; have HB := n1_; clear n0_ n1_; (try clear hb); (try clear hb2); (try clear hk); (try clear hi)) | ((with_reducible refine gate_callee (f := 18) rfl ?_); refine goesL_ (some 12) rfl rfl Tryd.func18 (by kernel_rfl) rfl #[.string (⟨#[4, 97, 0, 0]⟩ : ByteArray)] rfl (by (try simp only [List.map_toArray, List.map_cons, List.map_nil]); first | done | rfl | (simp only [List.length_drop, List.length_take]; rfl) | exact congrArg (fun x_ : Int => #[Value.int .u64 x_]) (show _ = _ % (18446744073709551616 : Int) by omega)) ?_; (with_reducible refine (value_Unkey.calls k (⟨#[4, 97, 0, 0]⟩ : ByteArray) t114 t115 _ A3.out).mono ?_); rintro e w46 ⟨v116, rfl, ho0, hb⟩; refine ⟨_, rfl, ?_⟩; have n0_ := Aside0.mk (Kd.R_elder' (by (with_reducible repeat (first | apply Kd.R_alloc | apply Kd.R_drewN | apply Kd.R_drew)); exact HO111.out) (Kd.R_base ho0) hb); have n1_ := Aside0.mk (Kd.R_lower (Kd.R_new' ho0 (Kd.R_lt (by (with_reducible repeat (first | apply Kd.R_alloc | apply Kd.R_drewN | apply Kd.R_drew)); exact HO111.out))) (below_size (by repeat (first | (with_reducible first | exact HB.out | apply below_alloc | apply pw_below_drewN | apply below_drew1) | exact HB.out)))); have n2_ := Aside0.mk (below_step (by repeat (first | (with_reducible first | exact HB.out | apply below_alloc | apply pw_below_drewN | apply below_drew1) | exact HB.out)) hb); clear HO111; clear HB; have HO111 := n0_; have HO117 := n1_; have HB := n2_; clear n0_ n1_ n2_; (try clear hb); (try clear hb2); (try clear hk); (try clear hi); (try clear ho0)))
    have n0_ := Aside0.mk (Kd.R_drew HO111.out)
    have n1_ := Aside0.mk (Kd.R_drew HO117.out)
    have n2_ := Aside0.mk (below_drew1 HB.out)
    clear HO111
    clear HO117
    clear HB
    have HO111 := n0_
    have HO117 := n1_
    have HB := n2_
    clear n0_ n1_ n2_
    refine start_ (n := 23) (S := fun w' => True) (ds := []) #[false, false, false, false, false, false, false, false, false, false, false, false, false, false, false, false, false, false, false, false, false, false, false] (by kernel_rfl) rfl rfl trivial (fun hHeld => ?_); refine with_tabW headgatelaw03_alive.tab3 headgatelaw03_alive.bits3 (fun HT_ HW_ => ?_)
    generalize w46.drew = w47 at HO111 HO117 HB hHeld ⊢
    refine pure_ (i := 0) (N := some 15) (v := ?_) (a' := ?_) #[true, false, false, false, false, false, false, false, false, false, false, false, false, false, false, false, false, false, false, false, false, false, false] rfl rfl (any_of HT_.out (by kernel_rfl)) (fun _ _ _ h => h) (Or.inl ⟨by rfl, ?_⟩) ?_ ?_
    rotate_left
    · intro w'
      go_simp
      with_reducible rfl
    rotate_left
    · simp only [Act.put, List.setIfInBounds_toArray, List.set_cons_zero, List.set_cons_succ, i64_w, i32_w]
      rfl
    refine pure_ (i := 1) (N := some 16) (v := ?_) (a' := ?_) #[true, true, false, false, false, false, false, false, false, false, false, false, false, false, false, false, false, false, false, false, false, false, false] rfl rfl (any_of HT_.out (by kernel_rfl)) (fun _ _ _ h => h) (Or.inl ⟨by rfl, ?_⟩) ?_ ?_
    rotate_left
    · intro w'
      go_simp
      with_reducible rfl
    rotate_left
    · simp only [Act.put, List.setIfInBounds_toArray, List.set_cons_zero, List.set_cons_succ, i64_w, i32_w]
      rfl
    refine pure_ (i := 2) (N := some 17) (v := ?_) (a' := ?_) #[true, true, true, false, false, false, false, false, false, false, false, false, false, false, false, false, false, false, false, false, false, false, false] rfl rfl (any_of HT_.out (by kernel_rfl)) (fun _ _ _ h => h) (Or.inl ⟨by rfl, ?_⟩) ?_ ?_
    rotate_left
    · intro w'
      go_simp
      with_reducible rfl
    rotate_left
    · simp only [Act.put, List.setIfInBounds_toArray, List.set_cons_zero, List.set_cons_succ, i64_w, i32_w]
      rfl
    refine pure_ (i := 3) (N := some 18) (v := undef) (a' := ?_) #[true, true, true, true, false, false, false, false, false, false, false, false, false, false, false, false, false, false, false, false, false, false, false] rfl rfl (any_of HT_.out (by kernel_rfl)) (fun _ _ _ h => h) (Or.inr ⟨by rfl, rfl⟩) ?_ ?_
    rotate_left
    · simp only [Act.put, List.setIfInBounds_toArray, List.set_cons_zero, List.set_cons_succ, i64_w, i32_w]
      rfl
    refine pure_ (i := 4) (N := some 19) (v := undef) (a' := ?_) #[true, true, true, true, true, false, false, false, false, false, false, false, false, false, false, false, false, false, false, false, false, false, false] rfl rfl (any_of HT_.out (by kernel_rfl)) (fun _ _ _ h => h) (Or.inr ⟨by rfl, rfl⟩) ?_ ?_
    rotate_left
    · simp only [Act.put, List.setIfInBounds_toArray, List.set_cons_zero, List.set_cons_succ, i64_w, i32_w]
      rfl
    refine pure_ (i := 5) (N := some 20) (v := ?_) (a' := ?_) #[true, true, true, true, true, true, false, false, false, false, false, false, false, false, false, false, false, false, false, false, false, false, false] rfl rfl (any_of HT_.out (by kernel_rfl)) (fun _ _ _ h => h) (Or.inl ⟨by rfl, ?_⟩) ?_ ?_
    rotate_left
    · intro w'
      go_simp
      with_reducible rfl
    rotate_left
    · simp only [Act.put, List.setIfInBounds_toArray, List.set_cons_zero, List.set_cons_succ, i64_w, i32_w]
      rfl
    refine pure_ (i := 6) (N := some 21) (v := ?_) (a' := ?_) #[true, true, true, true, true, true, true, false, false, false, false, false, false, false, false, false, false, false, false, false, false, false, false] rfl rfl (any_of HT_.out (by kernel_rfl)) (fun _ _ _ h => h) (Or.inl ⟨by rfl, ?_⟩) ?_ ?_
    rotate_left
    · intro w'
      go_simp
      with_reducible rfl
    rotate_left
    · simp only [Act.put, List.setIfInBounds_toArray, List.set_cons_zero, List.set_cons_succ, i64_w, i32_w]
      rfl
    refine pure_ (i := 7) (N := some 22) (v := undef) (a' := ?_) #[true, true, true, true, true, true, true, true, false, false, false, false, false, false, false, false, false, false, false, false, false, false, false] rfl rfl (any_of HT_.out (by kernel_rfl)) (fun _ _ _ h => h) (Or.inr ⟨by rfl, rfl⟩) ?_ ?_
    rotate_left
    · simp only [Act.put, List.setIfInBounds_toArray, List.set_cons_zero, List.set_cons_succ, i64_w, i32_w]
      rfl
    refine pure_ (i := 8) (N := some 23) (v := undef) (a' := ?_) #[true, true, true, true, true, true, true, true, true, false, false, false, false, false, false, false, false, false, false, false, false, false, false] rfl rfl (any_of HT_.out (by kernel_rfl)) (fun _ _ _ h => h) (Or.inr ⟨by rfl, rfl⟩) ?_ ?_
    rotate_left
    · simp only [Act.put, List.setIfInBounds_toArray, List.set_cons_zero, List.set_cons_succ, i64_w, i32_w]
      rfl
    refine pure_ (i := 9) (N := some 24) (v := ?_) (a' := ?_) #[true, true, true, true, true, true, true, true, true, true, false, false, false, false, false, false, false, false, false, false, false, false, false] rfl rfl (any_of HT_.out (by kernel_rfl)) (fun _ _ _ h => h) (Or.inl ⟨by rfl, ?_⟩) ?_ ?_
    rotate_left
    · intro w'
      go_simp
      with_reducible rfl
    rotate_left
    · simp only [Act.put, List.setIfInBounds_toArray, List.set_cons_zero, List.set_cons_succ, i64_w, i32_w]
      rfl
    refine pure_ (i := 10) (N := some 25) (v := ?_) (a' := ?_) #[true, true, true, true, true, true, true, true, true, true, true, false, false, false, false, false, false, false, false, false, false, false, false] rfl rfl (any_of HT_.out (by kernel_rfl)) (fun _ _ _ h => h) (Or.inl ⟨by rfl, ?_⟩) ?_ ?_
    rotate_left
    · intro w'
      go_simp
      with_reducible rfl
    rotate_left
    · simp only [Act.put, List.setIfInBounds_toArray, List.set_cons_zero, List.set_cons_succ, i64_w, i32_w]
      rfl
    refine pure_ (i := 11) (N := some 26) (v := undef) (a' := ?_) #[true, true, true, true, true, true, true, true, true, true, true, true, false, false, false, false, false, false, false, false, false, false, false] rfl rfl (any_of HT_.out (by kernel_rfl)) (fun _ _ _ h => h) (Or.inr ⟨by rfl, rfl⟩) ?_ ?_
    rotate_left
    · simp only [Act.put, List.setIfInBounds_toArray, List.set_cons_zero, List.set_cons_succ, i64_w, i32_w]
      rfl
    refine pure_ (i := 12) (N := some 27) (v := undef) (a' := ?_) #[true, true, true, true, true, true, true, true, true, true, true, true, true, false, false, false, false, false, false, false, false, false, false] rfl rfl (any_of HT_.out (by kernel_rfl)) (fun _ _ _ h => h) (Or.inr ⟨by rfl, rfl⟩) ?_ ?_
    rotate_left
    · simp only [Act.put, List.setIfInBounds_toArray, List.set_cons_zero, List.set_cons_succ, i64_w, i32_w]
      rfl
    refine pure_ (i := 13) (N := some 28) (v := undef) (a' := ?_) #[true, true, true, true, true, true, true, true, true, true, true, true, true, true, false, false, false, false, false, false, false, false, false] rfl rfl (any_of HT_.out (by kernel_rfl)) (fun _ _ _ h => h) (Or.inr ⟨by rfl, rfl⟩) ?_ ?_
    rotate_left
    · simp only [Act.put, List.setIfInBounds_toArray, List.set_cons_zero, List.set_cons_succ, i64_w, i32_w]
      rfl
    refine pure_ (i := 14) (N := some 29) (v := ?_) (a' := ?_) #[true, true, true, true, true, true, true, true, true, true, true, true, true, true, true, false, false, false, false, false, false, false, false] rfl rfl (any_of HT_.out (by kernel_rfl)) (fun _ _ _ h => h) (Or.inl ⟨by rfl, ?_⟩) ?_ ?_
    rotate_left
    · intro w'
      go_simp
      with_reducible rfl
    rotate_left
    · simp only [Act.put, List.setIfInBounds_toArray, List.set_cons_zero, List.set_cons_succ, i64_w, i32_w]
      rfl
    refine pure_ (i := 15) (N := some 30) (v := ?_) (a' := ?_) #[true, true, true, true, true, true, true, true, true, true, true, true, true, true, true, true, false, false, false, false, false, false, false] rfl rfl (any_of HT_.out (by kernel_rfl)) (fun _ _ _ h => h) (Or.inl ⟨by rfl, ?_⟩) ?_ ?_
    rotate_left
    · intro w'
      go_simp
      with_reducible rfl
    rotate_left
    · simp only [Act.put, List.setIfInBounds_toArray, List.set_cons_zero, List.set_cons_succ, i64_w, i32_w]
      rfl
    refine pure_ (i := 16) (N := some 31) (v := undef) (a' := ?_) #[true, true, true, true, true, true, true, true, true, true, true, true, true, true, true, true, true, false, false, false, false, false, false] rfl rfl (any_of HT_.out (by kernel_rfl)) (fun _ _ _ h => h) (Or.inr ⟨by rfl, rfl⟩) ?_ ?_
    rotate_left
    · simp only [Act.put, List.setIfInBounds_toArray, List.set_cons_zero, List.set_cons_succ, i64_w, i32_w]
      rfl
    refine pure_ (i := 17) (N := some 32) (v := undef) (a' := ?_) #[true, true, true, true, true, true, true, true, true, true, true, true, true, true, true, true, true, true, false, false, false, false, false] rfl rfl (any_of HT_.out (by kernel_rfl)) (fun _ _ _ h => h) (Or.inr ⟨by rfl, rfl⟩) ?_ ?_
    rotate_left
    · simp only [Act.put, List.setIfInBounds_toArray, List.set_cons_zero, List.set_cons_succ, i64_w, i32_w]
      rfl
    refine pure_ (i := 18) (N := some 33) (v := undef) (a' := ?_) #[true, true, true, true, true, true, true, true, true, true, true, true, true, true, true, true, true, true, true, false, false, false, false] rfl rfl (any_of HT_.out (by kernel_rfl)) (fun _ _ _ h => h) (Or.inr ⟨by rfl, rfl⟩) ?_ ?_
    rotate_left
    · simp only [Act.put, List.setIfInBounds_toArray, List.set_cons_zero, List.set_cons_succ, i64_w, i32_w]
      rfl
    refine pure_ (i := 19) (N := some 34) (v := undef) (a' := ?_) #[true, true, true, true, true, true, true, true, true, true, true, true, true, true, true, true, true, true, true, true, false, false, false] rfl rfl (any_of HT_.out (by kernel_rfl)) (fun _ _ _ h => h) (Or.inr ⟨by rfl, rfl⟩) ?_ ?_
    rotate_left
    · simp only [Act.put, List.setIfInBounds_toArray, List.set_cons_zero, List.set_cons_succ, i64_w, i32_w]
      rfl
    refine pure_ (i := 20) (N := some 35) (v := undef) (a' := ?_) #[true, true, true, true, true, true, true, true, true, true, true, true, true, true, true, true, true, true, true, true, true, false, false] rfl rfl (any_of HT_.out (by kernel_rfl)) (fun _ _ _ h => h) (Or.inr ⟨by rfl, rfl⟩) ?_ ?_
    rotate_left
    · simp only [Act.put, List.setIfInBounds_toArray, List.set_cons_zero, List.set_cons_succ, i64_w, i32_w]
      rfl
    refine pure_ (i := 21) (N := some 36) (v := ?_) (a' := ?_) #[true, true, true, true, true, true, true, true, true, true, true, true, true, true, true, true, true, true, true, true, true, true, false] rfl rfl (any_of HT_.out (by kernel_rfl)) (fun _ _ _ h => h) (Or.inl ⟨by rfl, ?_⟩) ?_ ?_
    rotate_left
    · intro w'
      go_simp
      with_reducible rfl
    rotate_left
    · simp only [Act.put, List.setIfInBounds_toArray, List.set_cons_zero, List.set_cons_succ, i64_w, i32_w]
      rfl
    refine pure_ (i := 22) (N := some 0) (v := ?_) (a' := ?_) #[true, true, true, true, true, true, true, true, true, true, true, true, true, true, true, true, true, true, true, true, true, true, true] rfl rfl (any_of HT_.out (by kernel_rfl)) (fun _ _ _ h => h) (Or.inl ⟨by rfl, ?_⟩) ?_ ?_
    rotate_left
    · intro w'
      go_simp
      with_reducible rfl
    rotate_left
    · simp only [Act.put, List.setIfInBounds_toArray, List.set_cons_zero, List.set_cons_succ, i64_w, i32_w]
      rfl
    refine done_ (done_of HT_.out (by kernel_rfl)) ?_
    try go_wp2
    go_ret
    exact ⟨by first | rfl | (simp [errW_none, errW_some] <;> rfl) | (simp [*, errW_none, errW_some] <;> rfl), by repeat (first | (with_reducible first | exact HB.out | apply below_alloc | apply pw_below_drewN | apply below_drew1) | exact HB.out)⟩

end Go.Proofs.YtindffllmlifiaaDoor.Q
-- Written by a program of the session over the translation's print: functions as plain Lean, and that the machine's call comes to them.
namespace Go.Proofs.YtindffllmlifiaaDoor.Q
open Go.RowKit Go.Proofs.YtindffllmlifiaaDoorW.PrintWords Go.Proofs.YtindffllmlifiaaDoorW.PrintLast Go.Proofs.YtindffllmlifiaaDoorW.PrintMore
attribute [local go_sem] max2_int min2_int max_two min_two max_three min_three max_four min_four   -- for this text's walks alone
set_option linter.unusedVariables false
set_option linter.unusedSimpArgs false

-- NOT PRINTED: function 22 (value_All)

-- NOT PRINTED: function 58 (bytealg_IndexByteString)

-- NOT PRINTED: function 50 (stringslite_IndexByte)

-- NOT PRINTED: function 61 (bytealg_IndexString)

-- NOT PRINTED: function 56 (stringslite_Index)

-- NOT PRINTED: function 46 (strings_Index)

-- NOT PRINTED: function 52 (utf8_RuneCountInString)

-- NOT PRINTED: function 53 (bytealg_CountString)

-- NOT PRINTED: function 44 (strings_Count)

-- NOT PRINTED: function 59 (abi_NoEscape)

-- NOT PRINTED: function 54 (strings_Builder_copyCheck)

-- NOT PRINTED: function 60 (bytealg_MakeNoZero)

-- NOT PRINTED: function 55 (strings_Builder_grow)

-- NOT PRINTED: function 45 (strings_Builder_Grow)

-- NOT PRINTED: function 47 (strings_Builder_WriteString)

-- NOT PRINTED: function 57 (utf8_decodeRuneInStringSlow)

-- NOT PRINTED: function 48 (utf8_DecodeRuneInString)

-- NOT PRINTED: function 49 (strings_Builder_String)

-- NOT PRINTED: function 39 (strings_Replace)

-- NOT PRINTED: function 31 (strings_ReplaceAll)

/-! ### headgatelaw03_ValueKeys: function 4 -/
mutual
def headgatelaw03_ValueKeys.j0 : Nat → List (S23) → ByteArray → Bool → Option (Bool)
  | 0, _, _, _ => none
  | k + 1, x0, x1, x19 => if x19 = true then (some true) else ((value_Key.f x0).bind fun bt103 => ((headgateref03_Row.f k x0).bind fun t105 => (if (t105 != (bt103.2 == 0)) = true then (headgatelaw03_ValueKeys.j1 k x1 true) else (if bt103.2 = 0 then ((headgateref03_Key.f k x0).bind fun t106 => (if bt103.1.toList = t106.toList then (headgatelaw03_ValueKeys.j1 k x1 false) else (headgatelaw03_ValueKeys.j1 k x1 true))) else (if bt103.1.toList = ([] : List UInt8) then (headgatelaw03_ValueKeys.j1 k x1 (bt103.2 != 31)) else (headgatelaw03_ValueKeys.j1 k x1 true))))))
def headgatelaw03_ValueKeys.j1 : Nat → ByteArray → Bool → Option (Bool)
  | 0, _, _ => none
  | k + 1, x1, x51 => if x51 = true then (some false) else ((value_Unkey.f k x1).bind fun bt107 => ((headgateref03_Unkey.f k x1).bind fun bt111 => (if (bt111.2 == (bt107.2 == 0)) = true then (if bt111.2 = true then ((headgateref03_Same.f k bt107.1 bt111.1).bind fun t115 => (some t115)) else (if bt107.2 = 31 then (if (bt107.1.length : Int) = 0 then ((headgateref03_Same.f k bt107.1 bt111.1).bind fun t116 => (some t116)) else (some false)) else (some false))) else (some false))))
end
def headgatelaw03_ValueKeys.f (k : Nat) (l0 : List (S23)) (a1 : ByteArray) : Option (Bool) := (headgatelaw03_alive.f k).bind fun t101 => (if t101 = true then ((headgateref03_Big.f k l0).bind fun t102 => (if t102 = true then (headgatelaw03_ValueKeys.j0 k l0 a1 true) else (headgatelaw03_ValueKeys.j0 k l0 a1 (decide ((a1.size : Int) > 4000))))) else (some false))
set_option maxHeartbeats 8000000 in
set_option maxRecDepth 100000 in
theorem headgatelaw03_ValueKeys.calls (k : Nat) (A0 : Option Addr) (c0 : Nat) (l0 : List (S23)) (a1 : ByteArray) (r : Bool) (w : World) (hr0 : Kd.C k23 w A0 l0.length l0) (hc0 : l0.length ≤ c0) (h : headgatelaw03_ValueKeys.f k l0 a1 = some r) :
    Calls Tryd.prog 4 #[.slice A0 l0.length c0, .string a1] w fun e w' => e = .returned (.bool r) ∧ Below w.heap.size w w' := by
  have HR0 := Aside0.mk hr0
  have HC0 := Aside0.mk hc0
  clear hr0 hc0
  have HB := Aside0.mk (Below.refl w.heap.size w)
  have H : ((headgatelaw03_alive.f k).bind fun t101 => (if t101 = true then ((headgateref03_Big.f k l0).bind fun t102 => (if t102 = true then (headgatelaw03_ValueKeys.j0 k l0 a1 true) else (headgatelaw03_ValueKeys.j0 k l0 a1 (decide ((a1.size : Int) > 4000))))) else (some false))) = some r := h
  clear h
  replace H := Option.bind_eq_some_iff.mp H
  obtain ⟨t101, A30, H⟩ := H
  replace H : (if t101 = true then ((headgateref03_Big.f k l0).bind fun t102 => (if t102 = true then (headgatelaw03_ValueKeys.j0 k l0 a1 true) else (headgatelaw03_ValueKeys.j0 k l0 a1 (decide ((a1.size : Int) > 4000))))) else (some false)) = some r := H
  have A3 := Aside0.mk A30
  clear A30
  by_cases c4 : t101 = true
  · subst c4
    have H1 : ((headgateref03_Big.f k l0).bind fun t102 => (if t102 = true then (headgatelaw03_ValueKeys.j0 k l0 a1 true) else (headgatelaw03_ValueKeys.j0 k l0 a1 (decide ((a1.size : Int) > 4000))))) = some r := by rw [if_pos rfl] at H; exact H
    clear H
    have H := H1
    clear H1
    have HC5 := Aside0.mk H
    clear H
    go_enter Tryd.func4, Tryd.ntmps4
    go_upto_region 3 with (first | ((with_reducible refine gate_callee (f := 10) rfl ?_); refine goesL_ (some 11) rfl rfl Tryd.func10 (by kernel_rfl) rfl #[] rfl (by (try simp only [List.map_toArray, List.map_cons, List.map_nil]); first | done | rfl | (simp only [List.length_drop, List.length_take]; rfl) | exact congrArg (fun x_ : Int => #[Value.int .u64 x_]) (show _ = _ % (18446744073709551616 : Int) by omega)) ?_; (with_reducible refine (headgatelaw03_alive.calls k  true _ A3.out).mono ?_); rintro e w6 ⟨rfl, hb⟩; refine ⟨_, rfl, ?_⟩; have n0_ := Aside0.mk (below_step (by repeat (first | (with_reducible first | exact HB.out | apply below_alloc | apply pw_below_drewN | apply below_drew1) | exact HB.out)) hb); clear HB; have HB := n0_; clear n0_; (try clear hb); (try clear hb2); (try clear hk); (try clear hi)))
    (try simp only [Act.put, List.setIfInBounds_toArray, List.set_cons_zero, List.set_cons_succ])
    go_cut [19] (fun v19 wc => ∃ (kq : Nat) (x19_4 : Bool), v19 = .bool x19_4 ∧ Aside0 (headgatelaw03_ValueKeys.j0 kq l0 a1 x19_4 = some r) ∧ Aside0 (kq ≤ k) ∧ Aside0 (Below w.heap.size w wc))
    case first =>
      have H := HC5.out
      clear HC5
      replace H := Option.bind_eq_some_iff.mp H
      obtain ⟨t102, A70, H⟩ := H
      replace H : (if t102 = true then (headgatelaw03_ValueKeys.j0 k l0 a1 true) else (headgatelaw03_ValueKeys.j0 k l0 a1 (decide ((a1.size : Int) > 4000)))) = some r := H
      have A7 := Aside0.mk A70
      clear A70
      by_cases c8 : t102 = true
      · subst c8
        have H1 : (headgatelaw03_ValueKeys.j0 k l0 a1 true) = some r := by rw [if_pos rfl] at H; exact H
        clear H
        have H := H1
        clear H1
        have H' := Aside0.mk H
        clear H
        go_wp2_with (first | ((with_reducible refine gate_callee (f := 15) rfl ?_); refine goesL_ (some 14) rfl rfl Tryd.func15 (by kernel_rfl) rfl #[.slice A0 l0.length c0] rfl (by (try simp only [List.map_toArray, List.map_cons, List.map_nil]); first | done | rfl | (simp only [List.length_drop, List.length_take]; rfl) | exact congrArg (fun x_ : Int => #[Value.int .u64 x_]) (show _ = _ % (18446744073709551616 : Int) by omega)) ?_; (with_reducible refine (headgateref03_Big.calls k _ _ l0 true _ ?side1 ?side2 A7.out).mono ?_); (case side1 => repeat (first | exact (Kd.C_below HR0.out HB.out) | (with_reducible refine Kd.C_alloc ?_ _) | (with_reducible refine Kd.C_drewN ?_ _) | (with_reducible refine Kd.C_drew ?_))); (case side2 => exact HC0.out); rintro e w' ⟨rfl, ⟨nd, rfl⟩⟩; refine ⟨_, rfl, ?_⟩))
        go_meet
        case rel => exact ⟨_, (true), (by first | rfl | (simp; done) | (simp [*]; done) | (simp; rw [Bool.eq_iff_iff]; simp; done)), H', ⟨by first | omega | exact Nat.le_refl _⟩, ⟨by repeat (first | (with_reducible first | exact HB.out | apply below_alloc | apply pw_below_drewN | apply below_drew1) | exact HB.out)⟩⟩
      · replace c8 := Bool.eq_false_iff.mpr c8
        subst c8
        have H1 : (headgatelaw03_ValueKeys.j0 k l0 a1 (decide ((a1.size : Int) > 4000))) = some r := by rw [if_neg (show ¬ (false = true) by decide)] at H; exact H
        clear H
        have H := H1
        clear H1
        have H' := Aside0.mk H
        clear H
        go_wp2_with (first | ((with_reducible refine gate_callee (f := 15) rfl ?_); refine goesL_ (some 14) rfl rfl Tryd.func15 (by kernel_rfl) rfl #[.slice A0 l0.length c0] rfl (by (try simp only [List.map_toArray, List.map_cons, List.map_nil]); first | done | rfl | (simp only [List.length_drop, List.length_take]; rfl) | exact congrArg (fun x_ : Int => #[Value.int .u64 x_]) (show _ = _ % (18446744073709551616 : Int) by omega)) ?_; (with_reducible refine (headgateref03_Big.calls k _ _ l0 false _ ?side1 ?side2 A7.out).mono ?_); (case side1 => repeat (first | exact (Kd.C_below HR0.out HB.out) | (with_reducible refine Kd.C_alloc ?_ _) | (with_reducible refine Kd.C_drewN ?_ _) | (with_reducible refine Kd.C_drew ?_))); (case side2 => exact HC0.out); rintro e w' ⟨rfl, ⟨nd, rfl⟩⟩; refine ⟨_, rfl, ?_⟩))
        go_meet
        case rel => exact ⟨_, (decide ((a1.size : Int) > 4000)), (by first | rfl | (simp; done) | (simp [*]; done) | (simp; rw [Bool.eq_iff_iff]; simp; done)), H', ⟨by first | omega | exact Nat.le_refl _⟩, ⟨by repeat (first | (with_reducible first | exact HB.out | apply below_alloc | apply pw_below_drewN | apply below_drew1) | exact HB.out)⟩⟩
    case rest =>
      clear HC5
      try clear c1
      try clear p2
      try clear c4
      try clear c8
      obtain ⟨kq, x19_4, rfl, HA, HJ4, HB⟩ := hcut
      cases kq with
      | zero => exact absurd HA.out (by simp [headgatelaw03_ValueKeys.j0])
      | succ kj4 =>
        have H := HA.out
        clear HA
        simp only [headgatelaw03_ValueKeys.j0] at H
        by_cases c9 : x19_4 = true
        · subst c9
          have H1 : (some true) = some r := by rw [if_pos rfl] at H; exact H
          clear H
          have H := H1
          clear H1
          obtain rfl := Option.some.inj H
          go_wp2
          go_ret
          exact ⟨by first | rfl | (simp [errW_none, errW_some] <;> rfl) | (simp [*, errW_none, errW_some] <;> rfl), by repeat (first | (with_reducible first | exact HB.out | apply below_alloc | apply pw_below_drewN | apply below_drew1) | exact HB.out)⟩
        · replace c9 := Bool.eq_false_iff.mpr c9
          subst c9
          have H1 : ((value_Key.f l0).bind fun bt103 => ((headgateref03_Row.f kj4 l0).bind fun t105 => (if (t105 != (bt103.2 == 0)) = true then (headgatelaw03_ValueKeys.j1 kj4 a1 true) else (if bt103.2 = 0 then ((headgateref03_Key.f kj4 l0).bind fun t106 => (if bt103.1.toList = t106.toList then (headgatelaw03_ValueKeys.j1 kj4 a1 false) else (headgatelaw03_ValueKeys.j1 kj4 a1 true))) else (if bt103.1.toList = ([] : List UInt8) then (headgatelaw03_ValueKeys.j1 kj4 a1 (bt103.2 != 31)) else (headgatelaw03_ValueKeys.j1 kj4 a1 true)))))) = some r := by rw [if_neg (show ¬ (false = true) by decide)] at H; exact H
          clear H
          have H := H1
          clear H1
          replace H := Option.bind_eq_some_iff.mp H
          obtain ⟨⟨t103, t104⟩, A100, H⟩ := H
          replace H : ((headgateref03_Row.f kj4 l0).bind fun t105 => (if (t105 != (t104 == 0)) = true then (headgatelaw03_ValueKeys.j1 kj4 a1 true) else (if t104 = 0 then ((headgateref03_Key.f kj4 l0).bind fun t106 => (if t103.toList = t106.toList then (headgatelaw03_ValueKeys.j1 kj4 a1 false) else (headgatelaw03_ValueKeys.j1 kj4 a1 true))) else (if t103.toList = ([] : List UInt8) then (headgatelaw03_ValueKeys.j1 kj4 a1 (t104 != 31)) else (headgatelaw03_ValueKeys.j1 kj4 a1 true))))) = some r := H
          have A10 := Aside0.mk A100
          clear A100
          have HC11 := Aside0.mk H
          clear H
          go_upto_region 6 with (first | ((with_reducible refine gate_callee (f := 16) rfl ?_); refine goesL_ (some 22) rfl rfl Tryd.func16 (by kernel_rfl) rfl #[.slice A0 l0.length c0] rfl (by (try simp only [List.map_toArray, List.map_cons, List.map_nil]); first | done | rfl | (simp only [List.length_drop, List.length_take]; rfl) | exact congrArg (fun x_ : Int => #[Value.int .u64 x_]) (show _ = _ % (18446744073709551616 : Int) by omega)) ?_; (with_reducible refine (value_Key.calls _ _ l0 t103 t104 _ ?side1 ?side2 A10.out).mono ?_); (case side1 => repeat (first | exact (Kd.C_below HR0.out HB.out) | (with_reducible refine Kd.C_alloc ?_ _) | (with_reducible refine Kd.C_drewN ?_ _) | (with_reducible refine Kd.C_drew ?_))); (case side2 => exact HC0.out); rintro e w12 ⟨rfl, hb⟩; refine ⟨_, rfl, ?_⟩; have n0_ := Aside0.mk (below_step (by repeat (first | (with_reducible first | exact HB.out | apply below_alloc | apply pw_below_drewN | apply below_drew1) | exact HB.out)) hb); clear HB; have HB := n0_; clear n0_; (try clear hb); (try clear hb2); (try clear hk); (try clear hi)))
          (try simp only [Act.put, List.setIfInBounds_toArray, List.set_cons_zero, List.set_cons_succ])
          go_cut [51] (fun v51 wc => ∃ (kq : Nat) (x51_10 : Bool), v51 = .bool x51_10 ∧ Aside0 (headgatelaw03_ValueKeys.j1 kq a1 x51_10 = some r) ∧ Aside0 (kq ≤ kj4) ∧ Aside0 (Below w.heap.size w wc))
          case first =>
            have H := HC11.out
            clear HC11
            replace H := Option.bind_eq_some_iff.mp H
            obtain ⟨t105, A130, H⟩ := H
            replace H : (if (t105 != (t104 == 0)) = true then (headgatelaw03_ValueKeys.j1 kj4 a1 true) else (if t104 = 0 then ((headgateref03_Key.f kj4 l0).bind fun t106 => (if t103.toList = t106.toList then (headgatelaw03_ValueKeys.j1 kj4 a1 false) else (headgatelaw03_ValueKeys.j1 kj4 a1 true))) else (if t103.toList = ([] : List UInt8) then (headgatelaw03_ValueKeys.j1 kj4 a1 (t104 != 31)) else (headgatelaw03_ValueKeys.j1 kj4 a1 true)))) = some r := H
            have A13 := Aside0.mk A130
            clear A130
            by_cases c14 : (t105 != (t104 == 0)) = true
            · rw [if_pos c14] at H
              have c14b0 : (t105 != (t104 == 0)) = true := c14
              (try (have c14b1 : decide (t105 = (t104 == 0)) = false := by simpa using c14))
              (try (have c14b2 : (t105 == (t104 == 0)) = false := by simpa using c14))
              (try (have c14b3 : ¬ (t105 = (t104 == 0)) := by simpa using c14))
              clear c14
              (first | rw [c14b0] | (simp only [i64_w, i32_w]; rw [c14b0]) | skip)
              have H' := Aside0.mk H
              clear H
              go_wp2_with (first | ((with_reducible refine gate_callee (f := 14) rfl ?_); refine goesL_ (some 26) rfl rfl Tryd.func14 (by kernel_rfl) rfl #[.slice A0 l0.length c0] rfl (by (try simp only [List.map_toArray, List.map_cons, List.map_nil]); first | done | rfl | (simp only [List.length_drop, List.length_take]; rfl) | exact congrArg (fun x_ : Int => #[Value.int .u64 x_]) (show _ = _ % (18446744073709551616 : Int) by omega)) ?_; (with_reducible refine (headgateref03_Row.calls kj4 _ _ l0 t105 _ ?side1 ?side2 A13.out).mono ?_); (case side1 => repeat (first | exact (Kd.C_below HR0.out HB.out) | (with_reducible refine Kd.C_alloc ?_ _) | (with_reducible refine Kd.C_drewN ?_ _) | (with_reducible refine Kd.C_drew ?_))); (case side2 => exact HC0.out); rintro e w15 ⟨rfl, hb⟩; refine ⟨_, rfl, ?_⟩; have n0_ := Aside0.mk (below_step (by repeat (first | (with_reducible first | exact HB.out | apply below_alloc | apply pw_below_drewN | apply below_drew1) | exact HB.out)) hb); clear HB; have HB := n0_; clear n0_; (try clear hb); (try clear hb2); (try clear hk); (try clear hi)))
              go_meet
              case rel => exact ⟨_, (true), (by first | rfl | (simp; done) | (simp [*]; done) | (simp; rw [Bool.eq_iff_iff]; simp; done)), H', ⟨by have := HJ4.out; first | omega | exact Nat.le_refl _⟩, ⟨by repeat (first | (with_reducible first | exact HB.out | apply below_alloc | apply pw_below_drewN | apply below_drew1) | exact HB.out)⟩⟩
            · rw [if_neg c14] at H
              have c14b0 : (t105 != (t104 == 0)) = false := by simpa using c14
              (try (have c14b1 : decide (t105 = (t104 == 0)) = true := by simpa using c14))
              (try (have c14b2 : (t105 == (t104 == 0)) = true := by simpa using c14))
              clear c14
              (first | rw [c14b0] | (simp only [i64_w, i32_w]; rw [c14b0]) | skip)
              by_cases c16 : t104 = 0
              · rw [if_pos c16] at H
                have c16b0 : (t104 == 0) = true := beq_iff_eq.mpr c16
                have c16b1 : (t104 != 0) = false := bne_eq_false_iff_eq.mpr c16
                clear c16
                have g105 : t105 = true := by cases t105 with | true => rfl | false => (rw [c16b0] at c14b2; exact absurd c14b2 (by decide))
                replace H := Option.bind_eq_some_iff.mp H
                obtain ⟨t106, A170, H⟩ := H
                replace H : (if t103.toList = t106.toList then (headgatelaw03_ValueKeys.j1 kj4 a1 false) else (headgatelaw03_ValueKeys.j1 kj4 a1 true)) = some r := H
                have A17 := Aside0.mk A170
                clear A170
                by_cases c18 : t103.toList = t106.toList
                · rw [if_pos c18] at H
                  have c18b0 : (t103.toList == t106.toList) = true := beq_iff_eq.mpr c18
                  have c18b1 : (t103.toList != t106.toList) = false := bne_eq_false_iff_eq.mpr c18
                  clear c18
                  have H' := Aside0.mk H
                  clear H
                  go_wp2_with (first | ((with_reducible refine gate_callee (f := 14) rfl ?_); refine goesL_ (some 26) rfl rfl Tryd.func14 (by kernel_rfl) rfl #[.slice A0 l0.length c0] rfl (by (try simp only [List.map_toArray, List.map_cons, List.map_nil]); first | done | rfl | (simp only [List.length_drop, List.length_take]; rfl) | exact congrArg (fun x_ : Int => #[Value.int .u64 x_]) (show _ = _ % (18446744073709551616 : Int) by omega)) ?_; (with_reducible refine (headgateref03_Row.calls kj4 _ _ l0 t105 _ ?side1 ?side2 A13.out).mono ?_); (case side1 => repeat (first | exact (Kd.C_below HR0.out HB.out) | (with_reducible refine Kd.C_alloc ?_ _) | (with_reducible refine Kd.C_drewN ?_ _) | (with_reducible refine Kd.C_drew ?_))); (case side2 => exact HC0.out); rintro e w19 ⟨rfl, hb⟩; refine ⟨_, rfl, ?_⟩; have n0_ := Aside0.mk (below_step (by repeat (first | (with_reducible first | exact HB.out | apply below_alloc | apply pw_below_drewN | apply below_drew1) | exact HB.out)) hb); clear HB; have HB := n0_; clear n0_; (try clear hb); (try clear hb2); (try clear hk); (try clear hi)) | (go_at_call 17; (with_reducible refine (headgateref03_Key.calls kj4 _ _ l0 t106 _ ?side1 ?side2 A17.out).mono ?_); (case side1 => repeat (first | exact (Kd.C_below HR0.out HB.out) | (with_reducible refine Kd.C_alloc ?_ _) | (with_reducible refine Kd.C_drewN ?_ _) | (with_reducible refine Kd.C_drew ?_))); (case side2 => exact HC0.out); rintro e w20 ⟨rfl, hb⟩; have n0_ := Aside0.mk (below_step (by repeat (first | (with_reducible first | exact HB.out | apply below_alloc | apply pw_below_drewN | apply below_drew1) | exact HB.out)) hb); clear HB; have HB := n0_; clear n0_; (try clear hb); (try clear hb2); (try clear hk); (try clear hi)))
                  go_meet
                  case rel => exact ⟨_, (false), (by first | rfl | (simp; done) | (simp [*]; done) | (simp; rw [Bool.eq_iff_iff]; simp; done)), H', ⟨by have := HJ4.out; first | omega | exact Nat.le_refl _⟩, ⟨by repeat (first | (with_reducible first | exact HB.out | apply below_alloc | apply pw_below_drewN | apply below_drew1) | exact HB.out)⟩⟩
                · rw [if_neg c18] at H
                  have c18b0 : (t103.toList == t106.toList) = false := beq_eq_false_iff_ne.mpr c18
                  have c18b1 : (t103.toList != t106.toList) = true := bne_iff_ne.mpr c18
                  have H' := Aside0.mk H
                  clear H
                  go_wp2_with (first | ((with_reducible refine gate_callee (f := 14) rfl ?_); refine goesL_ (some 26) rfl rfl Tryd.func14 (by kernel_rfl) rfl #[.slice A0 l0.length c0] rfl (by (try simp only [List.map_toArray, List.map_cons, List.map_nil]); first | done | rfl | (simp only [List.length_drop, List.length_take]; rfl) | exact congrArg (fun x_ : Int => #[Value.int .u64 x_]) (show _ = _ % (18446744073709551616 : Int) by omega)) ?_; (with_reducible refine (headgateref03_Row.calls kj4 _ _ l0 t105 _ ?side1 ?side2 A13.out).mono ?_); (case side1 => repeat (first | exact (Kd.C_below HR0.out HB.out) | (with_reducible refine Kd.C_alloc ?_ _) | (with_reducible refine Kd.C_drewN ?_ _) | (with_reducible refine Kd.C_drew ?_))); (case side2 => exact HC0.out); rintro e w21 ⟨rfl, hb⟩; refine ⟨_, rfl, ?_⟩; have n0_ := Aside0.mk (below_step (by repeat (first | (with_reducible first | exact HB.out | apply below_alloc | apply pw_below_drewN | apply below_drew1) | exact HB.out)) hb); clear HB; have HB := n0_; clear n0_; (try clear hb); (try clear hb2); (try clear hk); (try clear hi)) | (go_at_call 17; (with_reducible refine (headgateref03_Key.calls kj4 _ _ l0 t106 _ ?side1 ?side2 A17.out).mono ?_); (case side1 => repeat (first | exact (Kd.C_below HR0.out HB.out) | (with_reducible refine Kd.C_alloc ?_ _) | (with_reducible refine Kd.C_drewN ?_ _) | (with_reducible refine Kd.C_drew ?_))); (case side2 => exact HC0.out); rintro e w22 ⟨rfl, hb⟩; have n0_ := Aside0.mk (below_step (by repeat (first | (with_reducible first | exact HB.out | apply below_alloc | apply pw_below_drewN | apply below_drew1) | exact HB.out)) hb); clear HB; have HB := n0_; clear n0_; (try clear hb); (try clear hb2); (try clear hk); (try clear hi)))
                  go_meet
                  case rel => exact ⟨_, (true), (by first | rfl | (simp; done) | (simp [*]; done) | (simp; rw [Bool.eq_iff_iff]; simp; done)), H', ⟨by have := HJ4.out; first | omega | exact Nat.le_refl _⟩, ⟨by repeat (first | (with_reducible first | exact HB.out | apply below_alloc | apply pw_below_drewN | apply below_drew1) | exact HB.out)⟩⟩
              · rw [if_neg c16] at H
                have c16b0 : (t104 == 0) = false := beq_eq_false_iff_ne.mpr c16
                have c16b1 : (t104 != 0) = true := bne_iff_ne.mpr c16
                have g105 : t105 = false := by cases t105 with | false => rfl | true => (rw [c16b0] at c14b2; exact absurd c14b2 (by decide))
                by_cases c23 : t103.toList = ([] : List UInt8)
                · rw [if_pos c23] at H
                  have c23b0 : (t103.toList == ([] : List UInt8)) = true := beq_iff_eq.mpr c23
                  have c23b1 : (t103.toList != ([] : List UInt8)) = false := bne_eq_false_iff_eq.mpr c23
                  clear c23
                  have H' := Aside0.mk H
                  clear H
                  go_wp2_with (first | ((with_reducible refine gate_callee (f := 14) rfl ?_); refine goesL_ (some 26) rfl rfl Tryd.func14 (by kernel_rfl) rfl #[.slice A0 l0.length c0] rfl (by (try simp only [List.map_toArray, List.map_cons, List.map_nil]); first | done | rfl | (simp only [List.length_drop, List.length_take]; rfl) | exact congrArg (fun x_ : Int => #[Value.int .u64 x_]) (show _ = _ % (18446744073709551616 : Int) by omega)) ?_; (with_reducible refine (headgateref03_Row.calls kj4 _ _ l0 t105 _ ?side1 ?side2 A13.out).mono ?_); (case side1 => repeat (first | exact (Kd.C_below HR0.out HB.out) | (with_reducible refine Kd.C_alloc ?_ _) | (with_reducible refine Kd.C_drewN ?_ _) | (with_reducible refine Kd.C_drew ?_))); (case side2 => exact HC0.out); rintro e w24 ⟨rfl, hb⟩; refine ⟨_, rfl, ?_⟩; have n0_ := Aside0.mk (below_step (by repeat (first | (with_reducible first | exact HB.out | apply below_alloc | apply pw_below_drewN | apply below_drew1) | exact HB.out)) hb); clear HB; have HB := n0_; clear n0_; (try clear hb); (try clear hb2); (try clear hk); (try clear hi)))
                  go_meet
                  case rel => exact ⟨_, ((t104 != 31)), (by first | rfl | (simp; done) | (simp [*]; done) | (simp; rw [Bool.eq_iff_iff]; simp; done)), H', ⟨by have := HJ4.out; first | omega | exact Nat.le_refl _⟩, ⟨by repeat (first | (with_reducible first | exact HB.out | apply below_alloc | apply pw_below_drewN | apply below_drew1) | exact HB.out)⟩⟩
                · rw [if_neg c23] at H
                  have c23b0 : (t103.toList == ([] : List UInt8)) = false := beq_eq_false_iff_ne.mpr c23
                  have c23b1 : (t103.toList != ([] : List UInt8)) = true := bne_iff_ne.mpr c23
                  have H' := Aside0.mk H
                  clear H
                  go_wp2_with (first | ((with_reducible refine gate_callee (f := 14) rfl ?_); refine goesL_ (some 26) rfl rfl Tryd.func14 (by kernel_rfl) rfl #[.slice A0 l0.length c0] rfl (by (try simp only [List.map_toArray, List.map_cons, List.map_nil]); first | done | rfl | (simp only [List.length_drop, List.length_take]; rfl) | exact congrArg (fun x_ : Int => #[Value.int .u64 x_]) (show _ = _ % (18446744073709551616 : Int) by omega)) ?_; (with_reducible refine (headgateref03_Row.calls kj4 _ _ l0 t105 _ ?side1 ?side2 A13.out).mono ?_); (case side1 => repeat (first | exact (Kd.C_below HR0.out HB.out) | (with_reducible refine Kd.C_alloc ?_ _) | (with_reducible refine Kd.C_drewN ?_ _) | (with_reducible refine Kd.C_drew ?_))); (case side2 => exact HC0.out); rintro e w25 ⟨rfl, hb⟩; refine ⟨_, rfl, ?_⟩; have n0_ := Aside0.mk (below_step (by repeat (first | (with_reducible first | exact HB.out | apply below_alloc | apply pw_below_drewN | apply below_drew1) | exact HB.out)) hb); clear HB; have HB := n0_; clear n0_; (try clear hb); (try clear hb2); (try clear hk); (try clear hi)))
                  go_meet
                  case rel => exact ⟨_, (true), (by first | rfl | (simp; done) | (simp [*]; done) | (simp; rw [Bool.eq_iff_iff]; simp; done)), H', ⟨by have := HJ4.out; first | omega | exact Nat.le_refl _⟩, ⟨by repeat (first | (with_reducible first | exact HB.out | apply below_alloc | apply pw_below_drewN | apply below_drew1) | exact HB.out)⟩⟩
          case rest =>
            clear HC11
            try clear c1
            try clear c2
            try clear p2
            try clear c4
            try clear c8
            try clear c9
            try clear c10
            try clear c14
            try clear c14b0
            try clear c14b1
            try clear c14b2
            try clear c15
            try clear c16
            try clear c16b0
            try clear c16b1
            try clear c18
            try clear c18b0
            try clear c18b1
            try clear c23
            try clear c23b0
            try clear c23b1
            try clear p2
            obtain ⟨kq, x51_10, rfl, HA, HJ10, HB⟩ := hcut
            cases kq with
            | zero => exact absurd HA.out (by simp [headgatelaw03_ValueKeys.j1])
            | succ kj10 =>
              have H := HA.out
              clear HA
              simp only [headgatelaw03_ValueKeys.j1] at H
              by_cases c26 : x51_10 = true
              · subst c26
                have H1 : (some false) = some r := by rw [if_pos rfl] at H; exact H
                clear H
                have H := H1
                clear H1
                obtain rfl := Option.some.inj H
                go_wp2
                go_ret
                exact ⟨by first | rfl | (simp [errW_none, errW_some] <;> rfl) | (simp [*, errW_none, errW_some] <;> rfl), by repeat (first | (with_reducible first | exact HB.out | apply below_alloc | apply pw_below_drewN | apply below_drew1) | exact HB.out)⟩
              · replace c26 := Bool.eq_false_iff.mpr c26
                subst c26
                have H1 : ((value_Unkey.f kj10 a1).bind fun bt107 => ((headgateref03_Unkey.f kj10 a1).bind fun bt111 => (if (bt111.2 == (bt107.2 == 0)) = true then (if bt111.2 = true then ((headgateref03_Same.f kj10 bt107.1 bt111.1).bind fun t115 => (some t115)) else (if bt107.2 = 31 then (if (bt107.1.length : Int) = 0 then ((headgateref03_Same.f kj10 bt107.1 bt111.1).bind fun t116 => (some t116)) else (some false)) else (some false))) else (some false)))) = some r := by rw [if_neg (show ¬ (false = true) by decide)] at H; exact H
                clear H
                have H := H1
                clear H1
                replace H := Option.bind_eq_some_iff.mp H
                obtain ⟨⟨t107, t108⟩, A270, H⟩ := H
                replace H : ((headgateref03_Unkey.f kj10 a1).bind fun bt111 => (if (bt111.2 == (t108 == 0)) = true then (if bt111.2 = true then ((headgateref03_Same.f kj10 t107 bt111.1).bind fun t115 => (some t115)) else (if t108 = 31 then (if (t107.length : Int) = 0 then ((headgateref03_Same.f kj10 t107 bt111.1).bind fun t116 => (some t116)) else (some false)) else (some false))) else (some false))) = some r := H
                have A27 := Aside0.mk A270
                clear A270
                replace H := Option.bind_eq_some_iff.mp H
                obtain ⟨⟨t111, t112⟩, A280, H⟩ := H
                replace H : (if (t112 == (t108 == 0)) = true then (if t112 = true then ((headgateref03_Same.f kj10 t107 t111).bind fun t115 => (some t115)) else (if t108 = 31 then (if (t107.length : Int) = 0 then ((headgateref03_Same.f kj10 t107 t111).bind fun t116 => (some t116)) else (some false)) else (some false))) else (some false)) = some r := H
                have A28 := Aside0.mk A280
                clear A280
                by_cases c29 : (t112 == (t108 == 0)) = true
                · rw [if_pos c29] at H
                  have c29b0 : (t112 == (t108 == 0)) = true := c29
                  (try (have c29b1 : decide (t112 = (t108 == 0)) = true := by simpa using c29))
                  (try (have c29b2 : (t112 == (t108 == 0)) = true := by simpa using c29))
                  clear c29
                  by_cases c30 : t112 = true
                  · subst c30
                    have H1 : ((headgateref03_Same.f kj10 t107 t111).bind fun t115 => (some t115)) = some r := by rw [if_pos rfl] at H; exact H
                    clear H
                    have H := H1
                    clear H1
                    replace H := Option.bind_eq_some_iff.mp H
                    obtain ⟨t115, A310, H⟩ := H
                    replace H : (some t115) = some r := H
                    have A31 := Aside0.mk A310
                    clear A310
                    obtain rfl := Option.some.inj H
                    go_wp2_with (first | ((with_reducible refine gate_callee (f := 18) rfl ?_); refine goesL_ (some 54) rfl rfl Tryd.func18 (by kernel_rfl) rfl #[.string a1] rfl (by (try simp only [List.map_toArray, List.map_cons, List.map_nil]); first | done | rfl | (simp only [List.length_drop, List.length_take]; rfl) | exact congrArg (fun x_ : Int => #[Value.int .u64 x_]) (show _ = _ % (18446744073709551616 : Int) by omega)) ?_; (with_reducible refine (value_Unkey.calls kj10 a1 t107 t108 _ A27.out).mono ?_); rintro e w32 ⟨v109, rfl, ho0, hb⟩; refine ⟨_, rfl, ?_⟩; have n0_ := Aside0.mk (Kd.R_lower ho0 (below_size (by repeat (first | (with_reducible first | exact HB.out | apply below_alloc | apply pw_below_drewN | apply below_drew1) | exact HB.out)))); have n1_ := Aside0.mk (below_step (by repeat (first | (with_reducible first | exact HB.out | apply below_alloc | apply pw_below_drewN | apply below_drew1) | exact HB.out)) hb); clear HB; have HO110 := n0_; have HB := n1_; clear n0_ n1_; (try clear hb); (try clear hb2); (try clear hk); (try clear hi); (try clear ho0)) | ((with_reducible refine gate_callee (f := 19) rfl ?_); refine goesL_ (some 59) rfl rfl Tryd.func19 (by kernel_rfl) rfl #[.string a1] rfl (by (try simp only [List.map_toArray, List.map_cons, List.map_nil]); first | done | rfl | (simp only [List.length_drop, List.length_take]; rfl) | exact congrArg (fun x_ : Int => #[Value.int .u64 x_]) (show _ = _ % (18446744073709551616 : Int) by omega)) ?_; (with_reducible refine (headgateref03_Unkey.calls kj10 a1 t111 true _ A28.out).mono ?_); rintro e w33 ⟨v113, rfl, ho0, hb⟩; refine ⟨_, rfl, ?_⟩; have n0_ := Aside0.mk (Kd.R_elder' (by (with_reducible repeat (first | apply Kd.R_alloc | apply Kd.R_drewN | apply Kd.R_drew)); exact HO110.out) (Kd.R_base ho0) hb); have n1_ := Aside0.mk (Kd.R_lower (Kd.R_new' ho0 (Kd.R_lt (by (with_reducible repeat (first | apply Kd.R_alloc | apply Kd.R_drewN | apply Kd.R_drew)); exact HO110.out))) (below_size (by repeat (first | (with_reducible first | exact HB.out | apply below_alloc | apply pw_below_drewN | apply below_drew1) | exact HB.out)))); have n2_ := Aside0.mk (below_step (by repeat (first | (with_reducible first | exact HB.out | apply below_alloc | apply pw_below_drewN | apply below_drew1) | exact HB.out)) hb); clear HO110; clear HB; have HO110 := n0_; have HO114 := n1_; have HB := n2_; clear n0_ n1_ n2_; (try clear hb); (try clear hb2); (try clear hk); (try clear hi); (try clear ho0); obtain ⟨Ao34, co34, eo34⟩ := Kd.R_slice HO110.out; subst eo34; obtain ⟨Ao35, co35, eo35⟩ := Kd.R_slice HO114.out; subst eo35) | (go_at_call 20; (with_reducible refine (headgateref03_Same.calls kj10 _ _ t107 _ _ t111 t115 _ ?side1 ?side2 ?side3 ?side4 A31.out).mono ?_); (case side1 => repeat (first | exact (Kd.R_reads' HO110.out).2.2 | (with_reducible refine Kd.C_alloc ?_ _) | (with_reducible refine Kd.C_drewN ?_ _) | (with_reducible refine Kd.C_drew ?_))); (case side2 => exact (Kd.R_reads' HO110.out).2.1); (case side3 => repeat (first | exact (Kd.R_reads' HO114.out).2.2 | (with_reducible refine Kd.C_alloc ?_ _) | (with_reducible refine Kd.C_drewN ?_ _) | (with_reducible refine Kd.C_drew ?_))); (case side4 => exact (Kd.R_reads' HO114.out).2.1); rintro e w36 ⟨rfl, hb⟩; have n0_ := Aside0.mk (Kd.R_below (by (with_reducible repeat (first | apply Kd.R_alloc | apply Kd.R_drewN | apply Kd.R_drew)); exact HO110.out) hb); have n1_ := Aside0.mk (Kd.R_below (by (with_reducible repeat (first | apply Kd.R_alloc | apply Kd.R_drewN | apply Kd.R_drew)); exact HO114.out) hb); have n2_ := Aside0.mk (below_step (by repeat (first | (with_reducible first | exact HB.out | apply below_alloc | apply pw_below_drewN | apply below_drew1) | exact HB.out)) hb); clear HO110; clear HO114; clear HB; have HO110 := n0_; have HO114 := n1_; have HB := n2_; clear n0_ n1_ n2_; (try clear hb); (try clear hb2); (try clear hk); (try clear hi)))
                    go_ret
                    exact ⟨by first | rfl | (simp [errW_none, errW_some] <;> rfl) | (simp [*, errW_none, errW_some] <;> rfl), by repeat (first | (with_reducible first | exact HB.out | apply below_alloc | apply pw_below_drewN | apply below_drew1) | exact HB.out)⟩
                  · replace c30 := Bool.eq_false_iff.mpr c30
                    subst c30
                    have H1 : (if t108 = 31 then (if (t107.length : Int) = 0 then ((headgateref03_Same.f kj10 t107 t111).bind fun t116 => (some t116)) else (some false)) else (some false)) = some r := by rw [if_neg (show ¬ (false = true) by decide)] at H; exact H
                    clear H
                    have H := H1
                    clear H1
                    by_cases c37 : t108 = 31
                    · rw [if_pos c37] at H
                      have c37b0 : (t108 == 31) = true := beq_iff_eq.mpr c37
                      have c37b1 : (t108 != 31) = false := bne_eq_false_iff_eq.mpr c37
                      clear c37
                      by_cases c38 : (t107.length : Int) = 0
                      · rw [if_pos c38] at H
                        have c38b0 : ((t107.length : Int) == 0) = true := beq_iff_eq.mpr c38
                        have c38b1 : ((t107.length : Int) != 0) = false := bne_eq_false_iff_eq.mpr c38
                        clear c38
                        replace H := Option.bind_eq_some_iff.mp H
                        obtain ⟨t116, A390, H⟩ := H
                        replace H : (some t116) = some r := H
                        have A39 := Aside0.mk A390
                        clear A390
                        obtain rfl := Option.some.inj H
                        go_wp2_with (first | ((with_reducible refine gate_callee (f := 18) rfl ?_); refine goesL_ (some 54) rfl rfl Tryd.func18 (by kernel_rfl) rfl #[.string a1] rfl (by (try simp only [List.map_toArray, List.map_cons, List.map_nil]); first | done | rfl | (simp only [List.length_drop, List.length_take]; rfl) | exact congrArg (fun x_ : Int => #[Value.int .u64 x_]) (show _ = _ % (18446744073709551616 : Int) by omega)) ?_; (with_reducible refine (value_Unkey.calls kj10 a1 t107 t108 _ A27.out).mono ?_); rintro e w40 ⟨v109, rfl, ho0, hb⟩; refine ⟨_, rfl, ?_⟩; have n0_ := Aside0.mk (Kd.R_lower ho0 (below_size (by repeat (first | (with_reducible first | exact HB.out | apply below_alloc | apply pw_below_drewN | apply below_drew1) | exact HB.out)))); have n1_ := Aside0.mk (below_step (by repeat (first | (with_reducible first | exact HB.out | apply below_alloc | apply pw_below_drewN | apply below_drew1) | exact HB.out)) hb); clear HB; have HO110 := n0_; have HB := n1_; clear n0_ n1_; (try clear hb); (try clear hb2); (try clear hk); (try clear hi); (try clear ho0)) | ((with_reducible refine gate_callee (f := 19) rfl ?_); refine goesL_ (some 59) rfl rfl Tryd.func19 (by kernel_rfl) rfl #[.string a1] rfl (by (try simp only [List.map_toArray, List.map_cons, List.map_nil]); first | done | rfl | (simp only [List.length_drop, List.length_take]; rfl) | exact congrArg (fun x_ : Int => #[Value.int .u64 x_]) (show _ = _ % (18446744073709551616 : Int) by omega)) ?_; (with_reducible refine (headgateref03_Unkey.calls kj10 a1 t111 false _ A28.out).mono ?_); rintro e w41 ⟨v113, rfl, ho0, hb⟩; refine ⟨_, rfl, ?_⟩; have n0_ := Aside0.mk (Kd.R_elder' (by (with_reducible repeat (first | apply Kd.R_alloc | apply Kd.R_drewN | apply Kd.R_drew)); exact HO110.out) (Kd.R_base ho0) hb); have n1_ := Aside0.mk (Kd.R_lower (Kd.R_new' ho0 (Kd.R_lt (by (with_reducible repeat (first | apply Kd.R_alloc | apply Kd.R_drewN | apply Kd.R_drew)); exact HO110.out))) (below_size (by repeat (first | (with_reducible first | exact HB.out | apply below_alloc | apply pw_below_drewN | apply below_drew1) | exact HB.out)))); have n2_ := Aside0.mk (below_step (by repeat (first | (with_reducible first | exact HB.out | apply below_alloc | apply pw_below_drewN | apply below_drew1) | exact HB.out)) hb); clear HO110; clear HB; have HO110 := n0_; have HO114 := n1_; have HB := n2_; clear n0_ n1_ n2_; (try clear hb); (try clear hb2); (try clear hk); (try clear hi); (try clear ho0); obtain ⟨Ao42, co42, eo42⟩ := Kd.R_slice HO110.out; subst eo42; obtain ⟨Ao43, co43, eo43⟩ := Kd.R_slice HO114.out; subst eo43) | (go_at_call 20; (with_reducible refine (headgateref03_Same.calls kj10 _ _ t107 _ _ t111 t116 _ ?side1 ?side2 ?side3 ?side4 A39.out).mono ?_); (case side1 => repeat (first | exact (Kd.R_reads' HO110.out).2.2 | (with_reducible refine Kd.C_alloc ?_ _) | (with_reducible refine Kd.C_drewN ?_ _) | (with_reducible refine Kd.C_drew ?_))); (case side2 => exact (Kd.R_reads' HO110.out).2.1); (case side3 => repeat (first | exact (Kd.R_reads' HO114.out).2.2 | (with_reducible refine Kd.C_alloc ?_ _) | (with_reducible refine Kd.C_drewN ?_ _) | (with_reducible refine Kd.C_drew ?_))); (case side4 => exact (Kd.R_reads' HO114.out).2.1); rintro e w44 ⟨rfl, hb⟩; have n0_ := Aside0.mk (Kd.R_below (by (with_reducible repeat (first | apply Kd.R_alloc | apply Kd.R_drewN | apply Kd.R_drew)); exact HO110.out) hb); have n1_ := Aside0.mk (Kd.R_below (by (with_reducible repeat (first | apply Kd.R_alloc | apply Kd.R_drewN | apply Kd.R_drew)); exact HO114.out) hb); have n2_ := Aside0.mk (below_step (by repeat (first | (with_reducible first | exact HB.out | apply below_alloc | apply pw_below_drewN | apply below_drew1) | exact HB.out)) hb); clear HO110; clear HO114; clear HB; have HO110 := n0_; have HO114 := n1_; have HB := n2_; clear n0_ n1_ n2_; (try clear hb); (try clear hb2); (try clear hk); (try clear hi)))
                        go_ret
                        exact ⟨by first | rfl | (simp [errW_none, errW_some] <;> rfl) | (simp [*, errW_none, errW_some] <;> rfl), by repeat (first | (with_reducible first | exact HB.out | apply below_alloc | apply pw_below_drewN | apply below_drew1) | exact HB.out)⟩
                      · rw [if_neg c38] at H
                        have c38b0 : ((t107.length : Int) == 0) = false := beq_eq_false_iff_ne.mpr c38
                        have c38b1 : ((t107.length : Int) != 0) = true := bne_iff_ne.mpr c38
                        have c38b2 : ¬ (t107 = []) := fun h_ => c38 (by rw [h_]; rfl)
                        obtain rfl := Option.some.inj H
                        go_wp2_with (first | ((with_reducible refine gate_callee (f := 18) rfl ?_); refine goesL_ (some 54) rfl rfl Tryd.func18 (by kernel_rfl) rfl #[.string a1] rfl (by (try simp only [List.map_toArray, List.map_cons, List.map_nil]); first | done | rfl | (simp only [List.length_drop, List.length_take]; rfl) | exact congrArg (fun x_ : Int => #[Value.int .u64 x_]) (show _ = _ % (18446744073709551616 : Int) by omega)) ?_; (with_reducible refine (value_Unkey.calls kj10 a1 t107 t108 _ A27.out).mono ?_); rintro e w45 ⟨v109, rfl, ho0, hb⟩; refine ⟨_, rfl, ?_⟩; have n0_ := Aside0.mk (Kd.R_lower ho0 (below_size (by repeat (first | (with_reducible first | exact HB.out | apply below_alloc | apply pw_below_drewN | apply below_drew1) | exact HB.out)))); have n1_ := Aside0.mk (below_step (by repeat (first | (with_reducible first | exact HB.out | apply below_alloc | apply pw_below_drewN | apply below_drew1) | exact HB.out)) hb); clear HB; have HO110 := n0_; have HB := n1_; clear n0_ n1_; (try clear hb); (try clear hb2); (try clear hk); (try clear hi); (try clear ho0)) | ((with_reducible refine gate_callee (f := 19) rfl ?_); refine goesL_ (some 59) rfl rfl Tryd.func19 (by kernel_rfl) rfl #[.string a1] rfl (by (try simp only [List.map_toArray, List.map_cons, List.map_nil]); first | done | rfl | (simp only [List.length_drop, List.length_take]; rfl) | exact congrArg (fun x_ : Int => #[Value.int .u64 x_]) (show _ = _ % (18446744073709551616 : Int) by omega)) ?_; (with_reducible refine (headgateref03_Unkey.calls kj10 a1 t111 false _ A28.out).mono ?_); rintro e w46 ⟨v113, rfl, ho0, hb⟩; refine ⟨_, rfl, ?_⟩; have n0_ := Aside0.mk (Kd.R_elder' (by (with_reducible repeat (first | apply Kd.R_alloc | apply Kd.R_drewN | apply Kd.R_drew)); exact HO110.out) (Kd.R_base ho0) hb); have n1_ := Aside0.mk (Kd.R_lower (Kd.R_new' ho0 (Kd.R_lt (by (with_reducible repeat (first | apply Kd.R_alloc | apply Kd.R_drewN | apply Kd.R_drew)); exact HO110.out))) (below_size (by repeat (first | (with_reducible first | exact HB.out | apply below_alloc | apply pw_below_drewN | apply below_drew1) | exact HB.out)))); have n2_ := Aside0.mk (below_step (by repeat (first | (with_reducible first | exact HB.out | apply below_alloc | apply pw_below_drewN | apply below_drew1) | exact HB.out)) hb); clear HO110; clear HB; have HO110 := n0_; have HO114 := n1_; have HB := n2_; clear n0_ n1_ n2_; (try clear hb); (try clear hb2); (try clear hk); (try clear hi); (try clear ho0); obtain ⟨Ao47, co47, eo47⟩ := Kd.R_slice HO110.out; subst eo47))
                        go_ret
                        exact ⟨by first | rfl | (simp [errW_none, errW_some] <;> rfl) | (simp [*, errW_none, errW_some] <;> rfl), by repeat (first | (with_reducible first | exact HB.out | apply below_alloc | apply pw_below_drewN | apply below_drew1) | exact HB.out)⟩
                    · rw [if_neg c37] at H
                      have c37b0 : (t108 == 31) = false := beq_eq_false_iff_ne.mpr c37
                      have c37b1 : (t108 != 31) = true := bne_iff_ne.mpr c37
                      obtain rfl := Option.some.inj H
                      go_wp2_with (first | ((with_reducible refine gate_callee (f := 18) rfl ?_); refine goesL_ (some 54) rfl rfl Tryd.func18 (by kernel_rfl) rfl #[.string a1] rfl (by (try simp only [List.map_toArray, List.map_cons, List.map_nil]); first | done | rfl | (simp only [List.length_drop, List.length_take]; rfl) | exact congrArg (fun x_ : Int => #[Value.int .u64 x_]) (show _ = _ % (18446744073709551616 : Int) by omega)) ?_; (with_reducible refine (value_Unkey.calls kj10 a1 t107 t108 _ A27.out).mono ?_); rintro e w48 ⟨v109, rfl, ho0, hb⟩; refine ⟨_, rfl, ?_⟩; have n0_ := Aside0.mk (Kd.R_lower ho0 (below_size (by repeat (first | (with_reducible first | exact HB.out | apply below_alloc | apply pw_below_drewN | apply below_drew1) | exact HB.out)))); have n1_ := Aside0.mk (below_step (by repeat (first | (with_reducible first | exact HB.out | apply below_alloc | apply pw_below_drewN | apply below_drew1) | exact HB.out)) hb); clear HB; have HO110 := n0_; have HB := n1_; clear n0_ n1_; (try clear hb); (try clear hb2); (try clear hk); (try clear hi); (try clear ho0)) | ((with_reducible refine gate_callee (f := 19) rfl ?_); refine goesL_ (some 59) rfl rfl Tryd.func19 (by kernel_rfl) rfl #[.string a1] rfl (by (try simp only [List.map_toArray, List.map_cons, List.map_nil]); first | done | rfl | (simp only [List.length_drop, List.length_take]; rfl) | exact congrArg (fun x_ : Int => #[Value.int .u64 x_]) (show _ = _ % (18446744073709551616 : Int) by omega)) ?_; (with_reducible refine (headgateref03_Unkey.calls kj10 a1 t111 false _ A28.out).mono ?_); rintro e w49 ⟨v113, rfl, ho0, hb⟩; refine ⟨_, rfl, ?_⟩; have n0_ := Aside0.mk (Kd.R_elder' (by (with_reducible repeat (first | apply Kd.R_alloc | apply Kd.R_drewN | apply Kd.R_drew)); exact HO110.out) (Kd.R_base ho0) hb); have n1_ := Aside0.mk (Kd.R_lower (Kd.R_new' ho0 (Kd.R_lt (by (with_reducible repeat (first | apply Kd.R_alloc | apply Kd.R_drewN | apply Kd.R_drew)); exact HO110.out))) (below_size (by repeat (first | (with_reducible first | exact HB.out | apply below_alloc | apply pw_below_drewN | apply below_drew1) | exact HB.out)))); have n2_ := Aside0.mk (below_step (by repeat (first | (with_reducible first | exact HB.out | apply below_alloc | apply pw_below_drewN | apply below_drew1) | exact HB.out)) hb); clear HO110; clear HB; have HO110 := n0_; have HO114 := n1_; have HB := n2_; clear n0_ n1_ n2_; (try clear hb); (try clear hb2); (try clear hk); (try clear hi); (try clear ho0)))
                      go_ret
                      exact ⟨by first | rfl | (simp [errW_none, errW_some] <;> rfl) | (simp [*, errW_none, errW_some] <;> rfl), by repeat (first | (with_reducible first | exact HB.out | apply below_alloc | apply pw_below_drewN | apply below_drew1) | exact HB.out)⟩
                · rw [if_neg c29] at H
                  have c29b0 : (t112 == (t108 == 0)) = false := by simpa using c29
                  (try (have c29b1 : decide (t112 = (t108 == 0)) = false := by simpa using c29))
                  (try (have c29b2 : (t112 == (t108 == 0)) = false := by simpa using c29))
                  (try (have c29b3 : ¬ (t112 = (t108 == 0)) := by simpa using c29))
                  clear c29
                  obtain rfl := Option.some.inj H
                  go_wp2_with (first | ((with_reducible refine gate_callee (f := 18) rfl ?_); refine goesL_ (some 54) rfl rfl Tryd.func18 (by kernel_rfl) rfl #[.string a1] rfl (by (try simp only [List.map_toArray, List.map_cons, List.map_nil]); first | done | rfl | (simp only [List.length_drop, List.length_take]; rfl) | exact congrArg (fun x_ : Int => #[Value.int .u64 x_]) (show _ = _ % (18446744073709551616 : Int) by omega)) ?_; (with_reducible refine (value_Unkey.calls kj10 a1 t107 t108 _ A27.out).mono ?_); rintro e w50 ⟨v109, rfl, ho0, hb⟩; refine ⟨_, rfl, ?_⟩; have n0_ := Aside0.mk (Kd.R_lower ho0 (below_size (by repeat (first | (with_reducible first | exact HB.out | apply below_alloc | apply pw_below_drewN | apply below_drew1) | exact HB.out)))); have n1_ := Aside0.mk (below_step (by repeat (first | (with_reducible first | exact HB.out | apply below_alloc | apply pw_below_drewN | apply below_drew1) | exact HB.out)) hb); clear HB; have HO110 := n0_; have HB := n1_; clear n0_ n1_; (try clear hb); (try clear hb2); (try clear hk); (try clear hi); (try clear ho0)) | ((with_reducible refine gate_callee (f := 19) rfl ?_); refine goesL_ (some 59) rfl rfl Tryd.func19 (by kernel_rfl) rfl #[.string a1] rfl (by (try simp only [List.map_toArray, List.map_cons, List.map_nil]); first | done | rfl | (simp only [List.length_drop, List.length_take]; rfl) | exact congrArg (fun x_ : Int => #[Value.int .u64 x_]) (show _ = _ % (18446744073709551616 : Int) by omega)) ?_; (with_reducible refine (headgateref03_Unkey.calls kj10 a1 t111 t112 _ A28.out).mono ?_); rintro e w51 ⟨v113, rfl, ho0, hb⟩; refine ⟨_, rfl, ?_⟩; have n0_ := Aside0.mk (Kd.R_elder' (by (with_reducible repeat (first | apply Kd.R_alloc | apply Kd.R_drewN | apply Kd.R_drew)); exact HO110.out) (Kd.R_base ho0) hb); have n1_ := Aside0.mk (Kd.R_lower (Kd.R_new' ho0 (Kd.R_lt (by (with_reducible repeat (first | apply Kd.R_alloc | apply Kd.R_drewN | apply Kd.R_drew)); exact HO110.out))) (below_size (by repeat (first | (with_reducible first | exact HB.out | apply below_alloc | apply pw_below_drewN | apply below_drew1) | exact HB.out)))); have n2_ := Aside0.mk (below_step (by repeat (first | (with_reducible first | exact HB.out | apply below_alloc | apply pw_below_drewN | apply below_drew1) | exact HB.out)) hb); clear HO110; clear HB; have HO110 := n0_; have HO114 := n1_; have HB := n2_; clear n0_ n1_ n2_; (try clear hb); (try clear hb2); (try clear hk); (try clear hi); (try clear ho0)))
                  go_ret
                  exact ⟨by first | rfl | (simp [errW_none, errW_some] <;> rfl) | (simp [*, errW_none, errW_some] <;> rfl), by repeat (first | (with_reducible first | exact HB.out | apply below_alloc | apply pw_below_drewN | apply below_drew1) | exact HB.out)⟩
  · replace c4 := Bool.eq_false_iff.mpr c4
    subst c4
    have H1 : (some false) = some r := by rw [if_neg (show ¬ (false = true) by decide)] at H; exact H
    clear H
    have H := H1
    clear H1
    obtain rfl := Option.some.inj H
    go_enter Tryd.func4, Tryd.ntmps4
    go_wp2_with (first | ((with_reducible refine gate_callee (f := 10) rfl ?_); refine goesL_ (some 11) rfl rfl Tryd.func10 (by kernel_rfl) rfl #[] rfl (by (try simp only [List.map_toArray, List.map_cons, List.map_nil]); first | done | rfl | (simp only [List.length_drop, List.length_take]; rfl) | exact congrArg (fun x_ : Int => #[Value.int .u64 x_]) (show _ = _ % (18446744073709551616 : Int) by omega)) ?_; (with_reducible refine (headgatelaw03_alive.calls k  false _ A3.out).mono ?_); rintro e w52 ⟨rfl, hb⟩; refine ⟨_, rfl, ?_⟩; have n0_ := Aside0.mk (below_step (by repeat (first | (with_reducible first | exact HB.out | apply below_alloc | apply pw_below_drewN | apply below_drew1) | exact HB.out)) hb); clear HB; have HB := n0_; clear n0_; (try clear hb); (try clear hb2); (try clear hk); (try clear hi)))
    go_ret
    exact ⟨by first | rfl | (simp [errW_none, errW_some] <;> rfl) | (simp [*, errW_none, errW_some] <;> rfl), by repeat (first | (with_reducible first | exact HB.out | apply below_alloc | apply pw_below_drewN | apply below_drew1) | exact HB.out)⟩

end Go.Proofs.YtindffllmlifiaaDoor.Q
/- Keys read: a plain reader of bytes, and that value.Unkey comes to it. -/
namespace Go.Proofs.YtindffllmlifiaaDoor.Q
open Go.RowKit Go.Proofs.YtindffllmlifiaaDoorW.PrintWords Go.Proofs.YtindffllmlifiaaDoorW.PrintLast Go.Proofs.YtindffllmlifiaaDoorW.PrintMore
set_option linter.unusedVariables false
set_option linter.unusedSimpArgs false
/-- A text off the front of some bytes: what is in it and what is behind it. -/
def wordI : List Int → Option (List Int × List Int)
  | [] => none
  | [_] => none
  | b :: c :: r => if b = 0 then (if c = 0 then some ([], r) else if c = 255 then (wordI r).map fun p => (0 :: p.1, p.2) else none) else (wordI (c :: r)).map fun p => (b :: p.1, p.2)
theorem wordI_cons {b : Int} (h : b ≠ 0) (l : List Int) : wordI (b :: l) = (wordI l).map fun p => (b :: p.1, p.2) := by
  cases l with
  | nil => rfl
  | cons c r => rw [wordI, if_neg h]
theorem wordI_none : ∀ p : List Int, (∀ x ∈ p, x ≠ 0) → wordI p = none
  | [], _ => rfl
  | b :: p, h => by rw [wordI_cons (h b (by simp)), wordI_none p (fun x hx => h x (by simp [hx]))]; rfl
theorem wordI_pre (q : List Int) : ∀ p : List Int, (∀ x ∈ p, x ≠ 0) → wordI (p ++ q) = (wordI q).map fun r => (p ++ r.1, r.2)
  | [], _ => by rw [List.nil_append]; cases wordI q <;> rfl
  | b :: p, h => by
    rw [List.cons_append, wordI_cons (h b (by simp)), wordI_pre q p (fun x hx => h x (by simp [hx]))]
    cases wordI q <;> rfl
theorem wordI_len : ∀ (l u r : List Int), wordI l = some (u, r) → r.length ≤ l.length
  | [], u, r, h => by cases h
  | [_], u, r, h => by cases h
  | b :: c :: q, u, r, h => by
    rw [wordI] at h
    split at h
    · split at h
      · cases h; simp; omega
      · split at h
        · obtain ⟨⟨x, y⟩, g1, g2⟩ := Option.map_eq_some_iff.mp h
          cases g2
          have := wordI_len q _ _ g1
          simp only [List.length_cons]; omega
        · cases h
    · obtain ⟨⟨x, y⟩, g1, g2⟩ := Option.map_eq_some_iff.mp h
      cases g2
      have := wordI_len (c :: q) _ _ g1
      simp only [List.length_cons] at this ⊢; omega
theorem idx_cut : ∀ l : List UInt8, (Lib.indexByte l 0 = -1 ∧ ∀ x ∈ l, x ≠ 0) ∨ (∃ p q, l = p ++ 0 :: q ∧ (∀ x ∈ p, x ≠ 0) ∧ Lib.indexByte l 0 = p.length)
  | [] => .inl ⟨rfl, fun x h => by cases h⟩
  | b :: l => by
    by_cases hb : b = 0
    · subst hb
      exact .inr ⟨[], l, rfl, fun x h => (by cases h), rfl⟩
    · have e : Lib.indexByte (b :: l) 0 = (if Lib.indexByte l 0 == -1 then -1 else Lib.indexByte l 0 + 1) := if_neg (by simpa using hb)
      rcases idx_cut l with ⟨h1, h2⟩ | ⟨p, q, h1, h2, h3⟩
      · refine .inl ⟨by rw [e, if_pos (by simp [h1])], fun x hx => ?_⟩
        rcases List.mem_cons.1 hx with rfl | hx
        · exact hb
        · exact h2 x hx
      · refine .inr ⟨b :: p, q, by rw [h1]; rfl, fun x hx => ?_, ?_⟩
        · rcases List.mem_cons.1 hx with rfl | hx
          · exact hb
          · exact h2 x hx
        · rw [e, h3, if_neg (by simp)]
          simp
def u8I (l : List UInt8) : List Int := l.map fun b => (b.toNat : Int)
theorem u8I_ne {l : List UInt8} (h : ∀ x ∈ l, x ≠ 0) : ∀ x ∈ u8I l, x ≠ 0 := by
  intro x hx
  obtain ⟨b, hb, rfl⟩ := List.mem_map.1 hx
  intro e
  exact h b hb (UInt8.toNat_inj.1 (by simpa using e))
theorem bytesOf_ext (s : ByteArray) (i j : Nat) : bytesOf (s.extract i j) = ((bytesOf s).drop i).take (j - i) := by
  unfold bytesOf
  have h : (s.extract i j).data.toList = (s.data.toList.drop i).take (j - i) := by
    rw [ByteArray.data_extract]
    simp [List.extract]
  rw [h, List.map_take, List.map_drop]
theorem bytesOf_tail (s : ByteArray) (i : Nat) : bytesOf (s.extract i s.size) = (bytesOf s).drop i := by
  rw [bytesOf_ext, List.take_of_length_le]
  rw [List.length_drop, bytesOf_length]; omega
theorem size_tail (s : ByteArray) {i : Nat} (h : i ≤ s.size) : (s.extract i s.size).size + i = s.size := by
  have h1 := bytesOf_length (s.extract i s.size)
  rw [bytesOf_tail, List.length_drop, bytesOf_length] at h1
  omega
theorem word_eq : ∀ (n : Nat) (s : ByteArray) (xs : List Int), s.size < n →
    (wordI (bytesOf s) = none ∧ (wordR n s xs).2.2 = false) ∨ (∃ u r t, wordI (bytesOf s) = some (u, r) ∧ wordR n s xs = (strOfNums (xs ++ u), t, true) ∧ bytesOf t = r)
  | 0, s, xs, h => absurd h (by omega)
  | n + 1, s, xs, h => by
    have hl := bytesOf_length s
    have hs : bytesOf s = u8I s.data.toList := rfl
    rw [wordR]
    rcases idx_cut s.data.toList with ⟨h1, h2⟩ | ⟨p, q, h1, h2, h3⟩
    · refine .inl ⟨?_, ?_⟩
      · rw [hs]; exact wordI_none _ (u8I_ne h2)
      · rw [if_pos (.inl (by omega))]
    · have hb : bytesOf s = u8I p ++ 0 :: u8I q := by rw [hs, h1]; simp [u8I]
      have hlp : (u8I p).length = p.length := by simp [u8I]
      have hlq : (u8I q).length = q.length := by simp [u8I]
      have hsz : s.size = p.length + 1 + q.length := by rw [← hl, hb]; simp [hlp, hlq]; omega
      rw [hb, wordI_pre _ _ (u8I_ne h2), h3]
      have hpre : bytesOf (s.extract 0 (p.length : Int).toNat) = u8I p := by
        rw [bytesOf_ext, hb, Int.toNat_natCast, List.drop_zero, Nat.sub_zero, List.take_append_of_le_length (by omega), List.take_of_length_le (by omega)]
      cases q with
      | nil =>
        refine .inl ⟨rfl, ?_⟩
        rw [if_pos (.inr (by simp at hsz; omega))]
      | cons c q =>
        have hc : bt s ((p.length : Int) + 1) = (c.toNat : Int) := by
          rw [← rd_bytesOf, hb]
          unfold rd
          rw [show ((p.length : Int) + 1).toNat = p.length + 1 by omega, List.getD_eq_getElem?_getD, List.getElem?_append_right (by omega), hlp, show p.length + 1 - p.length = 1 by omega]
          rfl
        have hrest : bytesOf (s.extract ((p.length : Int) + 2).toNat s.size) = u8I q := by
          rw [bytesOf_tail, hb, show ((p.length : Int) + 2).toNat = (u8I p).length + 2 by omega, ← List.drop_drop, List.drop_left]
          rfl
        have hszr : (s.extract ((p.length : Int) + 2).toNat s.size).size < n := by
          have := bytesOf_length (s.extract ((p.length : Int) + 2).toNat s.size)
          rw [hrest, u8I, List.length_map] at this
          simp only [List.length_cons] at hsz
          omega
        simp only [List.length_cons] at hsz
        rw [if_neg (by omega), hc]
        have e : wordI (0 :: u8I (c :: q)) = (if (c.toNat : Int) = 0 then some ([], u8I q) else if (c.toNat : Int) = 255 then (wordI (u8I q)).map fun p => (0 :: p.1, p.2) else none) := by
          show wordI (0 :: (c.toNat : Int) :: u8I q) = _
          rw [wordI, if_pos rfl]
        rw [e]
        by_cases c1 : (c.toNat : Int) = 255
        · rw [if_pos c1, if_neg (by omega), if_pos c1]
          rcases word_eq n (s.extract ((p.length : Int) + 2).toNat s.size) (xs ++ bytesOf (s.extract 0 (p.length : Int).toNat) ++ [0]) hszr with ⟨g1, g2⟩ | ⟨u, r, t, g1, g2, g3⟩
          · rw [hrest] at g1
            exact .inl ⟨by rw [g1]; rfl, g2⟩
          · rw [hrest] at g1
            refine .inr ⟨_, _, t, by rw [g1]; rfl, ?_, g3⟩
            rw [g2, hpre]
            simp only [List.append_assoc, List.singleton_append]
        · rw [if_neg c1]
          by_cases c2 : (c.toNat : Int) = 0
          · rw [if_pos c2, hpre]
            refine .inr ⟨_, _, _, rfl, ?_, hrest⟩
            rw [List.append_nil, decide_eq_true c2, if_neg c1]
          · rw [if_neg c2, if_neg c1]
            refine .inl ⟨rfl, ?_⟩
            exact decide_eq_false c2
/-- The number that some bytes are, the highest first. -/
def numI (l : List Int) : Int := l.foldl (fun a b => a * 256 + b) 0
theorem or_add (z x : Int) (h0 : 0 ≤ z) (h1 : z < 72057594037927936) (h2 : 0 ≤ x) (h3 : x < 256) : bits .or .u64 (IntKind.u64.wrap (z * 256)) (IntKind.u64.wrap x) = z * 256 + x := by
  have e1 : IntKind.u64.wrap (z * 256) = z * 256 := by
    show z * 256 % 18446744073709551616 = _
    omega
  have e2 : IntKind.u64.wrap x = x := by
    show x % 18446744073709551616 = _
    omega
  rw [e1, e2]
  obtain ⟨n, rfl⟩ := Int.eq_ofNat_of_zero_le h0
  obtain ⟨m, rfl⟩ := Int.eq_ofNat_of_zero_le h2
  rw [u64_or _ _ (by omega) (by omega) (by omega) (by omega)]
  have h4 : ((n : Int) * 256).toNat = 2 ^ 8 * n := by omega
  have h5 : (m : Int).toNat = m := rfl
  rw [h4, h5, ← Nat.two_pow_add_eq_or_of_lt (show m < 2 ^ 8 by omega)]
  omega
theorem bt_drop (s : ByteArray) (i : Int) (h0 : 0 ≤ i) (h1 : i < (s.size : Int)) : (bytesOf s).drop i.toNat = bt s i :: (bytesOf s).drop (i + 1).toNat := by
  rw [rd_drop _ i h0 (by rw [bytesOf_length]; exact h1), rd_bytesOf]
theorem pow256_le {i j : Nat} (h : i ≤ j) : (256 : Int) ^ i ≤ 256 ^ j := by
  induction h with
  | refl => exact Int.le_refl _
  | @step m h ih =>
    have hp : (0 : Int) < 256 ^ m := Int.pow_pos (by omega)
    rw [Int.pow_succ]; omega
theorem number_loop (s : ByteArray) (hs : s.size = 8) : ∀ (d : Nat) (i z : Int), 0 ≤ i → i + d = 8 → 0 ≤ z → z < 256 ^ i.toNat →
    Ev (fun k => value_number.l0 k s z (s.size : Int) i) (((bytesOf s).drop i.toNat).foldl (fun a b => a * 256 + b) z)
  | 0, i, z, h0, h1, h2, h3 => by
    rw [List.drop_of_length_le (by rw [bytesOf_length]; omega)]
    exact Ev.step (f := fun _ => some z) (fun k => by simp only [value_number.l0]; rw [if_neg (by omega)]) (Ev.now _)
  | d + 1, i, z, h0, h1, h2, h3 => by
    have hb := bt_range s i
    have e2 : wrap64 (i + 1) = i + 1 := wrap_in (by unfold in64; omega)
    have ei : (i + 1).toNat = i.toNat + 1 := by omega
    have hi7 : i.toNat ≤ 7 := by omega
    have hp : (256 : Int) ^ i.toNat ≤ 256 ^ 7 := pow256_le hi7
    have hlt : z < 72057594037927936 := by have : (256 : Int) ^ 7 = 72057594037927936 := by decide
                                           omega
    have h4 : z * 256 + bt s i < 256 ^ (i + 1).toNat := by rw [ei, Int.pow_succ]; omega
    rw [bt_drop s i h0 (by omega), List.foldl_cons]
    refine Ev.step (f := fun k => value_number.l0 k s (z * 256 + bt s i) (s.size : Int) (i + 1)) (fun k => ?_) (number_loop s hs d (i + 1) _ (by omega) (by omega) (by omega) h4)
    simp only [value_number.l0]
    rw [if_pos (by omega), if_pos h0, if_pos (by omega), or_add z _ h2 hlt hb.1 (by omega), e2]
theorem number_ev (s : ByteArray) (hs : s.size = 8) : Ev (fun k => value_number.f k s) (numI (bytesOf s)) := number_loop s hs 8 0 0 (by omega) (by omega) (by omega) (by decide)
theorem foldl_range : ∀ (l : List Int) (z : Int) (m : Nat), (∀ x ∈ l, 0 ≤ x ∧ x ≤ 255) → 0 ≤ z → z < 256 ^ m → 0 ≤ l.foldl (fun a b => a * 256 + b) z ∧ l.foldl (fun a b => a * 256 + b) z < 256 ^ (m + l.length)
  | [], z, m, h, h0, h1 => ⟨h0, h1⟩
  | x :: l, z, m, h, h0, h1 => by
    have hx := h x (by simp)
    have hr := foldl_range l (z * 256 + x) (m + 1) (fun y hy => h y (by simp [hy])) (by omega) (by rw [Int.pow_succ]; omega)
    rw [List.foldl_cons, List.length_cons, show m + (l.length + 1) = m + 1 + l.length by omega]
    exact hr
theorem bytesOf_rng (s : ByteArray) : ∀ x ∈ bytesOf s, 0 ≤ x ∧ x ≤ 255 := by
  intro x hx
  obtain ⟨b, _, rfl⟩ := List.mem_map.1 hx
  have := b.toNat_lt
  omega
theorem numI_range (l : List Int) (h : ∀ x ∈ l, 0 ≤ x ∧ x ≤ 255) (h8 : l.length = 8) : 0 ≤ numI l ∧ numI l < 18446744073709551616 := by
  have := foldl_range l 0 0 h (by omega) (by decide)
  rw [h8] at this
  exact this
/-- One value off the front of some bytes. -/
def one : List Int → Option (S23 × List Int)
  | [] => none
  | b :: r =>
    if b = 1 then some (⟨0, 0, ⟨#[]⟩⟩, r)
    else if b = 2 then (if 8 ≤ r.length then some (⟨1, numI (r.take 8) - 9223372036854775808, ⟨#[]⟩⟩, r.drop 8) else none)
    else if b = 3 then (match r with | [] => none | c :: s => some (⟨2, c, ⟨#[]⟩⟩, s))
    else if b = 4 then (wordI r).map fun p => (⟨3, 0, strOfNums p.1⟩, p.2)
    else none
/-- The values that some bytes are. -/
def unk : Nat → List Int → List S23 → Option (List S23)
  | 0, _, _ => none
  | n + 1, l, acc => if l = [] then some acc else (one l).bind fun p => if chkV p.1 = 0 ∧ acc.length ≠ 12 then unk n p.2 (acc ++ [p.1]) else none
def unkR (o : Option (List S23)) : List S23 × Int := match o with | some l => (l, 0) | none => ([], 31)
theorem xor63' (n : Int) (h0 : 0 ≤ n) (h1 : n < 18446744073709551616) : wrap64 (bits .xor .u64 n 9223372036854775808) = n - 9223372036854775808 := by
  obtain ⟨a, rfl⟩ := Int.eq_ofNat_of_zero_le h0
  rw [show (9223372036854775808 : Int) = ((9223372036854775808 : Nat) : Int) from rfl, u64_xor_nat a 9223372036854775808 (by omega) (by omega), xor63 a (by omega)]
  unfold wrap64
  split <;> omega
theorem one_cons (b : Int) (r : List Int) : one (b :: r) = (if b = 1 then some (⟨0, 0, ⟨#[]⟩⟩, r)
    else if b = 2 then (if 8 ≤ r.length then some (⟨1, numI (r.take 8) - 9223372036854775808, ⟨#[]⟩⟩, r.drop 8) else none)
    else if b = 3 then (match r with | [] => none | c :: s => some (⟨2, c, ⟨#[]⟩⟩, s))
    else if b = 4 then (wordI r).map fun p => (⟨3, 0, strOfNums p.1⟩, p.2)
    else none) := by cases r <;> rfl
theorem j2_bad (s : ByteArray) (acc : List S23) (a b : Int) (c : ByteArray) : Ev (fun k => value_Unkey.j2 k s acc true a b c) ([], 31) :=
  Ev.step (f := fun _ => some ([], 31)) (fun k => by simp only [value_Unkey.j2]; rfl) (Ev.now _)
theorem j1_bad (s : ByteArray) (acc : List S23) (a b : Int) (c : ByteArray) : Ev (fun k => value_Unkey.j1 k s acc false a b c) ([], 31) :=
  Ev.step (f := fun k => value_Unkey.j2 k s acc true a b c) (fun k => by simp only [value_Unkey.j1]; rfl) (j2_bad _ _ _ _ _)
theorem j1_good (s : ByteArray) (acc : List S23) (v : S23) (n : Nat) (l : List Int) (hacc : acc.length ≤ 12)
    (ih : acc.length ≠ 12 → chkV v = 0 → Ev (fun k => value_Unkey.l0 k s (acc ++ [v])) (unkR (unk n l (acc ++ [v])))) :
    Ev (fun k => value_Unkey.j1 k s acc true v.f0 v.f1 v.f2) (unkR (if chkV v = 0 ∧ acc.length ≠ 12 then unk n l (acc ++ [v]) else none)) := by
  refine Ev.step (f := fun k => (value_Check.f k v.f0 v.f1 v.f2).bind fun t => (if t = 0 then (value_Unkey.j2 k s acc ((acc.length : Int) == 12) v.f0 v.f1 v.f2) else (value_Unkey.j2 k s acc true v.f0 v.f1 v.f2))) (fun k => by simp only [value_Unkey.j1]; rfl) (Ev.bind (chk_ev v) ?_)
  by_cases h1 : chkV v = 0
  · refine Ev.congr (fun k => if_pos h1) ?_
    by_cases h2 : acc.length = 12
    · rw [if_neg (fun z => z.2 h2), beq_iff_eq.mpr (show (acc.length : Int) = 12 by omega)]
      exact j2_bad _ _ _ _ _
    · rw [if_pos ⟨h1, h2⟩, beq_eq_false_iff_ne.mpr (show (acc.length : Int) ≠ 12 by omega)]
      refine Ev.step (f := fun k => value_Unkey.l0 k s (acc ++ [v])) (fun k => ?_) (ih h2 h1)
      simp only [value_Unkey.j2]
      rw [if_neg (by decide), if_pos (by omega)]
  · rw [if_neg (fun z => h1 z.1)]
    exact Ev.congr (fun k => if_neg h1) (j2_bad _ _ _ _ _)
theorem unkey_ev : ∀ (n : Nat) (s : ByteArray) (acc : List S23), s.size < n → s.size ≤ 140737488355328 → acc.length ≤ 12 →
    Ev (fun k => value_Unkey.l0 k s acc) (unkR (unk n (bytesOf s) acc))
  | 0, s, acc, h, _, _ => absurd h (by omega)
  | n + 1, s, acc, h, hs, hacc => by
    have hl := bytesOf_length s
    rw [unk]
    by_cases he : s.toList = []
    · have e : s = ⟨#[]⟩ := toList_nil he
      subst e
      exact Ev.step (f := fun _ => some (acc, 0)) (fun k => by simp only [value_Unkey.l0]; rw [if_pos he]) (Ev.now _)
    · have hpos : 0 < s.size := by
        rcases Nat.eq_zero_or_pos s.size with z | z
        · exfalso
          apply he
          rw [Lib.toList_data]
          exact List.eq_nil_of_length_eq_zero (by rw [data_length]; exact z)
        · exact z
      have hb := bt_range s 0
      obtain ⟨b, eb⟩ : ∃ b, bt s 0 = b := ⟨_, rfl⟩
      obtain ⟨t, et⟩ : ∃ t, s.extract 1 s.size = t := ⟨_, rfl⟩
      have ht : bytesOf t = (bytesOf s).drop 1 := by rw [← et]; exact bytesOf_tail s 1
      have hts : t.size + 1 = s.size := by rw [← et]; exact size_tail s (by omega)
      have hbs : bytesOf s = b :: bytesOf t := by
        have := bt_drop s 0 (by omega) (by omega)
        rw [eb] at this
        rw [ht]
        exact this
      have hlt := bytesOf_length t
      rw [hbs, if_neg (by simp), one_cons]
      rw [eb] at hb
      have ew : wrap64 (wrap64 b - 1) = b - 1 := by
        rw [wrap_in (x := b) (by unfold in64; omega), wrap_in (by unfold in64; omega)]
      have IH : ∀ (t' : ByteArray) (v : S23), t'.size ≤ t.size → acc.length ≠ 12 → chkV v = 0 → Ev (fun k => value_Unkey.l0 k t' (acc ++ [v])) (unkR (unk n (bytesOf t') (acc ++ [v]))) := fun t' v h1 h2 _ =>
        unkey_ev n t' (acc ++ [v]) (by omega) (by omega) (by rw [List.length_append, List.length_singleton]; omega)
      have HD : ∀ (F : Nat → Option (List S23 × Int)) R, (∀ k, value_Unkey.l0 (k + 1) s acc = F k) → Ev F R → Ev (fun k => value_Unkey.l0 k s acc) R := fun F R h1 h2 => Ev.step (f := F) h1 h2
      by_cases k1 : b = 1
      · subst k1
        rw [if_pos rfl]
        refine HD (fun k => value_Unkey.j1 k t acc true 0 0 ⟨#[]⟩) _ (fun k => ?_) (j1_good t acc ⟨0, 0, ⟨#[]⟩⟩ n (bytesOf t) hacc (IH t _ (Nat.le_refl _)))
        simp only [value_Unkey.l0, eb, et, ew]
        rw [if_neg he, if_pos (by omega), if_pos (by omega), if_pos (by decide)]
        rfl
      · rw [if_neg k1]
        by_cases k2 : b = 2
        · subst k2
          rw [if_pos rfl]
          have hl0 : ∀ k, value_Unkey.l0 (k + 1) s acc = (if (t.size : Int) ≥ 8 then ((value_number.f k (t.extract 0 8)).bind fun t102 => (value_Unkey.j1 k (t.extract 8 t.size) acc true 1 (wrap64 (Go.bits .xor .u64 t102 9223372036854775808)) (⟨#[]⟩ : ByteArray))) else (value_Unkey.j1 k t acc false 1 0 (⟨#[]⟩ : ByteArray))) := fun k => by
            simp only [value_Unkey.l0, eb, et, ew]
            rw [if_neg he, if_pos (by omega), if_pos (by omega), if_neg (by decide), if_pos (by decide)]
            by_cases g : (t.size : Int) ≥ 8
            · rw [if_pos g, if_pos g, if_pos (by decide), if_pos g, decide_eq_true g]; rfl
            · rw [if_neg g, if_neg g, decide_eq_false g]; rfl
          by_cases g : 8 ≤ t.size
          · rw [if_pos (by omega)]
            have h8 : (t.extract 0 8).size = 8 := by
              have := bytesOf_length (t.extract 0 8)
              rw [bytesOf_ext, List.drop_zero, List.length_take, hlt] at this
              omega
            have e8 : bytesOf (t.extract 0 8) = (bytesOf t).take 8 := by rw [bytesOf_ext, List.drop_zero]
            have hn := numI_range (bytesOf (t.extract 0 8)) (bytesOf_rng _) (by rw [bytesOf_length]; exact h8)
            refine HD _ _ (fun k => (hl0 k).trans (if_pos (by omega))) (Ev.bind (number_ev _ h8) ?_)
            rw [xor63' _ hn.1 hn.2, e8]
            have hd : bytesOf (t.extract 8 t.size) = (bytesOf t).drop 8 := bytesOf_tail t 8
            have := j1_good (t.extract 8 t.size) acc ⟨1, numI ((bytesOf t).take 8) - 9223372036854775808, ⟨#[]⟩⟩ n (bytesOf (t.extract 8 t.size)) hacc (IH _ _ (by have := size_tail t g; omega))
            rw [hd] at this
            exact this
          · rw [if_neg (by omega)]
            exact HD _ _ (fun k => (hl0 k).trans (if_neg (by omega))) (j1_bad _ _ _ _ _)
        · rw [if_neg k2]
          by_cases k3 : b = 3
          · subst k3
            rw [if_pos rfl]
            have hl0 : ∀ k, value_Unkey.l0 (k + 1) s acc = (if (t.size : Int) ≥ 1 then (value_Unkey.j1 k (t.extract 1 t.size) acc true 2 (wrap64 (bt t 0)) (⟨#[]⟩ : ByteArray)) else (value_Unkey.j1 k t acc false 2 0 (⟨#[]⟩ : ByteArray))) := fun k => by
              simp only [value_Unkey.l0, eb, et, ew]
              rw [if_neg he, if_pos (by omega), if_pos (by omega), if_neg (by decide), if_neg (by decide), if_pos (by decide)]
              by_cases g : (t.size : Int) ≥ 1
              · rw [if_pos g, if_pos g, if_pos (by omega), if_pos g, decide_eq_true g]; rfl
              · rw [if_neg g, if_neg g, decide_eq_false g]; rfl
            by_cases g : 1 ≤ t.size
            · have hcr := bt_range t 0
              have hc := bt_drop t 0 (by omega) (by omega)
              obtain ⟨c, ec⟩ : ∃ c, bt t 0 = c := ⟨_, rfl⟩
              rw [ec] at hc hcr
              have hd : bytesOf (t.extract 1 t.size) = (bytesOf t).drop 1 := bytesOf_tail t 1
              have htc : bytesOf t = c :: bytesOf (t.extract 1 t.size) := by rw [hd]; exact hc
              rw [htc]
              have ewc : wrap64 c = c := wrap_in (by unfold in64; omega)
              refine HD _ _ (fun k => (hl0 k).trans (if_pos (by omega))) ?_
              rw [ec, ewc]
              exact j1_good (t.extract 1 t.size) acc ⟨2, c, ⟨#[]⟩⟩ n (bytesOf (t.extract 1 t.size)) hacc (IH _ _ (by have := size_tail t g; omega))
            · have htn : bytesOf t = [] := List.eq_nil_of_length_eq_zero (by omega)
              rw [htn]
              exact HD _ _ (fun k => (hl0 k).trans (if_neg (by omega))) (j1_bad _ _ _ _ _)
          · rw [if_neg k3]
            by_cases k4 : b = 4
            · subst k4
              rw [if_pos rfl]
              have hw : value_word.f t = some (wordR (t.size + 1) t []) := if_pos (by omega)
              have hl0 : ∀ k, value_Unkey.l0 (k + 1) s acc = (value_Unkey.j1 k (wordR (t.size + 1) t []).2.1 acc (wordR (t.size + 1) t []).2.2 3 0 (wordR (t.size + 1) t []).1) := fun k => by
                simp only [value_Unkey.l0, eb, et, ew]
                rw [if_neg he, if_pos (by omega), if_pos (by omega), if_neg (by decide), if_neg (by decide), if_neg (by decide), if_pos (by decide), hw]
                rfl
              rcases word_eq (t.size + 1) t [] (by omega) with ⟨g1, g2⟩ | ⟨u, r, t', g1, g2, g3⟩
              · rw [g1]
                refine HD _ _ hl0 ?_
                rw [g2]
                exact j1_bad _ _ _ _ _
              · rw [g1]
                refine HD _ _ hl0 ?_
                rw [g2, ← g3]
                refine j1_good t' acc ⟨3, 0, strOfNums u⟩ n (bytesOf t') hacc (IH _ _ ?_)
                have := wordI_len _ _ _ g1
                rw [← g3, bytesOf_length, bytesOf_length] at this
                omega
            · rw [if_neg k4]
              refine HD (fun k => value_Unkey.j1 k t acc false (b - 1) 0 ⟨#[]⟩) _ (fun k => ?_) (j1_bad _ _ _ _ _)
              simp only [value_Unkey.l0, eb, et, ew]
              rw [if_neg he, if_pos (by omega), if_pos (by omega), if_neg (by omega), if_neg (by omega), if_neg (by omega), if_neg (by omega)]
theorem unkey_f (s : ByteArray) (hs : s.size ≤ 140737488355328) : Ev (fun k => value_Unkey.f k s) (unkR (unk (s.size + 1) (bytesOf s) [])) := unkey_ev _ s [] (by omega) hs (by simp)
end Go.Proofs.YtindffllmlifiaaDoor.Q
/- Keys there and back: in plain Lean. -/
namespace Go.Proofs.YtindffllmlifiaaDoor.Q
open Go.RowKit Go.Proofs.YtindffllmlifiaaDoorW.PrintWords Go.Proofs.YtindffllmlifiaaDoorW.PrintLast Go.Proofs.YtindffllmlifiaaDoorW.PrintMore
set_option linter.unusedVariables false
set_option linter.unusedSimpArgs false
/-- What is read as a text is that text in a key. -/
theorem esc_word : ∀ (l u r : List Int), (∀ x ∈ l, 0 ≤ x ∧ x ≤ 255) → wordI l = some (u, r) → l = escL (toU u) ++ ([0, 0] ++ r) ∧ (∀ x ∈ u, 0 ≤ x ∧ x ≤ 255)
  | [], u, r, hl, h => by cases h
  | [_], u, r, hl, h => by cases h
  | b :: c :: q, u, r, hl, h => by
    rw [wordI] at h
    by_cases hb : b = 0
    · subst hb
      rw [if_pos rfl] at h
      by_cases hc : c = 0
      · subst hc
        rw [if_pos rfl] at h
        cases h
        exact ⟨rfl, fun x hx => by cases hx⟩
      · rw [if_neg hc] at h
        by_cases hc2 : c = 255
        · subst hc2
          rw [if_pos rfl] at h
          obtain ⟨⟨x, y⟩, g1, g2⟩ := Option.map_eq_some_iff.mp h
          cases g2
          obtain ⟨e1, e2⟩ := esc_word q _ _ (fun z hz => hl z (by simp [hz])) g1
          refine ⟨?_, fun z hz => ?_⟩
          · show _ = escL ((0 : UInt8) :: toU x) ++ _
            rw [escL_cons, if_pos rfl, List.append_assoc, ← e1]; rfl
          · rcases List.mem_cons.1 hz with rfl | hz
            · omega
            · exact e2 z hz
        · rw [if_neg hc2] at h; cases h
    · rw [if_neg hb] at h
      obtain ⟨⟨x, y⟩, g1, g2⟩ := Option.map_eq_some_iff.mp h
      cases g2
      obtain ⟨e1, e2⟩ := esc_word (c :: q) _ _ (fun z hz => hl z (by simp at hz ⊢; exact .inr hz)) g1
      have hbr := hl b (by simp)
      have ub : (b.toNat.toUInt8).toNat = b.toNat % 256 := rfl
      have hne : b.toNat.toUInt8 ≠ 0 := fun e => by
        have : (b.toNat.toUInt8).toNat = 0 := by rw [e]; rfl
        omega
      refine ⟨?_, fun z hz => ?_⟩
      · show _ = escL (b.toNat.toUInt8 :: toU x) ++ _
        rw [escL_cons, if_neg hne, List.append_assoc, ← e1]
        show b :: c :: q = ((b.toNat.toUInt8).toNat : Int) :: c :: q
        rw [ub, show ((b.toNat % 256 : Nat) : Int) = b by omega]
      · rcases List.mem_cons.1 hz with rfl | hz
        · exact hbr
        · exact e2 z hz
theorem eight_num (l : List Int) (h : ∀ x ∈ l, 0 ≤ x ∧ x ≤ 255) (h8 : l.length = 8) : eightB (numI l) = l := by
  match l, h8 with
  | [a, b, c, d, e, f, g, i], _ =>
    have ha := h a (by simp)
    have hb := h b (by simp)
    have hc := h c (by simp)
    have hd := h d (by simp)
    have he := h e (by simp)
    have hf := h f (by simp)
    have hg := h g (by simp)
    have hi := h i (by simp)
    simp only [numI, eightB, List.range, List.range.loop, List.map_cons, List.map_nil, Nat.reduceMul, Nat.reduceSub, Int.reducePow, List.foldl_cons, List.foldl_nil, List.cons.injEq, and_true]
    refine ⟨?_, ?_, ?_, ?_, ?_, ?_, ?_, ?_⟩ <;> omega
theorem key_one (l r : List Int) (v : S23) (hl : ∀ x ∈ l, 0 ≤ x ∧ x ≤ 255) (h : one l = some (v, r)) (hc : chkV v = 0) : l = keyV v ++ r ∧ in64 v.f1 := by
  cases l with
  | nil => cases h
  | cons b q =>
    rw [one_cons] at h
    have hq : ∀ x ∈ q, 0 ≤ x ∧ x ≤ 255 := fun x hx => hl x (by simp [hx])
    by_cases k1 : b = 1
    · rw [if_pos k1] at h
      cases h
      subst k1
      exact ⟨rfl, by decide⟩
    · rw [if_neg k1] at h
      by_cases k2 : b = 2
      · rw [if_pos k2] at h
        split at h
        · rename_i h8
          cases h
          subst k2
          have ht : ∀ x ∈ q.take 8, 0 ≤ x ∧ x ≤ 255 := fun x hx => hq x (List.mem_of_mem_take hx)
          have hl8 : (q.take 8).length = 8 := by rw [List.length_take]; omega
          have hn := numI_range _ ht hl8
          refine ⟨?_, by unfold in64; dsimp only; omega⟩
          show 2 :: q = 2 :: (eightB (numI (q.take 8) - 9223372036854775808 + 9223372036854775808) ++ q.drop 8)
          rw [show numI (q.take 8) - 9223372036854775808 + 9223372036854775808 = numI (q.take 8) by omega, eight_num _ ht hl8, List.take_append_drop]
        · cases h
      · rw [if_neg k2] at h
        by_cases k3 : b = 3
        · rw [if_pos k3] at h
          subst k3
          cases q with
          | nil => cases h
          | cons c s =>
            cases h
            have hcr := hq c (by simp)
            refine ⟨?_, by unfold in64; dsimp only; omega⟩
            show 3 :: c :: _ = 3 :: (c % 256) :: _
            rw [show c % 256 = c by omega]
            rfl
        · rw [if_neg k3] at h
          by_cases k4 : b = 4
          · rw [if_pos k4] at h
            subst k4
            obtain ⟨⟨u, y⟩, g1, g2⟩ := Option.map_eq_some_iff.mp h
            cases g2
            obtain ⟨e1, e2⟩ := esc_word q _ _ hq g1
            refine ⟨?_, by unfold in64; dsimp only; omega⟩
            show 4 :: q = 4 :: ((escB (strOfNums u) ++ [0, 0]) ++ y)
            have e3 : escB (strOfNums u) = escL (toU u) := rfl
            rw [e3, List.append_assoc, ← e1]
          · rw [if_neg k4] at h; cases h
theorem key_unk : ∀ (n : Nat) (l : List Int) (acc m : List S23), (∀ x ∈ l, 0 ≤ x ∧ x ≤ 255) → acc.length ≤ 12 → unk n l acc = some m →
    ∃ p, m = acc ++ p ∧ keyB p = l ∧ (∀ v ∈ p, chkV v = 0 ∧ in64 v.f1) ∧ m.length ≤ 12
  | 0, l, acc, m, hl, ha, h => by cases h
  | n + 1, l, acc, m, hl, ha, h => by
    rw [unk] at h
    by_cases he : l = []
    · rw [if_pos he] at h
      cases h
      subst he
      exact ⟨[], by simp, rfl, (fun v hv => by cases hv), ha⟩
    · rw [if_neg he] at h
      obtain ⟨⟨v, r⟩, h1, h2⟩ := Option.bind_eq_some_iff.mp h
      dsimp only at h2
      split at h2
      · rename_i hc
        obtain ⟨e1, e2⟩ := key_one l r v hl h1 hc.1
        obtain ⟨p, g1, g2, g3, g4⟩ := key_unk n r (acc ++ [v]) m (fun x hx => hl x (by rw [e1]; exact List.mem_append.2 (.inr hx))) (by rw [List.length_append, List.length_singleton]; omega) h2
        refine ⟨v :: p, by rw [g1, List.append_assoc]; rfl, by rw [keyB, g2, e1], fun x hx => ?_, g4⟩
        rcases List.mem_cons.1 hx with rfl | hx
        · exact ⟨hc.1, e2⟩
        · exact g3 x hx
      · cases h2
theorem rowOk_mk {l : List S23} (h : l.length ≤ 12) (hv : ∀ v ∈ l, chkV v = 0) : rowOk l = true := by
  unfold rowOk
  rw [Bool.and_eq_true]
  exact ⟨decide_eq_true h, List.all_eq_true.2 (fun v m => by simpa using hv v m)⟩
theorem Big_loop (l : List S23) (hl : l.length ≤ 40) : ∀ (d : Nat) (i : Int), 0 ≤ i → i + d = l.length → ∃ b, Ev (fun k => headgateref03_Big.l0 k l i) b
  | 0, i, h0, h1 => ⟨false, Ev.step (f := fun _ => some false) (fun k => by simp only [headgateref03_Big.l0]; rw [if_neg (by omega)]) (Ev.now _)⟩
  | d + 1, i, h0, h1 => by
    obtain ⟨b, hb⟩ := Big_loop l hl d (i + 1) (by omega) (by omega)
    have e2 : wrap64 (i + 1) = i + 1 := wrap_in (by unfold in64; omega)
    by_cases h : (((rd_T23 l i).f2).size : Int) > 600
    · exact ⟨true, Ev.step (f := fun _ => some true) (fun k => by simp only [headgateref03_Big.l0]; rw [if_pos (by omega), if_pos h0, if_pos h]) (Ev.now _)⟩
    · exact ⟨b, Ev.step (f := fun k => headgateref03_Big.l0 k l (i + 1)) (fun k => by simp only [headgateref03_Big.l0]; rw [if_pos (by omega), if_pos h0, if_neg h, e2]) hb⟩
theorem Big_ev (l : List S23) : ∃ b, Ev (fun k => headgateref03_Big.f k l) b := by
  unfold headgateref03_Big.f
  by_cases h : (l.length : Int) > 40
  · exact ⟨true, Ev.congr (fun k => if_pos h) (Ev.now _)⟩
  · obtain ⟨b, hb⟩ := Big_loop l (by omega) l.length 0 (by omega) (by omega)
    exact ⟨b, Ev.congr (fun k => if_neg h) hb⟩
end Go.Proofs.YtindffllmlifiaaDoor.Q
-- Written by a program of the session over the translation's print: functions as plain Lean, and that the machine's call comes to them.
namespace Go.Proofs.YtindffllmlifiaaDoor.Q
open Go.RowKit Go.Proofs.YtindffllmlifiaaDoorW.PrintWords Go.Proofs.YtindffllmlifiaaDoorW.PrintLast Go.Proofs.YtindffllmlifiaaDoorW.PrintMore
attribute [local go_sem] max2_int min2_int max_two min_two max_three min_three max_four min_four   -- for this text's walks alone
set_option linter.unusedVariables false
set_option linter.unusedSimpArgs false

-- NOT PRINTED: function 22 (value_All)

-- NOT PRINTED: function 58 (bytealg_IndexByteString)

-- NOT PRINTED: function 50 (stringslite_IndexByte)

-- NOT PRINTED: function 61 (bytealg_IndexString)

-- NOT PRINTED: function 56 (stringslite_Index)

-- NOT PRINTED: function 46 (strings_Index)

-- NOT PRINTED: function 52 (utf8_RuneCountInString)

-- NOT PRINTED: function 53 (bytealg_CountString)

-- NOT PRINTED: function 44 (strings_Count)

-- NOT PRINTED: function 59 (abi_NoEscape)

-- NOT PRINTED: function 54 (strings_Builder_copyCheck)

-- NOT PRINTED: function 60 (bytealg_MakeNoZero)

-- NOT PRINTED: function 55 (strings_Builder_grow)

-- NOT PRINTED: function 45 (strings_Builder_Grow)

-- NOT PRINTED: function 47 (strings_Builder_WriteString)

-- NOT PRINTED: function 57 (utf8_decodeRuneInStringSlow)

-- NOT PRINTED: function 48 (utf8_DecodeRuneInString)

-- NOT PRINTED: function 49 (strings_Builder_String)

-- NOT PRINTED: function 39 (strings_Replace)

-- NOT PRINTED: function 31 (strings_ReplaceAll)

-- NOT PRINTED: function 51 (bytealg_abigen_runtime_cmpstring)

-- NOT PRINTED: function 43 (bytealg_CompareString)

/-! ### headgatelaw03_ValueSorts: function 8 -/
end Go.Proofs.YtindffllmlifiaaDoor.Q
/- The chapter's examples hold. -/
namespace Go.Proofs.YtindffllmlifiaaDoor.Q
open Go.RowKit Go.Proofs.YtindffllmlifiaaDoorW.PrintWords Go.Proofs.YtindffllmlifiaaDoorW.PrintLast Go.Proofs.YtindffllmlifiaaDoorW.PrintMore
theorem alive03 : headgatelaw03_alive.f 30 = some true := by kernel_rfl
theorem alive03_ev : Ev (fun k => headgatelaw03_alive.f k) true := Ev.of (fun k => headgatelaw03_alive.mono k) alive03
end Go.Proofs.YtindffllmlifiaaDoor.Q
/- The law ValueSorts in plain Lean. -/
namespace Go.Proofs.YtindffllmlifiaaDoor.Q
open Go.RowKit Go.Proofs.YtindffllmlifiaaDoorW.PrintWords Go.Proofs.YtindffllmlifiaaDoorW.PrintLast Go.Proofs.YtindffllmlifiaaDoorW.PrintMore
set_option linter.unusedVariables false
set_option linter.unusedSimpArgs false
theorem key_now (l : List S23) (hl : l.length ≤ 9223372036854775806) (h : ∀ v ∈ l, in64 v.f1) : value_Key.f l = some (keyR l) := if_pos ⟨hl, h⟩
end Go.Proofs.YtindffllmlifiaaDoor.Q
/- The document's keys, and the law ValueKeys in plain Lean. -/
namespace Go.Proofs.YtindffllmlifiaaDoor.Q
open Go.RowKit Go.Proofs.YtindffllmlifiaaDoorW.PrintWords Go.Proofs.YtindffllmlifiaaDoorW.PrintLast Go.Proofs.YtindffllmlifiaaDoorW.PrintMore
set_option linter.unusedVariables false
set_option linter.unusedSimpArgs false
abbrev Vb := S23
theorem eightB_drop (n : Int) {i : Nat} (h : i < 8) : (eightB n).drop i = (n / 2 ^ (56 - 8 * i)) % 256 :: (eightB n).drop (i + 1) := by
  rw [List.drop_eq_getElem_cons (by simp [eightB]; exact h)]
  congr 1
  simp [eightB]
theorem key_l1 (l : List Vb) (i n : Int) (R : ByteArray) : ∀ (d j : Nat) (xs : List Int), j + d = 8 → xs.length + d ≤ 1000000 →
    Ev (fun k => headgateref03_Key.l0 k l (xs ++ (eightB n).drop j) (wrap64 (i + 1))) R → Ev (fun k => headgateref03_Key.l1 k l xs i n (j : Int)) R
  | 0, j, xs, h, hx, hR => by
    have e : (eightB n).drop j = [] := List.drop_of_length_le (by show 8 ≤ j; omega)
    rw [e, List.append_nil] at hR
    exact Ev.step (f := fun k => headgateref03_Key.l0 k l xs (wrap64 (i + 1))) (fun k => by simp only [headgateref03_Key.l1]; rw [if_neg (by omega)]) hR
  | d + 1, j, xs, h, hx, hR => by
    have e1 : wrap64 (8 * (j : Int)) = 8 * j := wrap_in (by unfold in64; omega)
    have e2 : wrap64 (56 - 8 * (j : Int)) = ((56 - 8 * j : Nat) : Int) := by rw [wrap_in (by unfold in64; omega)]; omega
    have e3 : IntKind.u64.wrap ((56 - 8 * j : Nat) : Int) = ((56 - 8 * j : Nat) : Int) := by rw [wrapu]; omega
    have e4 : wrap64 ((j : Int) + 1) = ((j + 1 : Nat) : Int) := by rw [wrap_in (by unfold in64; omega)]; omega
    have e5 : shr .u64 n ((56 - 8 * j : Nat) : Int) = n / 2 ^ (56 - 8 * j) := by
      unfold shr
      rw [Int.toNat_natCast, Nat.min_eq_left (by show 56 - 8 * j ≤ 64; omega)]
    rw [eightB_drop n (by omega)] at hR
    refine Ev.step (f := fun k => headgateref03_Key.l1 k l (xs ++ [(n / 2 ^ (56 - 8 * j)) % 256]) i n ((j + 1 : Nat) : Int)) (fun k => ?_) (key_l1 l i n R d (j + 1) _ (by omega) (by simp; omega) (by rw [List.append_assoc]; exact hR))
    simp only [headgateref03_Key.l1]
    rw [if_pos (by omega), e1, e2, e3, if_pos (by omega), if_pos (by omega), e4, e5]
theorem key_l2 (l : List Vb) (i a b : Int) (s : ByteArray) (hs : s.size ≤ 200) (R : ByteArray) : ∀ (d p : Nat) (xs : List Int), p + d = s.size → xs.length + 2 * d + 2 ≤ 1000000 →
    Ev (fun k => headgateref03_Key.l0 k l (xs ++ (escL (s.data.toList.drop p) ++ [0, 0])) (wrap64 (i + 1))) R → Ev (fun k => headgateref03_Key.l2 k l xs i (p : Int) a b s) R
  | 0, p, xs, h, hx, hR => by
    rw [List.drop_of_length_le (by rw [data_length]; omega)] at hR
    exact Ev.step (f := fun k => headgateref03_Key.l0 k l (xs ++ [0, 0]) (wrap64 (i + 1))) (fun k => by
      simp only [headgateref03_Key.l2]
      rw [if_neg (by omega)]
      show (if _ then _ else _) = _
      rw [if_pos (by simp; omega)]) hR
  | d + 1, p, xs, h, hx, hR => by
    have hp : p < s.data.toList.length := by rw [data_length]; omega
    have hbt : bt s (p : Int) = ((s.data.toList[p]).toNat : Int) := by
      rw [← rd_bytesOf]
      unfold rd bytesOf
      rw [Int.toNat_natCast, List.getD_eq_getElem?_getD, List.getElem?_map, List.getElem?_eq_getElem hp]
      rfl
    have e4 : wrap64 ((p : Int) + 1) = ((p + 1 : Nat) : Int) := by rw [wrap_in (by unfold in64; omega)]; omega
    rw [List.drop_eq_getElem_cons hp, escL_cons] at hR
    obtain ⟨c, hc⟩ : ∃ c, s.data.toList[p] = c := ⟨_, rfl⟩
    rw [hc] at hbt hR
    have hl2 : ∀ k, headgateref03_Key.l2 (k + 1) l xs i (p : Int) a b s = (if (c.toNat : Int) = 0 then (if (xs ++ [(c.toNat : Int)]).length < 140737488355328 then (headgateref03_Key.l2 k l ((xs ++ [(c.toNat : Int)]) ++ [255]) i ((p + 1 : Nat) : Int) a b s) else none) else (headgateref03_Key.l2 k l (xs ++ [(c.toNat : Int)]) i ((p + 1 : Nat) : Int) a b s)) := fun k => by
      simp only [headgateref03_Key.l2]
      rw [if_pos (by omega), if_pos (by omega), if_pos (by omega), hbt, e4]
      rfl
    by_cases h0 : c = 0
    · subst h0
      rw [if_pos rfl] at hR
      refine Ev.step (f := fun k => headgateref03_Key.l2 k l (xs ++ [0, 255]) i ((p + 1 : Nat) : Int) a b s) (fun k => ?_) (key_l2 l i a b s hs R d (p + 1) _ (by omega) (by simp; omega) (by rw [List.append_assoc, ← List.append_assoc [0, 255]]; exact hR))
      have hz : ((0 : UInt8).toNat : Int) = 0 := rfl
      rw [hl2, hz, if_pos rfl, if_pos (by simp; omega), List.append_assoc]
      rfl
    · rw [if_neg h0] at hR
      have := u8_pos h0
      refine Ev.step (f := fun k => headgateref03_Key.l2 k l (xs ++ [(c.toNat : Int)]) i ((p + 1 : Nat) : Int) a b s) (fun k => ?_) (key_l2 l i a b s hs R d (p + 1) _ (by omega) (by simp; omega) (by rw [List.append_assoc, ← List.append_assoc [(c.toNat : Int)]]; exact hR))
      rw [hl2, if_neg (by omega)]
theorem refKey_loop (l : List Vb) (hl : l.length ≤ 12) (hg : ∀ v ∈ l, chkV v = 0 ∧ in64 v.f1) : ∀ (d i : Nat) (xs : List Int), i + d = l.length → xs.length + 500 * d ≤ 10000 →
    Ev (fun k => headgateref03_Key.l0 k l xs (i : Int)) (strOfNums (xs ++ keyB (l.drop i)))
  | 0, i, xs, h, hx => by
    rw [List.drop_of_length_le (by omega)]
    refine Ev.step (f := fun _ => some (strOfNums (xs ++ keyB []))) (fun k => ?_) (Ev.now _)
    simp only [headgateref03_Key.l0]
    rw [if_neg (by omega), keyB, List.append_nil]
  | d + 1, i, xs, h, hx => by
    have hd := rdV_drop l (i : Int) (by omega) (by omega)
    have e4 : wrap64 ((i : Int) + 1) = ((i + 1 : Nat) : Int) := by rw [wrap_in (by unfold in64; omega)]; omega
    obtain ⟨v, hv⟩ : ∃ v, rd_T23 l (i : Int) = v := ⟨_, rfl⟩
    rw [hv, Int.toNat_natCast, show ((i : Int) + 1).toNat = i + 1 by omega] at hd
    have hm : v ∈ l := List.mem_of_mem_drop (i := i) (by rw [hd]; exact List.mem_cons_self ..)
    obtain ⟨hc, hi⟩ := hg v hm
    have hkl := keyV_len v
    have h200 := chk_size hc
    have ih := fun ys hy => refKey_loop l hl hg d (i + 1) ys (by omega) hy
    have IH : Ev (fun k => headgateref03_Key.l0 k l (xs ++ keyV v) ((i + 1 : Nat) : Int)) (strOfNums (xs ++ keyB (l.drop i))) := by
      rw [hd, keyB, ← List.append_assoc]
      exact ih _ (by rw [List.length_append]; omega)
    have hl0 : ∀ k, headgateref03_Key.l0 (k + 1) l xs (i : Int) = (if v.f0 = 1 then (headgateref03_Key.l1 k l (xs ++ [(wrap64 (v.f0 + 1)) % 256]) (i : Int) (IntKind.u64.wrap ((IntKind.u64.wrap v.f1) + 9223372036854775808)) 0) else (if v.f0 = 2 then (if (xs ++ [(wrap64 (v.f0 + 1)) % 256]).length < 140737488355328 then (headgateref03_Key.l0 k l ((xs ++ [(wrap64 (v.f0 + 1)) % 256]) ++ [v.f1 % 256]) ((i + 1 : Nat) : Int)) else (none)) else (if v.f0 = 3 then (headgateref03_Key.l2 k l (xs ++ [(wrap64 (v.f0 + 1)) % 256]) (i : Int) 0 v.f0 v.f1 v.f2) else (headgateref03_Key.l0 k l (xs ++ [(wrap64 (v.f0 + 1)) % 256]) ((i + 1 : Nat) : Int))))) := fun k => by
      simp only [headgateref03_Key.l0, hv, e4]
      rw [if_pos (by omega), if_pos (by omega), if_pos (by omega)]
      rfl
    unfold keyV at IH
    have hlen1 : ∀ y : Int, (xs ++ [y]).length = xs.length + 1 := fun y => by simp
    rcases chk_parts hc with ⟨h0, h1, h2⟩ | ⟨h0, h2⟩ | ⟨h0, h1, h2⟩ | ⟨h0, h1, h2⟩
    · rw [h0] at IH hl0
      refine Ev.step (f := fun k => headgateref03_Key.l0 k l (xs ++ [1]) ((i + 1 : Nat) : Int)) (fun k => ?_) IH
      rw [hl0, if_neg (by decide), if_neg (by decide), if_neg (by decide), show wrap64 (0 + 1) % 256 = 1 by rw [wrap_in (by unfold in64; omega)]; rfl]
    · rw [h0] at IH hl0
      unfold in64 at hi
      have ew : IntKind.u64.wrap (IntKind.u64.wrap v.f1 + 9223372036854775808) = v.f1 + 9223372036854775808 := by
        rw [wrapu, wrapu]; omega
      refine Ev.step (f := fun k => headgateref03_Key.l1 k l (xs ++ [2]) (i : Int) (v.f1 + 9223372036854775808) ((0 : Nat) : Int)) (fun k => ?_) (key_l1 l i _ _ 8 0 (xs ++ [2]) rfl (by rw [hlen1]; omega) ?_)
      · rw [hl0, if_pos rfl, ew, show wrap64 (1 + 1) % 256 = 2 by rw [wrap_in (by unfold in64; omega)]; rfl]
        rfl
      · rw [e4, List.append_assoc]
        exact IH
    · rw [h0] at IH hl0
      refine Ev.step (f := fun k => headgateref03_Key.l0 k l ((xs ++ [3]) ++ [v.f1 % 256]) ((i + 1 : Nat) : Int)) (fun k => ?_) (by rw [List.append_assoc]; exact IH)
      rw [hl0, if_neg (by decide), if_pos rfl, if_pos (by rw [hlen1]; omega), show wrap64 (2 + 1) % 256 = 3 by rw [wrap_in (by unfold in64; omega)]; rfl]
    · rw [h0] at IH hl0
      refine Ev.step (f := fun k => headgateref03_Key.l2 k l (xs ++ [4]) (i : Int) ((0 : Nat) : Int) 3 v.f1 v.f2) (fun k => ?_) (key_l2 l i 3 v.f1 v.f2 h2 _ v.f2.size 0 (xs ++ [4]) (by omega) (by rw [hlen1]; omega) ?_)
      · rw [hl0, if_neg (by decide), if_neg (by decide), if_pos rfl, show wrap64 (3 + 1) % 256 = 4 by rw [wrap_in (by unfold in64; omega)]; rfl]
        rfl
      · rw [e4, List.append_assoc]
        exact IH
theorem refKey_ev (l : List Vb) (h : rowOk l = true) (hi : ∀ v ∈ l, in64 v.f1) : Ev (fun k => headgateref03_Key.f k l) (strOfNums (keyB l)) := by
  obtain ⟨h1, h2⟩ := rowOk_parts h
  exact refKey_loop l h1 (fun v hv => ⟨h2 v hv, hi v hv⟩) l.length 0 [] (by omega) (by simp; omega)
def unkB (o : Option (List Vb)) : List Vb × Bool := match o with | some l => (l, true) | none => ([], false)
theorem rowOk_snoc (acc : List Vb) (h : rowOk acc = true) (v : Vb) : rowOk (acc ++ [v]) = true ↔ chkV v = 0 ∧ acc.length ≠ 12 := by
  obtain ⟨h1, h2⟩ := rowOk_parts h
  constructor
  · intro g
    obtain ⟨g1, g2⟩ := rowOk_parts g
    rw [List.length_append, List.length_singleton] at g1
    exact ⟨g2 v (by simp), by omega⟩
  · rintro ⟨g1, g2⟩
    refine rowOk_mk (by rw [List.length_append, List.length_singleton]; omega) (fun x hx => ?_)
    rcases List.mem_append.1 hx with hx | hx
    · exact h2 x hx
    · rw [List.mem_singleton.1 hx]; exact g1
theorem unk_j5 (x : ByteArray) (acc : List Vb) (v : Vb) (n : Nat) (r : List Int) (p : Int) (hacc : rowOk acc = true)
    (ih : rowOk (acc ++ [v]) = true → Ev (fun k => headgateref03_Unkey.l0 k x (acc ++ [v]) p) (unkB (unk n r (acc ++ [v])))) :
    Ev (fun k => headgateref03_Unkey.j5 k x acc p v.f0 v.f1 v.f2) (unkB (if chkV v = 0 ∧ acc.length ≠ 12 then unk n r (acc ++ [v]) else none)) := by
  have hlen := (rowOk_parts hacc).1
  refine Ev.step (f := fun k => (headgateref03_Row.f k (acc ++ [v])).bind fun t140 => (if t140 = true then (headgateref03_Unkey.l0 k x (acc ++ [v]) p) else (some (([] : List Vb), false)))) (fun k => ?_) (Ev.bind (refRow_ev _) ?_)
  · simp only [headgateref03_Unkey.j5]
    rw [if_pos (by omega)]
    rfl
  · by_cases h : rowOk (acc ++ [v]) = true
    · rw [if_pos ((rowOk_snoc acc hacc v).1 h)]
      exact Ev.congr (fun k => if_pos h) (ih h)
    · rw [if_neg (fun g => h ((rowOk_snoc acc hacc v).2 g))]
      exact Ev.congr (fun k => if_neg h) (Ev.now _)
theorem unk_j3 (x : ByteArray) (acc : List Vb) (p a b : Int) (s : ByteArray) (R) (ha : a ≠ 3) (h : Ev (fun k => headgateref03_Unkey.j5 k x acc p a b s) R) : Ev (fun k => headgateref03_Unkey.j3 k x acc p a b s) R :=
  Ev.step (f := fun k => headgateref03_Unkey.j5 k x acc p a b s) (fun k => by simp only [headgateref03_Unkey.j3]; rw [if_neg ha]) h
theorem unk_j2 (x : ByteArray) (acc : List Vb) (p a b : Int) (s : ByteArray) (R) (ha : a ≠ 2) (h : Ev (fun k => headgateref03_Unkey.j3 k x acc p a b s) R) : Ev (fun k => headgateref03_Unkey.j2 k x acc p a b s) R :=
  Ev.step (f := fun k => headgateref03_Unkey.j3 k x acc p a b s) (fun k => by simp only [headgateref03_Unkey.j2]; rw [if_neg ha]) h
theorem unk_l1 (x : ByteArray) (hx : x.size ≤ 1000000000) (acc : List Vb) (a b : Int) (s : ByteArray) (R) : ∀ (d p j : Nat) (z : Int), j + d = 8 → p ≤ x.size → 0 ≤ z → z < 256 ^ j →
    (d ≤ x.size - p → Ev (fun k => headgateref03_Unkey.j2 k x acc ((p + d : Nat) : Int) a ((((bytesOf x).drop p).take d).foldl (fun a b => a * 256 + b) z - 9223372036854775808) s) R) →
    (x.size - p < d → R = ([], false)) → Ev (fun k => headgateref03_Unkey.l1 k x acc (p : Int) z (j : Int) a b s) R
  | 0, p, j, z, h, hp, h0, h1, hR, _ => by
    have hj : j = 8 := by omega
    subst hj
    have : (256 : Int) ^ 8 = 18446744073709551616 := by decide
    have e : wrap64 (IntKind.u64.wrap (z - 9223372036854775808)) = z - 9223372036854775808 := by
      rw [wrapu]; unfold wrap64; omega
    refine Ev.step (f := fun k => headgateref03_Unkey.j2 k x acc (p : Int) a (z - 9223372036854775808) s) (fun k => ?_) (hR (by omega))
    simp only [headgateref03_Unkey.l1]
    rw [if_neg (by omega), e]
  | d + 1, p, j, z, h, hp, h0, h1, hR, hF => by
    by_cases hpp : p < x.size
    · have hb := bt_range x (p : Int)
      have e4 : wrap64 ((p : Int) + 1) = ((p + 1 : Nat) : Int) := by rw [wrap_in (by unfold in64; omega)]; omega
      have e5 : wrap64 ((j : Int) + 1) = ((j + 1 : Nat) : Int) := by rw [wrap_in (by unfold in64; omega)]; omega
      have hp7 : (256 : Int) ^ j ≤ 256 ^ 7 := pow256_le (by omega)
      have e7 : (256 : Int) ^ 7 = 72057594037927936 := by decide
      have ez : IntKind.u64.wrap (IntKind.u64.wrap (z * 256) + IntKind.u64.wrap (bt x (p : Int))) = z * 256 + bt x (p : Int) := by
        rw [wrapu, wrapu, wrapu]; omega
      have hd := bt_drop x (p : Int) (by omega) (by omega)
      rw [Int.toNat_natCast, show ((p : Int) + 1).toNat = p + 1 by omega] at hd
      refine Ev.step (f := fun k => headgateref03_Unkey.l1 k x acc ((p + 1 : Nat) : Int) (z * 256 + bt x (p : Int)) ((j + 1 : Nat) : Int) a b s) (fun k => ?_) (unk_l1 x hx acc a b s R d (p + 1) (j + 1) _ (by omega) (by omega) (by omega) (by rw [Int.pow_succ]; omega) (fun g => ?_) (fun g => hF (by omega)))
      · simp only [headgateref03_Unkey.l1]
        rw [if_pos (by omega), if_neg (by omega), if_pos (by omega), if_pos (by omega), e4, e5, ez]
      · have := hR (by omega)
        rw [hd, List.take_succ_cons, List.foldl_cons, show p + (d + 1) = p + 1 + d by omega] at this
        exact this
    · rw [hF (by omega)]
      refine Ev.step (f := fun _ => some ([], false)) (fun k => ?_) (Ev.now _)
      simp only [headgateref03_Unkey.l1]
      rw [if_pos (by omega), if_pos (by omega)]
theorem unk_l2 (x : ByteArray) (hx : x.size ≤ 1000000000) (acc : List Vb) (a b : Int) (s : ByteArray) (R) : ∀ (d p : Nat) (xs : List Int), x.size - p < d → p ≤ x.size → xs.length + (x.size - p) ≤ 1000000000 →
    (∀ u r p', wordI ((bytesOf x).drop p) = some (u, r) → p < p' → p' ≤ x.size → (bytesOf x).drop p' = r → Ev (fun k => headgateref03_Unkey.j5 k x acc ((p' : Nat) : Int) a b (strOfNums (xs ++ u))) R) →
    (wordI ((bytesOf x).drop p) = none → R = ([], false)) → Ev (fun k => headgateref03_Unkey.l2 k x acc (p : Int) xs a b s) R
  | 0, p, xs, h, hp, hl, hR, hF => absurd h (by omega)
  | d + 1, p, xs, h, hp, hl, hR, hF => by
    have hbl := bytesOf_length x
    by_cases hpp : p < x.size
    · have hb := bt_range x (p : Int)
      have e4 : wrap64 ((p : Int) + 1) = ((p + 1 : Nat) : Int) := by rw [wrap_in (by unfold in64; omega)]; omega
      have e6 : wrap64 (((p + 1 : Nat) : Int) + 1) = ((p + 2 : Nat) : Int) := by rw [wrap_in (by unfold in64; omega)]; omega
      have hd := bt_drop x (p : Int) (by omega) (by omega)
      rw [Int.toNat_natCast, show ((p : Int) + 1).toNat = p + 1 by omega] at hd
      obtain ⟨c, hc⟩ : ∃ c, bt x (p : Int) = c := ⟨_, rfl⟩
      rw [hc] at hd hb
      by_cases c0 : c = 0
      · subst c0
        by_cases hp2 : p + 1 < x.size
        · have hb2 := bt_range x ((p + 1 : Nat) : Int)
          have hd2 := bt_drop x ((p + 1 : Nat) : Int) (by omega) (by omega)
          rw [Int.toNat_natCast, show (((p + 1 : Nat) : Int) + 1).toNat = p + 2 by omega] at hd2
          obtain ⟨c2, hc2⟩ : ∃ c2, bt x ((p + 1 : Nat) : Int) = c2 := ⟨_, rfl⟩
          rw [hc2] at hd2
          have hw : wordI ((bytesOf x).drop p) = (if c2 = 0 then some ([], (bytesOf x).drop (p + 2)) else if c2 = 255 then (wordI ((bytesOf x).drop (p + 2))).map fun p => (0 :: p.1, p.2) else none) := by
            rw [hd, hd2, wordI, if_pos rfl]
          have hl2 : ∀ k, headgateref03_Unkey.l2 (k + 1) x acc (p : Int) xs a b s = (if c2 = 0 then (headgateref03_Unkey.j5 k x acc ((p + 2 : Nat) : Int) a b (strOfNums xs)) else (if c2 = 255 then (if xs.length < 140737488355328 then (headgateref03_Unkey.l2 k x acc ((p + 2 : Nat) : Int) (xs ++ [0]) a b s) else (none)) else (some (([] : List Vb), false)))) := fun k => by
            simp only [headgateref03_Unkey.l2, hc, e4, hc2, e6]
            rw [if_neg (by omega), if_pos (by omega), if_pos (by omega), if_pos trivial, if_neg (by omega), if_pos (by omega), if_pos (by omega)]
          by_cases g1 : c2 = 0
          · rw [if_pos g1] at hw
            refine Ev.step (f := fun k => headgateref03_Unkey.j5 k x acc ((p + 2 : Nat) : Int) a b (strOfNums xs)) (fun k => by rw [hl2, if_pos g1]) ?_
            have := hR _ _ (p + 2) hw (by omega) (by omega) rfl
            rw [List.append_nil] at this
            exact this
          · rw [if_neg g1] at hw
            by_cases g2 : c2 = 255
            · rw [if_pos g2] at hw
              refine Ev.step (f := fun k => headgateref03_Unkey.l2 k x acc ((p + 2 : Nat) : Int) (xs ++ [0]) a b s) (fun k => by rw [hl2, if_neg g1, if_pos g2, if_pos (by omega)]) ?_
              refine unk_l2 x hx acc a b s R d (p + 2) (xs ++ [0]) (by omega) (by omega) (by simp; omega) (fun u r p' h1 h2 h3 h4 => ?_) (fun h1 => hF (by rw [hw, h1]; rfl))
              have := hR (0 :: u) r p' (by rw [hw, h1]; rfl) (by omega) h3 h4
              rw [List.append_assoc]
              exact this
            · rw [if_neg g2] at hw
              rw [hF hw]
              exact Ev.step (f := fun _ => some ([], false)) (fun k => by rw [hl2, if_neg g1, if_neg g2]) (Ev.now _)
        · have hnil : (bytesOf x).drop (p + 1) = [] := List.drop_of_length_le (by omega)
          rw [hF (by rw [hd, hnil]; rfl)]
          refine Ev.step (f := fun _ => some ([], false)) (fun k => ?_) (Ev.now _)
          simp only [headgateref03_Unkey.l2, hc, e4]
          rw [if_neg (by omega), if_pos (by omega), if_pos (by omega), if_pos trivial, if_pos (by omega)]
      · have hw : wordI ((bytesOf x).drop p) = (wordI ((bytesOf x).drop (p + 1))).map fun p => (c :: p.1, p.2) := by rw [hd, wordI_cons c0]
        refine Ev.step (f := fun k => headgateref03_Unkey.l2 k x acc ((p + 1 : Nat) : Int) (xs ++ [c]) a b s) (fun k => ?_) ?_
        · simp only [headgateref03_Unkey.l2, hc, e4]
          rw [if_neg (by omega), if_pos (by omega), if_pos (by omega), if_neg c0, if_pos (by omega)]
        · refine unk_l2 x hx acc a b s R d (p + 1) (xs ++ [c]) (by omega) (by omega) (by simp; omega) (fun u r p' h1 h2 h3 h4 => ?_) (fun h1 => hF (by rw [hw, h1]; rfl))
          have := hR (c :: u) r p' (by rw [hw, h1]; rfl) (by omega) h3 h4
          rw [List.append_assoc]
          exact this
    · have hnil : (bytesOf x).drop p = [] := List.drop_of_length_le (by omega)
      rw [hF (by rw [hnil]; rfl)]
      refine Ev.step (f := fun _ => some ([], false)) (fun k => ?_) (Ev.now _)
      simp only [headgateref03_Unkey.l2]
      rw [if_pos (by omega)]
theorem refUnkey_loop (x : ByteArray) (hx : x.size ≤ 100000000) : ∀ (n p : Nat) (acc : List Vb), x.size - p < n → p ≤ x.size → rowOk acc = true →
    Ev (fun k => headgateref03_Unkey.l0 k x acc (p : Int)) (unkB (unk n ((bytesOf x).drop p) acc))
  | 0, p, acc, h, hp, hacc => absurd h (by omega)
  | n + 1, p, acc, h, hp, hacc => by
    have hbl := bytesOf_length x
    rw [unk]
    by_cases hpp : p < x.size
    · have hb := bt_range x (p : Int)
      have e4 : wrap64 ((p : Int) + 1) = ((p + 1 : Nat) : Int) := by rw [wrap_in (by unfold in64; omega)]; omega
      have hd := bt_drop x (p : Int) (by omega) (by omega)
      rw [Int.toNat_natCast, show ((p : Int) + 1).toNat = p + 1 by omega] at hd
      obtain ⟨c, hc⟩ : ∃ c, bt x (p : Int) = c := ⟨_, rfl⟩
      rw [hc] at hd hb
      have ew : wrap64 (wrap64 c - 1) = c - 1 := by rw [wrap_in (x := c) (by unfold in64; omega), wrap_in (by unfold in64; omega)]
      have hl0 : ∀ k, headgateref03_Unkey.l0 (k + 1) x acc (p : Int) = (if c - 1 = 1 then (headgateref03_Unkey.l1 k x acc ((p + 1 : Nat) : Int) 0 0 (c - 1) 0 (⟨#[]⟩ : ByteArray)) else (headgateref03_Unkey.j2 k x acc ((p + 1 : Nat) : Int) (c - 1) 0 (⟨#[]⟩ : ByteArray))) := fun k => by
        simp only [headgateref03_Unkey.l0, hc, e4, ew]
        rw [if_pos (by omega), if_pos (by omega)]
      have IH : ∀ (p' : Nat) (v : Vb), p < p' → p' ≤ x.size → rowOk (acc ++ [v]) = true → Ev (fun k => headgateref03_Unkey.l0 k x (acc ++ [v]) (p' : Int)) (unkB (unk n ((bytesOf x).drop p') (acc ++ [v]))) := fun p' v h1 h2 h3 => refUnkey_loop x hx n p' (acc ++ [v]) (by omega) h2 h3
      rw [hd, if_neg (by simp), one_cons]
      by_cases k1 : c = 1
      · subst k1
        rw [if_pos rfl]
        refine Ev.step (f := fun k => headgateref03_Unkey.j2 k x acc ((p + 1 : Nat) : Int) 0 0 (⟨#[]⟩ : ByteArray)) (fun k => by rw [hl0, if_neg (by decide)]; rfl) ?_
        exact unk_j2 _ _ _ _ _ _ _ (by decide) (unk_j3 _ _ _ _ _ _ _ (by decide) (unk_j5 x acc ⟨0, 0, ⟨#[]⟩⟩ n _ _ hacc (IH (p + 1) _ (by omega) (by omega))))
      · rw [if_neg k1]
        by_cases k2 : c = 2
        · subst k2
          rw [if_pos rfl]
          have hdl : ((bytesOf x).drop (p + 1)).length = x.size - (p + 1) := by rw [List.length_drop, hbl]
          refine Ev.step (f := fun k => headgateref03_Unkey.l1 k x acc ((p + 1 : Nat) : Int) 0 ((0 : Nat) : Int) 1 0 (⟨#[]⟩ : ByteArray)) (fun k => by rw [hl0, if_pos (by decide)]; rfl) ?_
          refine unk_l1 x (by omega) acc 1 0 _ _ 8 (p + 1) 0 0 rfl (by omega) (by omega) (by decide) (fun g => ?_) (fun g => ?_)
          · rw [if_pos (by omega), List.drop_drop]
            exact unk_j2 _ _ _ _ _ _ _ (by decide) (unk_j3 _ _ _ _ _ _ _ (by decide) (unk_j5 x acc ⟨1, numI (((bytesOf x).drop (p + 1)).take 8) - 9223372036854775808, ⟨#[]⟩⟩ n _ _ hacc (IH (p + 1 + 8) _ (by omega) (by omega))))
          · rw [if_neg (by omega)]; rfl
        · rw [if_neg k2]
          by_cases k3 : c = 3
          · subst k3
            rw [if_pos rfl]
            refine Ev.step (f := fun k => headgateref03_Unkey.j2 k x acc ((p + 1 : Nat) : Int) 2 0 (⟨#[]⟩ : ByteArray)) (fun k => by rw [hl0, if_neg (by decide)]; rfl) ?_
            have e6 : wrap64 (((p + 1 : Nat) : Int) + 1) = ((p + 2 : Nat) : Int) := by rw [wrap_in (by unfold in64; omega)]; omega
            by_cases g : p + 1 < x.size
            · have hb2 := bt_range x ((p + 1 : Nat) : Int)
              have hd2 := bt_drop x ((p + 1 : Nat) : Int) (by omega) (by omega)
              rw [Int.toNat_natCast, show (((p + 1 : Nat) : Int) + 1).toNat = p + 2 by omega] at hd2
              obtain ⟨c2, hc2⟩ : ∃ c2, bt x ((p + 1 : Nat) : Int) = c2 := ⟨_, rfl⟩
              rw [hc2] at hd2 hb2
              have ew2 : wrap64 c2 = c2 := wrap_in (by unfold in64; omega)
              rw [hd2]
              refine Ev.step (f := fun k => headgateref03_Unkey.j3 k x acc ((p + 2 : Nat) : Int) 2 c2 (⟨#[]⟩ : ByteArray)) (fun k => ?_) (unk_j3 _ _ _ _ _ _ _ (by decide) (unk_j5 x acc ⟨2, c2, ⟨#[]⟩⟩ n _ _ hacc (IH (p + 2) _ (by omega) (by omega))))
              simp only [headgateref03_Unkey.j2, hc2, ew2, e6]
              rw [if_pos trivial, if_neg (by omega), if_pos (by omega), if_pos (by omega)]
            · have hnil : (bytesOf x).drop (p + 1) = [] := List.drop_of_length_le (by omega)
              rw [hnil]
              refine Ev.step (f := fun _ => some ([], false)) (fun k => ?_) (Ev.now _)
              simp only [headgateref03_Unkey.j2]
              rw [if_pos trivial, if_pos (by omega)]
          · rw [if_neg k3]
            by_cases k4 : c = 4
            · subst k4
              rw [if_pos rfl]
              refine Ev.step (f := fun k => headgateref03_Unkey.j2 k x acc ((p + 1 : Nat) : Int) 3 0 (⟨#[]⟩ : ByteArray)) (fun k => by rw [hl0, if_neg (by decide)]; rfl) (unk_j2 _ _ _ _ _ _ _ (by decide) ?_)
              refine Ev.step (f := fun k => headgateref03_Unkey.l2 k x acc ((p + 1 : Nat) : Int) [] 3 0 (⟨#[]⟩ : ByteArray)) (fun k => by simp only [headgateref03_Unkey.j3]; rw [if_pos trivial]) ?_
              refine unk_l2 x (by omega) acc 3 0 _ _ (x.size + 1) (p + 1) [] (by omega) (by omega) (by simp; omega) (fun u r p' h1 h2 h3 h4 => ?_) (fun h1 => ?_)
              · rw [h1, ← h4]
                exact unk_j5 x acc ⟨3, 0, strOfNums u⟩ n _ _ hacc (IH p' _ (by omega) h3)
              · rw [h1]; rfl
            · rw [if_neg k4]
              refine Ev.step (f := fun k => headgateref03_Unkey.j2 k x acc ((p + 1 : Nat) : Int) (c - 1) 0 (⟨#[]⟩ : ByteArray)) (fun k => by rw [hl0, if_neg (by omega)]) ?_
              have hbad : chkV ⟨c - 1, 0, ⟨#[]⟩⟩ ≠ 0 := by
                unfold chkV
                dsimp only
                rw [if_neg (by omega), if_neg (by omega), if_neg (by omega), if_neg (by omega)]
                decide
              have := unk_j5 x acc ⟨c - 1, 0, ⟨#[]⟩⟩ n [] ((p + 1 : Nat) : Int) hacc (fun g => absurd ((rowOk_snoc acc hacc _).1 g).1 hbad)
              rw [if_neg (fun z => hbad z.1)] at this
              exact unk_j2 _ _ _ _ _ _ _ (by omega) (unk_j3 _ _ _ _ _ _ _ (by omega) this)
    · have hnil : (bytesOf x).drop p = [] := List.drop_of_length_le (by omega)
      rw [hnil, if_pos rfl]
      refine Ev.step (f := fun _ => some (acc, true)) (fun k => ?_) (Ev.now _)
      simp only [headgateref03_Unkey.l0]
      rw [if_neg (by omega)]
theorem refUnkey_f (x : ByteArray) (hx : x.size ≤ 100000000) : Ev (fun k => headgateref03_Unkey.f k x) (unkB (unk (x.size + 1) (bytesOf x) [])) := by
  have := refUnkey_loop x hx (x.size + 1) 0 [] (by omega) (by omega) (by decide)
  rw [List.drop_zero] at this
  exact this
theorem same_ev (l : List Vb) (hg : ∀ v ∈ l, chkV v = 0 ∧ in64 v.f1) (hl : l.length ≤ 12) : Ev (fun k => headgateref03_Same.f k l l) true := by
  unfold headgateref03_Same.f
  refine Ev.congr (fun k => if_pos rfl) (Ev.bind (refCmpRow_ev l l (by omega)) ?_)
  have : cmpRowV l l = 0 := by rw [← keyB_cmp l l hg hg, cmpL_self]
  rw [this]
  exact Ev.now _
theorem toL_empty : (⟨#[]⟩ : ByteArray).toList = [] := by rw [Lib.toList_data]
theorem keys_j1 (x : ByteArray) (hx : x.size ≤ 4000) : Ev (fun k => headgatelaw03_ValueKeys.j1 k x false) true := by
  refine Ev.step (f := fun k => (value_Unkey.f k x).bind fun bt107 => ((headgateref03_Unkey.f k x).bind fun bt111 => (if (bt111.2 == (bt107.2 == 0)) = true then (if bt111.2 = true then ((headgateref03_Same.f k bt107.1 bt111.1).bind fun t115 => (some t115)) else (if bt107.2 = 31 then (if (bt107.1.length : Int) = 0 then ((headgateref03_Same.f k bt107.1 bt111.1).bind fun t116 => (some t116)) else (some false)) else (some false))) else (some false)))) (fun k => by simp only [headgatelaw03_ValueKeys.j1]; rfl) (Ev.bind (unkey_f x (by omega)) (Ev.bind (refUnkey_f x (by omega)) ?_))
  cases h : unk (x.size + 1) (bytesOf x) [] with
  | none =>
    refine Ev.congr (fun k => (if_pos (by decide)).trans ((if_neg (by decide)).trans ((if_pos rfl).trans (if_pos rfl)))) ?_
    exact Ev.bind (same_ev [] (fun v hv => by cases hv) (by simp)) (Ev.now _)
  | some m =>
    obtain ⟨p, h1, h2, h3, h4⟩ := key_unk _ _ [] m (bytesOf_rng x) (by simp) h
    rw [List.nil_append] at h1
    subst h1
    refine Ev.congr (fun k => (if_pos rfl).trans (if_pos rfl)) ?_
    exact Ev.bind (same_ev m h3 h4) (Ev.now _)
theorem ValueKeys_ev (l : List Vb) (x : ByteArray) (hl : l.length * 32 ≤ 140737488351232) (il : ∀ v ∈ l, in64 v.f1) : Ev (fun k => headgatelaw03_ValueKeys.f k l x) true := by
  unfold headgatelaw03_ValueKeys.f
  refine Ev.bind alive03_ev (Ev.congr (fun k => if_pos rfl) ?_)
  obtain ⟨b, hb⟩ := Big_ev l
  have J0t : Ev (fun k => headgatelaw03_ValueKeys.j0 k l x true) true := Ev.step (f := fun _ => some true) (fun k => by simp only [headgatelaw03_ValueKeys.j0]; rfl) (Ev.now _)
  have J0 : Ev (fun k => headgatelaw03_ValueKeys.j0 k l x (decide ((x.size : Int) > 4000))) true := by
    by_cases hx : (x.size : Int) > 4000
    · rw [decide_eq_true hx]; exact J0t
    · rw [decide_eq_false hx]
      have J1 := keys_j1 x (by omega)
      refine Ev.step (f := fun k => (value_Key.f l).bind fun bt103 => ((headgateref03_Row.f k l).bind fun t105 => (if (t105 != (bt103.2 == 0)) = true then (headgatelaw03_ValueKeys.j1 k x true) else (if bt103.2 = 0 then ((headgateref03_Key.f k l).bind fun t106 => (if bt103.1.toList = t106.toList then (headgatelaw03_ValueKeys.j1 k x false) else (headgatelaw03_ValueKeys.j1 k x true))) else (if bt103.1.toList = ([] : List UInt8) then (headgatelaw03_ValueKeys.j1 k x (bt103.2 != 31)) else (headgatelaw03_ValueKeys.j1 k x true)))))) (fun k => by simp only [headgatelaw03_ValueKeys.j0]; rfl) ?_
      refine Ev.bind (Ev.congr (fun k => key_now l (by omega) il) (Ev.now _)) (Ev.bind (refRow_ev l) ?_)
      by_cases r1 : rowOk l = true
      · have e1 : keyR l = (strOfNums (keyB l), 0) := if_pos r1
        rw [e1, r1]
        refine Ev.congr (fun k => (if_neg (show ¬ ((true != ((0 : Int) == 0)) = true) by decide)).trans (if_pos rfl)) ?_
        exact Ev.bind (refKey_ev l r1 il) (Ev.congr (fun k => if_pos rfl) J1)
      · have e1 : keyR l = (⟨#[]⟩, 31) := if_neg r1
        rw [e1, Bool.eq_false_iff.mpr r1]
        exact Ev.congr (fun k => (if_neg (by decide)).trans ((if_neg (by decide)).trans (if_pos toL_empty))) J1
  refine Ev.bind hb ?_
  cases b with
  | true => exact Ev.congr (fun k => if_pos rfl) J0t
  | false => exact Ev.congr (fun k => if_neg (by decide)) J0
theorem ValueKeys_pure (l : List Vb) (x : ByteArray) (h2 : l.length * 32 ≤ 140737488351232 ∧ ∀ z ∈ l, (Lit.int .i64 z.f0).wf = true ∧ (Lit.int .i64 z.f1).wf = true ∧ z.f2.size ≤ 140737488351232) (h3 : x.size ≤ 140737488351232) : ∃ k, headgatelaw03_ValueKeys.f k l x = some true :=
  (ValueKeys_ev l x h2.1 (fun v hv => wf64 (h2.2 v hv).2.1)).rounds
end Go.Proofs.YtindffllmlifiaaDoor.Q
