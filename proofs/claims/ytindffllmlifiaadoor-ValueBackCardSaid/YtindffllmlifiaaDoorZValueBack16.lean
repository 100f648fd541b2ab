/- Texts of the claim, put together. -/
import Derived.Test.YtindffllmlifiaaDoorK
import Derived.Test.YtindffllmlifiaaDoorZValueBack1
import Derived.Test.YtindffllmlifiaaDoorZValueBack10
import Derived.Test.YtindffllmlifiaaDoorZValueBack14
import Derived.Test.YtindffllmlifiaaDoorZValueBack7
import Derived.Test.YtindffllmlifiaaDoorZValueBack4
import Derived.Test.YtindffllmlifiaaDoorZValueBack15
-- Written by a program of the session over the translation's print: functions as plain Lean, and that the machine's call comes to them.
namespace Go.Proofs.YtindffllmlifiaaDoor.Q
open Go.RowKit Go.Proofs.YtindffllmlifiaaDoorW.PrintWords Go.Proofs.YtindffllmlifiaaDoorW.PrintLast Go.Proofs.YtindffllmlifiaaDoorW.PrintMore
attribute [local go_sem] max2_int min2_int max_two min_two max_three min_three max_four min_four   -- for this text's walks alone
set_option linter.unusedVariables false
set_option linter.unusedSimpArgs false

attribute [local go_sem high] eqA23
/-! ### headgatelaw03_alive: function 10 -/
def headgatelaw03_alive.f (k : Nat)  : Option (Bool) := (value_Int.f (-1)).bind fun bt106 => ((value_Key.f (([(⟨bt106.1, bt106.2.1, bt106.2.2⟩ : S23)] : List (S23)))).bind fun bt112 => ((value_Unkey.f k (⟨#[4, 97, 0, 0]⟩ : ByteArray)).bind fun bt114 => (if bt112.2 = 0 then (if bt112.1.toList = ([2, 127, 255, 255, 255, 255, 255, 255, 255] : List UInt8) then (if bt114.2 = 0 then (if (bt114.1.length : Int) = 1 then (if 0 < (bt114.1.length : Int) then ((value_Text.f (⟨#[97]⟩ : ByteArray)).bind fun bt119 => (some (((rd_T23 bt114.1 0).f0) == bt119.1 && (((rd_T23 bt114.1 0).f1) == bt119.2.1 && ((((rd_T23 bt114.1 0).f2).toList) == bt119.2.2.toList))))) else (none)) else (some false)) else (some false)) else (some false)) else (some false))))
theorem headgatelaw03_alive.mono : ∀ k, LeO (headgatelaw03_alive.f k ) (headgatelaw03_alive.f (k + 1) ) := by
  intro  k
  unfold headgatelaw03_alive.f
  repeat' first
      | (with_reducible exact value_Unkey.mono _ _)
      | (with_reducible exact LeO.refl _)
      | (with_reducible exact LeO.none _)
      | (with_reducible refine LeO.ite ?_ ?_)
      | (with_reducible refine LeO.bind ?_ (fun _ => ?_))
      | exact value_Unkey.mono _ _
      | exact LeO.none _
      | refine LeO.ite ?_ ?_
      | refine LeO.bind ?_ (fun _ => ?_)
def headgatelaw03_alive.T3 : Bool × List (List Nat × List Nat) := (true, [([], []), ([0], [0]), ([1], [1]), ([2], [2]), ([3, 2], [2, 3]), ([2, 4], [2, 4]), ([5, 2], [5]), ([6], [6]), ([7, 6], [6, 7]), ([6, 8], [6, 8]), ([9, 6], [9]), ([10], [10]), ([11, 10], [10, 11]), ([12, 10], [10, 12]), ([10, 13], [10, 13]), ([14, 10], [14]), ([15], [15]), ([16, 15], [15, 16]), ([17, 15], [15, 17]), ([15, 15], [15]), ([18, 19, 15], [15, 18, 19]), ([15, 20], [15, 20]), ([21, 19, 0, 1, 2, 3, 4, 5, 6, 7, 8, 9, 10, 11, 12, 13, 14, 15, 16, 17, 18, 19, 20, 21], [21])])
def headgatelaw03_alive.B3 : List Nat := [0, 1, 3, 7, 15, 31, 63, 127, 255, 511, 1023, 2047, 4095, 8191, 16383, 32767, 65535, 131071, 262143, 65535, 1048575, 2097151, 4194303]
theorem headgatelaw03_alive.tab3 : rtab .any (opsOf Tryd.f10 3) = headgatelaw03_alive.T3 := by kernel_rfl
theorem headgatelaw03_alive.bits3 : waitsOk headgatelaw03_alive.T3.2 headgatelaw03_alive.B3 = true := by kernel_rfl
set_option maxHeartbeats 8000000 in
set_option maxRecDepth 100000 in
theorem headgatelaw03_alive.calls (k : Nat)  (r : Bool) (w : World) (h : headgatelaw03_alive.f k  = some r) :
    Calls Tryd.prog 10 #[] w fun e w' => e = .returned (.bool r) ∧ Below w.heap.size w w' := by
  have hu23 := Tryd.underlying23
  have HB := Aside0.mk (Below.refl w.heap.size w)
  have H : ((value_Int.f (-1)).bind fun bt106 => ((value_Key.f (([(⟨bt106.1, bt106.2.1, bt106.2.2⟩ : S23)] : List (S23)))).bind fun bt112 => ((value_Unkey.f k (⟨#[4, 97, 0, 0]⟩ : ByteArray)).bind fun bt114 => (if bt112.2 = 0 then (if bt112.1.toList = ([2, 127, 255, 255, 255, 255, 255, 255, 255] : List UInt8) then (if bt114.2 = 0 then (if (bt114.1.length : Int) = 1 then (if 0 < (bt114.1.length : Int) then ((value_Text.f (⟨#[97]⟩ : ByteArray)).bind fun bt119 => (some (((rd_T23 bt114.1 0).f0) == bt119.1 && (((rd_T23 bt114.1 0).f1) == bt119.2.1 && ((((rd_T23 bt114.1 0).f2).toList) == bt119.2.2.toList))))) else (none)) else (some false)) else (some false)) else (some false)) else (some false))))) = some r := h
  clear h
  replace H := Option.bind_eq_some_iff.mp H
  obtain ⟨⟨t106, t107, t108⟩, A10, H⟩ := H
  replace H : ((value_Key.f (([(⟨t106, t107, t108⟩ : S23)] : List (S23)))).bind fun bt112 => ((value_Unkey.f k (⟨#[4, 97, 0, 0]⟩ : ByteArray)).bind fun bt114 => (if bt112.2 = 0 then (if bt112.1.toList = ([2, 127, 255, 255, 255, 255, 255, 255, 255] : List UInt8) then (if bt114.2 = 0 then (if (bt114.1.length : Int) = 1 then (if 0 < (bt114.1.length : Int) then ((value_Text.f (⟨#[97]⟩ : ByteArray)).bind fun bt119 => (some (((rd_T23 bt114.1 0).f0) == bt119.1 && (((rd_T23 bt114.1 0).f1) == bt119.2.1 && ((((rd_T23 bt114.1 0).f2).toList) == bt119.2.2.toList))))) else (none)) else (some false)) else (some false)) else (some false)) else (some false)))) = some r := H
  have A1 := Aside0.mk A10
  clear A10
  obtain ⟨y109, hy109⟩ : ∃ y_ : List (S23), y_ = (([(⟨t106, t107, t108⟩ : S23)] : List (S23))) := ⟨_, rfl⟩
  replace H : ((value_Key.f y109).bind fun bt112 => ((value_Unkey.f k (⟨#[4, 97, 0, 0]⟩ : ByteArray)).bind fun bt114 => (if bt112.2 = 0 then (if bt112.1.toList = ([2, 127, 255, 255, 255, 255, 255, 255, 255] : List UInt8) then (if bt114.2 = 0 then (if (bt114.1.length : Int) = 1 then (if 0 < (bt114.1.length : Int) then ((value_Text.f (⟨#[97]⟩ : ByteArray)).bind fun bt119 => (some (((rd_T23 bt114.1 0).f0) == bt119.1 && (((rd_T23 bt114.1 0).f1) == bt119.2.1 && ((((rd_T23 bt114.1 0).f2).toList) == bt119.2.2.toList))))) else (none)) else (some false)) else (some false)) else (some false)) else (some false)))) = some r := by first | (rw [hy109]; with_reducible exact H) | (have H2_ := (Option.bind_some _ _).symm.trans H; rw [hy109]; with_reducible exact H2_) | (have H2_ := (Option.bind_some _ _).symm.trans H; with_reducible exact H2_) | with_reducible exact H | (rw [hy109]; exact H) | exact H
  have Ny109 := Aside0.mk hy109
  clear hy109
  replace H := Option.bind_eq_some_iff.mp H
  obtain ⟨⟨t112, t113⟩, A20, H⟩ := H
  replace H : ((value_Unkey.f k (⟨#[4, 97, 0, 0]⟩ : ByteArray)).bind fun bt114 => (if t113 = 0 then (if t112.toList = ([2, 127, 255, 255, 255, 255, 255, 255, 255] : List UInt8) then (if bt114.2 = 0 then (if (bt114.1.length : Int) = 1 then (if 0 < (bt114.1.length : Int) then ((value_Text.f (⟨#[97]⟩ : ByteArray)).bind fun bt119 => (some (((rd_T23 bt114.1 0).f0) == bt119.1 && (((rd_T23 bt114.1 0).f1) == bt119.2.1 && ((((rd_T23 bt114.1 0).f2).toList) == bt119.2.2.toList))))) else (none)) else (some false)) else (some false)) else (some false)) else (some false))) = some r := H
  have A2 := Aside0.mk A20
  clear A20
  replace H := Option.bind_eq_some_iff.mp H
  obtain ⟨⟨t114, t115⟩, A30, H⟩ := H
  replace H : (if t113 = 0 then (if t112.toList = ([2, 127, 255, 255, 255, 255, 255, 255, 255] : List UInt8) then (if t115 = 0 then (if (t114.length : Int) = 1 then (if 0 < (t114.length : Int) then ((value_Text.f (⟨#[97]⟩ : ByteArray)).bind fun bt119 => (some (((rd_T23 t114 0).f0) == bt119.1 && (((rd_T23 t114 0).f1) == bt119.2.1 && ((((rd_T23 t114 0).f2).toList) == bt119.2.2.toList))))) else (none)) else (some false)) else (some false)) else (some false)) else (some false)) = some r := H
  have A3 := Aside0.mk A30
  clear A30
  by_cases c4 : t113 = 0
  · rw [if_pos c4] at H
    have c4b0 : (t113 == 0) = true := beq_iff_eq.mpr c4
    have c4b1 : (t113 != 0) = false := bne_eq_false_iff_eq.mpr c4
    clear c4
    by_cases c5 : t112.toList = ([2, 127, 255, 255, 255, 255, 255, 255, 255] : List UInt8)
    · rw [if_pos c5] at H
      have c5b0 : (t112.toList == ([2, 127, 255, 255, 255, 255, 255, 255, 255] : List UInt8)) = true := beq_iff_eq.mpr c5
      have c5b1 : (t112.toList != ([2, 127, 255, 255, 255, 255, 255, 255, 255] : List UInt8)) = false := bne_eq_false_iff_eq.mpr c5
      clear c5
      by_cases c6 : t115 = 0
      · rw [if_pos c6] at H
        have c6b0 : (t115 == 0) = true := beq_iff_eq.mpr c6
        have c6b1 : (t115 != 0) = false := bne_eq_false_iff_eq.mpr c6
        clear c6
        by_cases c7 : (t114.length : Int) = 1
        · rw [if_pos c7] at H
          have c7b0 : ((t114.length : Int) == 1) = true := beq_iff_eq.mpr c7
          have c7b1 : ((t114.length : Int) != 1) = false := bne_eq_false_iff_eq.mpr c7
          clear c7
          by_cases c8 : 0 < (t114.length : Int)
          · rw [if_pos c8] at H
            have c8b0 : decide (0 < (t114.length : Int)) = true := decide_eq_true c8
            have c8b1 : decide (0 < t114.length) = true := decide_eq_true (by omega)
            clear c8
            replace H := Option.bind_eq_some_iff.mp H
            obtain ⟨⟨t119, t120, t121⟩, A90, H⟩ := H
            replace H : (some (((rd_T23 t114 0).f0) == t119 && (((rd_T23 t114 0).f1) == t120 && ((((rd_T23 t114 0).f2).toList) == t121.toList)))) = some r := H
            have A9 := Aside0.mk A90
            clear A90
            obtain rfl := Option.some.inj H
            go_enter Tryd.func10, Tryd.ntmps10
            try go_wp2_with (first | ((with_reducible refine gate_callee (f := 23) rfl ?_); refine goesL_ (some 6) rfl rfl Tryd.func23 (by kernel_rfl) rfl #[.int .i64 (-1)] rfl (by (try simp only [List.map_toArray, List.map_cons, List.map_nil]); first | done | rfl | (simp only [List.length_drop, List.length_take]; rfl) | exact congrArg (fun x_ : Int => #[Value.int .u64 x_]) (show _ = _ % (18446744073709551616 : Int) by omega)) ?_; (with_reducible refine (value_Int.calls (-1) t106 t107 t108 _ A1.out).mono ?_); rintro e w10 ⟨rfl, hb⟩; refine ⟨_, rfl, ?_⟩; have n0_ := Aside0.mk (below_step (by repeat (first | (with_reducible first | exact HB.out | apply below_alloc | apply pw_below_drewN | apply below_drew1) | exact HB.out)) hb); clear HB; have HB := n0_; clear n0_; (try clear hb); (try clear hb2); (try clear hk); (try clear hi)) | ((with_reducible refine gate_dst (N := 7) rfl ?_); (try (refine gate_guard (by rfl) ?_; dsimp only)); refine Kd.R_lit k23 _ 23 ?hg (N := 7) ?hd (xs := ([(⟨t106, t107, t108⟩ : S23)] : List (S23))) (inner := [.int .i64 t106, .int .i64 t107, .string t108]) (ok := fun _ => True) (okp := fun _ => True) ?hr ?hp (fun _ hk => hk) trivial (Below.refl _ _) (Nat.le_refl _) (by simp) ?_; (case hd => rfl); (case hg => rfl); (case hr => first | (go_simp; done) | (go_simp; rfl)); (case hp => exact (Reps.c3 (show Kd.M k23 _ _ _ (⟨t106, t107, t108⟩ : S23) [.int .i64 t106, .int .i64 t107, .string t108] from (k23_mkM _ _ _ (⟨t106, t107, t108⟩ : S23) )) (Reps.none _ _))); intro v110 w11 ho12 hb hg_ hnew_; clear hg_ hnew_; (first | rw [← Ny109.out] at ho12 | (simp only [Int.reduceToNat] at ho12; rw [← Ny109.out] at ho12)); have n0_ := Aside0.mk (Kd.R_lower ho12 (below_size (by repeat (first | (with_reducible first | exact HB.out | apply below_alloc | apply pw_below_drewN | apply below_drew1) | exact HB.out)))); have n1_ := Aside0.mk (below_step (by repeat (first | (with_reducible first | exact HB.out | apply below_alloc | apply pw_below_drewN | apply below_drew1) | exact HB.out)) hb); clear HB; have HO111 := n0_; have HB := n1_; clear n0_ n1_; clear hb ho12; obtain ⟨Ao13, co13, eo13⟩ := Kd.R_slice HO111.out; subst eo13) | ((with_reducible refine gate_callee (f := 16) rfl ?_); refine goesL_ (some 8) rfl rfl Tryd.func16 (by kernel_rfl) rfl #[.slice Ao13 y109.length co13] rfl (by (try simp only [List.map_toArray, List.map_cons, List.map_nil]); first | done | rfl | (simp only [List.length_drop, List.length_take]; rfl) | exact congrArg (fun x_ : Int => #[Value.int .u64 x_]) (show _ = _ % (18446744073709551616 : Int) by omega)) ?_; (with_reducible refine (value_Key.calls _ _ y109 t112 t113 _ ?side1 ?side2 A2.out).mono ?_); (case side1 => repeat (first | exact (Kd.R_reads' HO111.out).2.2 | (with_reducible refine Kd.C_alloc ?_ _) | (with_reducible refine Kd.C_drewN ?_ _) | (with_reducible refine Kd.C_drew ?_))); (case side2 => exact (Kd.R_reads' HO111.out).2.1); rintro e w14 ⟨rfl, hb⟩; refine ⟨_, rfl, ?_⟩; have n0_ := Aside0.mk (Kd.R_below (by (with_reducible repeat (first | apply Kd.R_alloc | apply Kd.R_drewN | apply Kd.R_drew)); exact HO111.out) hb); have n1_ := Aside0.mk (below_step (by repeat (first | (with_reducible first | exact HB.out | apply below_alloc | apply pw_below_drewN | apply below_drew1) | exact HB.out)) hb); clear HO111; clear HB; have HO111 := n0_; have HB := n1_; clear n0_ n1_; (try clear hb); (try clear hb2); (try clear hk); (try clear hi)) | ((with_reducible refine gate_callee (f := 18) rfl ?_); refine goesL_ (some 12) rfl rfl Tryd.func18 (by kernel_rfl) rfl #[.string (⟨#[4, 97, 0, 0]⟩ : ByteArray)] rfl (by (try simp only [List.map_toArray, List.map_cons, List.map_nil]); first | done | rfl | (simp only [List.length_drop, List.length_take]; rfl) | exact congrArg (fun x_ : Int => #[Value.int .u64 x_]) (show _ = _ % (18446744073709551616 : Int) by omega)) ?_; (with_reducible refine (value_Unkey.calls k (⟨#[4, 97, 0, 0]⟩ : ByteArray) t114 t115 _ A3.out).mono ?_); rintro e w15 ⟨v116, rfl, ho0, hb⟩; refine ⟨_, rfl, ?_⟩; have n0_ := Aside0.mk (Kd.R_elder' (by (with_reducible repeat (first | apply Kd.R_alloc | apply Kd.R_drewN | apply Kd.R_drew)); exact HO111.out) (Kd.R_base ho0) hb); have n1_ := Aside0.mk (Kd.R_lower (Kd.R_new' ho0 (Kd.R_lt (by (with_reducible repeat (first | apply Kd.R_alloc | apply Kd.R_drewN | apply Kd.R_drew)); exact HO111.out))) (below_size (by repeat (first | (with_reducible first | exact HB.out | apply below_alloc | apply pw_below_drewN | apply below_drew1) | exact HB.out)))); have n2_ := Aside0.mk (below_step (by repeat (first | (with_reducible first | exact HB.out | apply below_alloc | apply pw_below_drewN | apply below_drew1) | exact HB.out)) hb); clear HO111; clear HB; have HO111 := n0_; have HO117 := n1_; have HB := n2_; clear n0_ n1_ n2_; (try clear hb); (try clear hb2); (try clear hk); (try clear hi); (try clear ho0)))
            have n0_ := Aside0.mk (Kd.R_drew HO111.out)
            have n1_ := Aside0.mk (Kd.R_drew HO117.out)
            have n2_ := Aside0.mk (below_drew1 HB.out)
            clear HO111
            clear HO117
            clear HB
            have HO111 := n0_
            have HO117 := n1_
            have HB := n2_
            clear n0_ n1_ n2_
            obtain ⟨Ao17, co17, eo17⟩ := Kd.R_slice HO117.out
            (first | subst eo17 | (injection eo17 with f1_ f2_ f3_; have f4_ := f1_.symm; have f5_ := f3_.symm; clear f1_ f2_ f3_; subst f4_; subst f5_))
            have p118 : 0 ≤ (0 : Int) := (by omega)
            have q118 : 0 < (t114.length : Int) := of_decide_eq_true (by first | (with_reducible assumption) | assumption)
            obtain ⟨ad118, e118, hx118_0, hx118_1, hx118_2⟩ := at_T23 (Kd.R_reads' HO117.out).2.2 0 p118 q118
            cases e118
            have qi118 : (0 < t114.length) = True := eq_true (by omega)
            (try rw [show ((0 : Int)).toNat = 0 from rfl] at hx118_0)
            (try rw [show 0 * 3 = 0 from rfl] at hx118_0)
            (try rw [Addr.add_zero'] at hx118_0)
            (try rw [show ((0 : Int)).toNat = 0 from rfl] at hx118_1)
            (try rw [show 0 * 3 = 0 from rfl] at hx118_1)
            (try rw [Addr.add_zero'] at hx118_1)
            (try rw [show ((0 : Int)).toNat = 0 from rfl] at hx118_2)
            (try rw [show 0 * 3 = 0 from rfl] at hx118_2)
            (try rw [Addr.add_zero'] at hx118_2)
            replace p118 := eq_true p118
            replace q118 := eq_true q118
            refine start_ (n := 23) (S := fun w' => w'.cell? ad118 = some (.int .i64 ((rd_T23 t114 0).f0)) ∧ w'.cell? ⟨ad118.block, ad118.off + 1, none⟩ = some (.int .i64 ((rd_T23 t114 0).f1)) ∧ w'.cell? ⟨ad118.block, ad118.off + 2, none⟩ = some (.string ((rd_T23 t114 0).f2))) (ds := []) #[false, false, false, false, false, false, false, false, false, false, false, false, false, false, false, false, false, false, false, false, false, false, false] (by kernel_rfl) rfl rfl ⟨hx118_0, hx118_1, hx118_2⟩ (fun hHeld => ?_); refine with_tabW headgatelaw03_alive.tab3 headgatelaw03_alive.bits3 (fun HT_ HW_ => ?_)
            generalize w15.drew = w16 at HO111 HO117 HB hx118_0 hx118_1 hx118_2 hHeld ⊢
            refine pure_ (i := 0) (N := some 15) (v := ?_) (a' := ?_) #[true, false, false, false, false, false, false, false, false, false, false, false, false, false, false, false, false, false, false, false, false, false, false] rfl rfl (any_of HT_.out (by kernel_rfl)) (fun _ _ _ h => h) (Or.inl ⟨by rfl, ?_⟩) ?_ ?_
            rotate_left
            · intro w'
              go_simp
              with_reducible rfl
            rotate_left
            · simp only [Act.put, List.setIfInBounds_toArray, List.set_cons_zero, List.set_cons_succ, i64_w, i32_w]
              rfl
            refine pure_ (i := 1) (N := some 16) (v := ?_) (a' := ?_) #[true, true, false, false, false, false, false, false, false, false, false, false, false, false, false, false, false, false, false, false, false, false, false] rfl rfl (any_of HT_.out (by kernel_rfl)) (fun _ _ _ h => h) (Or.inl ⟨by rfl, ?_⟩) ?_ ?_
            rotate_left
            · intro w'
              go_simp
              with_reducible rfl
            rotate_left
            · simp only [Act.put, List.setIfInBounds_toArray, List.set_cons_zero, List.set_cons_succ, i64_w, i32_w]
              rfl
            refine pure_ (i := 2) (N := some 17) (v := ?_) (a' := ?_) #[true, true, true, false, false, false, false, false, false, false, false, false, false, false, false, false, false, false, false, false, false, false, false] rfl rfl (any_of HT_.out (by kernel_rfl)) (fun _ _ _ h => h) (Or.inl ⟨by rfl, ?_⟩) ?_ ?_
            rotate_left
            · intro w'
              go_simp
              with_reducible rfl
            rotate_left
            · simp only [Act.put, List.setIfInBounds_toArray, List.set_cons_zero, List.set_cons_succ, i64_w, i32_w]
              rfl
            refine pure_ (i := 3) (N := some 18) (v := ?_) (a' := ?_) #[true, true, true, true, false, false, false, false, false, false, false, false, false, false, false, false, false, false, false, false, false, false, false] rfl rfl (any_of HT_.out (by kernel_rfl)) (fun _ _ _ h => h) (Or.inl ⟨by rfl, ?_⟩) ?_ ?_
            rotate_left
            · intro w'
              go_simp
              with_reducible rfl
            rotate_left
            · simp only [Act.put, List.setIfInBounds_toArray, List.set_cons_zero, List.set_cons_succ, i64_w, i32_w]
              rfl
            refine pure_ (i := 4) (N := some 19) (v := ?_) (a' := ?_) #[true, true, true, true, true, false, false, false, false, false, false, false, false, false, false, false, false, false, false, false, false, false, false] rfl rfl (any_of HT_.out (by kernel_rfl)) (fun _ _ _ h => h) (Or.inl ⟨by rfl, ?_⟩) ?_ ?_
            rotate_left
            · intro w'
              go_simp
              with_reducible rfl
            rotate_left
            · simp only [Act.put, List.setIfInBounds_toArray, List.set_cons_zero, List.set_cons_succ, i64_w, i32_w]
              rfl
            refine pure_ (i := 5) (N := some 20) (v := ?_) (a' := ?_) #[true, true, true, true, true, true, false, false, false, false, false, false, false, false, false, false, false, false, false, false, false, false, false] rfl rfl (any_of HT_.out (by kernel_rfl)) (fun _ _ _ h => h) (Or.inl ⟨by rfl, ?_⟩) ?_ ?_
            rotate_left
            · intro w'
              go_simp
              with_reducible rfl
            rotate_left
            · simp only [Act.put, List.setIfInBounds_toArray, List.set_cons_zero, List.set_cons_succ, i64_w, i32_w]
              rfl
            refine pure_ (i := 6) (N := some 21) (v := ?_) (a' := ?_) #[true, true, true, true, true, true, true, false, false, false, false, false, false, false, false, false, false, false, false, false, false, false, false] rfl rfl (any_of HT_.out (by kernel_rfl)) (fun _ _ _ h => h) (Or.inl ⟨by rfl, ?_⟩) ?_ ?_
            rotate_left
            · intro w'
              go_simp
              with_reducible rfl
            rotate_left
            · simp only [Act.put, List.setIfInBounds_toArray, List.set_cons_zero, List.set_cons_succ, i64_w, i32_w]
              rfl
            refine pure_ (i := 7) (N := some 22) (v := ?_) (a' := ?_) #[true, true, true, true, true, true, true, true, false, false, false, false, false, false, false, false, false, false, false, false, false, false, false] rfl rfl (any_of HT_.out (by kernel_rfl)) (fun _ _ _ h => h) (Or.inl ⟨by rfl, ?_⟩) ?_ ?_
            rotate_left
            · intro w'
              go_simp
              with_reducible rfl
            rotate_left
            · simp only [Act.put, List.setIfInBounds_toArray, List.set_cons_zero, List.set_cons_succ, i64_w, i32_w]
              rfl
            refine pure_ (i := 8) (N := some 23) (v := ?_) (a' := ?_) #[true, true, true, true, true, true, true, true, true, false, false, false, false, false, false, false, false, false, false, false, false, false, false] rfl rfl (any_of HT_.out (by kernel_rfl)) (fun _ _ _ h => h) (Or.inl ⟨by rfl, ?_⟩) ?_ ?_
            rotate_left
            · intro w'
              go_simp
              with_reducible rfl
            rotate_left
            · simp only [Act.put, List.setIfInBounds_toArray, List.set_cons_zero, List.set_cons_succ, i64_w, i32_w]
              rfl
            refine pure_ (i := 9) (N := some 24) (v := ?_) (a' := ?_) #[true, true, true, true, true, true, true, true, true, true, false, false, false, false, false, false, false, false, false, false, false, false, false] rfl rfl (any_of HT_.out (by kernel_rfl)) (fun _ _ _ h => h) (Or.inl ⟨by rfl, ?_⟩) ?_ ?_
            rotate_left
            · intro w'
              go_simp
              with_reducible rfl
            rotate_left
            · simp only [Act.put, List.setIfInBounds_toArray, List.set_cons_zero, List.set_cons_succ, i64_w, i32_w]
              rfl
            refine pure_ (i := 10) (N := some 25) (v := ?_) (a' := ?_) #[true, true, true, true, true, true, true, true, true, true, true, false, false, false, false, false, false, false, false, false, false, false, false] rfl rfl (any_of HT_.out (by kernel_rfl)) (fun _ _ _ h => h) (Or.inl ⟨by rfl, ?_⟩) ?_ ?_
            rotate_left
            · intro w'
              go_simp
              with_reducible rfl
            rotate_left
            · simp only [Act.put, List.setIfInBounds_toArray, List.set_cons_zero, List.set_cons_succ, i64_w, i32_w]
              rfl
            refine pure_ (i := 11) (N := some 26) (v := ?_) (a' := ?_) #[true, true, true, true, true, true, true, true, true, true, true, true, false, false, false, false, false, false, false, false, false, false, false] rfl rfl (any_of HT_.out (by kernel_rfl)) (fun _ _ _ h => h) (Or.inl ⟨by rfl, ?_⟩) ?_ ?_
            rotate_left
            · intro w'
              go_simp
              with_reducible rfl
            rotate_left
            · simp only [Act.put, List.setIfInBounds_toArray, List.set_cons_zero, List.set_cons_succ, i64_w, i32_w]
              rfl
            refine pure_ (i := 12) (N := some 27) (v := ?_) (a' := ?_) #[true, true, true, true, true, true, true, true, true, true, true, true, true, false, false, false, false, false, false, false, false, false, false] rfl rfl (any_of HT_.out (by kernel_rfl)) (fun _ _ _ h => h) (Or.inl ⟨by rfl, ?_⟩) ?_ ?_
            rotate_left
            · intro w'
              go_simp
              with_reducible rfl
            rotate_left
            · simp only [Act.put, List.setIfInBounds_toArray, List.set_cons_zero, List.set_cons_succ, i64_w, i32_w]
              rfl
            refine pure_ (i := 13) (N := some 28) (v := ?_) (a' := ?_) #[true, true, true, true, true, true, true, true, true, true, true, true, true, true, false, false, false, false, false, false, false, false, false] rfl rfl (any_of HT_.out (by kernel_rfl)) (fun _ _ _ h => h) (Or.inl ⟨by rfl, ?_⟩) ?_ ?_
            rotate_left
            · intro w'
              go_simp
              with_reducible rfl
            rotate_left
            · simp only [Act.put, List.setIfInBounds_toArray, List.set_cons_zero, List.set_cons_succ, i64_w, i32_w]
              rfl
            refine pure_ (i := 14) (N := some 29) (v := ?_) (a' := ?_) #[true, true, true, true, true, true, true, true, true, true, true, true, true, true, true, false, false, false, false, false, false, false, false] rfl rfl (any_of HT_.out (by kernel_rfl)) (fun _ _ _ h => h) (Or.inl ⟨by rfl, ?_⟩) ?_ ?_
            rotate_left
            · intro w'
              go_simp
              with_reducible rfl
            rotate_left
            · simp only [Act.put, List.setIfInBounds_toArray, List.set_cons_zero, List.set_cons_succ, i64_w, i32_w]
              rfl
            refine pure_ (i := 15) (N := some 30) (v := ?_) (a' := ?_) #[true, true, true, true, true, true, true, true, true, true, true, true, true, true, true, true, false, false, false, false, false, false, false] rfl rfl (any_of HT_.out (by kernel_rfl)) (fun _ _ _ h => h) (Or.inl ⟨by rfl, ?_⟩) ?_ ?_
            rotate_left
            · intro w'
              go_simp
              with_reducible rfl
            rotate_left
            · simp only [Act.put, List.setIfInBounds_toArray, List.set_cons_zero, List.set_cons_succ, i64_w, i32_w]
              rfl
            refine pure_ (i := 16) (N := some 31) (v := ?_) (a' := ?_) #[true, true, true, true, true, true, true, true, true, true, true, true, true, true, true, true, true, false, false, false, false, false, false] rfl rfl (any_of HT_.out (by kernel_rfl)) (fun _ _ _ h => h) (Or.inl ⟨by rfl, ?_⟩) ?_ ?_
            rotate_left
            · intro w'
              go_simp
              with_reducible rfl
            rotate_left
            · simp only [Act.put, List.setIfInBounds_toArray, List.set_cons_zero, List.set_cons_succ, i64_w, i32_w]
              rfl
            refine pure_ (i := 17) (N := some 32) (v := ?_) (a' := ?_) #[true, true, true, true, true, true, true, true, true, true, true, true, true, true, true, true, true, true, false, false, false, false, false] rfl rfl (any_of HT_.out (by kernel_rfl)) (fun _ _ _ h => h) (Or.inl ⟨by rfl, ?_⟩) ?_ ?_
            rotate_left
            · intro w'
              go_simp
              with_reducible rfl
            rotate_left
            · simp only [Act.put, List.setIfInBounds_toArray, List.set_cons_zero, List.set_cons_succ, i64_w, i32_w]
              rfl
            refine take_ (i := 18) (N := some 33) (v := ?_) (a' := ?_) #[true, true, true, true, true, true, true, true, true, true, true, true, true, true, true, true, true, true, true, false, false, false, false] rfl rfl (take_ofW HT_.out HW_.out (by kernel_rfl)) (fun _ _ _ h => h) (Or.inl ⟨by rfl, ?_⟩) hHeld ?_ ?_
            rotate_left
            · rintro w' ⟨s0, s1, s2⟩
              go_simp
              with_reducible rfl
            rotate_left
            · simp only [Act.put, List.setIfInBounds_toArray, List.set_cons_zero, List.set_cons_succ, i64_w, i32_w]
              rfl
            refine one_ (i := 19) (N := some 34) #[true, true, true, true, true, true, true, true, true, true, true, true, true, true, true, true, true, true, true, true, false, false, false] rfl rfl (one_of HT_.out (by kernel_rfl)) (by decide) (fun K hK => ?_)
            refine goes_ Tryd.func25 (by kernel_rfl) rfl #[.string (⟨#[97]⟩ : ByteArray)] (by rfl) rfl rfl (by (try simp only [List.map_toArray, List.map_cons, List.map_nil]); first | done | rfl | (simp only [List.length_drop, List.length_take]; rfl) | exact congrArg (fun x_ : Int => #[Value.int .u64 x_]) (show _ = _ % (18446744073709551616 : Int) by omega)) ?_
            with_reducible refine (value_Text.calls (⟨#[97]⟩ : ByteArray) t119 t120 t121 _ A9.out).mono ?_
            rintro e w18 ⟨rfl, hb⟩
            have HS0_ := (hb.cell (World.block_lt_of_cell? _ _ (hHeld.1))).trans (hHeld.1)
            have HS1_ := (hb.cell (World.block_lt_of_cell? _ _ (hHeld.2.1))).trans (hHeld.2.1)
            have HS2_ := (hb.cell (World.block_lt_of_cell? _ _ (hHeld.2.2))).trans (hHeld.2.2)
            refine ⟨_, rfl, ?_⟩
            have n0_ := Aside0.mk (Kd.R_below (by (with_reducible repeat (first | apply Kd.R_alloc | apply Kd.R_drewN | apply Kd.R_drew)); exact HO111.out) hb)
            have n1_ := Aside0.mk (Kd.R_below (by (with_reducible repeat (first | apply Kd.R_alloc | apply Kd.R_drewN | apply Kd.R_drew)); exact HO117.out) hb)
            have n2_ := Aside0.mk (below_step (by repeat (first | (with_reducible first | exact HB.out | apply below_alloc | apply pw_below_drewN | apply below_drew1) | exact HB.out)) hb)
            clear HO111
            clear HO117
            clear HB
            have HO111 := n0_
            have HO117 := n1_
            have HB := n2_
            clear n0_ n1_ n2_
            (try clear hb)
            (try clear hb2)
            (try clear hk)
            (try clear hi)
            refine hK.out _ _ ⟨HS0_, HS1_, HS2_⟩ (fun hHeld => ?_)
            clear hK K
            refine norm_ (a' := ?_) ?_ ?_
            rotate_left
            · show Act.put _ (some 34) _ = _
              simp only [Act.put, List.setIfInBounds_toArray, List.set_cons_zero, List.set_cons_succ, i64_w, i32_w]
              rfl
            refine pure_ (i := 20) (N := some 35) (v := ?_) (a' := ?_) #[true, true, true, true, true, true, true, true, true, true, true, true, true, true, true, true, true, true, true, true, true, false, false] rfl rfl (any_of HT_.out (by kernel_rfl)) (fun _ _ _ h => h) (Or.inl ⟨by rfl, ?_⟩) ?_ ?_
            rotate_left
            · intro w'
              go_simp
              with_reducible rfl
            rotate_left
            · simp only [Act.put, List.setIfInBounds_toArray, List.set_cons_zero, List.set_cons_succ, i64_w, i32_w]
              rfl
            refine pure_ (i := 21) (N := some 36) (v := ?_) (a' := ?_) #[true, true, true, true, true, true, true, true, true, true, true, true, true, true, true, true, true, true, true, true, true, true, false] rfl rfl (any_of HT_.out (by kernel_rfl)) (fun _ _ _ h => h) (Or.inl ⟨by rfl, ?_⟩) ?_ ?_
            rotate_left
            · intro w'
              go_simp
              with_reducible rfl
            rotate_left
            · simp only [Act.put, List.setIfInBounds_toArray, List.set_cons_zero, List.set_cons_succ, i64_w, i32_w]
              rfl
            refine pure_ (i := 22) (N := some 0) (v := ?_) (a' := ?_) #[true, true, true, true, true, true, true, true, true, true, true, true, true, true, true, true, true, true, true, true, true, true, true] rfl rfl (any_of HT_.out (by kernel_rfl)) (fun _ _ _ h => h) (Or.inl ⟨by rfl, ?_⟩) ?_ ?_
            rotate_left
            · intro w'
              go_simp
              with_reducible rfl
            rotate_left
            · simp only [Act.put, List.setIfInBounds_toArray, List.set_cons_zero, List.set_cons_succ, i64_w, i32_w]
              rfl
            refine done_ (done_of HT_.out (by kernel_rfl)) ?_
            try go_wp2
            go_ret
            exact ⟨by first | rfl | (simp [errW_none, errW_some] <;> rfl) | (simp [*, errW_none, errW_some] <;> rfl), by repeat (first | (with_reducible first | exact HB.out | apply below_alloc | apply pw_below_drewN | apply below_drew1) | exact HB.out)⟩
          · rw [if_neg c8] at H
            exact absurd H (by simp)
        · rw [if_neg c7] at H
          have c7b0 : ((t114.length : Int) == 1) = false := beq_eq_false_iff_ne.mpr c7
          have c7b1 : ((t114.length : Int) != 1) = true := bne_iff_ne.mpr c7
          obtain rfl := Option.some.inj H
          go_enter Tryd.func10, Tryd.ntmps10
          try go_wp2_with (first | ((with_reducible refine gate_callee (f := 23) rfl ?_); refine goesL_ (some 6) rfl rfl Tryd.func23 (by kernel_rfl) rfl #[.int .i64 (-1)] rfl (by (try simp only [List.map_toArray, List.map_cons, List.map_nil]); first | done | rfl | (simp only [List.length_drop, List.length_take]; rfl) | exact congrArg (fun x_ : Int => #[Value.int .u64 x_]) (show _ = _ % (18446744073709551616 : Int) by omega)) ?_; (with_reducible refine (value_Int.calls (-1) t106 t107 t108 _ A1.out).mono ?_); rintro e w19 ⟨rfl, hb⟩; refine ⟨_, rfl, ?_⟩; have n0_ := Aside0.mk (below_step (by repeat (first | (with_reducible first | exact HB.out | apply below_alloc | apply pw_below_drewN | apply below_drew1) | exact HB.out)) hb); clear HB; have HB := n0_; clear n0_; (try clear hb); (try clear hb2); (try clear hk); (try clear hi)) | ((with_reducible refine gate_dst (N := 7) rfl ?_); (try (refine gate_guard (by rfl) ?_; dsimp only)); refine Kd.R_lit k23 _ 23 ?hg (N := 7) ?hd (xs := ([(⟨t106, t107, t108⟩ : S23)] : List (S23))) (inner := [.int .i64 t106, .int .i64 t107, .string t108]) (ok := fun _ => True) (okp := fun _ => True) ?hr ?hp (fun _ hk => hk) trivial (Below.refl _ _) (Nat.le_refl _) (by simp) ?_; (case hd => rfl); (case hg => rfl); (case hr => first | (go_simp; done) | (go_simp; rfl)); (case hp => exact (Reps.c3 (show Kd.M k23 _ _ _ (⟨t106, t107, t108⟩ : S23) [.int .i64 t106, .int .i64 t107, .string t108] from (k23_mkM _ _ _ (⟨t106, t107, t108⟩ : S23) )) (Reps.none _ _))); intro v110 w20 ho21 hb hg_ hnew_; clear hg_ hnew_; (first | rw [← Ny109.out] at ho21 | (simp only [Int.reduceToNat] at ho21; rw [← Ny109.out] at ho21)); have n0_ := Aside0.mk (Kd.R_lower ho21 (below_size (by repeat (first | (with_reducible first | exact HB.out | apply below_alloc | apply pw_below_drewN | apply below_drew1) | exact HB.out)))); have n1_ := Aside0.mk (below_step (by repeat (first | (with_reducible first | exact HB.out | apply below_alloc | apply pw_below_drewN | apply below_drew1) | exact HB.out)) hb); clear HB; have HO111 := n0_; have HB := n1_; clear n0_ n1_; clear hb ho21; obtain ⟨Ao22, co22, eo22⟩ := Kd.R_slice HO111.out; subst eo22) | ((with_reducible refine gate_callee (f := 16) rfl ?_); refine goesL_ (some 8) rfl rfl Tryd.func16 (by kernel_rfl) rfl #[.slice Ao22 y109.length co22] rfl (by (try simp only [List.map_toArray, List.map_cons, List.map_nil]); first | done | rfl | (simp only [List.length_drop, List.length_take]; rfl) | exact congrArg (fun x_ : Int => #[Value.int .u64 x_]) (show _ = _ % (18446744073709551616 : Int) by omega)) ?_; (with_reducible refine (value_Key.calls _ _ y109 t112 t113 _ ?side1 ?side2 A2.out).mono ?_); (case side1 => repeat (first | exact (Kd.R_reads' HO111.out).2.2 | (with_reducible refine Kd.C_alloc ?_ _) | (with_reducible refine Kd.C_drewN ?_ _) | (with_reducible refine Kd.C_drew ?_))); (case side2 => exact (Kd.R_reads' HO111.out).2.1); rintro e w23 ⟨rfl, hb⟩; refine ⟨_, rfl, ?_⟩; have n0_ := Aside0.mk (Kd.R_below (by (with_reducible repeat (first | apply Kd.R_alloc | apply Kd.R_drewN | apply Kd.R_drew)); exact HO111.out) hb); have n1_ := Aside0.mk (below_step (by repeat (first | (with_reducible first | exact HB.out | apply below_alloc | apply pw_below_drewN | apply below_drew1) | exact HB.out)) hb); clear HO111; clear HB; have HO111 := n0_; have HB := n1_; clear n0_ n1_; (try clear hb); (try clear hb2); (try clear hk); (try clear hi)) | ((with_reducible refine gate_callee (f := 18) rfl ?_); refine goesL_ (some 12) rfl rfl Tryd.func18 (by kernel_rfl) rfl #[.string (⟨#[4, 97, 0, 0]⟩ : ByteArray)] rfl (by (try simp only [List.map_toArray, List.map_cons, List.map_nil]); first | done | rfl | (simp only [List.length_drop, List.length_take]; rfl) | exact congrArg (fun x_ : Int => #[Value.int .u64 x_]) (show _ = _ % (18446744073709551616 : Int) by omega)) ?_; (with_reducible refine (value_Unkey.calls k (⟨#[4, 97, 0, 0]⟩ : ByteArray) t114 t115 _ A3.out).mono ?_); rintro e w24 ⟨v116, rfl, ho0, hb⟩; refine ⟨_, rfl, ?_⟩; have n0_ := Aside0.mk (Kd.R_elder' (by (with_reducible repeat (first | apply Kd.R_alloc | apply Kd.R_drewN | apply Kd.R_drew)); exact HO111.out) (Kd.R_base ho0) hb); have n1_ := Aside0.mk (Kd.R_lower (Kd.R_new' ho0 (Kd.R_lt (by (with_reducible repeat (first | apply Kd.R_alloc | apply Kd.R_drewN | apply Kd.R_drew)); exact HO111.out))) (below_size (by repeat (first | (with_reducible first | exact HB.out | apply below_alloc | apply pw_below_drewN | apply below_drew1) | exact HB.out)))); have n2_ := Aside0.mk (below_step (by repeat (first | (with_reducible first | exact HB.out | apply below_alloc | apply pw_below_drewN | apply below_drew1) | exact HB.out)) hb); clear HO111; clear HB; have HO111 := n0_; have HO117 := n1_; have HB := n2_; clear n0_ n1_ n2_; (try clear hb); (try clear hb2); (try clear hk); (try clear hi); (try clear ho0)))
          have n0_ := Aside0.mk (Kd.R_drew HO111.out)
          have n1_ := Aside0.mk (Kd.R_drew HO117.out)
          have n2_ := Aside0.mk (below_drew1 HB.out)
          clear HO111
          clear HO117
          clear HB
          have HO111 := n0_
          have HO117 := n1_
          have HB := n2_
          clear n0_ n1_ n2_
          obtain ⟨Ao26, co26, eo26⟩ := Kd.R_slice HO117.out
          (first | subst eo26 | (injection eo26 with f1_ f2_ f3_; have f4_ := f1_.symm; have f5_ := f3_.symm; clear f1_ f2_ f3_; subst f4_; subst f5_))
          refine start_ (n := 23) (S := fun w' => True) (ds := []) #[false, false, false, false, false, false, false, false, false, false, false, false, false, false, false, false, false, false, false, false, false, false, false] (by kernel_rfl) rfl rfl trivial (fun hHeld => ?_); refine with_tabW headgatelaw03_alive.tab3 headgatelaw03_alive.bits3 (fun HT_ HW_ => ?_)
          generalize w24.drew = w25 at HO111 HO117 HB hHeld ⊢
          refine pure_ (i := 0) (N := some 15) (v := ?_) (a' := ?_) #[true, false, false, false, false, false, false, false, false, false, false, false, false, false, false, false, false, false, false, false, false, false, false] rfl rfl (any_of HT_.out (by kernel_rfl)) (fun _ _ _ h => h) (Or.inl ⟨by rfl, ?_⟩) ?_ ?_
          rotate_left
          · intro w'
            go_simp
            with_reducible rfl
          rotate_left
          · simp only [Act.put, List.setIfInBounds_toArray, List.set_cons_zero, List.set_cons_succ, i64_w, i32_w]
            rfl
          refine pure_ (i := 1) (N := some 16) (v := ?_) (a' := ?_) #[true, true, false, false, false, false, false, false, false, false, false, false, false, false, false, false, false, false, false, false, false, false, false] rfl rfl (any_of HT_.out (by kernel_rfl)) (fun _ _ _ h => h) (Or.inl ⟨by rfl, ?_⟩) ?_ ?_
          rotate_left
          · intro w'
            go_simp
            with_reducible rfl
          rotate_left
          · simp only [Act.put, List.setIfInBounds_toArray, List.set_cons_zero, List.set_cons_succ, i64_w, i32_w]
            rfl
          refine pure_ (i := 2) (N := some 17) (v := ?_) (a' := ?_) #[true, true, true, false, false, false, false, false, false, false, false, false, false, false, false, false, false, false, false, false, false, false, false] rfl rfl (any_of HT_.out (by kernel_rfl)) (fun _ _ _ h => h) (Or.inl ⟨by rfl, ?_⟩) ?_ ?_
          rotate_left
          · intro w'
            go_simp
            with_reducible rfl
          rotate_left
          · simp only [Act.put, List.setIfInBounds_toArray, List.set_cons_zero, List.set_cons_succ, i64_w, i32_w]
            rfl
          refine pure_ (i := 3) (N := some 18) (v := ?_) (a' := ?_) #[true, true, true, true, false, false, false, false, false, false, false, false, false, false, false, false, false, false, false, false, false, false, false] rfl rfl (any_of HT_.out (by kernel_rfl)) (fun _ _ _ h => h) (Or.inl ⟨by rfl, ?_⟩) ?_ ?_
          rotate_left
          · intro w'
            go_simp
            with_reducible rfl
          rotate_left
          · simp only [Act.put, List.setIfInBounds_toArray, List.set_cons_zero, List.set_cons_succ, i64_w, i32_w]
            rfl
          refine pure_ (i := 4) (N := some 19) (v := ?_) (a' := ?_) #[true, true, true, true, true, false, false, false, false, false, false, false, false, false, false, false, false, false, false, false, false, false, false] rfl rfl (any_of HT_.out (by kernel_rfl)) (fun _ _ _ h => h) (Or.inl ⟨by rfl, ?_⟩) ?_ ?_
          rotate_left
          · intro w'
            go_simp
            with_reducible rfl
          rotate_left
          · simp only [Act.put, List.setIfInBounds_toArray, List.set_cons_zero, List.set_cons_succ, i64_w, i32_w]
            rfl
          refine pure_ (i := 5) (N := some 20) (v := ?_) (a' := ?_) #[true, true, true, true, true, true, false, false, false, false, false, false, false, false, false, false, false, false, false, false, false, false, false] rfl rfl (any_of HT_.out (by kernel_rfl)) (fun _ _ _ h => h) (Or.inl ⟨by rfl, ?_⟩) ?_ ?_
          rotate_left
          · intro w'
            go_simp
            with_reducible rfl
          rotate_left
          · simp only [Act.put, List.setIfInBounds_toArray, List.set_cons_zero, List.set_cons_succ, i64_w, i32_w]
            rfl
          refine pure_ (i := 6) (N := some 21) (v := ?_) (a' := ?_) #[true, true, true, true, true, true, true, false, false, false, false, false, false, false, false, false, false, false, false, false, false, false, false] rfl rfl (any_of HT_.out (by kernel_rfl)) (fun _ _ _ h => h) (Or.inl ⟨by rfl, ?_⟩) ?_ ?_
          rotate_left
          · intro w'
            go_simp
            with_reducible rfl
          rotate_left
          · simp only [Act.put, List.setIfInBounds_toArray, List.set_cons_zero, List.set_cons_succ, i64_w, i32_w]
            rfl
          refine pure_ (i := 7) (N := some 22) (v := ?_) (a' := ?_) #[true, true, true, true, true, true, true, true, false, false, false, false, false, false, false, false, false, false, false, false, false, false, false] rfl rfl (any_of HT_.out (by kernel_rfl)) (fun _ _ _ h => h) (Or.inl ⟨by rfl, ?_⟩) ?_ ?_
          rotate_left
          · intro w'
            go_simp
            with_reducible rfl
          rotate_left
          · simp only [Act.put, List.setIfInBounds_toArray, List.set_cons_zero, List.set_cons_succ, i64_w, i32_w]
            rfl
          refine pure_ (i := 8) (N := some 23) (v := ?_) (a' := ?_) #[true, true, true, true, true, true, true, true, true, false, false, false, false, false, false, false, false, false, false, false, false, false, false] rfl rfl (any_of HT_.out (by kernel_rfl)) (fun _ _ _ h => h) (Or.inl ⟨by rfl, ?_⟩) ?_ ?_
          rotate_left
          · intro w'
            go_simp
            with_reducible rfl
          rotate_left
          · simp only [Act.put, List.setIfInBounds_toArray, List.set_cons_zero, List.set_cons_succ, i64_w, i32_w]
            rfl
          refine pure_ (i := 9) (N := some 24) (v := ?_) (a' := ?_) #[true, true, true, true, true, true, true, true, true, true, false, false, false, false, false, false, false, false, false, false, false, false, false] rfl rfl (any_of HT_.out (by kernel_rfl)) (fun _ _ _ h => h) (Or.inl ⟨by rfl, ?_⟩) ?_ ?_
          rotate_left
          · intro w'
            go_simp
            with_reducible rfl
          rotate_left
          · simp only [Act.put, List.setIfInBounds_toArray, List.set_cons_zero, List.set_cons_succ, i64_w, i32_w]
            rfl
          refine pure_ (i := 10) (N := some 25) (v := ?_) (a' := ?_) #[true, true, true, true, true, true, true, true, true, true, true, false, false, false, false, false, false, false, false, false, false, false, false] rfl rfl (any_of HT_.out (by kernel_rfl)) (fun _ _ _ h => h) (Or.inl ⟨by rfl, ?_⟩) ?_ ?_
          rotate_left
          · intro w'
            go_simp
            with_reducible rfl
          rotate_left
          · simp only [Act.put, List.setIfInBounds_toArray, List.set_cons_zero, List.set_cons_succ, i64_w, i32_w]
            rfl
          refine pure_ (i := 11) (N := some 26) (v := ?_) (a' := ?_) #[true, true, true, true, true, true, true, true, true, true, true, true, false, false, false, false, false, false, false, false, false, false, false] rfl rfl (any_of HT_.out (by kernel_rfl)) (fun _ _ _ h => h) (Or.inl ⟨by rfl, ?_⟩) ?_ ?_
          rotate_left
          · intro w'
            go_simp
            with_reducible rfl
          rotate_left
          · simp only [Act.put, List.setIfInBounds_toArray, List.set_cons_zero, List.set_cons_succ, i64_w, i32_w]
            rfl
          refine pure_ (i := 12) (N := some 27) (v := ?_) (a' := ?_) #[true, true, true, true, true, true, true, true, true, true, true, true, true, false, false, false, false, false, false, false, false, false, false] rfl rfl (any_of HT_.out (by kernel_rfl)) (fun _ _ _ h => h) (Or.inl ⟨by rfl, ?_⟩) ?_ ?_
          rotate_left
          · intro w'
            go_simp
            with_reducible rfl
          rotate_left
          · simp only [Act.put, List.setIfInBounds_toArray, List.set_cons_zero, List.set_cons_succ, i64_w, i32_w]
            rfl
          refine pure_ (i := 13) (N := some 28) (v := ?_) (a' := ?_) #[true, true, true, true, true, true, true, true, true, true, true, true, true, true, false, false, false, false, false, false, false, false, false] rfl rfl (any_of HT_.out (by kernel_rfl)) (fun _ _ _ h => h) (Or.inl ⟨by rfl, ?_⟩) ?_ ?_
          rotate_left
          · intro w'
            go_simp
            with_reducible rfl
          rotate_left
          · simp only [Act.put, List.setIfInBounds_toArray, List.set_cons_zero, List.set_cons_succ, i64_w, i32_w]
            rfl
          refine pure_ (i := 14) (N := some 29) (v := ?_) (a' := ?_) #[true, true, true, true, true, true, true, true, true, true, true, true, true, true, true, false, false, false, false, false, false, false, false] rfl rfl (any_of HT_.out (by kernel_rfl)) (fun _ _ _ h => h) (Or.inl ⟨by rfl, ?_⟩) ?_ ?_
          rotate_left
          · intro w'
            go_simp
            with_reducible rfl
          rotate_left
          · simp only [Act.put, List.setIfInBounds_toArray, List.set_cons_zero, List.set_cons_succ, i64_w, i32_w]
            rfl
          refine pure_ (i := 15) (N := some 30) (v := ?_) (a' := ?_) #[true, true, true, true, true, true, true, true, true, true, true, true, true, true, true, true, false, false, false, false, false, false, false] rfl rfl (any_of HT_.out (by kernel_rfl)) (fun _ _ _ h => h) (Or.inl ⟨by rfl, ?_⟩) ?_ ?_
          rotate_left
          · intro w'
            go_simp
            with_reducible rfl
          rotate_left
          · simp only [Act.put, List.setIfInBounds_toArray, List.set_cons_zero, List.set_cons_succ, i64_w, i32_w]
            rfl
          refine pure_ (i := 16) (N := some 31) (v := undef) (a' := ?_) #[true, true, true, true, true, true, true, true, true, true, true, true, true, true, true, true, true, false, false, false, false, false, false] rfl rfl (any_of HT_.out (by kernel_rfl)) (fun _ _ _ h => h) (Or.inr ⟨by rfl, rfl⟩) ?_ ?_
          rotate_left
          · simp only [Act.put, List.setIfInBounds_toArray, List.set_cons_zero, List.set_cons_succ, i64_w, i32_w]
            rfl
          refine pure_ (i := 17) (N := some 32) (v := undef) (a' := ?_) #[true, true, true, true, true, true, true, true, true, true, true, true, true, true, true, true, true, true, false, false, false, false, false] rfl rfl (any_of HT_.out (by kernel_rfl)) (fun _ _ _ h => h) (Or.inr ⟨by rfl, rfl⟩) ?_ ?_
          rotate_left
          · simp only [Act.put, List.setIfInBounds_toArray, List.set_cons_zero, List.set_cons_succ, i64_w, i32_w]
            rfl
          refine pure_ (i := 18) (N := some 33) (v := undef) (a' := ?_) #[true, true, true, true, true, true, true, true, true, true, true, true, true, true, true, true, true, true, true, false, false, false, false] rfl rfl (any_of HT_.out (by kernel_rfl)) (fun _ _ _ h => h) (Or.inr ⟨by rfl, rfl⟩) ?_ ?_
          rotate_left
          · simp only [Act.put, List.setIfInBounds_toArray, List.set_cons_zero, List.set_cons_succ, i64_w, i32_w]
            rfl
          refine pure_ (i := 19) (N := some 34) (v := undef) (a' := ?_) #[true, true, true, true, true, true, true, true, true, true, true, true, true, true, true, true, true, true, true, true, false, false, false] rfl rfl (any_of HT_.out (by kernel_rfl)) (fun _ _ _ h => h) (Or.inr ⟨by rfl, rfl⟩) ?_ ?_
          rotate_left
          · simp only [Act.put, List.setIfInBounds_toArray, List.set_cons_zero, List.set_cons_succ, i64_w, i32_w]
            rfl
          refine pure_ (i := 20) (N := some 35) (v := undef) (a' := ?_) #[true, true, true, true, true, true, true, true, true, true, true, true, true, true, true, true, true, true, true, true, true, false, false] rfl rfl (any_of HT_.out (by kernel_rfl)) (fun _ _ _ h => h) (Or.inr ⟨by rfl, rfl⟩) ?_ ?_
          rotate_left
          · simp only [Act.put, List.setIfInBounds_toArray, List.set_cons_zero, List.set_cons_succ, i64_w, i32_w]
            rfl
          refine pure_ (i := 21) (N := some 36) (v := ?_) (a' := ?_) #[true, true, true, true, true, true, true, true, true, true, true, true, true, true, true, true, true, true, true, true, true, true, false] rfl rfl (any_of HT_.out (by kernel_rfl)) (fun _ _ _ h => h) (Or.inl ⟨by rfl, ?_⟩) ?_ ?_
          rotate_left
          · intro w'
            go_simp
            with_reducible rfl
          rotate_left
          · simp only [Act.put, List.setIfInBounds_toArray, List.set_cons_zero, List.set_cons_succ, i64_w, i32_w]
            rfl
          refine pure_ (i := 22) (N := some 0) (v := ?_) (a' := ?_) #[true, true, true, true, true, true, true, true, true, true, true, true, true, true, true, true, true, true, true, true, true, true, true] rfl rfl (any_of HT_.out (by kernel_rfl)) (fun _ _ _ h => h) (Or.inl ⟨by rfl, ?_⟩) ?_ ?_
          rotate_left
          · intro w'
            go_simp
            with_reducible rfl
          rotate_left
          · simp only [Act.put, List.setIfInBounds_toArray, List.set_cons_zero, List.set_cons_succ, i64_w, i32_w]
            rfl
          refine done_ (done_of HT_.out (by kernel_rfl)) ?_
          try go_wp2
          go_ret
          exact ⟨by first | rfl | (simp [errW_none, errW_some] <;> rfl) | (simp [*, errW_none, errW_some] <;> rfl), by repeat (first | (with_reducible first | exact HB.out | apply below_alloc | apply pw_below_drewN | apply below_drew1) | exact HB.out)⟩
      · rw [if_neg c6] at H
        have c6b0 : (t115 == 0) = false := beq_eq_false_iff_ne.mpr c6
        have c6b1 : (t115 != 0) = true := bne_iff_ne.mpr c6
        obtain rfl := Option.some.inj H
        go_enter Tryd.func10, Tryd.ntmps10
        try go_wp2_with (first | ((with_reducible refine gate_callee (f := 23) rfl ?_); refine goesL_ (some 6) rfl rfl Tryd.func23 (by kernel_rfl) rfl #[.int .i64 (-1)] rfl (by (try simp only [List.map_toArray, List.map_cons, List.map_nil]); first | done | rfl | (simp only [List.length_drop, List.length_take]; rfl) | exact congrArg (fun x_ : Int => #[Value.int .u64 x_]) (show _ = _ % (18446744073709551616 : Int) by omega)) ?_; (with_reducible refine (value_Int.calls (-1) t106 t107 t108 _ A1.out).mono ?_); rintro e w27 ⟨rfl, hb⟩; refine ⟨_, rfl, ?_⟩; have n0_ := Aside0.mk (below_step (by repeat (first | (with_reducible first | exact HB.out | apply below_alloc | apply pw_below_drewN | apply below_drew1) | exact HB.out)) hb); clear HB; have HB := n0_; clear n0_; (try clear hb); (try clear hb2); (try clear hk); (try clear hi)) | ((with_reducible refine gate_dst (N := 7) rfl ?_); (try (refine gate_guard (by rfl) ?_; dsimp only)); refine Kd.R_lit k23 _ 23 ?hg (N := 7) ?hd (xs := ([(⟨t106, t107, t108⟩ : S23)] : List (S23))) (inner := [.int .i64 t106, .int .i64 t107, .string t108]) (ok := fun _ => True) (okp := fun _ => True) ?hr ?hp (fun _ hk => hk) trivial (Below.refl _ _) (Nat.le_refl _) (by simp) ?_; (case hd => rfl); (case hg => rfl); (case hr => first | (go_simp; done) | (go_simp; rfl)); (case hp => exact (Reps.c3 (show Kd.M k23 _ _ _ (⟨t106, t107, t108⟩ : S23) [.int .i64 t106, .int .i64 t107, .string t108] from (k23_mkM _ _ _ (⟨t106, t107, t108⟩ : S23) )) (Reps.none _ _))); intro v110 w28 ho29 hb hg_ hnew_; clear hg_ hnew_; (first | rw [← Ny109.out] at ho29 | (simp only [Int.reduceToNat] at ho29; rw [← Ny109.out] at ho29)); have n0_ := Aside0.mk (Kd.R_lower ho29 (below_size (by repeat (first | (with_reducible first | exact HB.out | apply below_alloc | apply pw_below_drewN | apply below_drew1) | exact HB.out)))); have n1_ := Aside0.mk (below_step (by repeat (first | (with_reducible first | exact HB.out | apply below_alloc | apply pw_below_drewN | apply below_drew1) | exact HB.out)) hb); clear HB; have HO111 := n0_; have HB := n1_; clear n0_ n1_; clear hb ho29; obtain ⟨Ao30, co30, eo30⟩ := Kd.R_slice HO111.out; subst eo30) | ((with_reducible refine gate_callee (f := 16) rfl ?_); refine goesL_ (some 8) rfl rfl Tryd.func16 (by kernel_rfl) rfl #[.slice Ao30 y109.length co30] rfl (by (try simp only [List.map_toArray, List.map_cons, List.map_nil]); first | done | rfl | (simp only [List.length_drop, List.length_take]; rfl) | exact congrArg (fun x_ : Int => #[Value.int .u64 x_]) (show _ = _ % (18446744073709551616 : Int) by omega)) ?_; (with_reducible refine (value_Key.calls _ _ y109 t112 t113 _ ?side1 ?side2 A2.out).mono ?_); (case side1 => repeat (first | exact (Kd.R_reads' HO111.out).2.2 | (with_reducible refine Kd.C_alloc ?_ _) | (with_reducible refine Kd.C_drewN ?_ _) | (with_reducible refine Kd.C_drew ?_))); (case side2 => exact (Kd.R_reads' HO111.out).2.1); rintro e w31 ⟨rfl, hb⟩; refine ⟨_, rfl, ?_⟩; have n0_ := Aside0.mk (Kd.R_below (by (with_reducible repeat (first | apply Kd.R_alloc | apply Kd.R_drewN | apply Kd.R_drew)); exact HO111.out) hb); have n1_ := Aside0.mk (below_step (by repeat (first | (with_reducible first | exact HB.out | apply below_alloc | apply pw_below_drewN | apply below_drew1) | exact HB.out)) hb); clear HO111; clear HB; have HO111 := n0_; have HB := n1_; clear n0_ n1_; (try clear hb); (try clear hb2); (try clear hk); (try clear hi)) | ((with_reducible refine gate_callee (f := 18) rfl ?_); refine goesL_ (some 12) rfl rfl Tryd.func18 (by kernel_rfl) rfl #[.string (⟨#[4, 97, 0, 0]⟩ : ByteArray)] rfl (by (try simp only [List.map_toArray, List.map_cons, List.map_nil]); first | done | rfl | (simp only [List.length_drop, List.length_take]; rfl) | exact congrArg (fun x_ : Int => #[Value.int .u64 x_]) (show _ = _ % (18446744073709551616 : Int) by omega)) ?_; (with_reducible refine (value_Unkey.calls k (⟨#[4, 97, 0, 0]⟩ : ByteArray) t114 t115 _ A3.out).mono ?_); rintro e w32 ⟨v116, rfl, ho0, hb⟩; refine ⟨_, rfl, ?_⟩; have n0_ := Aside0.mk (Kd.R_elder' (by (with_reducible repeat (first | apply Kd.R_alloc | apply Kd.R_drewN | apply Kd.R_drew)); exact HO111.out) (Kd.R_base ho0) hb); have n1_ := Aside0.mk (Kd.R_lower (Kd.R_new' ho0 (Kd.R_lt (by (with_reducible repeat (first | apply Kd.R_alloc | apply Kd.R_drewN | apply Kd.R_drew)); exact HO111.out))) (below_size (by repeat (first | (with_reducible first | exact HB.out | apply below_alloc | apply pw_below_drewN | apply below_drew1) | exact HB.out)))); have n2_ := Aside0.mk (below_step (by repeat (first | (with_reducible first | exact HB.out | apply below_alloc | apply pw_below_drewN | apply below_drew1) | exact HB.out)) hb); clear HO111; clear HB; have HO111 := n0_; have HO117 := n1_; have HB := n2_; clear n0_ n1_ n2_; (try clear hb); (try clear hb2); (try clear hk); (try clear hi); (try clear ho0)))
        have n0_ := Aside0.mk (Kd.R_drew HO111.out)
        have n1_ := Aside0.mk (Kd.R_drew HO117.out)
        have n2_ := Aside0.mk (below_drew1 HB.out)
        clear HO111
        clear HO117
        clear HB
        have HO111 := n0_
        have HO117 := n1_
        have HB := n2_
        clear n0_ n1_ n2_
        refine start_ (n := 23) (S := fun w' => True) (ds := []) #[false, false, false, false, false, false, false, false, false, false, false, false, false, false, false, false, false, false, false, false, false, false, false] (by kernel_rfl) rfl rfl trivial (fun hHeld => ?_); refine with_tabW headgatelaw03_alive.tab3 headgatelaw03_alive.bits3 (fun HT_ HW_ => ?_)
        generalize w32.drew = w33 at HO111 HO117 HB hHeld ⊢
        refine pure_ (i := 0) (N := some 15) (v := ?_) (a' := ?_) #[true, false, false, false, false, false, false, false, false, false, false, false, false, false, false, false, false, false, false, false, false, false, false] rfl rfl (any_of HT_.out (by kernel_rfl)) (fun _ _ _ h => h) (Or.inl ⟨by rfl, ?_⟩) ?_ ?_
        rotate_left
        · intro w'
          go_simp
          with_reducible rfl
        rotate_left
        · simp only [Act.put, List.setIfInBounds_toArray, List.set_cons_zero, List.set_cons_succ, i64_w, i32_w]
          rfl
        refine pure_ (i := 1) (N := some 16) (v := ?_) (a' := ?_) #[true, true, false, false, false, false, false, false, false, false, false, false, false, false, false, false, false, false, false, false, false, false, false] rfl rfl (any_of HT_.out (by kernel_rfl)) (fun _ _ _ h => h) (Or.inl ⟨by rfl, ?_⟩) ?_ ?_
        rotate_left
        · intro w'
          go_simp
          with_reducible rfl
        rotate_left
        · simp only [Act.put, List.setIfInBounds_toArray, List.set_cons_zero, List.set_cons_succ, i64_w, i32_w]
          rfl
        refine pure_ (i := 2) (N := some 17) (v := ?_) (a' := ?_) #[true, true, true, false, false, false, false, false, false, false, false, false, false, false, false, false, false, false, false, false, false, false, false] rfl rfl (any_of HT_.out (by kernel_rfl)) (fun _ _ _ h => h) (Or.inl ⟨by rfl, ?_⟩) ?_ ?_
        rotate_left
        · intro w'
          go_simp
          with_reducible rfl
        rotate_left
        · simp only [Act.put, List.setIfInBounds_toArray, List.set_cons_zero, List.set_cons_succ, i64_w, i32_w]
          rfl
        refine pure_ (i := 3) (N := some 18) (v := ?_) (a' := ?_) #[true, true, true, true, false, false, false, false, false, false, false, false, false, false, false, false, false, false, false, false, false, false, false] rfl rfl (any_of HT_.out (by kernel_rfl)) (fun _ _ _ h => h) (Or.inl ⟨by rfl, ?_⟩) ?_ ?_
        rotate_left
        · intro w'
          go_simp
          with_reducible rfl
        rotate_left
        · simp only [Act.put, List.setIfInBounds_toArray, List.set_cons_zero, List.set_cons_succ, i64_w, i32_w]
          rfl
        refine pure_ (i := 4) (N := some 19) (v := ?_) (a' := ?_) #[true, true, true, true, true, false, false, false, false, false, false, false, false, false, false, false, false, false, false, false, false, false, false] rfl rfl (any_of HT_.out (by kernel_rfl)) (fun _ _ _ h => h) (Or.inl ⟨by rfl, ?_⟩) ?_ ?_
        rotate_left
        · intro w'
          go_simp
          with_reducible rfl
        rotate_left
        · simp only [Act.put, List.setIfInBounds_toArray, List.set_cons_zero, List.set_cons_succ, i64_w, i32_w]
          rfl
        refine pure_ (i := 5) (N := some 20) (v := ?_) (a' := ?_) #[true, true, true, true, true, true, false, false, false, false, false, false, false, false, false, false, false, false, false, false, false, false, false] rfl rfl (any_of HT_.out (by kernel_rfl)) (fun _ _ _ h => h) (Or.inl ⟨by rfl, ?_⟩) ?_ ?_
        rotate_left
        · intro w'
          go_simp
          with_reducible rfl
        rotate_left
        · simp only [Act.put, List.setIfInBounds_toArray, List.set_cons_zero, List.set_cons_succ, i64_w, i32_w]
          rfl
        refine pure_ (i := 6) (N := some 21) (v := ?_) (a' := ?_) #[true, true, true, true, true, true, true, false, false, false, false, false, false, false, false, false, false, false, false, false, false, false, false] rfl rfl (any_of HT_.out (by kernel_rfl)) (fun _ _ _ h => h) (Or.inl ⟨by rfl, ?_⟩) ?_ ?_
        rotate_left
        · intro w'
          go_simp
          with_reducible rfl
        rotate_left
        · simp only [Act.put, List.setIfInBounds_toArray, List.set_cons_zero, List.set_cons_succ, i64_w, i32_w]
          rfl
        refine pure_ (i := 7) (N := some 22) (v := ?_) (a' := ?_) #[true, true, true, true, true, true, true, true, false, false, false, false, false, false, false, false, false, false, false, false, false, false, false] rfl rfl (any_of HT_.out (by kernel_rfl)) (fun _ _ _ h => h) (Or.inl ⟨by rfl, ?_⟩) ?_ ?_
        rotate_left
        · intro w'
          go_simp
          with_reducible rfl
        rotate_left
        · simp only [Act.put, List.setIfInBounds_toArray, List.set_cons_zero, List.set_cons_succ, i64_w, i32_w]
          rfl
        refine pure_ (i := 8) (N := some 23) (v := ?_) (a' := ?_) #[true, true, true, true, true, true, true, true, true, false, false, false, false, false, false, false, false, false, false, false, false, false, false] rfl rfl (any_of HT_.out (by kernel_rfl)) (fun _ _ _ h => h) (Or.inl ⟨by rfl, ?_⟩) ?_ ?_
        rotate_left
        · intro w'
          go_simp
          with_reducible rfl
        rotate_left
        · simp only [Act.put, List.setIfInBounds_toArray, List.set_cons_zero, List.set_cons_succ, i64_w, i32_w]
          rfl
        refine pure_ (i := 9) (N := some 24) (v := ?_) (a' := ?_) #[true, true, true, true, true, true, true, true, true, true, false, false, false, false, false, false, false, false, false, false, false, false, false] rfl rfl (any_of HT_.out (by kernel_rfl)) (fun _ _ _ h => h) (Or.inl ⟨by rfl, ?_⟩) ?_ ?_
        rotate_left
        · intro w'
          go_simp
          with_reducible rfl
        rotate_left
        · simp only [Act.put, List.setIfInBounds_toArray, List.set_cons_zero, List.set_cons_succ, i64_w, i32_w]
          rfl
        refine pure_ (i := 10) (N := some 25) (v := ?_) (a' := ?_) #[true, true, true, true, true, true, true, true, true, true, true, false, false, false, false, false, false, false, false, false, false, false, false] rfl rfl (any_of HT_.out (by kernel_rfl)) (fun _ _ _ h => h) (Or.inl ⟨by rfl, ?_⟩) ?_ ?_
        rotate_left
        · intro w'
          go_simp
          with_reducible rfl
        rotate_left
        · simp only [Act.put, List.setIfInBounds_toArray, List.set_cons_zero, List.set_cons_succ, i64_w, i32_w]
          rfl
        refine pure_ (i := 11) (N := some 26) (v := undef) (a' := ?_) #[true, true, true, true, true, true, true, true, true, true, true, true, false, false, false, false, false, false, false, false, false, false, false] rfl rfl (any_of HT_.out (by kernel_rfl)) (fun _ _ _ h => h) (Or.inr ⟨by rfl, rfl⟩) ?_ ?_
        rotate_left
        · simp only [Act.put, List.setIfInBounds_toArray, List.set_cons_zero, List.set_cons_succ, i64_w, i32_w]
          rfl
        refine pure_ (i := 12) (N := some 27) (v := undef) (a' := ?_) #[true, true, true, true, true, true, true, true, true, true, true, true, true, false, false, false, false, false, false, false, false, false, false] rfl rfl (any_of HT_.out (by kernel_rfl)) (fun _ _ _ h => h) (Or.inr ⟨by rfl, rfl⟩) ?_ ?_
        rotate_left
        · simp only [Act.put, List.setIfInBounds_toArray, List.set_cons_zero, List.set_cons_succ, i64_w, i32_w]
          rfl
        refine pure_ (i := 13) (N := some 28) (v := undef) (a' := ?_) #[true, true, true, true, true, true, true, true, true, true, true, true, true, true, false, false, false, false, false, false, false, false, false] rfl rfl (any_of HT_.out (by kernel_rfl)) (fun _ _ _ h => h) (Or.inr ⟨by rfl, rfl⟩) ?_ ?_
        rotate_left
        · simp only [Act.put, List.setIfInBounds_toArray, List.set_cons_zero, List.set_cons_succ, i64_w, i32_w]
          rfl
        refine pure_ (i := 14) (N := some 29) (v := ?_) (a' := ?_) #[true, true, true, true, true, true, true, true, true, true, true, true, true, true, true, false, false, false, false, false, false, false, false] rfl rfl (any_of HT_.out (by kernel_rfl)) (fun _ _ _ h => h) (Or.inl ⟨by rfl, ?_⟩) ?_ ?_
        rotate_left
        · intro w'
          go_simp
          with_reducible rfl
        rotate_left
        · simp only [Act.put, List.setIfInBounds_toArray, List.set_cons_zero, List.set_cons_succ, i64_w, i32_w]
          rfl
        refine pure_ (i := 15) (N := some 30) (v := ?_) (a' := ?_) #[true, true, true, true, true, true, true, true, true, true, true, true, true, true, true, true, false, false, false, false, false, false, false] rfl rfl (any_of HT_.out (by kernel_rfl)) (fun _ _ _ h => h) (Or.inl ⟨by rfl, ?_⟩) ?_ ?_
        rotate_left
        · intro w'
          go_simp
          with_reducible rfl
        rotate_left
        · simp only [Act.put, List.setIfInBounds_toArray, List.set_cons_zero, List.set_cons_succ, i64_w, i32_w]
          rfl
        refine pure_ (i := 16) (N := some 31) (v := undef) (a' := ?_) #[true, true, true, true, true, true, true, true, true, true, true, true, true, true, true, true, true, false, false, false, false, false, false] rfl rfl (any_of HT_.out (by kernel_rfl)) (fun _ _ _ h => h) (Or.inr ⟨by rfl, rfl⟩) ?_ ?_
        rotate_left
        · simp only [Act.put, List.setIfInBounds_toArray, List.set_cons_zero, List.set_cons_succ, i64_w, i32_w]
          rfl
        refine pure_ (i := 17) (N := some 32) (v := undef) (a' := ?_) #[true, true, true, true, true, true, true, true, true, true, true, true, true, true, true, true, true, true, false, false, false, false, false] rfl rfl (any_of HT_.out (by kernel_rfl)) (fun _ _ _ h => h) (Or.inr ⟨by rfl, rfl⟩) ?_ ?_
        rotate_left
        · simp only [Act.put, List.setIfInBounds_toArray, List.set_cons_zero, List.set_cons_succ, i64_w, i32_w]
          rfl
        refine pure_ (i := 18) (N := some 33) (v := undef) (a' := ?_) #[true, true, true, true, true, true, true, true, true, true, true, true, true, true, true, true, true, true, true, false, false, false, false] rfl rfl (any_of HT_.out (by kernel_rfl)) (fun _ _ _ h => h) (Or.inr ⟨by rfl, rfl⟩) ?_ ?_
        rotate_left
        · simp only [Act.put, List.setIfInBounds_toArray, List.set_cons_zero, List.set_cons_succ, i64_w, i32_w]
          rfl
        refine pure_ (i := 19) (N := some 34) (v := undef) (a' := ?_) #[true, true, true, true, true, true, true, true, true, true, true, true, true, true, true, true, true, true, true, true, false, false, false] rfl rfl (any_of HT_.out (by kernel_rfl)) (fun _ _ _ h => h) (Or.inr ⟨by rfl, rfl⟩) ?_ ?_
        rotate_left
        · simp only [Act.put, List.setIfInBounds_toArray, List.set_cons_zero, List.set_cons_succ, i64_w, i32_w]
          rfl
        refine pure_ (i := 20) (N := some 35) (v := undef) (a' := ?_) #[true, true, true, true, true, true, true, true, true, true, true, true, true, true, true, true, true, true, true, true, true, false, false] rfl rfl (any_of HT_.out (by kernel_rfl)) (fun _ _ _ h => h) (Or.inr ⟨by rfl, rfl⟩) ?_ ?_
        rotate_left
        · simp only [Act.put, List.setIfInBounds_toArray, List.set_cons_zero, List.set_cons_succ, i64_w, i32_w]
          rfl
        refine pure_ (i := 21) (N := some 36) (v := ?_) (a' := ?_) #[true, true, true, true, true, true, true, true, true, true, true, true, true, true, true, true, true, true, true, true, true, true, false] rfl rfl (any_of HT_.out (by kernel_rfl)) (fun _ _ _ h => h) (Or.inl ⟨by rfl, ?_⟩) ?_ ?_
        rotate_left
        · intro w'
          go_simp
          with_reducible rfl
        rotate_left
        · simp only [Act.put, List.setIfInBounds_toArray, List.set_cons_zero, List.set_cons_succ, i64_w, i32_w]
          rfl
        refine pure_ (i := 22) (N := some 0) (v := ?_) (a' := ?_) #[true, true, true, true, true, true, true, true, true, true, true, true, true, true, true, true, true, true, true, true, true, true, true] rfl rfl (any_of HT_.out (by kernel_rfl)) (fun _ _ _ h => h) (Or.inl ⟨by rfl, ?_⟩) ?_ ?_
        rotate_left
        · intro w'
          go_simp
          with_reducible rfl
        rotate_left
        · simp only [Act.put, List.setIfInBounds_toArray, List.set_cons_zero, List.set_cons_succ, i64_w, i32_w]
          rfl
        refine done_ (done_of HT_.out (by kernel_rfl)) ?_
        try go_wp2
        go_ret
        exact ⟨by first | rfl | (simp [errW_none, errW_some] <;> rfl) | (simp [*, errW_none, errW_some] <;> rfl), by repeat (first | (with_reducible first | exact HB.out | apply below_alloc | apply pw_below_drewN | apply below_drew1) | exact HB.out)⟩
    · rw [if_neg c5] at H
      have c5b0 : (t112.toList == ([2, 127, 255, 255, 255, 255, 255, 255, 255] : List UInt8)) = false := beq_eq_false_iff_ne.mpr c5
      have c5b1 : (t112.toList != ([2, 127, 255, 255, 255, 255, 255, 255, 255] : List UInt8)) = true := bne_iff_ne.mpr c5
      obtain rfl := Option.some.inj H
      go_enter Tryd.func10, Tryd.ntmps10
      try go_wp2_with (first | ((with_reducible refine gate_callee (f := 23) rfl ?_); refine goesL_ (some 6) rfl rfl Tryd.func23 (by kernel_rfl) rfl #[.int .i64 (-1)] rfl (by (try simp only [List.map_toArray, List.map_cons, List.map_nil]); first | done | rfl | (simp only [List.length_drop, List.length_take]; rfl) | exact congrArg (fun x_ : Int => #[Value.int .u64 x_]) (show _ = _ % (18446744073709551616 : Int) by omega)) ?_; (with_reducible refine (value_Int.calls (-1) t106 t107 t108 _ A1.out).mono ?_); rintro e w34 ⟨rfl, hb⟩; refine ⟨_, rfl, ?_⟩; have n0_ := Aside0.mk (below_step (by repeat (first | (with_reducible first | exact HB.out | apply below_alloc | apply pw_below_drewN | apply below_drew1) | exact HB.out)) hb); clear HB; have HB := n0_; clear n0_; (try clear hb); (try clear hb2); (try clear hk); (try clear hi)) | ((with_reducible refine gate_dst (N := 7) rfl ?_); (try (refine gate_guard (by rfl) ?_; dsimp only)); refine Kd.R_lit k23 _ 23 ?hg (N := 7) ?hd (xs := ([(⟨t106, t107, t108⟩ : S23)] : List (S23))) (inner := [.int .i64 t106, .int .i64 t107, .string t108]) (ok := fun _ => True) (okp := fun _ => True) ?hr ?hp (fun _ hk => hk) trivial (Below.refl _ _) (Nat.le_refl _) (by simp) ?_; (case hd => rfl); (case hg => rfl); (case hr => first | (go_simp; done) | (go_simp; rfl)); (case hp => exact (Reps.c3 (show Kd.M k23 _ _ _ (⟨t106, t107, t108⟩ : S23) [.int .i64 t106, .int .i64 t107, .string t108] from (k23_mkM _ _ _ (⟨t106, t107, t108⟩ : S23) )) (Reps.none _ _))); intro v110 w35 ho36 hb hg_ hnew_; clear hg_ hnew_; (first | rw [← Ny109.out] at ho36 | (simp only [Int.reduceToNat] at ho36; rw [← Ny109.out] at ho36)); have n0_ := Aside0.mk (Kd.R_lower ho36 (below_size (by repeat (first | (with_reducible first | exact HB.out | apply below_alloc | apply pw_below_drewN | apply below_drew1) | exact HB.out)))); have n1_ := Aside0.mk (below_step (by repeat (first | (with_reducible first | exact HB.out | apply below_alloc | apply pw_below_drewN | apply below_drew1) | exact HB.out)) hb); clear HB; have HO111 := n0_; have HB := n1_; clear n0_ n1_; clear hb ho36; obtain ⟨Ao37, co37, eo37⟩ := Kd.R_slice HO111.out; subst eo37) | ((with_reducible refine gate_callee (f := 16) rfl ?_); refine goesL_ (some 8) rfl rfl Tryd.func16 (by kernel_rfl) rfl #[.slice Ao37 y109.length co37] rfl (by (try simp only [List.map_toArray, List.map_cons, List.map_nil]); first | done | rfl | (simp only [List.length_drop, List.length_take]; rfl) | exact congrArg (fun x_ : Int => #[Value.int .u64 x_]) (show _ = _ % (18446744073709551616 : Int) by omega)) ?_; (with_reducible refine (value_Key.calls _ _ y109 t112 t113 _ ?side1 ?side2 A2.out).mono ?_); (case side1 => repeat (first | exact (Kd.R_reads' HO111.out).2.2 | (with_reducible refine Kd.C_alloc ?_ _) | (with_reducible refine Kd.C_drewN ?_ _) | (with_reducible refine Kd.C_drew ?_))); (case side2 => exact (Kd.R_reads' HO111.out).2.1); rintro e w38 ⟨rfl, hb⟩; refine ⟨_, rfl, ?_⟩; have n0_ := Aside0.mk (Kd.R_below (by (with_reducible repeat (first | apply Kd.R_alloc | apply Kd.R_drewN | apply Kd.R_drew)); exact HO111.out) hb); have n1_ := Aside0.mk (below_step (by repeat (first | (with_reducible first | exact HB.out | apply below_alloc | apply pw_below_drewN | apply below_drew1) | exact HB.out)) hb); clear HO111; clear HB; have HO111 := n0_; have HB := n1_; clear n0_ n1_; (try clear hb); (try clear hb2); (try clear hk); (try clear hi)) | ((with_reducible refine gate_callee (f := 18) rfl ?_); refine goesL_ (some 12) rfl rfl Tryd.func18 (by kernel_rfl) rfl #[.string (⟨#[4, 97, 0, 0]⟩ : ByteArray)] rfl (by (try simp only [List.map_toArray, List.map_cons, List.map_nil]); first | done | rfl | (simp only [List.length_drop, List.length_take]; rfl) | exact congrArg (fun x_ : Int => #[Value.int .u64 x_]) (show _ = _ % (18446744073709551616 : Int) by omega)) ?_; (with_reducible refine (value_Unkey.calls k (⟨#[4, 97, 0, 0]⟩ : ByteArray) t114 t115 _ A3.out).mono ?_); rintro e w39 ⟨v116, rfl, ho0, hb⟩; refine ⟨_, rfl, ?_⟩; have n0_ := Aside0.mk (Kd.R_elder' (by (with_reducible repeat (first | apply Kd.R_alloc | apply Kd.R_drewN | apply Kd.R_drew)); exact HO111.out) (Kd.R_base ho0) hb); have n1_ := Aside0.mk (Kd.R_lower (Kd.R_new' ho0 (Kd.R_lt (by (with_reducible repeat (first | apply Kd.R_alloc | apply Kd.R_drewN | apply Kd.R_drew)); exact HO111.out))) (below_size (by repeat (first | (with_reducible first | exact HB.out | apply below_alloc | apply pw_below_drewN | apply below_drew1) | exact HB.out)))); have n2_ := Aside0.mk (below_step (by repeat (first | (with_reducible first | exact HB.out | apply below_alloc | apply pw_below_drewN | apply below_drew1) | exact HB.out)) hb); clear HO111; clear HB; have HO111 := n0_; have HO117 := n1_; have HB := n2_; clear n0_ n1_ n2_; (try clear hb); (try clear hb2); (try clear hk); (try clear hi); (try clear ho0)))
      have n0_ := Aside0.mk (Kd.R_drew HO111.out)
      have n1_ := Aside0.mk (Kd.R_drew HO117.out)
      have n2_ := Aside0.mk (below_drew1 HB.out)
      clear HO111
      clear HO117
      clear HB
      have HO111 := n0_
      have HO117 := n1_
      have HB := n2_
      clear n0_ n1_ n2_
      refine start_ (n := 23) (S := fun w' => True) (ds := []) #[false, false, false, false, false, false, false, false, false, false, false, false, false, false, false, false, false, false, false, false, false, false, false] (by kernel_rfl) rfl rfl trivial (fun hHeld => ?_); refine with_tabW headgatelaw03_alive.tab3 headgatelaw03_alive.bits3 (fun HT_ HW_ => ?_)
      generalize w39.drew = w40 at HO111 HO117 HB hHeld ⊢
      refine pure_ (i := 0) (N := some 15) (v := ?_) (a' := ?_) #[true, false, false, false, false, false, false, false, false, false, false, false, false, false, false, false, false, false, false, false, false, false, false] rfl rfl (any_of HT_.out (by kernel_rfl)) (fun _ _ _ h => h) (Or.inl ⟨by rfl, ?_⟩) ?_ ?_
      rotate_left
      · intro w'
        go_simp
        with_reducible rfl
      rotate_left
      · simp only [Act.put, List.setIfInBounds_toArray, List.set_cons_zero, List.set_cons_succ, i64_w, i32_w]
        rfl
      refine pure_ (i := 1) (N := some 16) (v := ?_) (a' := ?_) #[true, true, false, false, false, false, false, false, false, false, false, false, false, false, false, false, false, false, false, false, false, false, false] rfl rfl (any_of HT_.out (by kernel_rfl)) (fun _ _ _ h => h) (Or.inl ⟨by rfl, ?_⟩) ?_ ?_
      rotate_left
      · intro w'
        go_simp
        with_reducible rfl
      rotate_left
      · simp only [Act.put, List.setIfInBounds_toArray, List.set_cons_zero, List.set_cons_succ, i64_w, i32_w]
        rfl
      refine pure_ (i := 2) (N := some 17) (v := ?_) (a' := ?_) #[true, true, true, false, false, false, false, false, false, false, false, false, false, false, false, false, false, false, false, false, false, false, false] rfl rfl (any_of HT_.out (by kernel_rfl)) (fun _ _ _ h => h) (Or.inl ⟨by rfl, ?_⟩) ?_ ?_
      rotate_left
      · intro w'
        go_simp
        with_reducible rfl
      rotate_left
      · simp only [Act.put, List.setIfInBounds_toArray, List.set_cons_zero, List.set_cons_succ, i64_w, i32_w]
        rfl
      refine pure_ (i := 3) (N := some 18) (v := ?_) (a' := ?_) #[true, true, true, true, false, false, false, false, false, false, false, false, false, false, false, false, false, false, false, false, false, false, false] rfl rfl (any_of HT_.out (by kernel_rfl)) (fun _ _ _ h => h) (Or.inl ⟨by rfl, ?_⟩) ?_ ?_
      rotate_left
      · intro w'
        go_simp
        with_reducible rfl
      rotate_left
      · simp only [Act.put, List.setIfInBounds_toArray, List.set_cons_zero, List.set_cons_succ, i64_w, i32_w]
        rfl
      refine pure_ (i := 4) (N := some 19) (v := ?_) (a' := ?_) #[true, true, true, true, true, false, false, false, false, false, false, false, false, false, false, false, false, false, false, false, false, false, false] rfl rfl (any_of HT_.out (by kernel_rfl)) (fun _ _ _ h => h) (Or.inl ⟨by rfl, ?_⟩) ?_ ?_
      rotate_left
      · intro w'
        go_simp
        with_reducible rfl
      rotate_left
      · simp only [Act.put, List.setIfInBounds_toArray, List.set_cons_zero, List.set_cons_succ, i64_w, i32_w]
        rfl
      refine pure_ (i := 5) (N := some 20) (v := ?_) (a' := ?_) #[true, true, true, true, true, true, false, false, false, false, false, false, false, false, false, false, false, false, false, false, false, false, false] rfl rfl (any_of HT_.out (by kernel_rfl)) (fun _ _ _ h => h) (Or.inl ⟨by rfl, ?_⟩) ?_ ?_
      rotate_left
      · intro w'
        go_simp
        with_reducible rfl
      rotate_left
      · simp only [Act.put, List.setIfInBounds_toArray, List.set_cons_zero, List.set_cons_succ, i64_w, i32_w]
        rfl
      refine pure_ (i := 6) (N := some 21) (v := ?_) (a' := ?_) #[true, true, true, true, true, true, true, false, false, false, false, false, false, false, false, false, false, false, false, false, false, false, false] rfl rfl (any_of HT_.out (by kernel_rfl)) (fun _ _ _ h => h) (Or.inl ⟨by rfl, ?_⟩) ?_ ?_
      rotate_left
      · intro w'
        go_simp
        with_reducible rfl
      rotate_left
      · simp only [Act.put, List.setIfInBounds_toArray, List.set_cons_zero, List.set_cons_succ, i64_w, i32_w]
        rfl
      refine pure_ (i := 7) (N := some 22) (v := undef) (a' := ?_) #[true, true, true, true, true, true, true, true, false, false, false, false, false, false, false, false, false, false, false, false, false, false, false] rfl rfl (any_of HT_.out (by kernel_rfl)) (fun _ _ _ h => h) (Or.inr ⟨by rfl, rfl⟩) ?_ ?_
      rotate_left
      · simp only [Act.put, List.setIfInBounds_toArray, List.set_cons_zero, List.set_cons_succ, i64_w, i32_w]
        rfl
      refine pure_ (i := 8) (N := some 23) (v := undef) (a' := ?_) #[true, true, true, true, true, true, true, true, true, false, false, false, false, false, false, false, false, false, false, false, false, false, false] rfl rfl (any_of HT_.out (by kernel_rfl)) (fun _ _ _ h => h) (Or.inr ⟨by rfl, rfl⟩) ?_ ?_
      rotate_left
      · simp only [Act.put, List.setIfInBounds_toArray, List.set_cons_zero, List.set_cons_succ, i64_w, i32_w]
        rfl
      refine pure_ (i := 9) (N := some 24) (v := ?_) (a' := ?_) #[true, true, true, true, true, true, true, true, true, true, false, false, false, false, false, false, false, false, false, false, false, false, false] rfl rfl (any_of HT_.out (by kernel_rfl)) (fun _ _ _ h => h) (Or.inl ⟨by rfl, ?_⟩) ?_ ?_
      rotate_left
      · intro w'
        go_simp
        with_reducible rfl
      rotate_left
      · simp only [Act.put, List.setIfInBounds_toArray, List.set_cons_zero, List.set_cons_succ, i64_w, i32_w]
        rfl
      refine pure_ (i := 10) (N := some 25) (v := ?_) (a' := ?_) #[true, true, true, true, true, true, true, true, true, true, true, false, false, false, false, false, false, false, false, false, false, false, false] rfl rfl (any_of HT_.out (by kernel_rfl)) (fun _ _ _ h => h) (Or.inl ⟨by rfl, ?_⟩) ?_ ?_
      rotate_left
      · intro w'
        go_simp
        with_reducible rfl
      rotate_left
      · simp only [Act.put, List.setIfInBounds_toArray, List.set_cons_zero, List.set_cons_succ, i64_w, i32_w]
        rfl
      refine pure_ (i := 11) (N := some 26) (v := undef) (a' := ?_) #[true, true, true, true, true, true, true, true, true, true, true, true, false, false, false, false, false, false, false, false, false, false, false] rfl rfl (any_of HT_.out (by kernel_rfl)) (fun _ _ _ h => h) (Or.inr ⟨by rfl, rfl⟩) ?_ ?_
      rotate_left
      · simp only [Act.put, List.setIfInBounds_toArray, List.set_cons_zero, List.set_cons_succ, i64_w, i32_w]
        rfl
      refine pure_ (i := 12) (N := some 27) (v := undef) (a' := ?_) #[true, true, true, true, true, true, true, true, true, true, true, true, true, false, false, false, false, false, false, false, false, false, false] rfl rfl (any_of HT_.out (by kernel_rfl)) (fun _ _ _ h => h) (Or.inr ⟨by rfl, rfl⟩) ?_ ?_
      rotate_left
      · simp only [Act.put, List.setIfInBounds_toArray, List.set_cons_zero, List.set_cons_succ, i64_w, i32_w]
        rfl
      refine pure_ (i := 13) (N := some 28) (v := undef) (a' := ?_) #[true, true, true, true, true, true, true, true, true, true, true, true, true, true, false, false, false, false, false, false, false, false, false] rfl rfl (any_of HT_.out (by kernel_rfl)) (fun _ _ _ h => h) (Or.inr ⟨by rfl, rfl⟩) ?_ ?_
      rotate_left
      · simp only [Act.put, List.setIfInBounds_toArray, List.set_cons_zero, List.set_cons_succ, i64_w, i32_w]
        rfl
      refine pure_ (i := 14) (N := some 29) (v := ?_) (a' := ?_) #[true, true, true, true, true, true, true, true, true, true, true, true, true, true, true, false, false, false, false, false, false, false, false] rfl rfl (any_of HT_.out (by kernel_rfl)) (fun _ _ _ h => h) (Or.inl ⟨by rfl, ?_⟩) ?_ ?_
      rotate_left
      · intro w'
        go_simp
        with_reducible rfl
      rotate_left
      · simp only [Act.put, List.setIfInBounds_toArray, List.set_cons_zero, List.set_cons_succ, i64_w, i32_w]
        rfl
      refine pure_ (i := 15) (N := some 30) (v := ?_) (a' := ?_) #[true, true, true, true, true, true, true, true, true, true, true, true, true, true, true, true, false, false, false, false, false, false, false] rfl rfl (any_of HT_.out (by kernel_rfl)) (fun _ _ _ h => h) (Or.inl ⟨by rfl, ?_⟩) ?_ ?_
      rotate_left
      · intro w'
        go_simp
        with_reducible rfl
      rotate_left
      · simp only [Act.put, List.setIfInBounds_toArray, List.set_cons_zero, List.set_cons_succ, i64_w, i32_w]
        rfl
      refine pure_ (i := 16) (N := some 31) (v := undef) (a' := ?_) #[true, true, true, true, true, true, true, true, true, true, true, true, true, true, true, true, true, false, false, false, false, false, false] rfl rfl (any_of HT_.out (by kernel_rfl)) (fun _ _ _ h => h) (Or.inr ⟨by rfl, rfl⟩) ?_ ?_
      rotate_left
      · simp only [Act.put, List.setIfInBounds_toArray, List.set_cons_zero, List.set_cons_succ, i64_w, i32_w]
        rfl
      refine pure_ (i := 17) (N := some 32) (v := undef) (a' := ?_) #[true, true, true, true, true, true, true, true, true, true, true, true, true, true, true, true, true, true, false, false, false, false, false] rfl rfl (any_of HT_.out (by kernel_rfl)) (fun _ _ _ h => h) (Or.inr ⟨by rfl, rfl⟩) ?_ ?_
      rotate_left
      · simp only [Act.put, List.setIfInBounds_toArray, List.set_cons_zero, List.set_cons_succ, i64_w, i32_w]
        rfl
      refine pure_ (i := 18) (N := some 33) (v := undef) (a' := ?_) #[true, true, true, true, true, true, true, true, true, true, true, true, true, true, true, true, true, true, true, false, false, false, false] rfl rfl (any_of HT_.out (by kernel_rfl)) (fun _ _ _ h => h) (Or.inr ⟨by rfl, rfl⟩) ?_ ?_
      rotate_left
      · simp only [Act.put, List.setIfInBounds_toArray, List.set_cons_zero, List.set_cons_succ, i64_w, i32_w]
        rfl
      refine pure_ (i := 19) (N := some 34) (v := undef) (a' := ?_) #[true, true, true, true, true, true, true, true, true, true, true, true, true, true, true, true, true, true, true, true, false, false, false] rfl rfl (any_of HT_.out (by kernel_rfl)) (fun _ _ _ h => h) (Or.inr ⟨by rfl, rfl⟩) ?_ ?_
      rotate_left
      · simp only [Act.put, List.setIfInBounds_toArray, List.set_cons_zero, List.set_cons_succ, i64_w, i32_w]
        rfl
      refine pure_ (i := 20) (N := some 35) (v := undef) (a' := ?_) #[true, true, true, true, true, true, true, true, true, true, true, true, true, true, true, true, true, true, true, true, true, false, false] rfl rfl (any_of HT_.out (by kernel_rfl)) (fun _ _ _ h => h) (Or.inr ⟨by rfl, rfl⟩) ?_ ?_
      rotate_left
      · simp only [Act.put, List.setIfInBounds_toArray, List.set_cons_zero, List.set_cons_succ, i64_w, i32_w]
        rfl
      refine pure_ (i := 21) (N := some 36) (v := ?_) (a' := ?_) #[true, true, true, true, true, true, true, true, true, true, true, true, true, true, true, true, true, true, true, true, true, true, false] rfl rfl (any_of HT_.out (by kernel_rfl)) (fun _ _ _ h => h) (Or.inl ⟨by rfl, ?_⟩) ?_ ?_
      rotate_left
      · intro w'
        go_simp
        with_reducible rfl
      rotate_left
      · simp only [Act.put, List.setIfInBounds_toArray, List.set_cons_zero, List.set_cons_succ, i64_w, i32_w]
        rfl
      refine pure_ (i := 22) (N := some 0) (v := ?_) (a' := ?_) #[true, true, true, true, true, true, true, true, true, true, true, true, true, true, true, true, true, true, true, true, true, true, true] rfl rfl (any_of HT_.out (by kernel_rfl)) (fun _ _ _ h => h) (Or.inl ⟨by rfl, ?_⟩) ?_ ?_
      rotate_left
      · intro w'
        go_simp
        with_reducible rfl
      rotate_left
      · simp only [Act.put, List.setIfInBounds_toArray, List.set_cons_zero, List.set_cons_succ, i64_w, i32_w]
        rfl
      refine done_ (done_of HT_.out (by kernel_rfl)) ?_
      try go_wp2
      go_ret
      exact ⟨by first | rfl | (simp [errW_none, errW_some] <;> rfl) | (simp [*, errW_none, errW_some] <;> rfl), by repeat (first | (with_reducible first | exact HB.out | apply below_alloc | apply pw_below_drewN | apply below_drew1) | exact HB.out)⟩
  · rw [if_neg c4] at H
    have c4b0 : (t113 == 0) = false := beq_eq_false_iff_ne.mpr c4
    have c4b1 : (t113 != 0) = true := bne_iff_ne.mpr c4
    obtain rfl := Option.some.inj H
    go_enter Tryd.func10, Tryd.ntmps10
    try go_wp2_with (first | ((with_reducible refine gate_callee (f := 23) rfl ?_); refine goesL_ (some 6) rfl rfl Tryd.func23 (by kernel_rfl) rfl #[.int .i64 (-1)] rfl (by (try simp only [List.map_toArray, List.map_cons, List.map_nil]); first | done | rfl | (simp only [List.length_drop, List.length_take]; rfl) | exact congrArg (fun x_ : Int => #[Value.int .u64 x_]) (show _ = _ % (18446744073709551616 : Int) by omega)) ?_; (with_reducible refine (value_Int.calls (-1) t106 t107 t108 _ A1.out).mono ?_); rintro e w41 ⟨rfl, hb⟩; refine ⟨_, rfl, ?_⟩; have n0_ := Aside0.mk (below_step (by repeat (first | (with_reducible first | exact HB.out | apply below_alloc | apply pw_below_drewN | apply below_drew1) | exact HB.out)) hb); clear HB; have HB := n0_; clear n0_; (try clear hb); (try clear hb2); (try clear hk); (try clear hi)) | ((with_reducible refine gate_dst (N := 7) rfl ?_); (try (refine gate_guard (by rfl) ?_; dsimp only)); refine Kd.R_lit k23 _ 23 ?hg (N := 7) ?hd (xs := ([(⟨t106, t107, t108⟩ : S23)] : List (S23))) (inner := [.int .i64 t106, .int .i64 t107, .string t108]) (ok := fun _ => True) (okp := fun _ => True) ?hr ?hp (fun _ hk => hk) trivial (Below.refl _ _) (Nat.le_refl _) (by simp) ?_; (case hd => rfl); (case hg => rfl); (case hr => first | (go_simp; done) | (go_simp; rfl)); (case hp => exact (Reps.c3 (show Kd.M k23 _ _ _ (⟨t106, t107, t108⟩ : S23) [.int .i64 t106, .int .i64 t107, .string t108] from (k23_mkM _ _ _ (⟨t106, t107, t108⟩ : S23) )) (Reps.none _ _))); intro v110 w42 ho43 hb hg_ hnew_; clear hg_ hnew_; (first | rw [← Ny109.out] at ho43 | (simp only [Int.reduceToNat] at ho43; rw [← Ny109.out] at ho43)); have n0_ := Aside0.mk (Kd.R_lower ho43 (below_size (by repeat (first | (with_reducible first | exact HB.out | apply below_alloc | apply pw_below_drewN | apply below_drew1) | exact HB.out)))); have n1_ := Aside0.mk (below_step (by repeat (first | (with_reducible first | exact HB.out | apply below_alloc | apply pw_below_drewN | apply below_drew1) | exact HB.out)) hb); clear HB; have HO111 := n0_; have HB := n1_; clear n0_ n1_; clear hb ho43; obtain ⟨Ao44, co44, eo44⟩ := Kd.R_slice HO111.out; subst eo44) | ((with_reducible refine gate_callee (f := 16) rfl ?_); refine goesL_ (some 8) rfl rfl Tryd.func16 (by kernel_rfl) rfl #[.slice Ao44 y109.length co44] rfl (by (try simp only [List.map_toArray, List.map_cons, List.map_nil]); first | done | rfl | (simp only [List.length_drop, List.length_take]; rfl) | exact congrArg (fun x_ : Int => #[Value.int .u64 x_]) (show _ = _ % (18446744073709551616 : Int) by omega)) ?_; (with_reducible refine (value_Key.calls _ _ y109 t112 t113 _ ?side1 ?side2 A2.out).mono ?_); (case side1 => repeat (first | exact (Kd.R_reads' HO111.out).2.2 | (with_reducible refine Kd.C_alloc ?_ _) | (with_reducible refine Kd.C_drewN ?_ _) | (with_reducible refine Kd.C_drew ?_))); (case side2 => exact (Kd.R_reads' HO111.out).2.1); rintro e w45 ⟨rfl, hb⟩; refine ⟨_, rfl, ?_⟩; have n0_ := Aside0.mk (Kd.R_below (by (with_reducible repeat (first | apply Kd.R_alloc | apply Kd.R_drewN | apply Kd.R_drew)); exact HO111.out) hb); have n1_ := Aside0.mk (below_step (by repeat (first | (with_reducible first | exact HB.out | apply below_alloc | apply pw_below_drewN | apply below_drew1) | exact HB.out)) hb); clear HO111; clear HB; have HO111 := n0_; have HB := n1_; clear n0_ n1_; (try clear hb); (try clear hb2); (try clear hk); (try clear hi)) | ((with_reducible refine gate_callee (f := 18) rfl ?_); refine goesL_ (some 12) rfl rfl Tryd.func18 (by kernel_rfl) rfl #[.string (⟨#[4, 97, 0, 0]⟩ : ByteArray)] rfl (by (try simp only [List.map_toArray, List.map_cons, List.map_nil]); first | done | rfl | (simp only [List.length_drop, List.length_take]; rfl) | exact congrArg (fun x_ : Int => #[Value.int .u64 x_]) (show _ = _ % (18446744073709551616 : Int) by omega)) ?_; (with_reducible refine (value_Unkey.calls k (⟨#[4, 97, 0, 0]⟩ : ByteArray) t114 t115 _ A3.out).mono ?_); rintro e w46 ⟨v116, rfl, ho0, hb⟩; refine ⟨_, rfl, ?_⟩; have n0_ := Aside0.mk (Kd.R_elder' (by (with_reducible repeat (first | apply Kd.R_alloc | apply Kd.R_drewN | apply Kd.R_drew)); exact HO111.out) (Kd.R_base ho0) hb); have n1_ := Aside0.mk (Kd.R_lower (Kd.R_new' ho0 (Kd.R_lt (by (with_reducible repeat (first | apply Kd.R_alloc | apply Kd.R_drewN | apply Kd.R_drew)); exact HO111.out))) (below_size (by repeat (first | (with_reducible first | exact HB.out | apply below_alloc | apply pw_below_drewN | apply below_drew1) | exact HB.out)))); have n2_ := Aside0.mk (below_step (by repeat (first | (with_reducible first | exact HB.out | apply below_alloc | apply pw_below_drewN | apply below_drew1) | exact HB.out)) hb); clear HO111; clear HB; have HO111 := n0_; have HO117 := n1_; have HB := n2_; clear n0_ n1_ n2_; (try clear hb); (try clear hb2); (try clear hk); (try clear hi); (try clear ho0)))
    have n0_ := Aside0.mk (Kd.R_drew HO111.out)
    have n1_ := Aside0.mk (Kd.R_drew HO117.out)
    have n2_ := Aside0.mk (below_drew1 HB.out)
    clear HO111
    clear HO117
    clear HB
    have HO111 := n0_
    have HO117 := n1_
    have HB := n2_
    clear n0_ n1_ n2_
    refine start_ (n := 23) (S := fun w' => True) (ds := []) #[false, false, false, false, false, false, false, false, false, false, false, false, false, false, false, false, false, false, false, false, false, false, false] (by kernel_rfl) rfl rfl trivial (fun hHeld => ?_); refine with_tabW headgatelaw03_alive.tab3 headgatelaw03_alive.bits3 (fun HT_ HW_ => ?_)
    generalize w46.drew = w47 at HO111 HO117 HB hHeld ⊢
    refine pure_ (i := 0) (N := some 15) (v := ?_) (a' := ?_) #[true, false, false, false, false, false, false, false, false, false, false, false, false, false, false, false, false, false, false, false, false, false, false] rfl rfl (any_of HT_.out (by kernel_rfl)) (fun _ _ _ h => h) (Or.inl ⟨by rfl, ?_⟩) ?_ ?_
    rotate_left
    · intro w'
      go_simp
      with_reducible rfl
    rotate_left
    · simp only [Act.put, List.setIfInBounds_toArray, List.set_cons_zero, List.set_cons_succ, i64_w, i32_w]
      rfl
    refine pure_ (i := 1) (N := some 16) (v := ?_) (a' := ?_) #[true, true, false, false, false, false, false, false, false, false, false, false, false, false, false, false, false, false, false, false, false, false, false] rfl rfl (any_of HT_.out (by kernel_rfl)) (fun _ _ _ h => h) (Or.inl ⟨by rfl, ?_⟩) ?_ ?_
    rotate_left
    · intro w'
      go_simp
      with_reducible rfl
    rotate_left
    · simp only [Act.put, List.setIfInBounds_toArray, List.set_cons_zero, List.set_cons_succ, i64_w, i32_w]
      rfl
    refine pure_ (i := 2) (N := some 17) (v := ?_) (a' := ?_) #[true, true, true, false, false, false, false, false, false, false, false, false, false, false, false, false, false, false, false, false, false, false, false] rfl rfl (any_of HT_.out (by kernel_rfl)) (fun _ _ _ h => h) (Or.inl ⟨by rfl, ?_⟩) ?_ ?_
    rotate_left
    · intro w'
      go_simp
      with_reducible rfl
    rotate_left
    · simp only [Act.put, List.setIfInBounds_toArray, List.set_cons_zero, List.set_cons_succ, i64_w, i32_w]
      rfl
    refine pure_ (i := 3) (N := some 18) (v := undef) (a' := ?_) #[true, true, true, true, false, false, false, false, false, false, false, false, false, false, false, false, false, false, false, false, false, false, false] rfl rfl (any_of HT_.out (by kernel_rfl)) (fun _ _ _ h => h) (Or.inr ⟨by rfl, rfl⟩) ?_ ?_
    rotate_left
    · simp only [Act.put, List.setIfInBounds_toArray, List.set_cons_zero, List.set_cons_succ, i64_w, i32_w]
      rfl
    refine pure_ (i := 4) (N := some 19) (v := undef) (a' := ?_) #[true, true, true, true, true, false, false, false, false, false, false, false, false, false, false, false, false, false, false, false, false, false, false] rfl rfl (any_of HT_.out (by kernel_rfl)) (fun _ _ _ h => h) (Or.inr ⟨by rfl, rfl⟩) ?_ ?_
    rotate_left
    · simp only [Act.put, List.setIfInBounds_toArray, List.set_cons_zero, List.set_cons_succ, i64_w, i32_w]
      rfl
    refine pure_ (i := 5) (N := some 20) (v := ?_) (a' := ?_) #[true, true, true, true, true, true, false, false, false, false, false, false, false, false, false, false, false, false, false, false, false, false, false] rfl rfl (any_of HT_.out (by kernel_rfl)) (fun _ _ _ h => h) (Or.inl ⟨by rfl, ?_⟩) ?_ ?_
    rotate_left
    · intro w'
      go_simp
      with_reducible rfl
    rotate_left
    · simp only [Act.put, List.setIfInBounds_toArray, List.set_cons_zero, List.set_cons_succ, i64_w, i32_w]
      rfl
    refine pure_ (i := 6) (N := some 21) (v := ?_) (a' := ?_) #[true, true, true, true, true, true, true, false, false, false, false, false, false, false, false, false, false, false, false, false, false, false, false] rfl rfl (any_of HT_.out (by kernel_rfl)) (fun _ _ _ h => h) (Or.inl ⟨by rfl, ?_⟩) ?_ ?_
    rotate_left
    · intro w'
      go_simp
      with_reducible rfl
    rotate_left
    · simp only [Act.put, List.setIfInBounds_toArray, List.set_cons_zero, List.set_cons_succ, i64_w, i32_w]
      rfl
    refine pure_ (i := 7) (N := some 22) (v := undef) (a' := ?_) #[true, true, true, true, true, true, true, true, false, false, false, false, false, false, false, false, false, false, false, false, false, false, false] rfl rfl (any_of HT_.out (by kernel_rfl)) (fun _ _ _ h => h) (Or.inr ⟨by rfl, rfl⟩) ?_ ?_
    rotate_left
    · simp only [Act.put, List.setIfInBounds_toArray, List.set_cons_zero, List.set_cons_succ, i64_w, i32_w]
      rfl
    refine pure_ (i := 8) (N := some 23) (v := undef) (a' := ?_) #[true, true, true, true, true, true, true, true, true, false, false, false, false, false, false, false, false, false, false, false, false, false, false] rfl rfl (any_of HT_.out (by kernel_rfl)) (fun _ _ _ h => h) (Or.inr ⟨by rfl, rfl⟩) ?_ ?_
    rotate_left
    · simp only [Act.put, List.setIfInBounds_toArray, List.set_cons_zero, List.set_cons_succ, i64_w, i32_w]
      rfl
    refine pure_ (i := 9) (N := some 24) (v := ?_) (a' := ?_) #[true, true, true, true, true, true, true, true, true, true, false, false, false, false, false, false, false, false, false, false, false, false, false] rfl rfl (any_of HT_.out (by kernel_rfl)) (fun _ _ _ h => h) (Or.inl ⟨by rfl, ?_⟩) ?_ ?_
    rotate_left
    · intro w'
      go_simp
      with_reducible rfl
    rotate_left
    · simp only [Act.put, List.setIfInBounds_toArray, List.set_cons_zero, List.set_cons_succ, i64_w, i32_w]
      rfl
    refine pure_ (i := 10) (N := some 25) (v := ?_) (a' := ?_) #[true, true, true, true, true, true, true, true, true, true, true, false, false, false, false, false, false, false, false, false, false, false, false] rfl rfl (any_of HT_.out (by kernel_rfl)) (fun _ _ _ h => h) (Or.inl ⟨by rfl, ?_⟩) ?_ ?_
    rotate_left
    · intro w'
      go_simp
      with_reducible rfl
    rotate_left
    · simp only [Act.put, List.setIfInBounds_toArray, List.set_cons_zero, List.set_cons_succ, i64_w, i32_w]
      rfl
    refine pure_ (i := 11) (N := some 26) (v := undef) (a' := ?_) #[true, true, true, true, true, true, true, true, true, true, true, true, false, false, false, false, false, false, false, false, false, false, false] rfl rfl (any_of HT_.out (by kernel_rfl)) (fun _ _ _ h => h) (Or.inr ⟨by rfl, rfl⟩) ?_ ?_
    rotate_left
    · simp only [Act.put, List.setIfInBounds_toArray, List.set_cons_zero, List.set_cons_succ, i64_w, i32_w]
      rfl
    refine pure_ (i := 12) (N := some 27) (v := undef) (a' := ?_) #[true, true, true, true, true, true, true, true, true, true, true, true, true, false, false, false, false, false, false, false, false, false, false] rfl rfl (any_of HT_.out (by kernel_rfl)) (fun _ _ _ h => h) (Or.inr ⟨by rfl, rfl⟩) ?_ ?_
    rotate_left
    · simp only [Act.put, List.setIfInBounds_toArray, List.set_cons_zero, List.set_cons_succ, i64_w, i32_w]
      rfl
    refine pure_ (i := 13) (N := some 28) (v := undef) (a' := ?_) #[true, true, true, true, true, true, true, true, true, true, true, true, true, true, false, false, false, false, false, false, false, false, false] rfl rfl (any_of HT_.out (by kernel_rfl)) (fun _ _ _ h => h) (Or.inr ⟨by rfl, rfl⟩) ?_ ?_
    rotate_left
    · simp only [Act.put, List.setIfInBounds_toArray, List.set_cons_zero, List.set_cons_succ, i64_w, i32_w]
      rfl
    refine pure_ (i := 14) (N := some 29) (v := ?_) (a' := ?_) #[true, true, true, true, true, true, true, true, true, true, true, true, true, true, true, false, false, false, false, false, false, false, false] rfl rfl (any_of HT_.out (by kernel_rfl)) (fun _ _ _ h => h) (Or.inl ⟨by rfl, ?_⟩) ?_ ?_
    rotate_left
    · intro w'
      go_simp
      with_reducible rfl
    rotate_left
    · simp only [Act.put, List.setIfInBounds_toArray, List.set_cons_zero, List.set_cons_succ, i64_w, i32_w]
      rfl
    refine pure_ (i := 15) (N := some 30) (v := ?_) (a' := ?_) #[true, true, true, true, true, true, true, true, true, true, true, true, true, true, true, true, false, false, false, false, false, false, false] rfl rfl (any_of HT_.out (by kernel_rfl)) (fun _ _ _ h => h) (Or.inl ⟨by rfl, ?_⟩) ?_ ?_
    rotate_left
    · intro w'
      go_simp
      with_reducible rfl
    rotate_left
    · simp only [Act.put, List.setIfInBounds_toArray, List.set_cons_zero, List.set_cons_succ, i64_w, i32_w]
      rfl
    refine pure_ (i := 16) (N := some 31) (v := undef) (a' := ?_) #[true, true, true, true, true, true, true, true, true, true, true, true, true, true, true, true, true, false, false, false, false, false, false] rfl rfl (any_of HT_.out (by kernel_rfl)) (fun _ _ _ h => h) (Or.inr ⟨by rfl, rfl⟩) ?_ ?_
    rotate_left
    · simp only [Act.put, List.setIfInBounds_toArray, List.set_cons_zero, List.set_cons_succ, i64_w, i32_w]
      rfl
    refine pure_ (i := 17) (N := some 32) (v := undef) (a' := ?_) #[true, true, true, true, true, true, true, true, true, true, true, true, true, true, true, true, true, true, false, false, false, false, false] rfl rfl (any_of HT_.out (by kernel_rfl)) (fun _ _ _ h => h) (Or.inr ⟨by rfl, rfl⟩) ?_ ?_
    rotate_left
    · simp only [Act.put, List.setIfInBounds_toArray, List.set_cons_zero, List.set_cons_succ, i64_w, i32_w]
      rfl
    refine pure_ (i := 18) (N := some 33) (v := undef) (a' := ?_) #[true, true, true, true, true, true, true, true, true, true, true, true, true, true, true, true, true, true, true, false, false, false, false] rfl rfl (any_of HT_.out (by kernel_rfl)) (fun _ _ _ h => h) (Or.inr ⟨by rfl, rfl⟩) ?_ ?_
    rotate_left
    · simp only [Act.put, List.setIfInBounds_toArray, List.set_cons_zero, List.set_cons_succ, i64_w, i32_w]
      rfl
    refine pure_ (i := 19) (N := some 34) (v := undef) (a' := ?_) #[true, true, true, true, true, true, true, true, true, true, true, true, true, true, true, true, true, true, true, true, false, false, false] rfl rfl (any_of HT_.out (by kernel_rfl)) (fun _ _ _ h => h) (Or.inr ⟨by rfl, rfl⟩) ?_ ?_
    rotate_left
    · simp only [Act.put, List.setIfInBounds_toArray, List.set_cons_zero, List.set_cons_succ, i64_w, i32_w]
      rfl
    refine pure_ (i := 20) (N := some 35) (v := undef) (a' := ?_) #[true, true, true, true, true, true, true, true, true, true, true, true, true, true, true, true, true, true, true, true, true, false, false] rfl rfl (any_of HT_.out (by kernel_rfl)) (fun _ _ _ h => h) (Or.inr ⟨by rfl, rfl⟩) ?_ ?_
    rotate_left
    · simp only [Act.put, List.setIfInBounds_toArray, List.set_cons_zero, List.set_cons_succ, i64_w, i32_w]
      rfl
    refine pure_ (i := 21) (N := some 36) (v := ?_) (a' := ?_) #[true, true, true, true, true, true, true, true, true, true, true, true, true, true, true, true, true, true, true, true, true, true, false] rfl rfl (any_of HT_.out (by kernel_rfl)) (fun _ _ _ h => h) (Or.inl ⟨by rfl, ?_⟩) ?_ ?_
    rotate_left
    · intro w'
      go_simp
      with_reducible rfl
    rotate_left
    · simp only [Act.put, List.setIfInBounds_toArray, List.set_cons_zero, List.set_cons_succ, i64_w, i32_w]
      rfl
    refine pure_ (i := 22) (N := some 0) (v := ?_) (a' := ?_) #[true, true, true, true, true, true, true, true, true, true, true, true, true, true, true, true, true, true, true, true, true, true, true] rfl rfl (any_of HT_.out (by kernel_rfl)) (fun _ _ _ h => h) (Or.inl ⟨by rfl, ?_⟩) ?_ ?_
    rotate_left
    · intro w'
      go_simp
      with_reducible rfl
    rotate_left
    · simp only [Act.put, List.setIfInBounds_toArray, List.set_cons_zero, List.set_cons_succ, i64_w, i32_w]
      rfl
    refine done_ (done_of HT_.out (by kernel_rfl)) ?_
    try go_wp2
    go_ret
    exact ⟨by first | rfl | (simp [errW_none, errW_some] <;> rfl) | (simp [*, errW_none, errW_some] <;> rfl), by repeat (first | (with_reducible first | exact HB.out | apply below_alloc | apply pw_below_drewN | apply below_drew1) | exact HB.out)⟩

end Go.Proofs.YtindffllmlifiaaDoor.Q
-- Written by a program of the session over the translation's print: functions as plain Lean, and that the machine's call comes to them.
namespace Go.Proofs.YtindffllmlifiaaDoor.Q
open Go.RowKit Go.Proofs.YtindffllmlifiaaDoorW.PrintWords Go.Proofs.YtindffllmlifiaaDoorW.PrintLast Go.Proofs.YtindffllmlifiaaDoorW.PrintMore
attribute [local go_sem] max2_int min2_int max_two min_two max_three min_three max_four min_four   -- for this text's walks alone
set_option linter.unusedVariables false
set_option linter.unusedSimpArgs false

-- NOT PRINTED: function 22 (value_All)

-- NOT PRINTED: function 58 (bytealg_IndexByteString)

-- NOT PRINTED: function 50 (stringslite_IndexByte)

-- NOT PRINTED: function 61 (bytealg_IndexString)

-- NOT PRINTED: function 56 (stringslite_Index)

-- NOT PRINTED: function 46 (strings_Index)

-- NOT PRINTED: function 52 (utf8_RuneCountInString)

-- NOT PRINTED: function 53 (bytealg_CountString)

-- NOT PRINTED: function 44 (strings_Count)

-- NOT PRINTED: function 59 (abi_NoEscape)

-- NOT PRINTED: function 54 (strings_Builder_copyCheck)

-- NOT PRINTED: function 60 (bytealg_MakeNoZero)

-- NOT PRINTED: function 55 (strings_Builder_grow)

-- NOT PRINTED: function 45 (strings_Builder_Grow)

-- NOT PRINTED: function 47 (strings_Builder_WriteString)

-- NOT PRINTED: function 57 (utf8_decodeRuneInStringSlow)

-- NOT PRINTED: function 48 (utf8_DecodeRuneInString)

-- NOT PRINTED: function 49 (strings_Builder_String)

-- NOT PRINTED: function 39 (strings_Replace)

-- NOT PRINTED: function 31 (strings_ReplaceAll)

-- NOT PRINTED: function 51 (bytealg_abigen_runtime_cmpstring)

-- NOT PRINTED: function 43 (bytealg_CompareString)

/-! ### headgatelaw03_ValueBack: function 9 -/
mutual
def headgatelaw03_ValueBack.j0 : Nat → List (S23) → ByteArray → Bool → Option (Bool)
  | 0, _, _, _ => none
  | k + 1, x0, x1, x21 => if x21 = true then (some true) else ((value_Key.f x0).bind fun bt103 => (if bt103.2 = 0 then ((value_Unkey.f k bt103.1).bind fun bt105 => (if bt105.2 = 0 then (if (bt105.1.length : Int) = (x0.length : Int) then ((value_CmpRow.f x0 bt105.1).bind fun t109 => (headgatelaw03_ValueBack.j1 k x1 (t109 != 0))) else (headgatelaw03_ValueBack.j1 k x1 true)) else (headgatelaw03_ValueBack.j1 k x1 true))) else (headgatelaw03_ValueBack.j2 k x1)))
def headgatelaw03_ValueBack.j2 : Nat → ByteArray → Option (Bool)
  | 0, _ => none
  | k + 1, x1 => (value_Unkey.f k x1).bind fun bt110 => (if bt110.2 = 0 then ((value_Key.f bt110.1).bind fun bt114 => (if bt114.2 = 0 then (some (bt114.1.toList == x1.toList)) else (some false))) else (some ((bt110.1.length : Int) == 0)))
def headgatelaw03_ValueBack.j1 : Nat → ByteArray → Bool → Option (Bool)
  | 0, _, _ => none
  | k + 1, x1, x48 => if x48 = true then (some false) else (headgatelaw03_ValueBack.j2 k x1)
end
def headgatelaw03_ValueBack.f (k : Nat) (l0 : List (S23)) (a1 : ByteArray) : Option (Bool) := (headgatelaw03_alive.f k).bind fun t101 => (if t101 = true then ((headgateref03_Big.f k l0).bind fun t102 => (if t102 = true then (headgatelaw03_ValueBack.j0 k l0 a1 true) else (headgatelaw03_ValueBack.j0 k l0 a1 (decide ((a1.size : Int) > 4000))))) else (some false))
set_option maxHeartbeats 8000000 in
set_option maxRecDepth 100000 in
theorem headgatelaw03_ValueBack.calls (k : Nat) (A0 : Option Addr) (c0 : Nat) (l0 : List (S23)) (a1 : ByteArray) (r : Bool) (w : World) (hr0 : Kd.C k23 w A0 l0.length l0) (hc0 : l0.length ≤ c0) (h : headgatelaw03_ValueBack.f k l0 a1 = some r) :
    Calls Tryd.prog 9 #[.slice A0 l0.length c0, .string a1] w fun e w' => e = .returned (.bool r) ∧ Below w.heap.size w w' := by
  have HR0 := Aside0.mk hr0
  have HC0 := Aside0.mk hc0
  clear hr0 hc0
  have HB := Aside0.mk (Below.refl w.heap.size w)
  have H : ((headgatelaw03_alive.f k).bind fun t101 => (if t101 = true then ((headgateref03_Big.f k l0).bind fun t102 => (if t102 = true then (headgatelaw03_ValueBack.j0 k l0 a1 true) else (headgatelaw03_ValueBack.j0 k l0 a1 (decide ((a1.size : Int) > 4000))))) else (some false))) = some r := h
  clear h
  replace H := Option.bind_eq_some_iff.mp H
  obtain ⟨t101, A30, H⟩ := H
  replace H : (if t101 = true then ((headgateref03_Big.f k l0).bind fun t102 => (if t102 = true then (headgatelaw03_ValueBack.j0 k l0 a1 true) else (headgatelaw03_ValueBack.j0 k l0 a1 (decide ((a1.size : Int) > 4000))))) else (some false)) = some r := H
  have A3 := Aside0.mk A30
  clear A30
  by_cases c4 : t101 = true
  · subst c4
    have H1 : ((headgateref03_Big.f k l0).bind fun t102 => (if t102 = true then (headgatelaw03_ValueBack.j0 k l0 a1 true) else (headgatelaw03_ValueBack.j0 k l0 a1 (decide ((a1.size : Int) > 4000))))) = some r := by rw [if_pos rfl] at H; exact H
    clear H
    have H := H1
    clear H1
    have HC5 := Aside0.mk H
    clear H
    go_enter Tryd.func9, Tryd.ntmps9
    go_upto_region 3 with (first | ((with_reducible refine gate_callee (f := 10) rfl ?_); refine goesL_ (some 13) rfl rfl Tryd.func10 (by kernel_rfl) rfl #[] rfl (by (try simp only [List.map_toArray, List.map_cons, List.map_nil]); first | done | rfl | (simp only [List.length_drop, List.length_take]; rfl) | exact congrArg (fun x_ : Int => #[Value.int .u64 x_]) (show _ = _ % (18446744073709551616 : Int) by omega)) ?_; (with_reducible refine (headgatelaw03_alive.calls k  true _ A3.out).mono ?_); rintro e w6 ⟨rfl, hb⟩; refine ⟨_, rfl, ?_⟩; have n0_ := Aside0.mk (below_step (by repeat (first | (with_reducible first | exact HB.out | apply below_alloc | apply pw_below_drewN | apply below_drew1) | exact HB.out)) hb); clear HB; have HB := n0_; clear n0_; (try clear hb); (try clear hb2); (try clear hk); (try clear hi)))
    (try simp only [Act.put, List.setIfInBounds_toArray, List.set_cons_zero, List.set_cons_succ])
    go_cut [21] (fun v21 wc => ∃ (kq : Nat) (x21_4 : Bool), v21 = .bool x21_4 ∧ Aside0 (headgatelaw03_ValueBack.j0 kq l0 a1 x21_4 = some r) ∧ Aside0 (kq ≤ k) ∧ Aside0 (Below w.heap.size w wc))
    case first =>
      have H := HC5.out
      clear HC5
      replace H := Option.bind_eq_some_iff.mp H
      obtain ⟨t102, A70, H⟩ := H
      replace H : (if t102 = true then (headgatelaw03_ValueBack.j0 k l0 a1 true) else (headgatelaw03_ValueBack.j0 k l0 a1 (decide ((a1.size : Int) > 4000)))) = some r := H
      have A7 := Aside0.mk A70
      clear A70
      by_cases c8 : t102 = true
      · subst c8
        have H1 : (headgatelaw03_ValueBack.j0 k l0 a1 true) = some r := by rw [if_pos rfl] at H; exact H
        clear H
        have H := H1
        clear H1
        have H' := Aside0.mk H
        clear H
        go_wp2_with (first | ((with_reducible refine gate_callee (f := 15) rfl ?_); refine goesL_ (some 16) rfl rfl Tryd.func15 (by kernel_rfl) rfl #[.slice A0 l0.length c0] rfl (by (try simp only [List.map_toArray, List.map_cons, List.map_nil]); first | done | rfl | (simp only [List.length_drop, List.length_take]; rfl) | exact congrArg (fun x_ : Int => #[Value.int .u64 x_]) (show _ = _ % (18446744073709551616 : Int) by omega)) ?_; (with_reducible refine (headgateref03_Big.calls k _ _ l0 true _ ?side1 ?side2 A7.out).mono ?_); (case side1 => repeat (first | exact (Kd.C_below HR0.out HB.out) | (with_reducible refine Kd.C_alloc ?_ _) | (with_reducible refine Kd.C_drewN ?_ _) | (with_reducible refine Kd.C_drew ?_))); (case side2 => exact HC0.out); rintro e w' ⟨rfl, ⟨nd, rfl⟩⟩; refine ⟨_, rfl, ?_⟩))
        go_meet
        case rel => exact ⟨_, (true), (by first | rfl | (simp; done) | (simp [*]; done) | (simp; rw [Bool.eq_iff_iff]; simp; done)), H', ⟨by first | omega | exact Nat.le_refl _⟩, ⟨by repeat (first | (with_reducible first | exact HB.out | apply below_alloc | apply pw_below_drewN | apply below_drew1) | exact HB.out)⟩⟩
      · replace c8 := Bool.eq_false_iff.mpr c8
        subst c8
        have H1 : (headgatelaw03_ValueBack.j0 k l0 a1 (decide ((a1.size : Int) > 4000))) = some r := by rw [if_neg (show ¬ (false = true) by decide)] at H; exact H
        clear H
        have H := H1
        clear H1
        have H' := Aside0.mk H
        clear H
        go_wp2_with (first | ((with_reducible refine gate_callee (f := 15) rfl ?_); refine goesL_ (some 16) rfl rfl Tryd.func15 (by kernel_rfl) rfl #[.slice A0 l0.length c0] rfl (by (try simp only [List.map_toArray, List.map_cons, List.map_nil]); first | done | rfl | (simp only [List.length_drop, List.length_take]; rfl) | exact congrArg (fun x_ : Int => #[Value.int .u64 x_]) (show _ = _ % (18446744073709551616 : Int) by omega)) ?_; (with_reducible refine (headgateref03_Big.calls k _ _ l0 false _ ?side1 ?side2 A7.out).mono ?_); (case side1 => repeat (first | exact (Kd.C_below HR0.out HB.out) | (with_reducible refine Kd.C_alloc ?_ _) | (with_reducible refine Kd.C_drewN ?_ _) | (with_reducible refine Kd.C_drew ?_))); (case side2 => exact HC0.out); rintro e w' ⟨rfl, ⟨nd, rfl⟩⟩; refine ⟨_, rfl, ?_⟩))
        go_meet
        case rel => exact ⟨_, (decide ((a1.size : Int) > 4000)), (by first | rfl | (simp; done) | (simp [*]; done) | (simp; rw [Bool.eq_iff_iff]; simp; done)), H', ⟨by first | omega | exact Nat.le_refl _⟩, ⟨by repeat (first | (with_reducible first | exact HB.out | apply below_alloc | apply pw_below_drewN | apply below_drew1) | exact HB.out)⟩⟩
    case rest =>
      clear HC5
      try clear c1
      try clear p2
      try clear c4
      try clear c8
      obtain ⟨kq, x21_4, rfl, HA, HJ4, HB⟩ := hcut
      cases kq with
      | zero => exact absurd HA.out (by simp [headgatelaw03_ValueBack.j0])
      | succ kj4 =>
        have H := HA.out
        clear HA
        simp only [headgatelaw03_ValueBack.j0] at H
        by_cases c9 : x21_4 = true
        · subst c9
          have H1 : (some true) = some r := by rw [if_pos rfl] at H; exact H
          clear H
          have H := H1
          clear H1
          obtain rfl := Option.some.inj H
          go_wp2
          go_ret
          exact ⟨by first | rfl | (simp [errW_none, errW_some] <;> rfl) | (simp [*, errW_none, errW_some] <;> rfl), by repeat (first | (with_reducible first | exact HB.out | apply below_alloc | apply pw_below_drewN | apply below_drew1) | exact HB.out)⟩
        · replace c9 := Bool.eq_false_iff.mpr c9
          subst c9
          have H1 : ((value_Key.f l0).bind fun bt103 => (if bt103.2 = 0 then ((value_Unkey.f kj4 bt103.1).bind fun bt105 => (if bt105.2 = 0 then (if (bt105.1.length : Int) = (l0.length : Int) then ((value_CmpRow.f l0 bt105.1).bind fun t109 => (headgatelaw03_ValueBack.j1 kj4 a1 (t109 != 0))) else (headgatelaw03_ValueBack.j1 kj4 a1 true)) else (headgatelaw03_ValueBack.j1 kj4 a1 true))) else (headgatelaw03_ValueBack.j2 kj4 a1))) = some r := by rw [if_neg (show ¬ (false = true) by decide)] at H; exact H
          clear H
          have H := H1
          clear H1
          replace H := Option.bind_eq_some_iff.mp H
          obtain ⟨⟨t103, t104⟩, A100, H⟩ := H
          replace H : (if t104 = 0 then ((value_Unkey.f kj4 t103).bind fun bt105 => (if bt105.2 = 0 then (if (bt105.1.length : Int) = (l0.length : Int) then ((value_CmpRow.f l0 bt105.1).bind fun t109 => (headgatelaw03_ValueBack.j1 kj4 a1 (t109 != 0))) else (headgatelaw03_ValueBack.j1 kj4 a1 true)) else (headgatelaw03_ValueBack.j1 kj4 a1 true))) else (headgatelaw03_ValueBack.j2 kj4 a1)) = some r := H
          have A10 := Aside0.mk A100
          clear A100
          have HC11 := Aside0.mk H
          clear H
          go_upto_if 28 with (first | ((with_reducible refine gate_callee (f := 16) rfl ?_); refine goesL_ (some 24) rfl rfl Tryd.func16 (by kernel_rfl) rfl #[.slice A0 l0.length c0] rfl (by (try simp only [List.map_toArray, List.map_cons, List.map_nil]); first | done | rfl | (simp only [List.length_drop, List.length_take]; rfl) | exact congrArg (fun x_ : Int => #[Value.int .u64 x_]) (show _ = _ % (18446744073709551616 : Int) by omega)) ?_; (with_reducible refine (value_Key.calls _ _ l0 t103 t104 _ ?side1 ?side2 A10.out).mono ?_); (case side1 => repeat (first | exact (Kd.C_below HR0.out HB.out) | (with_reducible refine Kd.C_alloc ?_ _) | (with_reducible refine Kd.C_drewN ?_ _) | (with_reducible refine Kd.C_drew ?_))); (case side2 => exact HC0.out); rintro e w12 ⟨rfl, hb⟩; refine ⟨_, rfl, ?_⟩; have n0_ := Aside0.mk (below_step (by repeat (first | (with_reducible first | exact HB.out | apply below_alloc | apply pw_below_drewN | apply below_drew1) | exact HB.out)) hb); clear HB; have HB := n0_; clear n0_; (try clear hb); (try clear hb2); (try clear hk); (try clear hi)))
          (try simp only [Act.put, List.setIfInBounds_toArray, List.set_cons_zero, List.set_cons_succ])
          go_cut [] (fun wc => ∃ (kq : Nat), Aside0 (headgatelaw03_ValueBack.j2 kq a1 = some r) ∧ Aside0 (kq ≤ kj4) ∧ Aside0 (Below w.heap.size w wc))
          case first =>
            have H := HC11.out
            clear HC11
            by_cases c13 : t104 = 0
            · rw [if_pos c13] at H
              have c13b0 : (t104 == 0) = true := beq_iff_eq.mpr c13
              have c13b1 : (t104 != 0) = false := bne_eq_false_iff_eq.mpr c13
              clear c13
              (first | rw [c13b0] | (simp only [i64_w, i32_w]; rw [c13b0]) | skip)
              replace H := Option.bind_eq_some_iff.mp H
              obtain ⟨⟨t105, t106⟩, A140, H⟩ := H
              replace H : (if t106 = 0 then (if (t105.length : Int) = (l0.length : Int) then ((value_CmpRow.f l0 t105).bind fun t109 => (headgatelaw03_ValueBack.j1 kj4 a1 (t109 != 0))) else (headgatelaw03_ValueBack.j1 kj4 a1 true)) else (headgatelaw03_ValueBack.j1 kj4 a1 true)) = some r := H
              have A14 := Aside0.mk A140
              clear A140
              have HC15 := Aside0.mk H
              clear H
              go_upto_region 8 with (first | ((with_reducible refine gate_callee (f := 18) rfl ?_); refine goesL_ (some 31) rfl rfl Tryd.func18 (by kernel_rfl) rfl #[.string t103] rfl (by (try simp only [List.map_toArray, List.map_cons, List.map_nil]); first | done | rfl | (simp only [List.length_drop, List.length_take]; rfl) | exact congrArg (fun x_ : Int => #[Value.int .u64 x_]) (show _ = _ % (18446744073709551616 : Int) by omega)) ?_; (with_reducible refine (value_Unkey.calls kj4 t103 t105 t106 _ A14.out).mono ?_); rintro e w16 ⟨v107, rfl, ho0, hb⟩; refine ⟨_, rfl, ?_⟩; have n0_ := Aside0.mk (Kd.R_lower ho0 (below_size (by repeat (first | (with_reducible first | exact HB.out | apply below_alloc | apply pw_below_drewN | apply below_drew1) | exact HB.out)))); have n1_ := Aside0.mk (below_step (by repeat (first | (with_reducible first | exact HB.out | apply below_alloc | apply pw_below_drewN | apply below_drew1) | exact HB.out)) hb); clear HB; have HO108 := n0_; have HB := n1_; clear n0_ n1_; (try clear hb); (try clear hb2); (try clear hk); (try clear hi); (try clear ho0)))
              (try simp only [Act.put, List.setIfInBounds_toArray, List.set_cons_zero, List.set_cons_succ])
              go_cut [48] (fun v48 wc => ∃ (kq : Nat) (x48_14 : Bool), v48 = .bool x48_14 ∧ Aside0 (headgatelaw03_ValueBack.j1 kq a1 x48_14 = some r) ∧ Aside0 (kq ≤ kj4) ∧ Aside0 (Below w.heap.size w wc))
              case first =>
                have H := HC15.out
                clear HC15
                by_cases c17 : t106 = 0
                · rw [if_pos c17] at H
                  have c17b0 : (t106 == 0) = true := beq_iff_eq.mpr c17
                  have c17b1 : (t106 != 0) = false := bne_eq_false_iff_eq.mpr c17
                  clear c17
                  (first | rw [c17b0] | (simp only [i64_w, i32_w]; rw [c17b0]) | skip)
                  by_cases c18 : (t105.length : Int) = (l0.length : Int)
                  · rw [if_pos c18] at H
                    have c18b0 : ((t105.length : Int) == (l0.length : Int)) = true := beq_iff_eq.mpr c18
                    have c18b1 : ((t105.length : Int) != (l0.length : Int)) = false := bne_eq_false_iff_eq.mpr c18
                    have c18b2 : (t105.length == l0.length) = true := by first | simpa using c18 | (simp at c18 ⊢; omega)
                    clear c18
                    replace H := Option.bind_eq_some_iff.mp H
                    obtain ⟨t109, A190, H⟩ := H
                    replace H : (headgatelaw03_ValueBack.j1 kj4 a1 (t109 != 0)) = some r := H
                    have A19 := Aside0.mk A190
                    clear A190
                    have H' := Aside0.mk H
                    clear H
                    obtain ⟨Ao20, co20, eo20⟩ := Kd.R_slice HO108.out
                    subst eo20
                    go_wp2_with (first | (go_at_call 28; (with_reducible refine (value_CmpRow.calls _ _ l0 _ _ t105 t109 _ ?side1 ?side2 ?side3 ?side4 A19.out).mono ?_); (case side1 => repeat (first | exact (Kd.C_below HR0.out HB.out) | (with_reducible refine Kd.C_alloc ?_ _) | (with_reducible refine Kd.C_drewN ?_ _) | (with_reducible refine Kd.C_drew ?_))); (case side2 => exact HC0.out); (case side3 => repeat (first | exact (Kd.R_reads' HO108.out).2.2 | (with_reducible refine Kd.C_alloc ?_ _) | (with_reducible refine Kd.C_drewN ?_ _) | (with_reducible refine Kd.C_drew ?_))); (case side4 => exact (Kd.R_reads' HO108.out).2.1); rintro e w21 ⟨rfl, hb⟩; have n0_ := Aside0.mk (Kd.R_below (by (with_reducible repeat (first | apply Kd.R_alloc | apply Kd.R_drewN | apply Kd.R_drew)); exact HO108.out) hb); have n1_ := Aside0.mk (below_step (by repeat (first | (with_reducible first | exact HB.out | apply below_alloc | apply pw_below_drewN | apply below_drew1) | exact HB.out)) hb); clear HO108; clear HB; have HO108 := n0_; have HB := n1_; clear n0_ n1_; (try clear hb); (try clear hb2); (try clear hk); (try clear hi)))
                    go_meet
                    case rel => exact ⟨_, ((t109 != 0)), (by first | rfl | (simp; done) | (simp [*]; done) | (simp; rw [Bool.eq_iff_iff]; simp; done)), H', ⟨by have := HJ4.out; first | omega | exact Nat.le_refl _⟩, ⟨by repeat (first | (with_reducible first | exact HB.out | apply below_alloc | apply pw_below_drewN | apply below_drew1) | exact HB.out)⟩⟩
                  · rw [if_neg c18] at H
                    have c18b0 : ((t105.length : Int) == (l0.length : Int)) = false := beq_eq_false_iff_ne.mpr c18
                    have c18b1 : ((t105.length : Int) != (l0.length : Int)) = true := bne_iff_ne.mpr c18
                    have c18b2 : (t105.length == l0.length) = false := by first | simpa using c18 | (simp at c18 ⊢; omega)
                    have H' := Aside0.mk H
                    clear H
                    obtain ⟨Ao22, co22, eo22⟩ := Kd.R_slice HO108.out
                    subst eo22
                    go_wp2
                    go_meet
                    case rel => exact ⟨_, (true), (by first | rfl | (simp; done) | (simp [*]; done) | (simp; rw [Bool.eq_iff_iff]; simp; done)), H', ⟨by have := HJ4.out; first | omega | exact Nat.le_refl _⟩, ⟨by repeat (first | (with_reducible first | exact HB.out | apply below_alloc | apply pw_below_drewN | apply below_drew1) | exact HB.out)⟩⟩
                · rw [if_neg c17] at H
                  have c17b0 : (t106 == 0) = false := beq_eq_false_iff_ne.mpr c17
                  have c17b1 : (t106 != 0) = true := bne_iff_ne.mpr c17
                  (first | rw [c17b0] | (simp only [i64_w, i32_w]; rw [c17b0]) | skip)
                  have H' := Aside0.mk H
                  clear H
                  go_wp2
                  go_meet
                  case rel => exact ⟨_, (true), (by first | rfl | (simp; done) | (simp [*]; done) | (simp; rw [Bool.eq_iff_iff]; simp; done)), H', ⟨by have := HJ4.out; first | omega | exact Nat.le_refl _⟩, ⟨by repeat (first | (with_reducible first | exact HB.out | apply below_alloc | apply pw_below_drewN | apply below_drew1) | exact HB.out)⟩⟩
              case rest =>
                clear HC15
                try clear c1
                try clear p2
                try clear c4
                try clear c8
                try clear c9
                try clear c10
                try clear c13
                try clear c13b0
                try clear c13b1
                try clear c15
                try clear c16
                try clear c17
                try clear c17b0
                try clear c17b1
                try clear c18
                try clear c18b0
                try clear c18b1
                try clear c18b2
                try clear p2
                obtain ⟨kq, x48_14, rfl, HA, HJ14, HB⟩ := hcut
                cases kq with
                | zero => exact absurd HA.out (by simp [headgatelaw03_ValueBack.j1])
                | succ kj14 =>
                  have H := HA.out
                  clear HA
                  simp only [headgatelaw03_ValueBack.j1] at H
                  by_cases c23 : x48_14 = true
                  · subst c23
                    have H1 : (some false) = some r := by rw [if_pos rfl] at H; exact H
                    clear H
                    have H := H1
                    clear H1
                    obtain rfl := Option.some.inj H
                    go_wp2
                    go_ret
                    exact ⟨by first | rfl | (simp [errW_none, errW_some] <;> rfl) | (simp [*, errW_none, errW_some] <;> rfl), by repeat (first | (with_reducible first | exact HB.out | apply below_alloc | apply pw_below_drewN | apply below_drew1) | exact HB.out)⟩
                  · replace c23 := Bool.eq_false_iff.mpr c23
                    subst c23
                    have H1 : (headgatelaw03_ValueBack.j2 kj14 a1) = some r := by rw [if_neg (show ¬ (false = true) by decide)] at H; exact H
                    clear H
                    have H := H1
                    clear H1
                    have H' := Aside0.mk H
                    clear H
                    go_wp2
                    go_meet
                    case rel => exact ⟨_, H', ⟨by have := HJ4.out; have := HJ14.out; first | omega | exact Nat.le_refl _⟩, ⟨by repeat (first | (with_reducible first | exact HB.out | apply below_alloc | apply pw_below_drewN | apply below_drew1) | exact HB.out)⟩⟩
            · rw [if_neg c13] at H
              have c13b0 : (t104 == 0) = false := beq_eq_false_iff_ne.mpr c13
              have c13b1 : (t104 != 0) = true := bne_iff_ne.mpr c13
              (first | rw [c13b0] | (simp only [i64_w, i32_w]; rw [c13b0]) | skip)
              have H' := Aside0.mk H
              clear H
              go_wp2
              go_meet
              case rel => exact ⟨_, H', ⟨by have := HJ4.out; first | omega | exact Nat.le_refl _⟩, ⟨by repeat (first | (with_reducible first | exact HB.out | apply below_alloc | apply pw_below_drewN | apply below_drew1) | exact HB.out)⟩⟩
          case rest =>
            clear HC11
            try clear c1
            try clear c2
            try clear p2
            try clear c4
            try clear c8
            try clear c9
            try clear c10
            try clear c13
            try clear c13b0
            try clear c13b1
            try clear c15
            try clear c16
            try clear c17
            try clear c17b0
            try clear c17b1
            try clear c18
            try clear c18b0
            try clear c18b1
            try clear c18b2
            try clear c23
            try clear p2
            obtain ⟨kq, HA, HJ10, HB⟩ := hcut
            cases kq with
            | zero => exact absurd HA.out (by simp [headgatelaw03_ValueBack.j2])
            | succ kj10 =>
              have H := HA.out
              clear HA
              simp only [headgatelaw03_ValueBack.j2] at H
              replace H := Option.bind_eq_some_iff.mp H
              obtain ⟨⟨t110, t111⟩, A240, H⟩ := H
              replace H : (if t111 = 0 then ((value_Key.f t110).bind fun bt114 => (if bt114.2 = 0 then (some (bt114.1.toList == a1.toList)) else (some false))) else (some ((t110.length : Int) == 0))) = some r := H
              have A24 := Aside0.mk A240
              clear A240
              by_cases c25 : t111 = 0
              · rw [if_pos c25] at H
                have c25b0 : (t111 == 0) = true := beq_iff_eq.mpr c25
                have c25b1 : (t111 != 0) = false := bne_eq_false_iff_eq.mpr c25
                clear c25
                replace H := Option.bind_eq_some_iff.mp H
                obtain ⟨⟨t114, t115⟩, A260, H⟩ := H
                replace H : (if t115 = 0 then (some (t114.toList == a1.toList)) else (some false)) = some r := H
                have A26 := Aside0.mk A260
                clear A260
                by_cases c27 : t115 = 0
                · rw [if_pos c27] at H
                  have c27b0 : (t115 == 0) = true := beq_iff_eq.mpr c27
                  have c27b1 : (t115 != 0) = false := bne_eq_false_iff_eq.mpr c27
                  clear c27
                  obtain rfl := Option.some.inj H
                  go_wp2_with (first | ((with_reducible refine gate_callee (f := 18) rfl ?_); refine goesL_ (some 51) rfl rfl Tryd.func18 (by kernel_rfl) rfl #[.string a1] rfl (by (try simp only [List.map_toArray, List.map_cons, List.map_nil]); first | done | rfl | (simp only [List.length_drop, List.length_take]; rfl) | exact congrArg (fun x_ : Int => #[Value.int .u64 x_]) (show _ = _ % (18446744073709551616 : Int) by omega)) ?_; (with_reducible refine (value_Unkey.calls kj10 a1 t110 t111 _ A24.out).mono ?_); rintro e w28 ⟨v112, rfl, ho0, hb⟩; refine ⟨_, rfl, ?_⟩; have n0_ := Aside0.mk (Kd.R_lower ho0 (below_size (by repeat (first | (with_reducible first | exact HB.out | apply below_alloc | apply pw_below_drewN | apply below_drew1) | exact HB.out)))); have n1_ := Aside0.mk (below_step (by repeat (first | (with_reducible first | exact HB.out | apply below_alloc | apply pw_below_drewN | apply below_drew1) | exact HB.out)) hb); clear HB; have HO113 := n0_; have HB := n1_; clear n0_ n1_; (try clear hb); (try clear hb2); (try clear hk); (try clear hi); (try clear ho0); obtain ⟨Ao29, co29, eo29⟩ := Kd.R_slice HO113.out; subst eo29) | ((with_reducible refine gate_callee (f := 16) rfl ?_); refine goesL_ (some 61) rfl rfl Tryd.func16 (by kernel_rfl) rfl #[.slice Ao29 t110.length co29] rfl (by (try simp only [List.map_toArray, List.map_cons, List.map_nil]); first | done | rfl | (simp only [List.length_drop, List.length_take]; rfl) | exact congrArg (fun x_ : Int => #[Value.int .u64 x_]) (show _ = _ % (18446744073709551616 : Int) by omega)) ?_; (with_reducible refine (value_Key.calls _ _ t110 t114 t115 _ ?side1 ?side2 A26.out).mono ?_); (case side1 => repeat (first | exact (Kd.R_reads' HO113.out).2.2 | (with_reducible refine Kd.C_alloc ?_ _) | (with_reducible refine Kd.C_drewN ?_ _) | (with_reducible refine Kd.C_drew ?_))); (case side2 => exact (Kd.R_reads' HO113.out).2.1); rintro e w30 ⟨rfl, hb⟩; refine ⟨_, rfl, ?_⟩; have n0_ := Aside0.mk (Kd.R_below (by (with_reducible repeat (first | apply Kd.R_alloc | apply Kd.R_drewN | apply Kd.R_drew)); exact HO113.out) hb); have n1_ := Aside0.mk (below_step (by repeat (first | (with_reducible first | exact HB.out | apply below_alloc | apply pw_below_drewN | apply below_drew1) | exact HB.out)) hb); clear HO113; clear HB; have HO113 := n0_; have HB := n1_; clear n0_ n1_; (try clear hb); (try clear hb2); (try clear hk); (try clear hi)))
                  go_ret
                  exact ⟨by first | rfl | (simp [errW_none, errW_some] <;> rfl) | (simp [*, errW_none, errW_some] <;> rfl), by repeat (first | (with_reducible first | exact HB.out | apply below_alloc | apply pw_below_drewN | apply below_drew1) | exact HB.out)⟩
                · rw [if_neg c27] at H
                  have c27b0 : (t115 == 0) = false := beq_eq_false_iff_ne.mpr c27
                  have c27b1 : (t115 != 0) = true := bne_iff_ne.mpr c27
                  obtain rfl := Option.some.inj H
                  go_wp2_with (first | ((with_reducible refine gate_callee (f := 18) rfl ?_); refine goesL_ (some 51) rfl rfl Tryd.func18 (by kernel_rfl) rfl #[.string a1] rfl (by (try simp only [List.map_toArray, List.map_cons, List.map_nil]); first | done | rfl | (simp only [List.length_drop, List.length_take]; rfl) | exact congrArg (fun x_ : Int => #[Value.int .u64 x_]) (show _ = _ % (18446744073709551616 : Int) by omega)) ?_; (with_reducible refine (value_Unkey.calls kj10 a1 t110 t111 _ A24.out).mono ?_); rintro e w31 ⟨v112, rfl, ho0, hb⟩; refine ⟨_, rfl, ?_⟩; have n0_ := Aside0.mk (Kd.R_lower ho0 (below_size (by repeat (first | (with_reducible first | exact HB.out | apply below_alloc | apply pw_below_drewN | apply below_drew1) | exact HB.out)))); have n1_ := Aside0.mk (below_step (by repeat (first | (with_reducible first | exact HB.out | apply below_alloc | apply pw_below_drewN | apply below_drew1) | exact HB.out)) hb); clear HB; have HO113 := n0_; have HB := n1_; clear n0_ n1_; (try clear hb); (try clear hb2); (try clear hk); (try clear hi); (try clear ho0); obtain ⟨Ao32, co32, eo32⟩ := Kd.R_slice HO113.out; subst eo32) | ((with_reducible refine gate_callee (f := 16) rfl ?_); refine goesL_ (some 61) rfl rfl Tryd.func16 (by kernel_rfl) rfl #[.slice Ao32 t110.length co32] rfl (by (try simp only [List.map_toArray, List.map_cons, List.map_nil]); first | done | rfl | (simp only [List.length_drop, List.length_take]; rfl) | exact congrArg (fun x_ : Int => #[Value.int .u64 x_]) (show _ = _ % (18446744073709551616 : Int) by omega)) ?_; (with_reducible refine (value_Key.calls _ _ t110 t114 t115 _ ?side1 ?side2 A26.out).mono ?_); (case side1 => repeat (first | exact (Kd.R_reads' HO113.out).2.2 | (with_reducible refine Kd.C_alloc ?_ _) | (with_reducible refine Kd.C_drewN ?_ _) | (with_reducible refine Kd.C_drew ?_))); (case side2 => exact (Kd.R_reads' HO113.out).2.1); rintro e w33 ⟨rfl, hb⟩; refine ⟨_, rfl, ?_⟩; have n0_ := Aside0.mk (Kd.R_below (by (with_reducible repeat (first | apply Kd.R_alloc | apply Kd.R_drewN | apply Kd.R_drew)); exact HO113.out) hb); have n1_ := Aside0.mk (below_step (by repeat (first | (with_reducible first | exact HB.out | apply below_alloc | apply pw_below_drewN | apply below_drew1) | exact HB.out)) hb); clear HO113; clear HB; have HO113 := n0_; have HB := n1_; clear n0_ n1_; (try clear hb); (try clear hb2); (try clear hk); (try clear hi)))
                  go_ret
                  exact ⟨by first | rfl | (simp [errW_none, errW_some] <;> rfl) | (simp [*, errW_none, errW_some] <;> rfl), by repeat (first | (with_reducible first | exact HB.out | apply below_alloc | apply pw_below_drewN | apply below_drew1) | exact HB.out)⟩
              · rw [if_neg c25] at H
                have c25b0 : (t111 == 0) = false := beq_eq_false_iff_ne.mpr c25
                have c25b1 : (t111 != 0) = true := bne_iff_ne.mpr c25
                obtain rfl := Option.some.inj H
                go_wp2_with (first | ((with_reducible refine gate_callee (f := 18) rfl ?_); refine goesL_ (some 51) rfl rfl Tryd.func18 (by kernel_rfl) rfl #[.string a1] rfl (by (try simp only [List.map_toArray, List.map_cons, List.map_nil]); first | done | rfl | (simp only [List.length_drop, List.length_take]; rfl) | exact congrArg (fun x_ : Int => #[Value.int .u64 x_]) (show _ = _ % (18446744073709551616 : Int) by omega)) ?_; (with_reducible refine (value_Unkey.calls kj10 a1 t110 t111 _ A24.out).mono ?_); rintro e w34 ⟨v112, rfl, ho0, hb⟩; refine ⟨_, rfl, ?_⟩; have n0_ := Aside0.mk (Kd.R_lower ho0 (below_size (by repeat (first | (with_reducible first | exact HB.out | apply below_alloc | apply pw_below_drewN | apply below_drew1) | exact HB.out)))); have n1_ := Aside0.mk (below_step (by repeat (first | (with_reducible first | exact HB.out | apply below_alloc | apply pw_below_drewN | apply below_drew1) | exact HB.out)) hb); clear HB; have HO113 := n0_; have HB := n1_; clear n0_ n1_; (try clear hb); (try clear hb2); (try clear hk); (try clear hi); (try clear ho0); obtain ⟨Ao35, co35, eo35⟩ := Kd.R_slice HO113.out; subst eo35))
                go_ret
                exact ⟨by first | rfl | (simp [errW_none, errW_some] <;> rfl) | (simp [*, errW_none, errW_some] <;> rfl), by repeat (first | (with_reducible first | exact HB.out | apply below_alloc | apply pw_below_drewN | apply below_drew1) | exact HB.out)⟩
  · replace c4 := Bool.eq_false_iff.mpr c4
    subst c4
    have H1 : (some false) = some r := by rw [if_neg (show ¬ (false = true) by decide)] at H; exact H
    clear H
    have H := H1
    clear H1
    obtain rfl := Option.some.inj H
    go_enter Tryd.func9, Tryd.ntmps9
    go_wp2_with (first | ((with_reducible refine gate_callee (f := 10) rfl ?_); refine goesL_ (some 13) rfl rfl Tryd.func10 (by kernel_rfl) rfl #[] rfl (by (try simp only [List.map_toArray, List.map_cons, List.map_nil]); first | done | rfl | (simp only [List.length_drop, List.length_take]; rfl) | exact congrArg (fun x_ : Int => #[Value.int .u64 x_]) (show _ = _ % (18446744073709551616 : Int) by omega)) ?_; (with_reducible refine (headgatelaw03_alive.calls k  false _ A3.out).mono ?_); rintro e w36 ⟨rfl, hb⟩; refine ⟨_, rfl, ?_⟩; have n0_ := Aside0.mk (below_step (by repeat (first | (with_reducible first | exact HB.out | apply below_alloc | apply pw_below_drewN | apply below_drew1) | exact HB.out)) hb); clear HB; have HB := n0_; clear n0_; (try clear hb); (try clear hb2); (try clear hk); (try clear hi)))
    go_ret
    exact ⟨by first | rfl | (simp [errW_none, errW_some] <;> rfl) | (simp [*, errW_none, errW_some] <;> rfl), by repeat (first | (with_reducible first | exact HB.out | apply below_alloc | apply pw_below_drewN | apply below_drew1) | exact HB.out)⟩

end Go.Proofs.YtindffllmlifiaaDoor.Q
/- Keys read: a plain reader of bytes, and that value.Unkey comes to it. -/
namespace Go.Proofs.YtindffllmlifiaaDoor.Q
open Go.RowKit Go.Proofs.YtindffllmlifiaaDoorW.PrintWords Go.Proofs.YtindffllmlifiaaDoorW.PrintLast Go.Proofs.YtindffllmlifiaaDoorW.PrintMore
set_option linter.unusedVariables false
set_option linter.unusedSimpArgs false
/-- A text off the front of some bytes: what is in it and what is behind it. -/
def wordI : List Int → Option (List Int × List Int)
  | [] => none
  | [_] => none
  | b :: c :: r => if b = 0 then (if c = 0 then some ([], r) else if c = 255 then (wordI r).map fun p => (0 :: p.1, p.2) else none) else (wordI (c :: r)).map fun p => (b :: p.1, p.2)
theorem wordI_cons {b : Int} (h : b ≠ 0) (l : List Int) : wordI (b :: l) = (wordI l).map fun p => (b :: p.1, p.2) := by
  cases l with
  | nil => rfl
  | cons c r => rw [wordI, if_neg h]
theorem wordI_none : ∀ p : List Int, (∀ x ∈ p, x ≠ 0) → wordI p = none
  | [], _ => rfl
  | b :: p, h => by rw [wordI_cons (h b (by simp)), wordI_none p (fun x hx => h x (by simp [hx]))]; rfl
theorem wordI_pre (q : List Int) : ∀ p : List Int, (∀ x ∈ p, x ≠ 0) → wordI (p ++ q) = (wordI q).map fun r => (p ++ r.1, r.2)
  | [], _ => by rw [List.nil_append]; cases wordI q <;> rfl
  | b :: p, h => by
    rw [List.cons_append, wordI_cons (h b (by simp)), wordI_pre q p (fun x hx => h x (by simp [hx]))]
    cases wordI q <;> rfl
theorem wordI_len : ∀ (l u r : List Int), wordI l = some (u, r) → r.length ≤ l.length
  | [], u, r, h => by cases h
  | [_], u, r, h => by cases h
  | b :: c :: q, u, r, h => by
    rw [wordI] at h
    split at h
    · split at h
      · cases h; simp; omega
      · split at h
        · obtain ⟨⟨x, y⟩, g1, g2⟩ := Option.map_eq_some_iff.mp h
          cases g2
          have := wordI_len q _ _ g1
          simp only [List.length_cons]; omega
        · cases h
    · obtain ⟨⟨x, y⟩, g1, g2⟩ := Option.map_eq_some_iff.mp h
      cases g2
      have := wordI_len (c :: q) _ _ g1
      simp only [List.length_cons] at this ⊢; omega
theorem idx_cut : ∀ l : List UInt8, (Lib.indexByte l 0 = -1 ∧ ∀ x ∈ l, x ≠ 0) ∨ (∃ p q, l = p ++ 0 :: q ∧ (∀ x ∈ p, x ≠ 0) ∧ Lib.indexByte l 0 = p.length)
  | [] => .inl ⟨rfl, fun x h => by cases h⟩
  | b :: l => by
    by_cases hb : b = 0
    · subst hb
      exact .inr ⟨[], l, rfl, fun x h => (by cases h), rfl⟩
    · have e : Lib.indexByte (b :: l) 0 = (if Lib.indexByte l 0 == -1 then -1 else Lib.indexByte l 0 + 1) := if_neg (by simpa using hb)
      rcases idx_cut l with ⟨h1, h2⟩ | ⟨p, q, h1, h2, h3⟩
      · refine .inl ⟨by rw [e, if_pos (by simp [h1])], fun x hx => ?_⟩
        rcases List.mem_cons.1 hx with rfl | hx
        · exact hb
        · exact h2 x hx
      · refine .inr ⟨b :: p, q, by rw [h1]; rfl, fun x hx => ?_, ?_⟩
        · rcases List.mem_cons.1 hx with rfl | hx
          · exact hb
          · exact h2 x hx
        · rw [e, h3, if_neg (by simp)]
          simp
def u8I (l : List UInt8) : List Int := l.map fun b => (b.toNat : Int)
theorem u8I_ne {l : List UInt8} (h : ∀ x ∈ l, x ≠ 0) : ∀ x ∈ u8I l, x ≠ 0 := by
  intro x hx
  obtain ⟨b, hb, rfl⟩ := List.mem_map.1 hx
  intro e
  exact h b hb (UInt8.toNat_inj.1 (by simpa using e))
theorem bytesOf_ext (s : ByteArray) (i j : Nat) : bytesOf (s.extract i j) = ((bytesOf s).drop i).take (j - i) := by
  unfold bytesOf
  have h : (s.extract i j).data.toList = (s.data.toList.drop i).take (j - i) := by
    rw [ByteArray.data_extract]
    simp [List.extract]
  rw [h, List.map_take, List.map_drop]
theorem bytesOf_tail (s : ByteArray) (i : Nat) : bytesOf (s.extract i s.size) = (bytesOf s).drop i := by
  rw [bytesOf_ext, List.take_of_length_le]
  rw [List.length_drop, bytesOf_length]; omega
theorem size_tail (s : ByteArray) {i : Nat} (h : i ≤ s.size) : (s.extract i s.size).size + i = s.size := by
  have h1 := bytesOf_length (s.extract i s.size)
  rw [bytesOf_tail, List.length_drop, bytesOf_length] at h1
  omega
theorem word_eq : ∀ (n : Nat) (s : ByteArray) (xs : List Int), s.size < n →
    (wordI (bytesOf s) = none ∧ (wordR n s xs).2.2 = false) ∨ (∃ u r t, wordI (bytesOf s) = some (u, r) ∧ wordR n s xs = (strOfNums (xs ++ u), t, true) ∧ bytesOf t = r)
  | 0, s, xs, h => absurd h (by omega)
  | n + 1, s, xs, h => by
    have hl := bytesOf_length s
    have hs : bytesOf s = u8I s.data.toList := rfl
    rw [wordR]
    rcases idx_cut s.data.toList with ⟨h1, h2⟩ | ⟨p, q, h1, h2, h3⟩
    · refine .inl ⟨?_, ?_⟩
      · rw [hs]; exact wordI_none _ (u8I_ne h2)
      · rw [if_pos (.inl (by omega))]
    · have hb : bytesOf s = u8I p ++ 0 :: u8I q := by rw [hs, h1]; simp [u8I]
      have hlp : (u8I p).length = p.length := by simp [u8I]
      have hlq : (u8I q).length = q.length := by simp [u8I]
      have hsz : s.size = p.length + 1 + q.length := by rw [← hl, hb]; simp [hlp, hlq]; omega
      rw [hb, wordI_pre _ _ (u8I_ne h2), h3]
      have hpre : bytesOf (s.extract 0 (p.length : Int).toNat) = u8I p := by
        rw [bytesOf_ext, hb, Int.toNat_natCast, List.drop_zero, Nat.sub_zero, List.take_append_of_le_length (by omega), List.take_of_length_le (by omega)]
      cases q with
      | nil =>
        refine .inl ⟨rfl, ?_⟩
        rw [if_pos (.inr (by simp at hsz; omega))]
      | cons c q =>
        have hc : bt s ((p.length : Int) + 1) = (c.toNat : Int) := by
          rw [← rd_bytesOf, hb]
          unfold rd
          rw [show ((p.length : Int) + 1).toNat = p.length + 1 by omega, List.getD_eq_getElem?_getD, List.getElem?_append_right (by omega), hlp, show p.length + 1 - p.length = 1 by omega]
          rfl
        have hrest : bytesOf (s.extract ((p.length : Int) + 2).toNat s.size) = u8I q := by
          rw [bytesOf_tail, hb, show ((p.length : Int) + 2).toNat = (u8I p).length + 2 by omega, ← List.drop_drop, List.drop_left]
          rfl
        have hszr : (s.extract ((p.length : Int) + 2).toNat s.size).size < n := by
          have := bytesOf_length (s.extract ((p.length : Int) + 2).toNat s.size)
          rw [hrest, u8I, List.length_map] at this
          simp only [List.length_cons] at hsz
          omega
        simp only [List.length_cons] at hsz
        rw [if_neg (by omega), hc]
        have e : wordI (0 :: u8I (c :: q)) = (if (c.toNat : Int) = 0 then some ([], u8I q) else if (c.toNat : Int) = 255 then (wordI (u8I q)).map fun p => (0 :: p.1, p.2) else none) := by
          show wordI (0 :: (c.toNat : Int) :: u8I q) = _
          rw [wordI, if_pos rfl]
        rw [e]
        by_cases c1 : (c.toNat : Int) = 255
        · rw [if_pos c1, if_neg (by omega), if_pos c1]
          rcases word_eq n (s.extract ((p.length : Int) + 2).toNat s.size) (xs ++ bytesOf (s.extract 0 (p.length : Int).toNat) ++ [0]) hszr with ⟨g1, g2⟩ | ⟨u, r, t, g1, g2, g3⟩
          · rw [hrest] at g1
            exact .inl ⟨by rw [g1]; rfl, g2⟩
          · rw [hrest] at g1
            refine .inr ⟨_, _, t, by rw [g1]; rfl, ?_, g3⟩
            rw [g2, hpre]
            simp only [List.append_assoc, List.singleton_append]
        · rw [if_neg c1]
          by_cases c2 : (c.toNat : Int) = 0
          · rw [if_pos c2, hpre]
            refine .inr ⟨_, _, _, rfl, ?_, hrest⟩
            rw [List.append_nil, decide_eq_true c2, if_neg c1]
          · rw [if_neg c2, if_neg c1]
            refine .inl ⟨rfl, ?_⟩
            exact decide_eq_false c2
/-- The number that some bytes are, the highest first. -/
def numI (l : List Int) : Int := l.foldl (fun a b => a * 256 + b) 0
theorem or_add (z x : Int) (h0 : 0 ≤ z) (h1 : z < 72057594037927936) (h2 : 0 ≤ x) (h3 : x < 256) : bits .or .u64 (IntKind.u64.wrap (z * 256)) (IntKind.u64.wrap x) = z * 256 + x := by
  have e1 : IntKind.u64.wrap (z * 256) = z * 256 := by
    show z * 256 % 18446744073709551616 = _
    omega
  have e2 : IntKind.u64.wrap x = x := by
    show x % 18446744073709551616 = _
    omega
  rw [e1, e2]
  obtain ⟨n, rfl⟩ := Int.eq_ofNat_of_zero_le h0
  obtain ⟨m, rfl⟩ := Int.eq_ofNat_of_zero_le h2
  rw [u64_or _ _ (by omega) (by omega) (by omega) (by omega)]
  have h4 : ((n : Int) * 256).toNat = 2 ^ 8 * n := by omega
  have h5 : (m : Int).toNat = m := rfl
  rw [h4, h5, ← Nat.two_pow_add_eq_or_of_lt (show m < 2 ^ 8 by omega)]
  omega
theorem bt_drop (s : ByteArray) (i : Int) (h0 : 0 ≤ i) (h1 : i < (s.size : Int)) : (bytesOf s).drop i.toNat = bt s i :: (bytesOf s).drop (i + 1).toNat := by
  rw [rd_drop _ i h0 (by rw [bytesOf_length]; exact h1), rd_bytesOf]
theorem pow256_le {i j : Nat} (h : i ≤ j) : (256 : Int) ^ i ≤ 256 ^ j := by
  induction h with
  | refl => exact Int.le_refl _
  | @step m h ih =>
    have hp : (0 : Int) < 256 ^ m := Int.pow_pos (by omega)
    rw [Int.pow_succ]; omega
theorem number_loop (s : ByteArray) (hs : s.size = 8) : ∀ (d : Nat) (i z : Int), 0 ≤ i → i + d = 8 → 0 ≤ z → z < 256 ^ i.toNat →
    Ev (fun k => value_number.l0 k s z (s.size : Int) i) (((bytesOf s).drop i.toNat).foldl (fun a b => a * 256 + b) z)
  | 0, i, z, h0, h1, h2, h3 => by
    rw [List.drop_of_length_le (by rw [bytesOf_length]; omega)]
    exact Ev.step (f := fun _ => some z) (fun k => by simp only [value_number.l0]; rw [if_neg (by omega)]) (Ev.now _)
  | d + 1, i, z, h0, h1, h2, h3 => by
    have hb := bt_range s i
    have e2 : wrap64 (i + 1) = i + 1 := wrap_in (by unfold in64; omega)
    have ei : (i + 1).toNat = i.toNat + 1 := by omega
    have hi7 : i.toNat ≤ 7 := by omega
    have hp : (256 : Int) ^ i.toNat ≤ 256 ^ 7 := pow256_le hi7
    have hlt : z < 72057594037927936 := by have : (256 : Int) ^ 7 = 72057594037927936 := by decide
                                           omega
    have h4 : z * 256 + bt s i < 256 ^ (i + 1).toNat := by rw [ei, Int.pow_succ]; omega
    rw [bt_drop s i h0 (by omega), List.foldl_cons]
    refine Ev.step (f := fun k => value_number.l0 k s (z * 256 + bt s i) (s.size : Int) (i + 1)) (fun k => ?_) (number_loop s hs d (i + 1) _ (by omega) (by omega) (by omega) h4)
    simp only [value_number.l0]
    rw [if_pos (by omega), if_pos h0, if_pos (by omega), or_add z _ h2 hlt hb.1 (by omega), e2]
theorem number_ev (s : ByteArray) (hs : s.size = 8) : Ev (fun k => value_number.f k s) (numI (bytesOf s)) := number_loop s hs 8 0 0 (by omega) (by omega) (by omega) (by decide)
theorem foldl_range : ∀ (l : List Int) (z : Int) (m : Nat), (∀ x ∈ l, 0 ≤ x ∧ x ≤ 255) → 0 ≤ z → z < 256 ^ m → 0 ≤ l.foldl (fun a b => a * 256 + b) z ∧ l.foldl (fun a b => a * 256 + b) z < 256 ^ (m + l.length)
  | [], z, m, h, h0, h1 => ⟨h0, h1⟩
  | x :: l, z, m, h, h0, h1 => by
    have hx := h x (by simp)
    have hr := foldl_range l (z * 256 + x) (m + 1) (fun y hy => h y (by simp [hy])) (by omega) (by rw [Int.pow_succ]; omega)
    rw [List.foldl_cons, List.length_cons, show m + (l.length + 1) = m + 1 + l.length by omega]
    exact hr
theorem bytesOf_rng (s : ByteArray) : ∀ x ∈ bytesOf s, 0 ≤ x ∧ x ≤ 255 := by
  intro x hx
  obtain ⟨b, _, rfl⟩ := List.mem_map.1 hx
  have := b.toNat_lt
  omega
theorem numI_range (l : List Int) (h : ∀ x ∈ l, 0 ≤ x ∧ x ≤ 255) (h8 : l.length = 8) : 0 ≤ numI l ∧ numI l < 18446744073709551616 := by
  have := foldl_range l 0 0 h (by omega) (by decide)
  rw [h8] at this
  exact this
/-- One value off the front of some bytes. -/
def one : List Int → Option (S23 × List Int)
  | [] => none
  | b :: r =>
    if b = 1 then some (⟨0, 0, ⟨#[]⟩⟩, r)
    else if b = 2 then (if 8 ≤ r.length then some (⟨1, numI (r.take 8) - 9223372036854775808, ⟨#[]⟩⟩, r.drop 8) else none)
    else if b = 3 then (match r with | [] => none | c :: s => some (⟨2, c, ⟨#[]⟩⟩, s))
    else if b = 4 then (wordI r).map fun p => (⟨3, 0, strOfNums p.1⟩, p.2)
    else none
/-- The values that some bytes are. -/
def unk : Nat → List Int → List S23 → Option (List S23)
  | 0, _, _ => none
  | n + 1, l, acc => if l = [] then some acc else (one l).bind fun p => if chkV p.1 = 0 ∧ acc.length ≠ 12 then unk n p.2 (acc ++ [p.1]) else none
def unkR (o : Option (List S23)) : List S23 × Int := match o with | some l => (l, 0) | none => ([], 31)
theorem xor63' (n : Int) (h0 : 0 ≤ n) (h1 : n < 18446744073709551616) : wrap64 (bits .xor .u64 n 9223372036854775808) = n - 9223372036854775808 := by
  obtain ⟨a, rfl⟩ := Int.eq_ofNat_of_zero_le h0
  rw [show (9223372036854775808 : Int) = ((9223372036854775808 : Nat) : Int) from rfl, u64_xor_nat a 9223372036854775808 (by omega) (by omega), xor63 a (by omega)]
  unfold wrap64
  split <;> omega
theorem one_cons (b : Int) (r : List Int) : one (b :: r) = (if b = 1 then some (⟨0, 0, ⟨#[]⟩⟩, r)
    else if b = 2 then (if 8 ≤ r.length then some (⟨1, numI (r.take 8) - 9223372036854775808, ⟨#[]⟩⟩, r.drop 8) else none)
    else if b = 3 then (match r with | [] => none | c :: s => some (⟨2, c, ⟨#[]⟩⟩, s))
    else if b = 4 then (wordI r).map fun p => (⟨3, 0, strOfNums p.1⟩, p.2)
    else none) := by cases r <;> rfl
theorem j2_bad (s : ByteArray) (acc : List S23) (a b : Int) (c : ByteArray) : Ev (fun k => value_Unkey.j2 k s acc true a b c) ([], 31) :=
  Ev.step (f := fun _ => some ([], 31)) (fun k => by simp only [value_Unkey.j2]; rfl) (Ev.now _)
theorem j1_bad (s : ByteArray) (acc : List S23) (a b : Int) (c : ByteArray) : Ev (fun k => value_Unkey.j1 k s acc false a b c) ([], 31) :=
  Ev.step (f := fun k => value_Unkey.j2 k s acc true a b c) (fun k => by simp only [value_Unkey.j1]; rfl) (j2_bad _ _ _ _ _)
theorem j1_good (s : ByteArray) (acc : List S23) (v : S23) (n : Nat) (l : List Int) (hacc : acc.length ≤ 12)
    (ih : acc.length ≠ 12 → chkV v = 0 → Ev (fun k => value_Unkey.l0 k s (acc ++ [v])) (unkR (unk n l (acc ++ [v])))) :
    Ev (fun k => value_Unkey.j1 k s acc true v.f0 v.f1 v.f2) (unkR (if chkV v = 0 ∧ acc.length ≠ 12 then unk n l (acc ++ [v]) else none)) := by
  refine Ev.step (f := fun k => (value_Check.f k v.f0 v.f1 v.f2).bind fun t => (if t = 0 then (value_Unkey.j2 k s acc ((acc.length : Int) == 12) v.f0 v.f1 v.f2) else (value_Unkey.j2 k s acc true v.f0 v.f1 v.f2))) (fun k => by simp only [value_Unkey.j1]; rfl) (Ev.bind (chk_ev v) ?_)
  by_cases h1 : chkV v = 0
  · refine Ev.congr (fun k => if_pos h1) ?_
    by_cases h2 : acc.length = 12
    · rw [if_neg (fun z => z.2 h2), beq_iff_eq.mpr (show (acc.length : Int) = 12 by omega)]
      exact j2_bad _ _ _ _ _
    · rw [if_pos ⟨h1, h2⟩, beq_eq_false_iff_ne.mpr (show (acc.length : Int) ≠ 12 by omega)]
      refine Ev.step (f := fun k => value_Unkey.l0 k s (acc ++ [v])) (fun k => ?_) (ih h2 h1)
      simp only [value_Unkey.j2]
      rw [if_neg (by decide), if_pos (by omega)]
  · rw [if_neg (fun z => h1 z.1)]
    exact Ev.congr (fun k => if_neg h1) (j2_bad _ _ _ _ _)
theorem unkey_ev : ∀ (n : Nat) (s : ByteArray) (acc : List S23), s.size < n → s.size ≤ 140737488355328 → acc.length ≤ 12 →
    Ev (fun k => value_Unkey.l0 k s acc) (unkR (unk n (bytesOf s) acc))
  | 0, s, acc, h, _, _ => absurd h (by omega)
  | n + 1, s, acc, h, hs, hacc => by
    have hl := bytesOf_length s
    rw [unk]
    by_cases he : s.toList = []
    · have e : s = ⟨#[]⟩ := toList_nil he
      subst e
      exact Ev.step (f := fun _ => some (acc, 0)) (fun k => by simp only [value_Unkey.l0]; rw [if_pos he]) (Ev.now _)
    · have hpos : 0 < s.size := by
        rcases Nat.eq_zero_or_pos s.size with z | z
        · exfalso
          apply he
          rw [Lib.toList_data]
          exact List.eq_nil_of_length_eq_zero (by rw [data_length]; exact z)
        · exact z
      have hb := bt_range s 0
      obtain ⟨b, eb⟩ : ∃ b, bt s 0 = b := ⟨_, rfl⟩
      obtain ⟨t, et⟩ : ∃ t, s.extract 1 s.size = t := ⟨_, rfl⟩
      have ht : bytesOf t = (bytesOf s).drop 1 := by rw [← et]; exact bytesOf_tail s 1
      have hts : t.size + 1 = s.size := by rw [← et]; exact size_tail s (by omega)
      have hbs : bytesOf s = b :: bytesOf t := by
        have := bt_drop s 0 (by omega) (by omega)
        rw [eb] at this
        rw [ht]
        exact this
      have hlt := bytesOf_length t
      rw [hbs, if_neg (by simp), one_cons]
      rw [eb] at hb
      have ew : wrap64 (wrap64 b - 1) = b - 1 := by
        rw [wrap_in (x := b) (by unfold in64; omega), wrap_in (by unfold in64; omega)]
      have IH : ∀ (t' : ByteArray) (v : S23), t'.size ≤ t.size → acc.length ≠ 12 → chkV v = 0 → Ev (fun k => value_Unkey.l0 k t' (acc ++ [v])) (unkR (unk n (bytesOf t') (acc ++ [v]))) := fun t' v h1 h2 _ =>
        unkey_ev n t' (acc ++ [v]) (by omega) (by omega) (by rw [List.length_append, List.length_singleton]; omega)
      have HD : ∀ (F : Nat → Option (List S23 × Int)) R, (∀ k, value_Unkey.l0 (k + 1) s acc = F k) → Ev F R → Ev (fun k => value_Unkey.l0 k s acc) R := fun F R h1 h2 => Ev.step (f := F) h1 h2
      by_cases k1 : b = 1
      · subst k1
        rw [if_pos rfl]
        refine HD (fun k => value_Unkey.j1 k t acc true 0 0 ⟨#[]⟩) _ (fun k => ?_) (j1_good t acc ⟨0, 0, ⟨#[]⟩⟩ n (bytesOf t) hacc (IH t _ (Nat.le_refl _)))
        simp only [value_Unkey.l0, eb, et, ew]
        rw [if_neg he, if_pos (by omega), if_pos (by omega), if_pos (by decide)]
        rfl
      · rw [if_neg k1]
        by_cases k2 : b = 2
        · subst k2
          rw [if_pos rfl]
          have hl0 : ∀ k, value_Unkey.l0 (k + 1) s acc = (if (t.size : Int) ≥ 8 then ((value_number.f k (t.extract 0 8)).bind fun t102 => (value_Unkey.j1 k (t.extract 8 t.size) acc true 1 (wrap64 (Go.bits .xor .u64 t102 9223372036854775808)) (⟨#[]⟩ : ByteArray))) else (value_Unkey.j1 k t acc false 1 0 (⟨#[]⟩ : ByteArray))) := fun k => by
            simp only [value_Unkey.l0, eb, et, ew]
            rw [if_neg he, if_pos (by omega), if_pos (by omega), if_neg (by decide), if_pos (by decide)]
            by_cases g : (t.size : Int) ≥ 8
            · rw [if_pos g, if_pos g, if_pos (by decide), if_pos g, decide_eq_true g]; rfl
            · rw [if_neg g, if_neg g, decide_eq_false g]; rfl
          by_cases g : 8 ≤ t.size
          · rw [if_pos (by omega)]
            have h8 : (t.extract 0 8).size = 8 := by
              have := bytesOf_length (t.extract 0 8)
              rw [bytesOf_ext, List.drop_zero, List.length_take, hlt] at this
              omega
            have e8 : bytesOf (t.extract 0 8) = (bytesOf t).take 8 := by rw [bytesOf_ext, List.drop_zero]
            have hn := numI_range (bytesOf (t.extract 0 8)) (bytesOf_rng _) (by rw [bytesOf_length]; exact h8)
            refine HD _ _ (fun k => (hl0 k).trans (if_pos (by omega))) (Ev.bind (number_ev _ h8) ?_)
            rw [xor63' _ hn.1 hn.2, e8]
            have hd : bytesOf (t.extract 8 t.size) = (bytesOf t).drop 8 := bytesOf_tail t 8
            have := j1_good (t.extract 8 t.size) acc ⟨1, numI ((bytesOf t).take 8) - 9223372036854775808, ⟨#[]⟩⟩ n (bytesOf (t.extract 8 t.size)) hacc (IH _ _ (by have := size_tail t g; omega))
            rw [hd] at this
            exact this
          · rw [if_neg (by omega)]
            exact HD _ _ (fun k => (hl0 k).trans (if_neg (by omega))) (j1_bad _ _ _ _ _)
        · rw [if_neg k2]
          by_cases k3 : b = 3
          · subst k3
            rw [if_pos rfl]
            have hl0 : ∀ k, value_Unkey.l0 (k + 1) s acc = (if (t.size : Int) ≥ 1 then (value_Unkey.j1 k (t.extract 1 t.size) acc true 2 (wrap64 (bt t 0)) (⟨#[]⟩ : ByteArray)) else (value_Unkey.j1 k t acc false 2 0 (⟨#[]⟩ : ByteArray))) := fun k => by
              simp only [value_Unkey.l0, eb, et, ew]
              rw [if_neg he, if_pos (by omega), if_pos (by omega), if_neg (by decide), if_neg (by decide), if_pos (by decide)]
              by_cases g : (t.size : Int) ≥ 1
              · rw [if_pos g, if_pos g, if_pos (by omega), if_pos g, decide_eq_true g]; rfl
              · rw [if_neg g, if_neg g, decide_eq_false g]; rfl
            by_cases g : 1 ≤ t.size
            · have hcr := bt_range t 0
              have hc := bt_drop t 0 (by omega) (by omega)
              obtain ⟨c, ec⟩ : ∃ c, bt t 0 = c := ⟨_, rfl⟩
              rw [ec] at hc hcr
              have hd : bytesOf (t.extract 1 t.size) = (bytesOf t).drop 1 := bytesOf_tail t 1
              have htc : bytesOf t = c :: bytesOf (t.extract 1 t.size) := by rw [hd]; exact hc
              rw [htc]
              have ewc : wrap64 c = c := wrap_in (by unfold in64; omega)
              refine HD _ _ (fun k => (hl0 k).trans (if_pos (by omega))) ?_
              rw [ec, ewc]
              exact j1_good (t.extract 1 t.size) acc ⟨2, c, ⟨#[]⟩⟩ n (bytesOf (t.extract 1 t.size)) hacc (IH _ _ (by have := size_tail t g; omega))
            · have htn : bytesOf t = [] := List.eq_nil_of_length_eq_zero (by omega)
              rw [htn]
              exact HD _ _ (fun k => (hl0 k).trans (if_neg (by omega))) (j1_bad _ _ _ _ _)
          · rw [if_neg k3]
            by_cases k4 : b = 4
            · subst k4
              rw [if_pos rfl]
              have hw : value_word.f t = some (wordR (t.size + 1) t []) := if_pos (by omega)
              have hl0 : ∀ k, value_Unkey.l0 (k + 1) s acc = (value_Unkey.j1 k (wordR (t.size + 1) t []).2.1 acc (wordR (t.size + 1) t []).2.2 3 0 (wordR (t.size + 1) t []).1) := fun k => by
                simp only [value_Unkey.l0, eb, et, ew]
                rw [if_neg he, if_pos (by omega), if_pos (by omega), if_neg (by decide), if_neg (by decide), if_neg (by decide), if_pos (by decide), hw]
                rfl
              rcases word_eq (t.size + 1) t [] (by omega) with ⟨g1, g2⟩ | ⟨u, r, t', g1, g2, g3⟩
              · rw [g1]
                refine HD _ _ hl0 ?_
                rw [g2]
                exact j1_bad _ _ _ _ _
              · rw [g1]
                refine HD _ _ hl0 ?_
                rw [g2, ← g3]
                refine j1_good t' acc ⟨3, 0, strOfNums u⟩ n (bytesOf t') hacc (IH _ _ ?_)
                have := wordI_len _ _ _ g1
                rw [← g3, bytesOf_length, bytesOf_length] at this
                omega
            · rw [if_neg k4]
              refine HD (fun k => value_Unkey.j1 k t acc false (b - 1) 0 ⟨#[]⟩) _ (fun k => ?_) (j1_bad _ _ _ _ _)
              simp only [value_Unkey.l0, eb, et, ew]
              rw [if_neg he, if_pos (by omega), if_pos (by omega), if_neg (by omega), if_neg (by omega), if_neg (by omega), if_neg (by omega)]
theorem unkey_f (s : ByteArray) (hs : s.size ≤ 140737488355328) : Ev (fun k => value_Unkey.f k s) (unkR (unk (s.size + 1) (bytesOf s) [])) := unkey_ev _ s [] (by omega) hs (by simp)
end Go.Proofs.YtindffllmlifiaaDoor.Q
/- Keys there and back: in plain Lean. -/
namespace Go.Proofs.YtindffllmlifiaaDoor.Q
open Go.RowKit Go.Proofs.YtindffllmlifiaaDoorW.PrintWords Go.Proofs.YtindffllmlifiaaDoorW.PrintLast Go.Proofs.YtindffllmlifiaaDoorW.PrintMore
set_option linter.unusedVariables false
set_option linter.unusedSimpArgs false
theorem nums_back (s : ByteArray) : strOfNums (bytesOf s) = s := by
  apply ByteArray.ext
  apply Array.ext'
  simp only [strOfNums, bytesOf, List.map_map]
  show List.map _ s.data.toList = s.data.toList
  conv => rhs; rw [← List.map_id s.data.toList]
  apply List.map_congr_left
  intro b _
  simp
theorem back_nums (xs : List Int) (h : ∀ x ∈ xs, 0 ≤ x ∧ x ≤ 255) : bytesOf (strOfNums xs) = xs := by
  simp only [bytesOf, strOfNums, List.map_map]
  show List.map _ xs = xs
  conv => rhs; rw [← List.map_id xs]
  apply List.map_congr_left
  intro x hx
  have := h x hx
  simp only [Function.comp, id_eq]
  have e : (x.toNat.toUInt8).toNat = x.toNat % 256 := rfl
  rw [e]
  omega
/-- A text in a key is read as it was. -/
theorem word_esc (r : List Int) : ∀ u : List UInt8, wordI (escL u ++ ([0, 0] ++ r)) = some (u8I u, r)
  | [] => by
    show wordI (0 :: 0 :: r) = _
    rw [wordI, if_pos rfl, if_pos rfl]; rfl
  | a :: u => by
    rw [escL_cons]
    by_cases h : a = 0
    · subst h
      rw [if_pos rfl]
      show wordI (0 :: 255 :: (escL u ++ ([0, 0] ++ r))) = _
      rw [wordI, if_pos rfl, if_neg (by decide), if_pos rfl, word_esc r u]
      rfl
    · rw [if_neg h]
      show wordI ((a.toNat : Int) :: (escL u ++ ([0, 0] ++ r))) = _
      rw [wordI_cons (by have := u8_pos h; omega), word_esc r u]
      rfl
/-- What is read as a text is that text in a key. -/
theorem esc_word : ∀ (l u r : List Int), (∀ x ∈ l, 0 ≤ x ∧ x ≤ 255) → wordI l = some (u, r) → l = escL (toU u) ++ ([0, 0] ++ r) ∧ (∀ x ∈ u, 0 ≤ x ∧ x ≤ 255)
  | [], u, r, hl, h => by cases h
  | [_], u, r, hl, h => by cases h
  | b :: c :: q, u, r, hl, h => by
    rw [wordI] at h
    by_cases hb : b = 0
    · subst hb
      rw [if_pos rfl] at h
      by_cases hc : c = 0
      · subst hc
        rw [if_pos rfl] at h
        cases h
        exact ⟨rfl, fun x hx => by cases hx⟩
      · rw [if_neg hc] at h
        by_cases hc2 : c = 255
        · subst hc2
          rw [if_pos rfl] at h
          obtain ⟨⟨x, y⟩, g1, g2⟩ := Option.map_eq_some_iff.mp h
          cases g2
          obtain ⟨e1, e2⟩ := esc_word q _ _ (fun z hz => hl z (by simp [hz])) g1
          refine ⟨?_, fun z hz => ?_⟩
          · show _ = escL ((0 : UInt8) :: toU x) ++ _
            rw [escL_cons, if_pos rfl, List.append_assoc, ← e1]; rfl
          · rcases List.mem_cons.1 hz with rfl | hz
            · omega
            · exact e2 z hz
        · rw [if_neg hc2] at h; cases h
    · rw [if_neg hb] at h
      obtain ⟨⟨x, y⟩, g1, g2⟩ := Option.map_eq_some_iff.mp h
      cases g2
      obtain ⟨e1, e2⟩ := esc_word (c :: q) _ _ (fun z hz => hl z (by simp at hz ⊢; exact .inr hz)) g1
      have hbr := hl b (by simp)
      have ub : (b.toNat.toUInt8).toNat = b.toNat % 256 := rfl
      have hne : b.toNat.toUInt8 ≠ 0 := fun e => by
        have : (b.toNat.toUInt8).toNat = 0 := by rw [e]; rfl
        omega
      refine ⟨?_, fun z hz => ?_⟩
      · show _ = escL (b.toNat.toUInt8 :: toU x) ++ _
        rw [escL_cons, if_neg hne, List.append_assoc, ← e1]
        show b :: c :: q = ((b.toNat.toUInt8).toNat : Int) :: c :: q
        rw [ub, show ((b.toNat % 256 : Nat) : Int) = b by omega]
      · rcases List.mem_cons.1 hz with rfl | hz
        · exact hbr
        · exact e2 z hz
/-- Eight bytes are a number's. -/
theorem num_eight (n : Int) (h0 : 0 ≤ n) (h1 : n < 18446744073709551616) : numI (eightB n) = n := by
  simp only [numI, eightB, List.range, List.range.loop, List.map_cons, List.map_nil, Nat.reduceMul, Nat.reduceSub, Int.reducePow, List.foldl_cons, List.foldl_nil]
  omega
theorem eight_num (l : List Int) (h : ∀ x ∈ l, 0 ≤ x ∧ x ≤ 255) (h8 : l.length = 8) : eightB (numI l) = l := by
  match l, h8 with
  | [a, b, c, d, e, f, g, i], _ =>
    have ha := h a (by simp)
    have hb := h b (by simp)
    have hc := h c (by simp)
    have hd := h d (by simp)
    have he := h e (by simp)
    have hf := h f (by simp)
    have hg := h g (by simp)
    have hi := h i (by simp)
    simp only [numI, eightB, List.range, List.range.loop, List.map_cons, List.map_nil, Nat.reduceMul, Nat.reduceSub, Int.reducePow, List.foldl_cons, List.foldl_nil, List.cons.injEq, and_true]
    refine ⟨?_, ?_, ?_, ?_, ?_, ?_, ?_, ?_⟩ <;> omega
theorem va_ext {v : S23} {a b : Int} {s : ByteArray} (h0 : v.f0 = a) (h1 : v.f1 = b) (h2 : v.f2 = s) : v = ⟨a, b, s⟩ := by
  cases v; cases h0; cases h1; cases h2; rfl
theorem one_key (v : S23) (h : chkV v = 0) (hi : in64 v.f1) (r : List Int) : one (keyV v ++ r) = some (v, r) := by
  unfold keyV
  unfold in64 at hi
  rcases chk_parts h with ⟨h0, h1, h2⟩ | ⟨h0, h2⟩ | ⟨h0, h1, h2⟩ | ⟨h0, h1, h2⟩
  · rw [va_ext h0 h1 (toList_nil h2)]
    rfl
  · obtain ⟨n, hn⟩ : ∃ n, v.f1 = n := ⟨_, rfl⟩
    rw [va_ext h0 hn (toList_nil h2)]
    rw [hn] at hi
    show one (2 :: (eightB (n + 9223372036854775808) ++ r)) = _
    have hl : (eightB (n + 9223372036854775808)).length = 8 := rfl
    rw [one_cons, if_neg (by decide), if_pos rfl, if_pos (by rw [List.length_append, hl]; omega), List.take_left' hl, List.drop_left' hl, num_eight _ (by omega) (by omega), show n + 9223372036854775808 - 9223372036854775808 = n by omega]
  · rcases h1 with h1 | h1 <;> (rw [va_ext h0 h1 (toList_nil h2)]; rfl)
  · obtain ⟨s, hs⟩ : ∃ s, v.f2 = s := ⟨_, rfl⟩
    rw [va_ext h0 h1 hs]
    show one (4 :: ((escB s ++ [0, 0]) ++ r)) = _
    rw [one_cons, if_neg (by decide), if_neg (by decide), if_neg (by decide), if_pos rfl, List.append_assoc, escB_eq, word_esc]
    show some ((⟨3, 0, strOfNums (bytesOf s)⟩ : S23), r) = _
    rw [nums_back]
theorem unk_key : ∀ (l acc : List S23) (n : Nat), (∀ v ∈ l, chkV v = 0 ∧ in64 v.f1) → acc.length + l.length ≤ 12 → (keyB l).length < n → unk n (keyB l) acc = some (acc ++ l)
  | l, acc, 0, h, ha, hn => absurd hn (by omega)
  | [], acc, n + 1, h, ha, hn => by
    rw [unk, List.append_nil]; exact if_pos rfl
  | v :: l, acc, n + 1, h, ha, hn => by
    have hv := h v (by simp)
    have hp : 0 < (keyV v).length := by simp [keyV]
    simp only [List.length_cons] at ha
    simp only [keyB, List.length_append] at hn
    rw [unk, if_neg (by intro e; have := congrArg List.length e; simp [keyB] at this; rw [this.1] at hp; exact absurd hp (by simp)), keyB, one_key v hv.1 hv.2]
    show (if chkV v = 0 ∧ acc.length ≠ 12 then unk n (keyB l) (acc ++ [v]) else none) = _
    rw [if_pos ⟨hv.1, by omega⟩, unk_key l (acc ++ [v]) n (fun x hx => h x (by simp [hx])) (by rw [List.length_append, List.length_singleton]; omega) (by omega), List.append_assoc]
    rfl
theorem key_one (l r : List Int) (v : S23) (hl : ∀ x ∈ l, 0 ≤ x ∧ x ≤ 255) (h : one l = some (v, r)) (hc : chkV v = 0) : l = keyV v ++ r ∧ in64 v.f1 := by
  cases l with
  | nil => cases h
  | cons b q =>
    rw [one_cons] at h
    have hq : ∀ x ∈ q, 0 ≤ x ∧ x ≤ 255 := fun x hx => hl x (by simp [hx])
    by_cases k1 : b = 1
    · rw [if_pos k1] at h
      cases h
      subst k1
      exact ⟨rfl, by decide⟩
    · rw [if_neg k1] at h
      by_cases k2 : b = 2
      · rw [if_pos k2] at h
        split at h
        · rename_i h8
          cases h
          subst k2
          have ht : ∀ x ∈ q.take 8, 0 ≤ x ∧ x ≤ 255 := fun x hx => hq x (List.mem_of_mem_take hx)
          have hl8 : (q.take 8).length = 8 := by rw [List.length_take]; omega
          have hn := numI_range _ ht hl8
          refine ⟨?_, by unfold in64; dsimp only; omega⟩
          show 2 :: q = 2 :: (eightB (numI (q.take 8) - 9223372036854775808 + 9223372036854775808) ++ q.drop 8)
          rw [show numI (q.take 8) - 9223372036854775808 + 9223372036854775808 = numI (q.take 8) by omega, eight_num _ ht hl8, List.take_append_drop]
        · cases h
      · rw [if_neg k2] at h
        by_cases k3 : b = 3
        · rw [if_pos k3] at h
          subst k3
          cases q with
          | nil => cases h
          | cons c s =>
            cases h
            have hcr := hq c (by simp)
            refine ⟨?_, by unfold in64; dsimp only; omega⟩
            show 3 :: c :: _ = 3 :: (c % 256) :: _
            rw [show c % 256 = c by omega]
            rfl
        · rw [if_neg k3] at h
          by_cases k4 : b = 4
          · rw [if_pos k4] at h
            subst k4
            obtain ⟨⟨u, y⟩, g1, g2⟩ := Option.map_eq_some_iff.mp h
            cases g2
            obtain ⟨e1, e2⟩ := esc_word q _ _ hq g1
            refine ⟨?_, by unfold in64; dsimp only; omega⟩
            show 4 :: q = 4 :: ((escB (strOfNums u) ++ [0, 0]) ++ y)
            have e3 : escB (strOfNums u) = escL (toU u) := rfl
            rw [e3, List.append_assoc, ← e1]
          · rw [if_neg k4] at h; cases h
theorem key_unk : ∀ (n : Nat) (l : List Int) (acc m : List S23), (∀ x ∈ l, 0 ≤ x ∧ x ≤ 255) → acc.length ≤ 12 → unk n l acc = some m →
    ∃ p, m = acc ++ p ∧ keyB p = l ∧ (∀ v ∈ p, chkV v = 0 ∧ in64 v.f1) ∧ m.length ≤ 12
  | 0, l, acc, m, hl, ha, h => by cases h
  | n + 1, l, acc, m, hl, ha, h => by
    rw [unk] at h
    by_cases he : l = []
    · rw [if_pos he] at h
      cases h
      subst he
      exact ⟨[], by simp, rfl, (fun v hv => by cases hv), ha⟩
    · rw [if_neg he] at h
      obtain ⟨⟨v, r⟩, h1, h2⟩ := Option.bind_eq_some_iff.mp h
      dsimp only at h2
      split at h2
      · rename_i hc
        obtain ⟨e1, e2⟩ := key_one l r v hl h1 hc.1
        obtain ⟨p, g1, g2, g3, g4⟩ := key_unk n r (acc ++ [v]) m (fun x hx => hl x (by rw [e1]; exact List.mem_append.2 (.inr hx))) (by rw [List.length_append, List.length_singleton]; omega) h2
        refine ⟨v :: p, by rw [g1, List.append_assoc]; rfl, by rw [keyB, g2, e1], fun x hx => ?_, g4⟩
        rcases List.mem_cons.1 hx with rfl | hx
        · exact ⟨hc.1, e2⟩
        · exact g3 x hx
      · cases h2
theorem rowOk_mk {l : List S23} (h : l.length ≤ 12) (hv : ∀ v ∈ l, chkV v = 0) : rowOk l = true := by
  unfold rowOk
  rw [Bool.and_eq_true]
  exact ⟨decide_eq_true h, List.all_eq_true.2 (fun v m => by simpa using hv v m)⟩
theorem Big_loop (l : List S23) (hl : l.length ≤ 40) : ∀ (d : Nat) (i : Int), 0 ≤ i → i + d = l.length → ∃ b, Ev (fun k => headgateref03_Big.l0 k l i) b
  | 0, i, h0, h1 => ⟨false, Ev.step (f := fun _ => some false) (fun k => by simp only [headgateref03_Big.l0]; rw [if_neg (by omega)]) (Ev.now _)⟩
  | d + 1, i, h0, h1 => by
    obtain ⟨b, hb⟩ := Big_loop l hl d (i + 1) (by omega) (by omega)
    have e2 : wrap64 (i + 1) = i + 1 := wrap_in (by unfold in64; omega)
    by_cases h : (((rd_T23 l i).f2).size : Int) > 600
    · exact ⟨true, Ev.step (f := fun _ => some true) (fun k => by simp only [headgateref03_Big.l0]; rw [if_pos (by omega), if_pos h0, if_pos h]) (Ev.now _)⟩
    · exact ⟨b, Ev.step (f := fun k => headgateref03_Big.l0 k l (i + 1)) (fun k => by simp only [headgateref03_Big.l0]; rw [if_pos (by omega), if_pos h0, if_neg h, e2]) hb⟩
theorem Big_ev (l : List S23) : ∃ b, Ev (fun k => headgateref03_Big.f k l) b := by
  unfold headgateref03_Big.f
  by_cases h : (l.length : Int) > 40
  · exact ⟨true, Ev.congr (fun k => if_pos h) (Ev.now _)⟩
  · obtain ⟨b, hb⟩ := Big_loop l (by omega) l.length 0 (by omega) (by omega)
    exact ⟨b, Ev.congr (fun k => if_neg h) hb⟩
theorem unkeyed_rows {x : ByteArray} {m : List S23} (h : unk (x.size + 1) (bytesOf x) [] = some m) : rowOk m = true ∧ (∀ v ∈ m, in64 v.f1) ∧ m.length ≤ 12 ∧ strOfNums (keyB m) = x := by
  obtain ⟨p, h1, h2, h3, h4⟩ := key_unk _ _ [] m (bytesOf_rng x) (by simp) h
  rw [List.nil_append] at h1
  subst h1
  exact ⟨rowOk_mk h4 (fun v hv => (h3 v hv).1), fun v hv => (h3 v hv).2, h4, by rw [h2, nums_back]⟩
end Go.Proofs.YtindffllmlifiaaDoor.Q
-- Written by a program of the session over the translation's print: functions as plain Lean, and that the machine's call comes to them.
namespace Go.Proofs.YtindffllmlifiaaDoor.Q
open Go.RowKit Go.Proofs.YtindffllmlifiaaDoorW.PrintWords Go.Proofs.YtindffllmlifiaaDoorW.PrintLast Go.Proofs.YtindffllmlifiaaDoorW.PrintMore
attribute [local go_sem] max2_int min2_int max_two min_two max_three min_three max_four min_four   -- for this text's walks alone
set_option linter.unusedVariables false
set_option linter.unusedSimpArgs false

-- NOT PRINTED: function 22 (value_All)

-- NOT PRINTED: function 58 (bytealg_IndexByteString)

-- NOT PRINTED: function 50 (stringslite_IndexByte)

-- NOT PRINTED: function 61 (bytealg_IndexString)

-- NOT PRINTED: function 56 (stringslite_Index)

-- NOT PRINTED: function 46 (strings_Index)

-- NOT PRINTED: function 52 (utf8_RuneCountInString)

-- NOT PRINTED: function 53 (bytealg_CountString)

-- NOT PRINTED: function 44 (strings_Count)

-- NOT PRINTED: function 59 (abi_NoEscape)

-- NOT PRINTED: function 54 (strings_Builder_copyCheck)

-- NOT PRINTED: function 60 (bytealg_MakeNoZero)

-- NOT PRINTED: function 55 (strings_Builder_grow)

-- NOT PRINTED: function 45 (strings_Builder_Grow)

-- NOT PRINTED: function 47 (strings_Builder_WriteString)

-- NOT PRINTED: function 57 (utf8_decodeRuneInStringSlow)

-- NOT PRINTED: function 48 (utf8_DecodeRuneInString)

-- NOT PRINTED: function 49 (strings_Builder_String)

-- NOT PRINTED: function 39 (strings_Replace)

-- NOT PRINTED: function 31 (strings_ReplaceAll)

-- NOT PRINTED: function 51 (bytealg_abigen_runtime_cmpstring)

-- NOT PRINTED: function 43 (bytealg_CompareString)

/-! ### headgatelaw03_ValueSorts: function 8 -/
end Go.Proofs.YtindffllmlifiaaDoor.Q
/- The chapter's examples hold. -/
namespace Go.Proofs.YtindffllmlifiaaDoor.Q
open Go.RowKit Go.Proofs.YtindffllmlifiaaDoorW.PrintWords Go.Proofs.YtindffllmlifiaaDoorW.PrintLast Go.Proofs.YtindffllmlifiaaDoorW.PrintMore
theorem alive03 : headgatelaw03_alive.f 30 = some true := by kernel_rfl
theorem alive03_ev : Ev (fun k => headgatelaw03_alive.f k) true := Ev.of (fun k => headgatelaw03_alive.mono k) alive03
end Go.Proofs.YtindffllmlifiaaDoor.Q
/- The law ValueSorts in plain Lean. -/
namespace Go.Proofs.YtindffllmlifiaaDoor.Q
open Go.RowKit Go.Proofs.YtindffllmlifiaaDoorW.PrintWords Go.Proofs.YtindffllmlifiaaDoorW.PrintLast Go.Proofs.YtindffllmlifiaaDoorW.PrintMore
set_option linter.unusedVariables false
set_option linter.unusedSimpArgs false
theorem key_now (l : List S23) (hl : l.length ≤ 9223372036854775806) (h : ∀ v ∈ l, in64 v.f1) : value_Key.f l = some (keyR l) := if_pos ⟨hl, h⟩
end Go.Proofs.YtindffllmlifiaaDoor.Q
/- The law ValueBack in plain Lean. -/
namespace Go.Proofs.YtindffllmlifiaaDoor.Q
open Go.RowKit Go.Proofs.YtindffllmlifiaaDoorW.PrintWords Go.Proofs.YtindffllmlifiaaDoorW.PrintLast Go.Proofs.YtindffllmlifiaaDoorW.PrintMore
set_option linter.unusedVariables false
set_option linter.unusedSimpArgs false
theorem back_j2 (x : ByteArray) (hx : x.size ≤ 140737488355328) : Ev (fun k => headgatelaw03_ValueBack.j2 k x) true := by
  refine Ev.step (f := fun k => (value_Unkey.f k x).bind fun bt110 => (if bt110.2 = 0 then ((value_Key.f bt110.1).bind fun bt114 => (if bt114.2 = 0 then (some (bt114.1.toList == x.toList)) else (some false))) else (some ((bt110.1.length : Int) == 0)))) (fun k => by simp only [headgatelaw03_ValueBack.j2]) (Ev.bind (unkey_f x hx) ?_)
  cases h : unk (x.size + 1) (bytesOf x) [] with
  | none => exact Ev.congr (fun k => if_neg (by simp only [unkR]; decide)) (Ev.congr (fun k => by rfl) (Ev.now true))
  | some m =>
    obtain ⟨h1, h2, h3, h4⟩ := unkeyed_rows h
    refine Ev.congr (fun k => if_pos rfl) ?_
    have e : keyR m = (x, 0) := by unfold keyR; rw [if_pos h1, h4]
    refine Ev.bind (Ev.congr (fun k => key_now m (by omega) h2) (Ev.now _)) ?_
    rw [e]
    refine Ev.congr (fun k => if_pos rfl) ?_
    dsimp only
    rw [BEq.rfl]
    exact Ev.now _
theorem cmpRowV_self : ∀ l : List S23, (∀ v ∈ l, chkV v = 0 ∧ in64 v.f1) → cmpRowV l l = 0 := fun l h => by
  rw [← keyB_cmp l l h h, cmpL_self]
theorem ValueBack_ev (l : List S23) (x : ByteArray) (hl : l.length * 32 ≤ 140737488351232) (hz : ∀ z ∈ l, z.f2.size ≤ 140737488351232) (il : ∀ v ∈ l, in64 v.f1) (hx : x.size ≤ 140737488351232) : Ev (fun k => headgatelaw03_ValueBack.f k l x) true := by
  unfold headgatelaw03_ValueBack.f
  refine Ev.bind alive03_ev (Ev.congr (fun k => if_pos rfl) ?_)
  obtain ⟨b, hb⟩ := Big_ev l
  have J0t : Ev (fun k => headgatelaw03_ValueBack.j0 k l x true) true := Ev.step (f := fun _ => some true) (fun k => by simp only [headgatelaw03_ValueBack.j0]; rfl) (Ev.now _)
  have J1 : Ev (fun k => headgatelaw03_ValueBack.j1 k x false) true := Ev.step (f := fun k => headgatelaw03_ValueBack.j2 k x) (fun k => by simp only [headgatelaw03_ValueBack.j1]; rfl) (back_j2 x (by omega))
  have J0 : ∀ c, Ev (fun k => headgatelaw03_ValueBack.j0 k l x c) true := by
    intro c
    cases c with
    | true => exact J0t
    | false =>
      refine Ev.step (f := fun k => (value_Key.f l).bind fun bt103 => (if bt103.2 = 0 then ((value_Unkey.f k bt103.1).bind fun bt105 => (if bt105.2 = 0 then (if (bt105.1.length : Int) = (l.length : Int) then ((value_CmpRow.f l bt105.1).bind fun t109 => (headgatelaw03_ValueBack.j1 k x (t109 != 0))) else (headgatelaw03_ValueBack.j1 k x true)) else (headgatelaw03_ValueBack.j1 k x true))) else (headgatelaw03_ValueBack.j2 k x))) (fun k => by simp only [headgatelaw03_ValueBack.j0]; rfl) ?_
      refine Ev.bind (Ev.congr (fun k => key_now l (by omega) il) (Ev.now _)) ?_
      by_cases r1 : rowOk l = true
      · obtain ⟨h12, hc⟩ := rowOk_parts r1
        have hg : ∀ v ∈ l, chkV v = 0 ∧ in64 v.f1 := fun v hv => ⟨hc v hv, il v hv⟩
        have e1 : keyR l = (strOfNums (keyB l), 0) := if_pos r1
        rw [e1]
        refine Ev.congr (fun k => if_pos rfl) ?_
        dsimp only
        have hk := keyB_len 200 l (fun v hv => chk_size (hc v hv))
        have hb2 := back_nums (keyB l) (keyB_range l)
        have hs : (strOfNums (keyB l)).size = (keyB l).length := by rw [← bytesOf_length, hb2]
        have hk2 : (keyB l).length ≤ 4920 := Nat.le_trans hk (by omega)
        have hu := unkey_f (strOfNums (keyB l)) (by omega)
        rw [hb2, hs, unk_key l [] _ hg (by simp; omega) (by omega)] at hu
        refine Ev.bind hu (Ev.congr (fun k => (if_pos rfl).trans (if_pos rfl)) ?_)
        refine Ev.bind (Ev.congr (fun k => (if_pos ⟨by omega, by show ([] ++ l).length ≤ _; rw [List.nil_append]; omega⟩ : value_CmpRow.f l ([] ++ l) = some (cmpRowV l ([] ++ l)))) (Ev.now _)) ?_
        rw [List.nil_append, cmpRowV_self l hg]
        exact J1
      · have e1 : keyR l = (⟨#[]⟩, 31) := if_neg r1
        rw [e1]
        exact Ev.congr (fun k => if_neg (by decide)) (back_j2 x (by omega))
  refine Ev.bind hb ?_
  cases b with
  | true => exact Ev.congr (fun k => if_pos rfl) J0t
  | false => exact Ev.congr (fun k => if_neg (by decide)) (J0 _)
theorem ValueBack_pure (l : List S23) (x : ByteArray) (h2 : l.length * 32 ≤ 140737488351232 ∧ ∀ z ∈ l, (Lit.int .i64 z.f0).wf = true ∧ (Lit.int .i64 z.f1).wf = true ∧ z.f2.size ≤ 140737488351232) (h3 : x.size ≤ 140737488351232) : ∃ k, headgatelaw03_ValueBack.f k l x = some true :=
  (ValueBack_ev l x h2.1 (fun v hv => (h2.2 v hv).2.2) (fun v hv => wf64 (h2.2 v hv).2.1) h3).rounds
end Go.Proofs.YtindffllmlifiaaDoor.Q
