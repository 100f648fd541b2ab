/- Whole numbers of 64 bits, quotients and rests, in plain words: no program in it. -/
import Derived.Test.YtgihecpobichbaaWMore
import Derived.Test.YtgihecpobichbaaK
import Derived.Lib.VarintBits
import Derived.Lib.Zigzag
import Derived.Laws.BitsAllLaws
import Derived.LoopTactic
import Derived.Laws.AppendOwn
import Derived.RangeFuncBox
import Derived.Recover
import Derived.WalkLawsBesides
import Derived.Defers
import Derived.WalkSpells
import Derived.RangeFuncNested
import Derived.Below
import Derived.Lib.FrozenHead
import Derived.Laws.BytesArg
import Derived.RegionCalls
import Derived.Deep.CutBlock
import Derived.Lib.Bytealg
namespace Go.Proofs.Ytgihecpobichbaa.Q
open Go.RowKit Go.Proofs.YtgihecpobichbaaW.PrintWords Go.Proofs.YtgihecpobichbaaW.PrintLast Go.Proofs.YtgihecpobichbaaW.PrintMore
set_option linter.unusedVariables false
set_option linter.unusedSimpArgs false

def in64 (x : Int) : Prop := -9223372036854775808 ≤ x ∧ x ≤ 9223372036854775807
instance (x : Int) : Decidable (in64 x) := by unfold in64; infer_instance
theorem wrap_in {x : Int} (h : in64 x) : wrap64 x = x := by
  unfold in64 at h
  unfold wrap64
  omega
theorem rd_mem (l : List Int) (j : Int) (h0 : 0 ≤ j) (h1 : j < (l.length : Int)) : rd l j ∈ l := by
  have hl : j.toNat < l.length := by omega
  unfold rd
  rw [List.getD_eq_getElem?_getD, List.getElem?_eq_getElem hl]
  exact List.getElem_mem hl
end Go.Proofs.Ytgihecpobichbaa.Q
-- Written by a program of the session over the translation's print: functions as plain Lean, and that the machine's call comes to them.
namespace Go.Proofs.Ytgihecpobichbaa.Q
open Go.RowKit Go.Proofs.YtgihecpobichbaaW.PrintWords Go.Proofs.YtgihecpobichbaaW.PrintLast Go.Proofs.YtgihecpobichbaaW.PrintMore
attribute [local go_sem] max2_int min2_int max_two min_two max_three min_three max_four min_four   -- for this text's walks alone
set_option linter.unusedVariables false
set_option linter.unusedSimpArgs false

/-! ### code_Unnum: function 13 -/
/-! ### headgateref04_Unnum: function 14 -/
/-! ### headgateref04_Unint: function 96 -/
/-! ### headgateref04_Unnums: function 36 -/
end Go.Proofs.Ytgihecpobichbaa.Q
/- The number at the beginning of some bytes, in plain words: what code.Unnum's printed function comes to; no machine in it. -/
namespace Go.Proofs.Ytgihecpobichbaa.Q
open Go.RowKit Go.Proofs.YtgihecpobichbaaW.PrintWords Go.Proofs.YtgihecpobichbaaW.PrintLast Go.Proofs.YtgihecpobichbaaW.PrintMore
set_option linter.unusedVariables false
set_option linter.unusedSimpArgs false

end Go.Proofs.Ytgihecpobichbaa.Q
-- Written by a program of the session over the translation's print: functions as plain Lean, and that the machine's call comes to them.
namespace Go.Proofs.Ytgihecpobichbaa.Q
open Go.RowKit Go.Proofs.YtgihecpobichbaaW.PrintWords Go.Proofs.YtgihecpobichbaaW.PrintLast Go.Proofs.YtgihecpobichbaaW.PrintMore
attribute [local go_sem] max2_int min2_int max_two min_two max_three min_three max_four min_four   -- for this text's walks alone
set_option linter.unusedVariables false
set_option linter.unusedSimpArgs false

/-! ### code_told: function 57 -/
def code_told.f (l0 : List Int) : Option (List Int × Int) := if (l0.length : Int) > 16777216 then (some (([] : List Int), 42)) else (some (l0, 0))
set_option maxHeartbeats 8000000 in
set_option maxRecDepth 100000 in
theorem code_told.calls (P0_ : Nat → Prop) (u9000_ : Value) (l0 : List Int) (r1 : List Int) (r2 : Int) (w0 w : World) (hB : Below w0.heap.size w0 w) (ho0 : Kd.R (Kd.int .u8) 5 w w0.heap.size P0_ u9000_ l0) (h : code_told.f l0 = some (r1, r2)) :
    Calls Try.prog 57 #[u9000_] w fun e w' => ∃ v0_ : Value, e = .returned (.tuple #[v0_, .int .i64 r2]) ∧ Kd.R (Kd.int .u8) 5 w' w0.heap.size (fun k_ => (P0_ k_ ∨ w.heap.size ≤ k_)) v0_ r1 ∧ Below w0.heap.size w0 w' ∧ Kept w w' (fun k_ => P0_ k_) := by
  have HO0 := Aside0.mk (show Kd.R (Kd.int .u8) 5 w w0.heap.size (fun k_ => (P0_ k_ ∨ w.heap.size ≤ k_)) u9000_ l0 from Kd.R_mono ho0 (fun k_ hk => (.inl hk)))
  have HK := Aside0.mk (Kept.refl w (fun k_ => P0_ k_))
  have HW0 := Aside0.mk hB.size
  have HB := Aside0.mk hB
  clear hB
  have H : (if (l0.length : Int) > 16777216 then (some (([] : List Int), 42)) else (some (l0, 0))) = some (r1, r2) := h
  clear h
  by_cases c2 : (l0.length : Int) > 16777216
  · rw [if_pos c2] at H
    have c2b0 : decide (16777216 < (l0.length : Int)) = true := decide_eq_true c2
    have c2b1 : decide (16777216 < l0.length) = true := decide_eq_true (by omega)
    clear c2
    simp only [Option.some.injEq, Prod.mk.injEq] at H
    obtain ⟨rfl, rfl⟩ := H
    obtain ⟨Ao3, co3, eo3⟩ := Kd.R_slice HO0.out
    subst eo3
    go_enter Try.func57, Try.ntmps57
    go_wp2
    go_ret2
    exact ⟨_, by first | rfl | (simp [errW_none, errW_some] <;> rfl) | (simp [*, errW_none, errW_some] <;> rfl), by first | exact Kd.R_nil _ _ _ _ _ | exact Kd.N_nil _ _ _ _ _ | exact Kd.V_nil _ _ _ _ _ | exact Kd.Q_nil _ _ _ _ _ | exact Kd.S_nil _ _ _ _ _, by repeat (first | (with_reducible first | exact HB.out | apply below_alloc | apply pw_below_drewN | apply below_drew1) | exact HB.out), by repeat (first | (with_reducible first | exact HK.out | apply Kept.alloc | apply Kept.drewN | apply Kept.drew) | exact HK.out)⟩
  · rw [if_neg c2] at H
    have c2b0 : decide (16777216 < (l0.length : Int)) = false := decide_eq_false c2
    have c2b1 : decide (16777216 < l0.length) = false := decide_eq_false (by omega)
    clear c2
    simp only [Option.some.injEq, Prod.mk.injEq] at H
    obtain ⟨rfl, rfl⟩ := H
    obtain ⟨Ao4, co4, eo4⟩ := Kd.R_slice HO0.out
    subst eo4
    go_enter Try.func57, Try.ntmps57
    go_wp2
    go_ret2
    exact ⟨_, by first | rfl | (simp [errW_none, errW_some] <;> rfl) | (simp [*, errW_none, errW_some] <;> rfl), by (with_reducible repeat (first | apply Kd.R_alloc | apply Kd.R_drewN | apply Kd.R_drew)); exact HO0.out, by repeat (first | (with_reducible first | exact HB.out | apply below_alloc | apply pw_below_drewN | apply below_drew1) | exact HB.out), by repeat (first | (with_reducible first | exact HK.out | apply Kept.alloc | apply Kept.drewN | apply Kept.drew) | exact HK.out)⟩

/-! ### code_Num: function 15 -/
def code_Num.l0 : Nat → Int → List Int → Option (List Int)
  | 0, _, _ => none
  | k + 1, x0, x3 => if x0 ≥ 128 then (if x3.length < 140737488355328 then (code_Num.l0 k (x0 / 128) (x3 ++ [Go.bits .or .u8 ((x0) % 256) 128])) else (none)) else (if x3.length < 140737488355328 then (some (x3 ++ [(x0) % 256])) else (none))
def code_Num.f (k : Nat) (a0 : Int) : Option (List Int) := code_Num.l0 k a0 ([] : List Int)
set_option maxHeartbeats 8000000 in
set_option maxRecDepth 100000 in
theorem code_Num.calls (k : Nat) (a0 : Int) (r : List Int) (w : World) (h : code_Num.f k a0 = some r) :
    Calls Try.prog 15 #[.int .u64 a0] w fun e w' => ∃ v0_ : Value, e = .returned (v0_) ∧ Kd.R (Kd.int .u8) 5 w' w.heap.size (fun _ => True) v0_ r ∧ Below w.heap.size w w' := by
  have HB := Aside0.mk (Below.refl w.heap.size w)
  have H : (code_Num.l0 k a0 ([] : List Int)) = some r := h
  clear h
  have H' := Aside0.mk H
  clear H
  go_enter Try.func15, Try.ntmps15
  go_wp2
  go_loopg [0, 3] k (fun kq v0 v3 w' => ∃ (x0_1 : Int) (x3_1 : List Int), v0 = .int .u64 x0_1 ∧ Aside0 (code_Num.l0 kq x0_1 x3_1 = some r) ∧ Aside0 (kq ≤ k) ∧ Aside0 (Kd.R (Kd.int .u8) 5 w' w.heap.size (fun _ => True) v3 x3_1) ∧ Aside0 (Below w.heap.size w w'))
  case atStart => exact ⟨(a0), (([] : List Int)), (by first | rfl | (simp; done) | (simp [*]; done) | (simp; rw [Bool.eq_iff_iff]; simp; done)), H', ⟨Nat.le_refl _⟩, ⟨by first | exact Kd.R_nil _ _ _ _ _ | exact Kd.N_nil _ _ _ _ _ | exact Kd.V_nil _ _ _ _ _ | exact Kd.Q_nil _ _ _ _ _ | exact Kd.S_nil _ _ _ _ _⟩, ⟨by repeat (first | (with_reducible first | exact HB.out | apply below_alloc | apply pw_below_drewN | apply below_drew1) | exact HB.out)⟩⟩
  case round =>
    clear H'
    try clear c1
    obtain ⟨x0_1, x3_1, rfl, HA, HK1, HO_3, HB⟩ := hrel
    cases gk with
    | zero => exact absurd HA.out (by simp [code_Num.l0])
    | succ k1 =>
      have H := HA.out
      clear HA
      simp only [code_Num.l0] at H
      by_cases c2 : x0_1 ≥ 128
      · rw [if_pos c2] at H
        have c2b0 : decide (128 ≤ x0_1) = true := decide_eq_true c2
        clear c2
        by_cases c3 : x3_1.length < 140737488355328
        · rw [if_pos c3] at H
          have LMc3 := Aside0.mk c3
          clear c3
          obtain ⟨y101, hy101⟩ : ∃ y_ : List Int, y_ = (x3_1 ++ [Go.bits .or .u8 ((x0_1) % 256) 128]) := ⟨_, rfl⟩
          replace H : (code_Num.l0 k1 (x0_1 / 128) y101) = some r := by first | (rw [hy101]; with_reducible exact H) | (have H2_ := (Option.bind_some _ _).symm.trans H; rw [hy101]; with_reducible exact H2_) | (have H2_ := (Option.bind_some _ _).symm.trans H; with_reducible exact H2_) | with_reducible exact H | (rw [hy101]; exact H) | exact H
          have Ny101 := Aside0.mk hy101
          clear hy101
          have H' := Aside0.mk H
          clear H
          go_wp2_with (first | ((with_reducible refine gate_builtin (b := .append) (xs := #[.tmp 8, .tmp 12]) rfl ?_); at_builtin; refine Kd.R_append (Kd.int .u8) (w0 := w) w.heap.size rfl (.tmp 8) (.tmp 12) 27 5 (.int .u8 0) 1 rfl Try.underlying27 info5 rfl (by decide) (by omega) u3 x3_1 (Go.bits .or .u8 ((x0_1) % 256) 128) [.int .u8 (Go.bits .or .u8 ((x0_1) % 256) 128)] (fun _ => True) (fun _ => False) rfl rfl ?aP (fun _ hk => hk.elim) ?aF ?aO ?aB ?aS ?aL ?_; (case aP => exact rfl); (case aB => exact (by repeat (first | (with_reducible first | exact HB.out | apply below_alloc | apply pw_below_drewN | apply below_drew1) | exact HB.out))); (case aF => exact (fun _ _ => trivial)); (case aO => exact (by (with_reducible repeat (first | apply Kd.R_alloc | apply Kd.R_drewN | apply Kd.R_drew)); exact HO_3.out)); (case aS => exact (below_size (by repeat (first | (with_reducible first | exact HB.out | apply below_alloc | apply pw_below_drewN | apply below_drew1) | exact HB.out)))); (case aL => have := LMc3.out; omega); intro v102 w4 ho hb hg hat; rw [← Ny101.out] at ho; have n0_ := Aside0.mk (hb); have n1_ := Aside0.mk (ho); clear HB; clear HO_3; have HB := n0_; have HO103 := n1_; clear n0_ n1_; clear ho hb hg hat))
          go_roundg k1
          case measure => have := HK1.out; omega
          case rel => exact ⟨(x0_1 / 128), (y101), (by first | rfl | (simp; done) | (simp [*]; done) | (simp; rw [Bool.eq_iff_iff]; simp; done)), H', ⟨by have := HK1.out; omega⟩, ⟨by (with_reducible repeat (first | apply Kd.R_alloc | apply Kd.R_drewN | apply Kd.R_drew)); exact HO103.out⟩, ⟨by repeat (first | (with_reducible first | exact HB.out | apply below_alloc | apply pw_below_drewN | apply below_drew1) | exact HB.out)⟩⟩
        · rw [if_neg c3] at H
          exact absurd H (by simp)
      · rw [if_neg c2] at H
        have c2b0 : decide (128 ≤ x0_1) = false := decide_eq_false c2
        clear c2
        by_cases c5 : x3_1.length < 140737488355328
        · rw [if_pos c5] at H
          have LMc5 := Aside0.mk c5
          clear c5
          obtain ⟨y104, hy104⟩ : ∃ y_ : List Int, y_ = (x3_1 ++ [(x0_1) % 256]) := ⟨_, rfl⟩
          replace H : (some y104) = some r := by first | (rw [hy104]; with_reducible exact H) | (have H2_ := (Option.bind_some _ _).symm.trans H; rw [hy104]; with_reducible exact H2_) | (have H2_ := (Option.bind_some _ _).symm.trans H; with_reducible exact H2_) | with_reducible exact H | (rw [hy104]; exact H) | exact H
          have Ny104 := Aside0.mk hy104
          clear hy104
          obtain rfl := Option.some.inj H
          go_wp2_with (first | ((with_reducible refine gate_builtin (b := .append) (xs := #[.tmp 14, .tmp 17]) rfl ?_); at_builtin; refine Kd.R_append (Kd.int .u8) (w0 := w) w.heap.size rfl (.tmp 14) (.tmp 17) 27 5 (.int .u8 0) 1 rfl Try.underlying27 info5 rfl (by decide) (by omega) u3 x3_1 ((x0_1) % 256) [.int .u8 ((x0_1) % 256)] (fun _ => True) (fun _ => False) rfl rfl ?aP (fun _ hk => hk.elim) ?aF ?aO ?aB ?aS ?aL ?_; (case aP => exact rfl); (case aB => exact (by repeat (first | (with_reducible first | exact HB.out | apply below_alloc | apply pw_below_drewN | apply below_drew1) | exact HB.out))); (case aF => exact (fun _ _ => trivial)); (case aO => exact (by (with_reducible repeat (first | apply Kd.R_alloc | apply Kd.R_drewN | apply Kd.R_drew)); exact HO_3.out)); (case aS => exact (below_size (by repeat (first | (with_reducible first | exact HB.out | apply below_alloc | apply pw_below_drewN | apply below_drew1) | exact HB.out)))); (case aL => have := LMc5.out; omega); intro v105 w6 ho hb hg hat; rw [← Ny104.out] at ho; have n0_ := Aside0.mk (hb); have n1_ := Aside0.mk (ho); clear HB; clear HO_3; have HB := n0_; have HO106 := n1_; clear n0_ n1_; clear ho hb hg hat))
          go_ret
          exact ⟨_, by first | rfl | (simp [errW_none, errW_some] <;> rfl) | (simp [*, errW_none, errW_some] <;> rfl), by (with_reducible repeat (first | apply Kd.R_alloc | apply Kd.R_drewN | apply Kd.R_drew)); exact HO106.out, by repeat (first | (with_reducible first | exact HB.out | apply below_alloc | apply pw_below_drewN | apply below_drew1) | exact HB.out)⟩
        · rw [if_neg c5] at H
          exact absurd H (by simp)

/-! ### code_whole: function 72 -/
def code_whole.f (a0 : Int) : Option (Int) := some (Go.bits .xor .u64 (IntKind.u64.wrap (wrap64 (a0 * 2))) (IntKind.u64.wrap (a0 / 9223372036854775808)))
set_option maxHeartbeats 8000000 in
set_option maxRecDepth 100000 in
theorem code_whole.calls (a0 : Int) (r : Int) (w : World) (h : code_whole.f a0 = some r) :
    Calls Try.prog 72 #[.int .i64 a0] w fun e w' => e = .returned (.int .u64 r) ∧ Drawn0 w w' := by
  have H : (some (Go.bits .xor .u64 (IntKind.u64.wrap (wrap64 (a0 * 2))) (IntKind.u64.wrap (a0 / 9223372036854775808)))) = some r := h
  clear h
  obtain rfl := Option.some.inj H
  go_enter Try.func72, Try.ntmps72
  go_wp2
  go_ret
  exact ⟨by first | rfl | (simp; done) | (simp [*]; done), by repeat (first | exact Drawn0.refl _ | apply Drawn0.step)⟩

/-! ### code_Nums_1: function 71 -/
def code_Nums_1.f (k : Nat) (a0 : Int) : Option (List Int) := (code_whole.f a0).bind fun t107 => ((code_Num.f k t107).bind fun t108 => (some t108))
set_option maxHeartbeats 8000000 in
set_option maxRecDepth 100000 in
theorem code_Nums_1.calls (k : Nat) (a0 : Int) (r : List Int) (w : World) (h : code_Nums_1.f k a0 = some r) :
    Calls Try.prog 71 #[.int .i64 a0] w fun e w' => ∃ v0_ : Value, e = .returned (v0_) ∧ Kd.R (Kd.int .u8) 5 w' w.heap.size (fun _ => True) v0_ r ∧ Below w.heap.size w w' := by
  have HB := Aside0.mk (Below.refl w.heap.size w)
  have H : ((code_whole.f a0).bind fun t107 => ((code_Num.f k t107).bind fun t108 => (some t108))) = some r := h
  clear h
  replace H := Option.bind_eq_some_iff.mp H
  obtain ⟨t107, A20, H⟩ := H
  replace H : ((code_Num.f k t107).bind fun t108 => (some t108)) = some r := H
  have A2 := Aside0.mk A20
  clear A20
  replace H := Option.bind_eq_some_iff.mp H
  obtain ⟨t108, A30, H⟩ := H
  replace H : (some t108) = some r := H
  have A3 := Aside0.mk A30
  clear A30
  obtain rfl := Option.some.inj H
  go_enter Try.func71, Try.ntmps71
  go_wp2_with (first | ((with_reducible refine gate_callee (f := 72) rfl ?_); refine goesL_ (some 4) rfl rfl Try.func72 (by kernel_rfl) rfl #[.int .i64 a0] rfl (by (try simp only [List.map_toArray, List.map_cons, List.map_nil]); first | done | rfl | (simp only [List.length_drop, List.length_take]; rfl) | exact congrArg (fun x_ : Int => #[Value.int .u64 x_]) (show _ = _ % (18446744073709551616 : Int) by omega)) ?_; (with_reducible refine (code_whole.calls a0 t107 _ A2.out).mono ?_); rintro e w' ⟨rfl, ⟨nd, rfl⟩⟩; refine ⟨_, rfl, ?_⟩) | ((with_reducible refine gate_callee (f := 15) rfl ?_); refine goesL_ (some 5) rfl rfl Try.func15 (by kernel_rfl) rfl #[.int .u64 t107] rfl (by (try simp only [List.map_toArray, List.map_cons, List.map_nil]); first | done | rfl | (simp only [List.length_drop, List.length_take]; rfl) | exact congrArg (fun x_ : Int => #[Value.int .u64 x_]) (show _ = _ % (18446744073709551616 : Int) by omega)) ?_; (with_reducible refine (code_Num.calls k t107 t108 _ A3.out).mono ?_); rintro e w4 ⟨v109, rfl, ho0, hb⟩; refine ⟨_, rfl, ?_⟩; have n0_ := Aside0.mk (Kd.R_lower ho0 (below_size (by repeat (first | (with_reducible first | exact HB.out | apply below_alloc | apply pw_below_drewN | apply below_drew1) | exact HB.out)))); have n1_ := Aside0.mk (below_step (by repeat (first | (with_reducible first | exact HB.out | apply below_alloc | apply pw_below_drewN | apply below_drew1) | exact HB.out)) hb); clear HB; have HO110 := n0_; have HB := n1_; clear n0_ n1_; (try clear hb); (try clear hb2); (try clear hk); (try clear hi); (try clear ho0)))
  go_ret
  exact ⟨_, by first | rfl | (simp [errW_none, errW_some] <;> rfl) | (simp [*, errW_none, errW_some] <;> rfl), by (with_reducible repeat (first | apply Kd.R_alloc | apply Kd.R_drewN | apply Kd.R_drew)); exact HO110.out, by repeat (first | (with_reducible first | exact HB.out | apply below_alloc | apply pw_below_drewN | apply below_drew1) | exact HB.out)⟩

/-! ### code_List_int64: function 70 -/
def code_List_int64.l0 : Nat → List Int → List Int → Int → Int → Option (List Int)
  | 0, _, _, _, _ => none
  | k + 1, x5, x12, x13, x14 => if x14 < x13 then (if 0 ≤ x14 then (if x14 < (x12.length : Int) then ((code_Nums_1.f k (rd x12 x14)).bind fun t115 => (if x5.length + t115.length < 140737488355328 then (code_List_int64.l0 k (x5 ++ t115) x12 x13 (wrap64 (x14 + 1))) else (none))) else (none)) else (none)) else (some x5)
def code_List_int64.f (k : Nat) (l0 : List Int) (a1 : Unit) : Option (List Int) := (code_Num.f k (IntKind.u64.wrap ((l0.length : Int)))).bind fun t111 => (code_List_int64.l0 k t111 l0 (l0.length : Int) 0)
set_option maxHeartbeats 8000000 in
set_option maxRecDepth 100000 in
theorem code_List_int64.calls (k : Nat) (A0 : Option Addr) (c0 : Nat) (l0 : List Int) (a1 : Unit) (r : List Int) (w : World) (hr0 : Kd.C (Kd.int .i64) w A0 l0.length l0) (hc0 : l0.length ≤ c0) (h : code_List_int64.f k l0 a1 = some r) :
    Calls Try.prog 70 #[.slice A0 l0.length c0, .func (.func 71) #[] #[]] w fun e w' => ∃ v0_ : Value, e = .returned (v0_) ∧ Kd.R (Kd.int .u8) 5 w' w.heap.size (fun _ => True) v0_ r ∧ Below w.heap.size w w' := by
  have HR0 := Aside0.mk hr0
  have HC0 := Aside0.mk hc0
  clear hr0 hc0
  have HB := Aside0.mk (Below.refl w.heap.size w)
  have H : ((code_Num.f k (IntKind.u64.wrap ((l0.length : Int)))).bind fun t111 => (code_List_int64.l0 k t111 l0 (l0.length : Int) 0)) = some r := h
  clear h
  replace H := Option.bind_eq_some_iff.mp H
  obtain ⟨t111, A30, H⟩ := H
  replace H : (code_List_int64.l0 k t111 l0 (l0.length : Int) 0) = some r := H
  have A3 := Aside0.mk A30
  clear A30
  have H' := Aside0.mk H
  clear H
  go_enter Try.func70, Try.ntmps70
  go_wp2_with (first | ((with_reducible refine gate_callee (f := 15) rfl ?_); refine goesL_ (some 11) rfl rfl Try.func15 (by kernel_rfl) rfl #[.int .u64 (IntKind.u64.wrap ((l0.length : Int)))] rfl (by (try simp only [List.map_toArray, List.map_cons, List.map_nil]); first | done | rfl | (simp only [List.length_drop, List.length_take]; rfl) | exact congrArg (fun x_ : Int => #[Value.int .u64 x_]) (show _ = _ % (18446744073709551616 : Int) by omega)) ?_; (with_reducible refine (code_Num.calls k (IntKind.u64.wrap ((l0.length : Int))) t111 _ A3.out).mono ?_); rintro e w4 ⟨v112, rfl, ho0, hb⟩; refine ⟨_, rfl, ?_⟩; have n0_ := Aside0.mk (Kd.R_lower ho0 (below_size (by repeat (first | (with_reducible first | exact HB.out | apply below_alloc | apply pw_below_drewN | apply below_drew1) | exact HB.out)))); have n1_ := Aside0.mk (below_step (by repeat (first | (with_reducible first | exact HB.out | apply below_alloc | apply pw_below_drewN | apply below_drew1) | exact HB.out)) hb); clear HB; have HO113 := n0_; have HB := n1_; clear n0_ n1_; (try clear hb); (try clear hb2); (try clear hk); (try clear hi); (try clear ho0)))
  go_loopg [5, 14] k (fun kq v5 v14 w' => ∃ (x5_1 : List Int) (x14_1 : Int), v14 = .int .i64 x14_1 ∧ Aside0 (code_List_int64.l0 kq x5_1 l0 (l0.length : Int) x14_1 = some r) ∧ Aside0 (kq ≤ k) ∧ Aside0 (Kd.R (Kd.int .u8) 5 w' w.heap.size (fun _ => True) v5 x5_1) ∧ Aside0 (Below w.heap.size w w'))
  case atStart => exact ⟨(t111), (0), (by first | rfl | (simp; done) | (simp [*]; done) | (simp; rw [Bool.eq_iff_iff]; simp; done)), H', ⟨Nat.le_refl _⟩, ⟨by (with_reducible repeat (first | apply Kd.R_alloc | apply Kd.R_drewN | apply Kd.R_drew)); exact HO113.out⟩, ⟨by repeat (first | (with_reducible first | exact HB.out | apply below_alloc | apply pw_below_drewN | apply below_drew1) | exact HB.out)⟩⟩
  case round =>
    clear H'
    try clear c1
    try clear p2
    obtain ⟨x5_1, x14_1, rfl, HA, HK1, HO_5, HB⟩ := hrel
    cases gk with
    | zero => exact absurd HA.out (by simp [code_List_int64.l0])
    | succ k1 =>
      have H := HA.out
      clear HA
      simp only [code_List_int64.l0] at H
      by_cases c5 : x14_1 < (l0.length : Int)
      · rw [if_pos c5] at H
        have c5b0 : decide (x14_1 < (l0.length : Int)) = true := decide_eq_true c5
        clear c5
        by_cases c6 : 0 ≤ x14_1
        · rw [if_pos c6] at H
          have c6b0 : decide (0 ≤ x14_1) = true := decide_eq_true c6
          clear c6
          by_cases c7 : x14_1 < (l0.length : Int)
          · rw [if_pos c7] at H
            have c7b0 : decide (x14_1 < (l0.length : Int)) = true := decide_eq_true c7
            clear c7
            replace H := Option.bind_eq_some_iff.mp H
            obtain ⟨t115, A80, H⟩ := H
            replace H : (if x5_1.length + t115.length < 140737488355328 then (code_List_int64.l0 k1 (x5_1 ++ t115) l0 (l0.length : Int) (wrap64 (x14_1 + 1))) else (none)) = some r := H
            have A8 := Aside0.mk A80
            clear A80
            by_cases c9 : x5_1.length + t115.length < 140737488355328
            · rw [if_pos c9] at H
              have LMc9 := Aside0.mk c9
              clear c9
              obtain ⟨y118, hy118⟩ : ∃ y_ : List Int, y_ = (x5_1 ++ t115) := ⟨_, rfl⟩
              replace H : (code_List_int64.l0 k1 y118 l0 (l0.length : Int) (wrap64 (x14_1 + 1))) = some r := by first | (rw [hy118]; with_reducible exact H) | (have H2_ := (Option.bind_some _ _).symm.trans H; rw [hy118]; with_reducible exact H2_) | (have H2_ := (Option.bind_some _ _).symm.trans H; with_reducible exact H2_) | with_reducible exact H | (rw [hy118]; exact H) | exact H
              have Ny118 := Aside0.mk hy118
              clear hy118
              have H' := Aside0.mk H
              clear H
              have p114 : 0 ≤ (x14_1 : Int) := of_decide_eq_true (by first | (with_reducible assumption) | assumption)
              have q114 : x14_1 < (l0.length : Int) := of_decide_eq_true (by first | (with_reducible assumption) | assumption)
              obtain ⟨ad114, e114, hx114_0⟩ := Kd.at_int HR0.out x14_1 p114 q114
              cases e114
              replace hx114_0 := (HB.out.cell (World.block_lt_of_cell? w _ hx114_0)).trans hx114_0
              replace p114 := eq_true p114
              replace q114 := eq_true q114
              go_wp2_with (first | (go_at_call 71; (with_reducible refine (code_Nums_1.calls k1 (rd l0 x14_1) t115 _ A8.out).mono ?_); rintro e w10 ⟨v116, rfl, ho0, hb⟩; have n0_ := Aside0.mk (Kd.R_elder' (by (with_reducible repeat (first | apply Kd.R_alloc | apply Kd.R_drewN | apply Kd.R_drew)); exact HO_5.out) (Kd.R_base ho0) hb); have n1_ := Aside0.mk (Kd.R_lower (Kd.R_new' ho0 (Kd.R_lt (by (with_reducible repeat (first | apply Kd.R_alloc | apply Kd.R_drewN | apply Kd.R_drew)); exact HO_5.out))) (below_size (by repeat (first | (with_reducible first | exact HB.out | apply below_alloc | apply pw_below_drewN | apply below_drew1) | exact HB.out)))); have n2_ := Aside0.mk (below_step (by repeat (first | (with_reducible first | exact HB.out | apply below_alloc | apply pw_below_drewN | apply below_drew1) | exact HB.out)) hb); clear HO_5; clear HB; have HO_5 := n0_; have HO117 := n1_; have HB := n2_; clear n0_ n1_ n2_; (try clear hb); (try clear hb2); (try clear hk); (try clear hi); (try clear ho0); obtain ⟨Ao12, co12, eo12⟩ := Kd.R_slice HO117.out; subst eo12) | ((with_reducible refine gate_builtin (b := .append) (xs := #[.tmp 18, .tmp 21]) rfl ?_); at_builtin; refine Kd.R_append_rows (Kd.int .u8) (w0 := w) w.heap.size rfl (.tmp 18) (.tmp 21) 27 5 (.int .u8 0) 1 rfl Try.underlying27 info5 rfl (by decide) (by omega) u5 x5_1 t115 _ _ _ (fun k_ => some k_ ≠ (.slice Ao12 t115.length co12 : Value).ownBlock) (fun _ => False) rfl rfl ?aO ?aR (fun _ _ h => h) (fun _ h => h.elim) ?aF ?aB ?aS ?aL ?_; (case aR => repeat (first | exact (Kd.R_reads' HO117.out).2.2 | (with_reducible refine Kd.C_alloc ?_ _) | (with_reducible refine Kd.C_drewN ?_ _) | (with_reducible refine Kd.C_drew ?_))); (case aB => exact (by repeat (first | (with_reducible first | exact HB.out | apply below_alloc | apply pw_below_drewN | apply below_drew1) | exact HB.out))); (case aF => exact (fun k_ hk => Kd.fresh' (Kd.R_lt (by (with_reducible repeat (first | apply Kd.R_alloc | apply Kd.R_drewN | apply Kd.R_drew)); exact HO117.out)) k_ hk)); (case aO => exact (by (with_reducible repeat (first | apply Kd.R_alloc | apply Kd.R_drewN | apply Kd.R_drew)); exact Kd.R_mono HO_5.out (fun _ hk => hk.2))); (case aS => exact (below_size (by repeat (first | (with_reducible first | exact HB.out | apply below_alloc | apply pw_below_drewN | apply below_drew1) | exact HB.out)))); (case aL => have := LMc9.out; omega); intro v119 w11 ho hb hg hat; rw [← Ny118.out] at ho; have n0_ := Aside0.mk (Kd.R_after (ok := (fun _ => True)) (by (with_reducible repeat (first | apply Kd.R_alloc | apply Kd.R_drewN | apply Kd.R_drew)); exact HO117.out) hg hat); have n1_ := Aside0.mk (hb); have n2_ := Aside0.mk (ho); clear HO117; clear HB; clear HO_5; have HO117 := n0_; have HB := n1_; have HO120 := n2_; clear n0_ n1_ n2_; clear ho hb hg hat))
              go_roundg k1
              case measure => have := HK1.out; omega
              case rel => exact ⟨(y118), (wrap64 (x14_1 + 1)), (by first | rfl | (simp; done) | (simp [*]; done) | (simp; rw [Bool.eq_iff_iff]; simp; done)), H', ⟨by have := HK1.out; omega⟩, ⟨by (with_reducible repeat (first | apply Kd.R_alloc | apply Kd.R_drewN | apply Kd.R_drew)); exact Kd.R_mono HO120.out (fun _ hk => trivial)⟩, ⟨by repeat (first | (with_reducible first | exact HB.out | apply below_alloc | apply pw_below_drewN | apply below_drew1) | exact HB.out)⟩⟩
            · rw [if_neg c9] at H
              exact absurd H (by simp)
          · rw [if_neg c7] at H
            exact absurd H (by simp)
        · rw [if_neg c6] at H
          exact absurd H (by simp)
      · rw [if_neg c5] at H
        have c5b0 : decide (x14_1 < (l0.length : Int)) = false := decide_eq_false c5
        clear c5
        obtain rfl := Option.some.inj H
        go_wp2
        go_ret
        exact ⟨_, by first | rfl | (simp [errW_none, errW_some] <;> rfl) | (simp [*, errW_none, errW_some] <;> rfl), by (with_reducible repeat (first | apply Kd.R_alloc | apply Kd.R_drewN | apply Kd.R_drew)); exact HO_5.out, by repeat (first | (with_reducible first | exact HB.out | apply below_alloc | apply pw_below_drewN | apply below_drew1) | exact HB.out)⟩

/-! ### code_Nums: function 27 -/
def code_Nums.f (k : Nat) (l0 : List Int) : Option (List Int × Int) := (code_List_int64.f k l0 ()).bind fun t121 => ((code_told.f t121).bind fun bt124 => (some (bt124.1, bt124.2)))
set_option maxHeartbeats 8000000 in
set_option maxRecDepth 100000 in
theorem code_Nums.calls (k : Nat) (A0 : Option Addr) (c0 : Nat) (l0 : List Int) (r1 : List Int) (r2 : Int) (w : World) (hr0 : Kd.C (Kd.int .i64) w A0 l0.length l0) (hc0 : l0.length ≤ c0) (h : code_Nums.f k l0 = some (r1, r2)) :
    Calls Try.prog 27 #[.slice A0 l0.length c0] w fun e w' => ∃ v0_ : Value, e = .returned (.tuple #[v0_, .int .i64 r2]) ∧ Kd.R (Kd.int .u8) 5 w' w.heap.size (fun _ => True) v0_ r1 ∧ Below w.heap.size w w' := by
  have HR0 := Aside0.mk hr0
  have HC0 := Aside0.mk hc0
  clear hr0 hc0
  have HB := Aside0.mk (Below.refl w.heap.size w)
  have H : ((code_List_int64.f k l0 ()).bind fun t121 => ((code_told.f t121).bind fun bt124 => (some (bt124.1, bt124.2)))) = some (r1, r2) := h
  clear h
  replace H := Option.bind_eq_some_iff.mp H
  obtain ⟨t121, A20, H⟩ := H
  replace H : ((code_told.f t121).bind fun bt124 => (some (bt124.1, bt124.2))) = some (r1, r2) := H
  have A2 := Aside0.mk A20
  clear A20
  replace H := Option.bind_eq_some_iff.mp H
  obtain ⟨⟨t124, t127⟩, A30, H⟩ := H
  replace H : (some (t124, t127)) = some (r1, r2) := H
  have A3 := Aside0.mk A30
  clear A30
  simp only [Option.some.injEq, Prod.mk.injEq] at H
  obtain ⟨rfl, rfl⟩ := H
  go_enter Try.func27, Try.ntmps27
  go_wp2_with (first | ((with_reducible refine gate_callee (f := 70) rfl ?_); refine goesL_ (some 5) rfl rfl Try.func70 (by kernel_rfl) rfl #[.slice A0 l0.length c0, .func (.func 71) #[] #[]] rfl (by (try simp only [List.map_toArray, List.map_cons, List.map_nil]); first | done | rfl | (simp only [List.length_drop, List.length_take]; rfl) | exact congrArg (fun x_ : Int => #[Value.int .u64 x_]) (show _ = _ % (18446744073709551616 : Int) by omega)) ?_; (with_reducible refine (code_List_int64.calls k _ _ l0 () t121 _ ?side1 ?side2 A2.out).mono ?_); (case side1 => repeat (first | exact HR0.out | (with_reducible refine Kd.C_alloc ?_ _) | (with_reducible refine Kd.C_drewN ?_ _) | (with_reducible refine Kd.C_drew ?_))); (case side2 => exact HC0.out); rintro e w4 ⟨v122, rfl, ho0, hb⟩; refine ⟨_, rfl, ?_⟩; have n0_ := Aside0.mk (Kd.R_lower ho0 (below_size (by repeat (first | (with_reducible first | exact HB.out | apply below_alloc | apply pw_below_drewN | apply below_drew1) | exact HB.out)))); have n1_ := Aside0.mk (below_step (by repeat (first | (with_reducible first | exact HB.out | apply below_alloc | apply pw_below_drewN | apply below_drew1) | exact HB.out)) hb); clear HB; have HO123 := n0_; have HB := n1_; clear n0_ n1_; (try clear hb); (try clear hb2); (try clear hk); (try clear hi); (try clear ho0); obtain ⟨Ao5, co5, eo5⟩ := Kd.R_slice HO123.out; subst eo5) | ((with_reducible refine gate_callee (f := 57) rfl ?_); refine goesL_ (some 6) rfl rfl Try.func57 (by kernel_rfl) rfl #[.slice Ao5 t121.length co5] rfl (by (try simp only [List.map_toArray, List.map_cons, List.map_nil]); first | done | rfl | (simp only [List.length_drop, List.length_take]; rfl) | exact congrArg (fun x_ : Int => #[Value.int .u64 x_]) (show _ = _ % (18446744073709551616 : Int) by omega)) ?_; (with_reducible refine (code_told.calls (fun k_ => some k_ = (.slice Ao5 t121.length co5 : Value).ownBlock) (.slice Ao5 t121.length co5) t121 t124 t127 w _ ?side1 ?side2 A3.out).mono ?_); (case side1 => repeat (first | (with_reducible first | exact HB.out | apply below_alloc | apply pw_below_drewN | apply below_drew1) | exact HB.out)); (case side2 => exact Kd.R_tight rfl HO123.out); rintro e w6 ⟨v125, rfl, ho0, hb, hkp⟩; refine ⟨_, rfl, ?_⟩; have n0_ := Aside0.mk (Kd.R_mono (ok' := fun k_ => True) ho0 (fun k_ hk_ => trivial)); have n1_ := Aside0.mk (hb); clear HB; clear HO123; have HO126 := n0_; have HB := n1_; clear n0_ n1_; (try clear hb); (try clear hkp); (try clear ho0)))
  go_ret2
  exact ⟨_, by first | rfl | (simp [errW_none, errW_some] <;> rfl) | (simp [*, errW_none, errW_some] <;> rfl), by (with_reducible repeat (first | apply Kd.R_alloc | apply Kd.R_drewN | apply Kd.R_drew)); exact HO126.out, by repeat (first | (with_reducible first | exact HB.out | apply below_alloc | apply pw_below_drewN | apply below_drew1) | exact HB.out)⟩

end Go.Proofs.Ytgihecpobichbaa.Q
-- Written by a program of the session over the translation's print: functions as plain Lean, and that the machine's call comes to them.
namespace Go.Proofs.Ytgihecpobichbaa.Q
open Go.RowKit Go.Proofs.YtgihecpobichbaaW.PrintWords Go.Proofs.YtgihecpobichbaaW.PrintLast Go.Proofs.YtgihecpobichbaaW.PrintMore
attribute [local go_sem] max2_int min2_int max_two min_two max_three min_three max_four min_four   -- for this text's walks alone
set_option linter.unusedVariables false
set_option linter.unusedSimpArgs false

/-! ### headgateref04_Num: function 16 -/
/-! ### headgateref04_Int: function 73 -/
end Go.Proofs.Ytgihecpobichbaa.Q
/- A number's bytes: the package's and the document's are the same. -/
namespace Go.Proofs.Ytgihecpobichbaa.Q
open Go.RowKit Go.Proofs.YtgihecpobichbaaW.PrintWords Go.Proofs.YtgihecpobichbaaW.PrintLast Go.Proofs.YtgihecpobichbaaW.PrintMore
set_option linter.unusedVariables false
set_option linter.unusedSimpArgs false

end Go.Proofs.Ytgihecpobichbaa.Q
/- The number at the beginning of some bytes: the package's and the document's are the same. -/
namespace Go.Proofs.Ytgihecpobichbaa.Q
open Go.RowKit Go.Proofs.YtgihecpobichbaaW.PrintWords Go.Proofs.YtgihecpobichbaaW.PrintLast Go.Proofs.YtgihecpobichbaaW.PrintMore
set_option linter.unusedVariables false
set_option linter.unusedSimpArgs false

end Go.Proofs.Ytgihecpobichbaa.Q
/- Numbers as bytes and back, in plain words: no program in it. -/
namespace Go.Proofs.Ytgihecpobichbaa.Q
open Go.RowKit Go.Proofs.YtgihecpobichbaaW.PrintWords Go.Proofs.YtgihecpobichbaaW.PrintLast Go.Proofs.YtgihecpobichbaaW.PrintMore
set_option linter.unusedVariables false
set_option linter.unusedSimpArgs false

end Go.Proofs.Ytgihecpobichbaa.Q
/- Lists as bytes and back, and the document's numbers at any place, in plain words: no program in it. -/
namespace Go.Proofs.Ytgihecpobichbaa.Q
open Go.RowKit Go.Proofs.YtgihecpobichbaaW.PrintWords Go.Proofs.YtgihecpobichbaaW.PrintLast Go.Proofs.YtgihecpobichbaaW.PrintMore
set_option linter.unusedVariables false
set_option linter.unusedSimpArgs false

def Bytes (l : List Int) : Prop := ∀ x ∈ l, 0 ≤ x ∧ x ≤ 255
theorem Bytes.left {a b : List Int} (h : Bytes (a ++ b)) : Bytes a := fun x hx => h x (List.mem_append.2 (.inl hx))
theorem Bytes.nil : Bytes [] := fun x hx => absurd hx (by simp)
end Go.Proofs.Ytgihecpobichbaa.Q
/- The reader of package code: a number, the next bytes: walked. -/
namespace Go.Proofs.Ytgihecpobichbaa.Q
open Go.RowKit Go.Proofs.YtgihecpobichbaaW.PrintWords Go.Proofs.YtgihecpobichbaaW.PrintLast Go.Proofs.YtgihecpobichbaaW.PrintMore
set_option linter.unusedVariables false
set_option linter.unusedSimpArgs false

/-- A reader in block G, made since the world w0: what is left to read. -/
structure Rd (w0 w : World) (G : Nat) (l : List Int) (A : Option Addr) (c : Nat) : Prop where
  box : Boxed w G 168 (.slice A l.length c)
  has : Kd.C (Kd.int .u8) w0 A l.length l
  below : Below w0.heap.size w0 w
  young : w0.heap.size ≤ G
  room : l.length ≤ c
theorem Rd.now {w0 w : World} {G : Nat} {l : List Int} {A : Option Addr} {c : Nat} (h : Rd w0 w G l A c) : Kd.C (Kd.int .u8) w A l.length l := Kd.C_below h.has h.below
/-- Some reader of l in block G. -/
def RdS (w0 w : World) (G : Nat) (l : List Int) : Prop := ∃ A c, Rd w0 w G l A c
theorem gb_trans {w w1 w2 : World} {row : Option Nat} (h1 : w.grownBy w1 row) (h2 : w1.grownBy w2 row) : w.grownBy w2 row := by
  obtain ⟨a1, a2, a3, a4, a5⟩ := h1
  obtain ⟨b1, b2, b3, b4, b5⟩ := h2
  exact ⟨b1.trans a1, b2.trans a2, b3.trans a3, Nat.le_trans a4 b4, fun k hk hne => (b5 k (Nat.lt_of_lt_of_le hk a4) hne).trans (a5 k hk hne)⟩
end Go.Proofs.Ytgihecpobichbaa.Q
/- The list of ints of package code's reader: walked: items, read with its recover, Unnums. -/
namespace Go.Proofs.Ytgihecpobichbaa.Q
open Go.RowKit Go.Proofs.YtgihecpobichbaaW.PrintWords Go.Proofs.YtgihecpobichbaaW.PrintLast Go.Proofs.YtgihecpobichbaaW.PrintMore
set_option linter.unusedVariables false
set_option linter.unusedSimpArgs false

/-- The reader's world, a step on. -/
theorem RdS.step {w0 w w' : World} {G : Nat} {l : List Int} (h : RdS w0 w G l) {row : Option Nat} (hg : w.grownBy w' row) (hne : some G ≠ row) (hr : ∀ k, row = some k → w0.heap.size ≤ k) : RdS w0 w' G l := by
  obtain ⟨A, c, h⟩ := h
  have hlt := h.box.lt
  have hy := h.young
  exact ⟨A, c, h.box.kept hg hne, h.has, h.below.grown hg (by omega) hr, h.young, h.room⟩
theorem RdS.lt {w0 w : World} {G : Nat} {l : List Int} (h : RdS w0 w G l) : G < w.heap.size ∧ w0.heap.size ≤ G := by
  obtain ⟨A, c, h⟩ := h
  exact ⟨h.box.lt, h.young⟩
theorem gb_new {w w1 w2 : World} {r row : Option Nat} (h1 : w.grownBy w1 r) (h2 : w1.grownBy w2 row) (hn : ∀ k, row = some k → w.heap.size ≤ k) : w.grownBy w2 r := by
  obtain ⟨a1, a2, a3, a4, a5⟩ := h1
  obtain ⟨b1, b2, b3, b4, b5⟩ := h2
  exact ⟨b1.trans a1, b2.trans a2, b3.trans a3, Nat.le_trans a4 b4, fun k hk hne => (b5 k (Nat.lt_of_lt_of_le hk a4) (fun e => by have := hn k e.symm; omega)).trans (a5 k hk hne)⟩
theorem R_past {α : Type} {d : Kd α} {e : Nat} {w w1 : World} {base : Nat} {v : Value} {xs : List α} {G : Nat} (h : d.R e w base (fun _ => True) v xs) (hg : w.grownBy w1 (some G)) (hG : G < base) : d.R e w1 base (fun _ => True) v xs :=
  Kd.R_mono (Kd.R_grown (Kd.R_bound h) hg (fun k hk e => by injection e with e; have := hk.2.1; omega)) (fun _ hk => hk.1)
end Go.Proofs.Ytgihecpobichbaa.Q
/- code.Unnums: read with its deferred recover: walked. -/
namespace Go.Proofs.Ytgihecpobichbaa.Q
open Go.RowKit Go.Proofs.YtgihecpobichbaaW.PrintWords Go.Proofs.YtgihecpobichbaaW.PrintLast Go.Proofs.YtgihecpobichbaaW.PrintMore
set_option linter.unusedVariables false
set_option linter.unusedSimpArgs false

end Go.Proofs.Ytgihecpobichbaa.Q
/- A row of bytes that a conversion of a string lays, and what is appended to it: the row's mark stands where nothing is written. -/
namespace Go.Proofs.Ytgihecpobichbaa.Q
open Go.RowKit Go.Proofs.YtgihecpobichbaaW.PrintWords Go.Proofs.YtgihecpobichbaaW.PrintLast Go.Proofs.YtgihecpobichbaaW.PrintMore
set_option linter.unusedVariables false
set_option linter.unusedSimpArgs false

/-- v owns the bytes xs, in a block from base on. -/
def OwnB (w : World) (base : Nat) (e : TypeId) (v : Value) (xs : List Int) : Prop :=
  ∃ g cap cur fz, v = .slice (some ⟨g, 0, none⟩) xs.length cap ∧ base ≤ g ∧ w.heap[g]? = some (.cells cur e fz) ∧ (fz.2 ≤ xs.length ∨ cap ≤ fz.1) ∧ xs.length ≤ cap ∧ cap ≤ maxLen ∧ cur.size = cap ∧ cur.toList.take xs.length = nums .u8 xs
theorem OwnB.slice {w : World} {base : Nat} {e : TypeId} {v : Value} {xs : List Int} (h : OwnB w base e v xs) : ∃ A c, v = .slice A xs.length c := by
  obtain ⟨g, cap, cur, fz, h, _⟩ := h
  exact ⟨_, _, h⟩
theorem OwnB.lt {w : World} {base : Nat} {e : TypeId} {v : Value} {xs : List Int} (h : OwnB w base e v xs) : ∀ k, v.ownBlock = some k → base ≤ k ∧ k < w.heap.size := by
  intro k hk
  obtain ⟨g, cap, cur, fz, rfl, hb, hg, _⟩ := h
  simp [Value.ownBlock] at hk
  subst hk
  exact ⟨hb, (Array.getElem?_eq_some_iff.1 hg).1⟩
theorem OwnB.kept {w w' : World} {base : Nat} {e : TypeId} {v : Value} {xs : List Int} (h : OwnB w base e v xs) (hb : Below w.heap.size w w') : OwnB w' base e v xs := by
  obtain ⟨g, cap, cur, fz, rfl, h1, hg, rest⟩ := h
  refine ⟨g, cap, cur, fz, rfl, h1, ?_, rest⟩
  rw [hb.block g (Array.getElem?_eq_some_iff.1 hg).1]
  exact hg
theorem OwnB.cells {w : World} {base : Nat} {e : TypeId} {v : Value} {xs : List Int} (h : OwnB w base e v xs) {g : Nat} (hg : v.ownBlock = some g) : ∀ j u, (nums .u8 xs)[j]? = some u → w.cell? ((⟨g, 0, none⟩ : Addr).add j) = some u := by
  intro j u hu
  obtain ⟨g', cap, cur, fz, rfl, _, hgg, _, _, _, _, htake⟩ := h
  simp [Value.ownBlock] at hg
  subst hg
  have hadd : (⟨g', 0, none⟩ : Addr).add j = ⟨g', j, none⟩ := by unfold Addr.add; split <;> simp_all
  rw [hadd, cell_of_row w g' j cur e fz hgg]
  rw [← htake, List.getElem?_take] at hu
  split at hu
  · simpa using hu
  · cases hu
theorem OwnB.string {P : Program} {w : World} {base : Nat} {e' src dst e : TypeId} {v : Value} {xs : List Int} (hs : P.underlying src = some (.slice e)) (he : P.underlying e = some (.int .u8)) (hd : P.underlying dst = some .string)
    (h : OwnB w base e' v xs) : (convert src dst v).run P w = .ok (.string (strOfNums xs)) w := by
  have hc := fun g => h.cells (g := g)
  obtain ⟨g, cap, cur, fz, rfl, _⟩ := h
  refine run_convert_bytes_arg w src e hs he g 0 xs.length cap xs rfl (fun i hi => ?_) dst hd
  have hc := hc g rfl i (.int .u8 (xs.getD i 0)) (by simp [nums, List.getElem?_eq_getElem (show i < xs.length by omega), List.getD_eq_getElem?_getD])
  have ha : (⟨g, 0, none⟩ : Addr).add i = ⟨g, 0 + i, none⟩ := by unfold Addr.add; split <;> simp_all
  rwa [ha] at hc
section
variable {P : Program} {ops : Array Oper} {rest : List Oper} {o : Oper} {a : Act} {Q : Exit → Act → World → Prop}
end
end Go.Proofs.Ytgihecpobichbaa.Q
/- headgateref04.Nums: walked: the bytes of so many ints. -/
namespace Go.Proofs.Ytgihecpobichbaa.Q
open Go.RowKit Go.Proofs.YtgihecpobichbaaW.PrintWords Go.Proofs.YtgihecpobichbaaW.PrintLast Go.Proofs.YtgihecpobichbaaW.PrintMore
set_option linter.unusedVariables false
set_option linter.unusedSimpArgs false

end Go.Proofs.Ytgihecpobichbaa.Q
/- Ints as bytes and back: the package's and the document's, in plain words: no program in it. -/
namespace Go.Proofs.Ytgihecpobichbaa.Q
open Go.RowKit Go.Proofs.YtgihecpobichbaaW.PrintWords Go.Proofs.YtgihecpobichbaaW.PrintLast Go.Proofs.YtgihecpobichbaaW.PrintMore
set_option linter.unusedVariables false
set_option linter.unusedSimpArgs false

end Go.Proofs.Ytgihecpobichbaa.Q
-- Written by a program of the session over the translation's print: functions as plain Lean, and that the machine's call comes to them.
namespace Go.Proofs.Ytgihecpobichbaa.Q
open Go.RowKit Go.Proofs.YtgihecpobichbaaW.PrintWords Go.Proofs.YtgihecpobichbaaW.PrintLast Go.Proofs.YtgihecpobichbaaW.PrintMore
attribute [local go_sem] max2_int min2_int max_two min_two max_three min_three max_four min_four   -- for this text's walks alone
set_option linter.unusedVariables false
set_option linter.unusedSimpArgs false

attribute [local go_sem high] eqA83
/-! ### headgateref08_Right: function 42 -/
/-! ### headgateref08_Same: function 45 -/
end Go.Proofs.Ytgihecpobichbaa.Q
-- Written by a program of the session over the translation's print: functions as plain Lean, and that the machine's call comes to them.
namespace Go.Proofs.Ytgihecpobichbaa.Q
open Go.RowKit Go.Proofs.YtgihecpobichbaaW.PrintWords Go.Proofs.YtgihecpobichbaaW.PrintLast Go.Proofs.YtgihecpobichbaaW.PrintMore
attribute [local go_sem] max2_int min2_int max_two min_two max_three min_three max_four min_four   -- for this text's walks alone
set_option linter.unusedVariables false
set_option linter.unusedSimpArgs false

/-! ### offs_Check: function 100 -/
mutual
def offs_Check.j0 : Nat → List (S83) → Bool → Option (Int)
  | 0, _, _ => none
  | k + 1, x0, x12 => if x12 = true then (some 80) else (offs_Check.l0 k x0 (x0.length : Int) 0)
def offs_Check.l0 : Nat → List (S83) → Int → Int → Option (Int)
  | 0, _, _, _ => none
  | k + 1, x13, x14, x15 => if x15 < x14 then (if 0 ≤ x15 then (if x15 < (x13.length : Int) then (if ((rd_T83 x13 x15).f0) < 0 then (offs_Check.j2 k x13 x14 x15 true) else (if ((rd_T83 x13 x15).f1) < ((rd_T83 x13 x15).f0) then (offs_Check.j2 k x13 x14 x15 true) else (offs_Check.j2 k x13 x14 x15 (decide (((rd_T83 x13 x15).f1) > 1099511627776))))) else (none)) else (none)) else (some 0)
def offs_Check.j2 : Nat → List (S83) → Int → Int → Bool → Option (Int)
  | 0, _, _, _, _ => none
  | k + 1, x13, x14, x15, x33 => if x33 = true then (some 80) else (offs_Check.l0 k x13 x14 (wrap64 (x15 + 1)))
end
def offs_Check.f (k : Nat) (l0 : List (S83)) : Option (Int) := if (l0.length : Int) < 1 then (offs_Check.j0 k l0 true) else (offs_Check.j0 k l0 (decide ((l0.length : Int) > 4)))
set_option maxHeartbeats 8000000 in
set_option maxRecDepth 100000 in
theorem offs_Check.calls (k : Nat) (A0 : Option Addr) (c0 : Nat) (l0 : List (S83)) (r : Int) (w : World) (hr0 : Kd.C k83 w A0 l0.length l0) (hc0 : l0.length ≤ c0) (h : offs_Check.f k l0 = some r) :
    Calls Try.prog 100 #[.slice A0 l0.length c0] w fun e w' => e = .returned (.int .i64 r) ∧ Below w.heap.size w w' := by
  have hu83 := Try.underlying83
  have HR0 := Aside0.mk hr0
  have HC0 := Aside0.mk hc0
  clear hr0 hc0
  have HB := Aside0.mk (Below.refl w.heap.size w)
  have H : (if (l0.length : Int) < 1 then (offs_Check.j0 k l0 true) else (offs_Check.j0 k l0 (decide ((l0.length : Int) > 4)))) = some r := h
  clear h
  have HC2 := Aside0.mk H
  clear H
  go_enter Try.func100, Try.ntmps100
  go_upto_region 1 with (fail)
  go_cut [12] (fun v12 wc => ∃ (kq : Nat) (x12_1 : Bool), v12 = .bool x12_1 ∧ Aside0 (offs_Check.j0 kq l0 x12_1 = some r) ∧ Aside0 (kq ≤ k) ∧ Aside0 (Below w.heap.size w wc))
  case first =>
    have H := HC2.out
    clear HC2
    by_cases c3 : (l0.length : Int) < 1
    · rw [if_pos c3] at H
      have c3b0 : decide ((l0.length : Int) < 1) = true := decide_eq_true c3
      have c3b1 : decide (l0.length < 1) = true := decide_eq_true (by omega)
      clear c3
      (first | rw [c3b0] | (simp only [i64_w, i32_w]; rw [c3b0]) | skip)
      have H' := Aside0.mk H
      clear H
      go_wp2
      go_meet
      case rel => exact ⟨_, (true), (by first | rfl | (simp; done) | (simp [*]; done) | (simp; rw [Bool.eq_iff_iff]; simp; done)), H', ⟨by first | omega | exact Nat.le_refl _⟩, ⟨by repeat (first | (with_reducible first | exact HB.out | apply below_alloc | apply pw_below_drewN | apply below_drew1) | exact HB.out)⟩⟩
    · rw [if_neg c3] at H
      have c3b0 : decide ((l0.length : Int) < 1) = false := decide_eq_false c3
      have c3b1 : decide (l0.length < 1) = false := decide_eq_false (by omega)
      clear c3
      (first | rw [c3b0] | (simp only [i64_w, i32_w]; rw [c3b0]) | skip)
      have H' := Aside0.mk H
      clear H
      go_wp2
      go_meet
      case rel => exact ⟨_, (decide ((l0.length : Int) > 4)), (by first | rfl | (simp; done) | (simp [*]; done) | (simp; rw [Bool.eq_iff_iff]; simp; done)), H', ⟨by first | omega | exact Nat.le_refl _⟩, ⟨by repeat (first | (with_reducible first | exact HB.out | apply below_alloc | apply pw_below_drewN | apply below_drew1) | exact HB.out)⟩⟩
  case rest =>
    clear HC2
    try clear c1
    try clear p2
    try clear c3
    try clear c3b0
    try clear c3b1
    obtain ⟨kq, x12_1, rfl, HA, HJ1, HB⟩ := hcut
    cases kq with
    | zero => exact absurd HA.out (by simp [offs_Check.j0])
    | succ kj1 =>
      have H := HA.out
      clear HA
      simp only [offs_Check.j0] at H
      by_cases c4 : x12_1 = true
      · subst c4
        have H1 : (some 80) = some r := by rw [if_pos rfl] at H; exact H
        clear H
        have H := H1
        clear H1
        obtain rfl := Option.some.inj H
        go_wp2
        go_ret
        exact ⟨by first | rfl | (simp [errW_none, errW_some] <;> rfl) | (simp [*, errW_none, errW_some] <;> rfl), by repeat (first | (with_reducible first | exact HB.out | apply below_alloc | apply pw_below_drewN | apply below_drew1) | exact HB.out)⟩
      · replace c4 := Bool.eq_false_iff.mpr c4
        subst c4
        have H1 : (offs_Check.l0 kj1 l0 (l0.length : Int) 0) = some r := by rw [if_neg (show ¬ (false = true) by decide)] at H; exact H
        clear H
        have H := H1
        clear H1
        have H' := Aside0.mk H
        clear H
        go_wp2
        go_loopg [15] kj1 (fun kq v15 w' => ∃ (x15_2 : Int), v15 = .int .i64 x15_2 ∧ Aside0 (offs_Check.l0 kq l0 (l0.length : Int) x15_2 = some r) ∧ Aside0 (kq ≤ kj1) ∧ Aside0 (Below w.heap.size w w'))
        case atStart => exact ⟨(0), (by first | rfl | (simp; done) | (simp [*]; done) | (simp; rw [Bool.eq_iff_iff]; simp; done)), H', ⟨Nat.le_refl _⟩, ⟨by repeat (first | (with_reducible first | exact HB.out | apply below_alloc | apply pw_below_drewN | apply below_drew1) | exact HB.out)⟩⟩
        case round =>
          clear H'
          try clear c1
          try clear p2
          try clear c3
          try clear c3b0
          try clear c3b1
          try clear c4
          try clear p2
          obtain ⟨x15_2, rfl, HA, HK2, HB⟩ := hrel
          cases gk with
          | zero => exact absurd HA.out (by simp [offs_Check.l0])
          | succ k2 =>
            have H := HA.out
            clear HA
            simp only [offs_Check.l0] at H
            by_cases c5 : x15_2 < (l0.length : Int)
            · rw [if_pos c5] at H
              have c5b0 : decide (x15_2 < (l0.length : Int)) = true := decide_eq_true c5
              clear c5
              by_cases c6 : 0 ≤ x15_2
              · rw [if_pos c6] at H
                have c6b0 : decide (0 ≤ x15_2) = true := decide_eq_true c6
                clear c6
                by_cases c7 : x15_2 < (l0.length : Int)
                · rw [if_pos c7] at H
                  have c7b0 : decide (x15_2 < (l0.length : Int)) = true := decide_eq_true c7
                  clear c7
                  have HC8 := Aside0.mk H
                  clear H
                  have p135 : 0 ≤ (x15_2 : Int) := of_decide_eq_true (by first | (with_reducible assumption) | assumption)
                  have q135 : x15_2 < (l0.length : Int) := of_decide_eq_true (by first | (with_reducible assumption) | assumption)
                  obtain ⟨ad135, e135, hx135_0, hx135_1⟩ := at_T83 HR0.out x15_2 p135 q135
                  cases e135
                  replace hx135_0 := (HB.out.cell (World.block_lt_of_cell? w _ hx135_0)).trans hx135_0
                  replace hx135_1 := (HB.out.cell (World.block_lt_of_cell? w _ hx135_1)).trans hx135_1
                  replace p135 := eq_true p135
                  replace q135 := eq_true q135
                  go_upto_region 6 with (first | ((with_reducible refine gate_dst (N := 4) rfl ?_); (try (refine gate_guard (by rfl) ?_; dsimp only)); refine box_event ?hg (N := 4) ?hd (cs := #[.int .i64 0, .int .i64 0]) (t := 83) ?hr ?_; (case hd => rfl); (case hg => rfl); (case hr => first | (go_simp; done) | (go_simp; rfl)); intro gb136 hg w9 hbox hb; have n0_ := Aside0.mk (below_step (by repeat (first | (with_reducible first | exact HB.out | apply below_alloc | apply pw_below_drewN | apply below_drew1) | exact HB.out)) hb); have n1_ := Aside0.mk (hbox); have n2_ := Aside0.mk ((by rw [hg]; exact (below_size (by repeat (first | (with_reducible first | exact HB.out | apply below_alloc | apply pw_below_drewN | apply below_drew1) | exact HB.out))) : w.heap.size ≤ gb136)); have n3_ := Aside0.mk ((by rw [hg]; exact (below_size (by repeat (first | (with_reducible first | exact HB.out | apply below_alloc | apply pw_below_drewN | apply below_drew1) | exact HB.out))) : w.heap.size ≤ gb136)); clear HB; have HB := n0_; have BK136 := n1_; have GW136 := n2_; have GE136 := n3_; clear n0_ n1_ n2_ n3_; clear hb hbox hg; obtain ⟨hcz10_0, hcz10_1, hfz10_0, hfz10_1⟩ := bf2 BK136.out))
                  (try simp only [Act.put, List.setIfInBounds_toArray, List.set_cons_zero, List.set_cons_succ])
                  go_cut [33] (fun v33 wc => ∃ (kq : Nat) (x33_7 : Bool), v33 = .bool x33_7 ∧ Aside0 (offs_Check.j2 kq l0 (l0.length : Int) x15_2 x33_7 = some r) ∧ Aside0 (kq ≤ k2) ∧ Aside0 (wc.heap[gb136]? = some (.cells #[.int .i64 ((rd_T83 l0 x15_2).f0), .int .i64 ((rd_T83 l0 x15_2).f1)] 83 (0, 0))) ∧ Aside0 (Below w.heap.size w wc))
                  case first =>
                    have H := HC8.out
                    clear HC8
                    by_cases c11 : ((rd_T83 l0 x15_2).f0) < 0
                    · rw [if_pos c11] at H
                      have c11b0 : decide (((rd_T83 l0 x15_2).f0) < 0) = true := decide_eq_true c11
                      clear c11
                      (first | rw [c11b0] | (simp only [i64_w, i32_w]; rw [c11b0]) | skip)
                      have H' := Aside0.mk H
                      clear H
                      obtain ⟨hcz12_0, hcz12_1, hfz12_0, hfz12_1⟩ := bf2 BK136.out
                      go_wp2
                      go_meet
                      case rel => exact ⟨_, (true), (by first | rfl | (simp; done) | (simp [*]; done) | (simp; rw [Bool.eq_iff_iff]; simp; done)), H', ⟨by have := HJ1.out; have := HK2.out; first | omega | exact Nat.le_refl _⟩, ⟨by (with_reducible repeat (first | refine blk_drewN ?_ _ | refine blk_drew ?_ | refine blk_alloc ?_ _)); refine blk_put (cs := #[.int .i64 ((rd_T83 l0 x15_2).f0), .int .i64 0]) ?_ 1 _ rfl; (with_reducible repeat (first | refine blk_drewN ?_ _ | refine blk_drew ?_ | refine blk_alloc ?_ _)); refine blk_put (cs := #[.int .i64 0, .int .i64 0]) ?_ 0 _ rfl; (with_reducible repeat (first | refine blk_drewN ?_ _ | refine blk_drew ?_ | refine blk_alloc ?_ _)); exact BK136.out⟩, ⟨by repeat (first | (with_reducible first | exact HB.out | apply below_alloc | apply pw_below_drewN | apply below_drew1 | refine below_set ?_ GE136.out) | exact HB.out)⟩⟩
                    · rw [if_neg c11] at H
                      have c11b0 : decide (((rd_T83 l0 x15_2).f0) < 0) = false := decide_eq_false c11
                      clear c11
                      (first | rw [c11b0] | (simp only [i64_w, i32_w]; rw [c11b0]) | skip)
                      by_cases c13 : ((rd_T83 l0 x15_2).f1) < ((rd_T83 l0 x15_2).f0)
                      · rw [if_pos c13] at H
                        have c13b0 : decide (((rd_T83 l0 x15_2).f1) < ((rd_T83 l0 x15_2).f0)) = true := decide_eq_true c13
                        clear c13
                        have H' := Aside0.mk H
                        clear H
                        obtain ⟨hcz14_0, hcz14_1, hfz14_0, hfz14_1⟩ := bf2 BK136.out
                        go_wp2
                        go_meet
                        case rel => exact ⟨_, (true), (by first | rfl | (simp; done) | (simp [*]; done) | (simp; rw [Bool.eq_iff_iff]; simp; done)), H', ⟨by have := HJ1.out; have := HK2.out; first | omega | exact Nat.le_refl _⟩, ⟨by (with_reducible repeat (first | refine blk_drewN ?_ _ | refine blk_drew ?_ | refine blk_alloc ?_ _)); refine blk_put (cs := #[.int .i64 ((rd_T83 l0 x15_2).f0), .int .i64 0]) ?_ 1 _ rfl; (with_reducible repeat (first | refine blk_drewN ?_ _ | refine blk_drew ?_ | refine blk_alloc ?_ _)); refine blk_put (cs := #[.int .i64 0, .int .i64 0]) ?_ 0 _ rfl; (with_reducible repeat (first | refine blk_drewN ?_ _ | refine blk_drew ?_ | refine blk_alloc ?_ _)); exact BK136.out⟩, ⟨by repeat (first | (with_reducible first | exact HB.out | apply below_alloc | apply pw_below_drewN | apply below_drew1 | refine below_set ?_ GE136.out) | exact HB.out)⟩⟩
                      · rw [if_neg c13] at H
                        have c13b0 : decide (((rd_T83 l0 x15_2).f1) < ((rd_T83 l0 x15_2).f0)) = false := decide_eq_false c13
                        clear c13
                        have H' := Aside0.mk H
                        clear H
                        obtain ⟨hcz15_0, hcz15_1, hfz15_0, hfz15_1⟩ := bf2 BK136.out
                        go_wp2
                        go_meet
                        case rel => exact ⟨_, (decide (((rd_T83 l0 x15_2).f1) > 1099511627776)), (by first | rfl | (simp; done) | (simp [*]; done) | (simp; rw [Bool.eq_iff_iff]; simp; done)), H', ⟨by have := HJ1.out; have := HK2.out; first | omega | exact Nat.le_refl _⟩, ⟨by (with_reducible repeat (first | refine blk_drewN ?_ _ | refine blk_drew ?_ | refine blk_alloc ?_ _)); refine blk_put (cs := #[.int .i64 ((rd_T83 l0 x15_2).f0), .int .i64 0]) ?_ 1 _ rfl; (with_reducible repeat (first | refine blk_drewN ?_ _ | refine blk_drew ?_ | refine blk_alloc ?_ _)); refine blk_put (cs := #[.int .i64 0, .int .i64 0]) ?_ 0 _ rfl; (with_reducible repeat (first | refine blk_drewN ?_ _ | refine blk_drew ?_ | refine blk_alloc ?_ _)); exact BK136.out⟩, ⟨by repeat (first | (with_reducible first | exact HB.out | apply below_alloc | apply pw_below_drewN | apply below_drew1 | refine below_set ?_ GE136.out) | exact HB.out)⟩⟩
                  case rest =>
                    clear HC8
                    try clear c1
                    try clear p1
                    try clear q1
                    try clear hx1
                    try clear p2
                    try clear c3
                    try clear c3b0
                    try clear c3b1
                    try clear c4
                    try clear c5
                    try clear c5b0
                    try clear c6
                    try clear c6b0
                    try clear c7
                    try clear c7b0
                    try clear c10
                    try clear c11
                    try clear c11b0
                    try clear c13
                    try clear c13b0
                    try clear p13
                    try clear q13
                    try clear hx13
                    try clear hcz10_0
                    try clear hcz10_1
                    try clear hcz12_0
                    try clear hcz12_1
                    try clear hcz14_0
                    try clear hcz14_1
                    try clear hcz15_0
                    try clear hcz15_1
                    try clear hfz10_0
                    try clear hfz10_1
                    try clear hfz12_0
                    try clear hfz12_1
                    try clear hfz14_0
                    try clear hfz14_1
                    try clear hfz15_0
                    try clear hfz15_1
                    try clear hx135_0
                    try clear hx135_1
                    try clear p135
                    try clear p2
                    try clear q135
                    obtain ⟨kq, x33_7, rfl, HA, HJ7, BK136, HB⟩ := hcut
                    cases kq with
                    | zero => exact absurd HA.out (by simp [offs_Check.j2])
                    | succ kj7 =>
                      have H := HA.out
                      clear HA
                      simp only [offs_Check.j2] at H
                      by_cases c16 : x33_7 = true
                      · subst c16
                        have H1 : (some 80) = some r := by rw [if_pos rfl] at H; exact H
                        clear H
                        have H := H1
                        clear H1
                        obtain rfl := Option.some.inj H
                        go_wp2
                        go_ret
                        exact ⟨by first | rfl | (simp [errW_none, errW_some] <;> rfl) | (simp [*, errW_none, errW_some] <;> rfl), by repeat (first | (with_reducible first | exact HB.out | apply below_alloc | apply pw_below_drewN | apply below_drew1 | refine below_set ?_ GE136.out) | exact HB.out)⟩
                      · replace c16 := Bool.eq_false_iff.mpr c16
                        subst c16
                        have H1 : (offs_Check.l0 kj7 l0 (l0.length : Int) (wrap64 (x15_2 + 1))) = some r := by rw [if_neg (show ¬ (false = true) by decide)] at H; exact H
                        clear H
                        have H := H1
                        clear H1
                        have H' := Aside0.mk H
                        clear H
                        go_wp2
                        go_roundg kj7
                        case measure => have := HJ1.out; have := HK2.out; have := HJ7.out; omega
                        case rel => exact ⟨(wrap64 (x15_2 + 1)), (by first | rfl | (simp; done) | (simp [*]; done) | (simp; rw [Bool.eq_iff_iff]; simp; done)), H', ⟨by have := HJ1.out; have := HK2.out; have := HJ7.out; omega⟩, ⟨by repeat (first | (with_reducible first | exact HB.out | apply below_alloc | apply pw_below_drewN | apply below_drew1 | refine below_set ?_ GE136.out) | exact HB.out)⟩⟩
                · rw [if_neg c7] at H
                  exact absurd H (by simp)
              · rw [if_neg c6] at H
                exact absurd H (by simp)
            · rw [if_neg c5] at H
              have c5b0 : decide (x15_2 < (l0.length : Int)) = false := decide_eq_false c5
              clear c5
              obtain rfl := Option.some.inj H
              go_wp2
              go_ret
              exact ⟨by first | rfl | (simp [errW_none, errW_some] <;> rfl) | (simp [*, errW_none, errW_some] <;> rfl), by repeat (first | (with_reducible first | exact HB.out | apply below_alloc | apply pw_below_drewN | apply below_drew1) | exact HB.out)⟩

/-! ### offs_Unpack: function 44 -/
end Go.Proofs.Ytgihecpobichbaa.Q
-- Written by a program of the session over the translation's print: functions as plain Lean, and that the machine's call comes to them.
namespace Go.Proofs.Ytgihecpobichbaa.Q
open Go.RowKit Go.Proofs.YtgihecpobichbaaW.PrintWords Go.Proofs.YtgihecpobichbaaW.PrintLast Go.Proofs.YtgihecpobichbaaW.PrintMore
attribute [local go_sem] max2_int min2_int max_two min_two max_three min_three max_four min_four   -- for this text's walks alone
set_option linter.unusedVariables false
set_option linter.unusedSimpArgs false

/-! ### offs_Pack: function 41 -/
def offs_Pack.l0 : Nat → List (S83) → List Int → Int → Int → Option (List Int × Int)
  | 0, _, _, _, _ => none
  | k + 1, x0, x4, x14, x15 => if x15 < x14 then (if 0 ≤ x15 then (if x15 < (x0.length : Int) then (if 0 ≤ (wrap64 (2 * x15)) then (if (wrap64 (2 * x15)) < (x4.length : Int) then (if 0 ≤ (wrap64 ((wrap64 (2 * x15)) + 1)) then (if (wrap64 ((wrap64 (2 * x15)) + 1)) < (x4.length : Int) then (offs_Pack.l0 k x0 ((x4.set ((wrap64 (2 * x15)) : Int).toNat ((rd_T83 x0 x15).f0)).set ((wrap64 ((wrap64 (2 * x15)) + 1)) : Int).toNat ((rd_T83 x0 x15).f1)) x14 (wrap64 (x15 + 1))) else (none)) else (none)) else (none)) else (none)) else (none)) else (none)) else ((code_Nums.f k x4).bind fun bt155 => (some (bt155.1, bt155.2)))
def offs_Pack.f (k : Nat) (l0 : List (S83)) : Option (List Int × Int) := (offs_Check.f k l0).bind fun t147 => (if t147 = 0 then (if 0 ≤ (wrap64 (2 * (l0.length : Int))) then (if (wrap64 (2 * (l0.length : Int)) : Int).toNat ≤ 35184372088832 then (offs_Pack.l0 k l0 (List.replicate (wrap64 (2 * (l0.length : Int)) : Int).toNat 0) (l0.length : Int) 0) else (none)) else (none)) else (some (([] : List Int), 80)))
def offs_Pack.T7 : Bool × List (List Nat × List Nat) := (true, [([], []), ([], []), ([1], [1]), ([], []), ([], []), ([4], [4]), ([5], [5]), ([], []), ([], []), ([7, 8], [7, 8]), ([9], [9]), ([10], [10]), ([], []), ([], []), ([12, 13], [12, 13]), ([14], [14]), ([15], [15]), ([0, 2, 0, 1, 2, 7, 8, 9, 10, 11, 16], [0, 2]), ([17, 11, 0, 1, 2, 7, 8, 9, 10, 11, 16], [11, 17]), ([3, 6, 0, 1, 2, 3, 4, 5, 6, 7, 8, 9, 10, 11, 12, 13, 14, 15, 16, 17, 18], [3, 6]), ([19, 16, 18, 0, 1, 2, 3, 4, 5, 6, 7, 8, 9, 10, 11, 12, 13, 14, 15, 16, 17, 18], [16, 19])])
def offs_Pack.B7 : List Nat := [0, 0, 2, 0, 0, 16, 48, 0, 0, 384, 896, 1920, 0, 0, 12288, 28672, 61440, 130951, 262023, 524287, 1048575]
theorem offs_Pack.tab7 : rtab .any (opsOf Try.f41 7) = offs_Pack.T7 := by kernel_rfl
theorem offs_Pack.bits7 : waitsOk offs_Pack.T7.2 offs_Pack.B7 = true := by kernel_rfl
set_option maxHeartbeats 8000000 in
set_option maxRecDepth 100000 in
theorem offs_Pack.calls (k : Nat) (A0 : Option Addr) (c0 : Nat) (l0 : List (S83)) (r1 : List Int) (r2 : Int) (w : World) (hr0 : Kd.C k83 w A0 l0.length l0) (hc0 : l0.length ≤ c0) (h : offs_Pack.f k l0 = some (r1, r2)) :
    Calls Try.prog 41 #[.slice A0 l0.length c0] w fun e w' => ∃ v0_ : Value, e = .returned (.tuple #[v0_, .int .i64 r2]) ∧ Kd.R (Kd.int .u8) 5 w' w.heap.size (fun _ => True) v0_ r1 ∧ Below w.heap.size w w' := by
  have HR0 := Aside0.mk hr0
  have HC0 := Aside0.mk hc0
  clear hr0 hc0
  have HB := Aside0.mk (Below.refl w.heap.size w)
  have H : ((offs_Check.f k l0).bind fun t147 => (if t147 = 0 then (if 0 ≤ (wrap64 (2 * (l0.length : Int))) then (if (wrap64 (2 * (l0.length : Int)) : Int).toNat ≤ 35184372088832 then (offs_Pack.l0 k l0 (List.replicate (wrap64 (2 * (l0.length : Int)) : Int).toNat 0) (l0.length : Int) 0) else (none)) else (none)) else (some (([] : List Int), 80)))) = some (r1, r2) := h
  clear h
  replace H := Option.bind_eq_some_iff.mp H
  obtain ⟨t147, A20, H⟩ := H
  replace H : (if t147 = 0 then (if 0 ≤ (wrap64 (2 * (l0.length : Int))) then (if (wrap64 (2 * (l0.length : Int)) : Int).toNat ≤ 35184372088832 then (offs_Pack.l0 k l0 (List.replicate (wrap64 (2 * (l0.length : Int)) : Int).toNat 0) (l0.length : Int) 0) else (none)) else (none)) else (some (([] : List Int), 80))) = some (r1, r2) := H
  have A2 := Aside0.mk A20
  clear A20
  by_cases c3 : t147 = 0
  · rw [if_pos c3] at H
    have c3b0 : (t147 == 0) = true := beq_iff_eq.mpr c3
    have c3b1 : (t147 != 0) = false := bne_eq_false_iff_eq.mpr c3
    clear c3
    obtain ⟨ji4, hji4⟩ : ∃ j_ : Int, (wrap64 (2 * (l0.length : Int))) = j_ := ⟨_, rfl⟩
    replace H : (if 0 ≤ (ji4) then (if (ji4 : Int).toNat ≤ 35184372088832 then (offs_Pack.l0 k l0 (List.replicate (ji4 : Int).toNat 0) (l0.length : Int) 0) else (none)) else (none)) = some (r1, r2) := by first | (rw [hji4] at H; exact H) | (simp only [hji4] at H ⊢; exact H)
    (try rw [hji4] at A2)
    have hji4w : (IntKind.i64.wrap (2 * (l0.length : Int))) = ji4 := (i64_w _).trans hji4
    by_cases c5 : 0 ≤ (ji4)
    · rw [if_pos c5] at H
      have c5b0 := eq_true c5
      have c5b1 : decide (0 ≤ (ji4)) = true := decide_eq_true c5
      clear c5
      by_cases c6 : (ji4 : Int).toNat ≤ 35184372088832
      · rw [if_pos c6] at H
        have c6b0 := eq_true c6
        have c6b1 : decide ((ji4 : Int).toNat ≤ 35184372088832) = true := decide_eq_true c6
        clear c6
        obtain ⟨y148, hy148⟩ : ∃ y_ : List Int, y_ = (List.replicate (ji4 : Int).toNat 0) := ⟨_, rfl⟩
        replace H : (offs_Pack.l0 k l0 y148 (l0.length : Int) 0) = some (r1, r2) := by first | (rw [hy148]; with_reducible exact H) | (have H2_ := (Option.bind_some _ _).symm.trans H; rw [hy148]; with_reducible exact H2_) | (have H2_ := (Option.bind_some _ _).symm.trans H; with_reducible exact H2_) | with_reducible exact H | (rw [hy148]; exact H) | exact H
        have Ny148 := Aside0.mk hy148
        clear hy148
        have H' := Aside0.mk H
        clear H
        go_enter Try.func41, Try.ntmps41
        go_wp2_with (first | ((with_reducible refine gate_callee (f := 100) rfl ?_); refine goesL_ (some 7) rfl rfl Try.func100 (by kernel_rfl) rfl #[.slice A0 l0.length c0] rfl (by (try simp only [List.map_toArray, List.map_cons, List.map_nil]); first | done | rfl | (simp only [List.length_drop, List.length_take]; rfl) | exact congrArg (fun x_ : Int => #[Value.int .u64 x_]) (show _ = _ % (18446744073709551616 : Int) by omega)) ?_; (with_reducible refine (offs_Check.calls k _ _ l0 t147 _ ?side1 ?side2 A2.out).mono ?_); (case side1 => repeat (first | exact HR0.out | (with_reducible refine Kd.C_alloc ?_ _) | (with_reducible refine Kd.C_drewN ?_ _) | (with_reducible refine Kd.C_drew ?_))); (case side2 => exact HC0.out); rintro e w7 ⟨rfl, hb⟩; refine ⟨_, rfl, ?_⟩; have n0_ := Aside0.mk (below_step (by repeat (first | (with_reducible first | exact HB.out | apply below_alloc | apply pw_below_drewN | apply below_drew1) | exact HB.out)) hb); clear HB; have HB := n0_; clear n0_; (try clear hb); (try clear hb2); (try clear hk); (try clear hi)) | ((with_reducible refine gate_dst (N := 12) rfl ?_); refine Kd.R_make (Kd.int .i64) _ 2 rfl (N := 12) rfl 40 _ _ rfl ji4 rfl rfl Try.underlying40 (.int .i64 0) 8 info2 rfl (by decide) (by omega) 0 (ok := fun _ => True) (okp := fun _ => True) rfl (fun _ hk => hk) trivial (of_decide_eq_true (by first | (with_reducible assumption) | assumption)) (Nat.le_trans (Nat.mul_le_mul_right _ (of_decide_eq_true (by first | (with_reducible assumption) | assumption) : ji4.toNat ≤ 35184372088832)) (by omega)) (Below.refl _ _) (Nat.le_refl _) ?_; intro v149 w8 ho9 hb hg_ hnew_; clear hg_ hnew_; (first | rw [← Ny148.out] at ho9 | (simp only [Int.reduceToNat] at ho9; rw [← Ny148.out] at ho9)); have n0_ := Aside0.mk (Kd.R_lower ho9 (below_size (by repeat (first | (with_reducible first | exact HB.out | apply below_alloc | apply pw_below_drewN | apply below_drew1) | exact HB.out)))); have n1_ := Aside0.mk (below_step (by repeat (first | (with_reducible first | exact HB.out | apply below_alloc | apply pw_below_drewN | apply below_drew1) | exact HB.out)) hb); clear HB; have HO150 := n0_; have HB := n1_; clear n0_ n1_; clear hb ho9))
        go_loopg [15] k (fun kq v15 w' => ∃ (x4_1 : List Int) (x15_1 : Int), v15 = .int .i64 x15_1 ∧ Aside0 (offs_Pack.l0 kq l0 x4_1 (l0.length : Int) x15_1 = some (r1, r2)) ∧ Aside0 (kq ≤ k) ∧ Aside0 (Kd.R (Kd.int .i64) 2 w' w.heap.size (fun _ => True) v149 x4_1) ∧ Aside0 (Below w.heap.size w w'))
        case atStart => exact ⟨(y148), (0), (by first | rfl | (simp; done) | (simp [*]; done) | (simp; rw [Bool.eq_iff_iff]; simp; done)), H', ⟨Nat.le_refl _⟩, ⟨by (with_reducible repeat (first | apply Kd.R_alloc | apply Kd.R_drewN | apply Kd.R_drew)); exact HO150.out⟩, ⟨by repeat (first | (with_reducible first | exact HB.out | apply below_alloc | apply pw_below_drewN | apply below_drew1) | exact HB.out)⟩⟩
        case round =>
          clear H'
          try clear c1
          try clear p2
          try clear c3
          try clear c3b0
          try clear c3b1
          try clear c4
          try clear c5
          try clear c5b0
          try clear c5b1
          try clear c6
          try clear c6b0
          try clear c6b1
          try clear p6
          obtain ⟨x4_1, x15_1, rfl, HA, HK1, HO_4, HB⟩ := hrel
          cases gk with
          | zero => exact absurd HA.out (by simp [offs_Pack.l0])
          | succ k1 =>
            have H := HA.out
            clear HA
            simp only [offs_Pack.l0] at H
            by_cases c10 : x15_1 < (l0.length : Int)
            · rw [if_pos c10] at H
              have c10b0 : decide (x15_1 < (l0.length : Int)) = true := decide_eq_true c10
              clear c10
              by_cases c11 : 0 ≤ x15_1
              · rw [if_pos c11] at H
                have c11b0 : decide (0 ≤ x15_1) = true := decide_eq_true c11
                clear c11
                by_cases c12 : x15_1 < (l0.length : Int)
                · rw [if_pos c12] at H
                  have c12b0 : decide (x15_1 < (l0.length : Int)) = true := decide_eq_true c12
                  clear c12
                  obtain ⟨ji13, hji13⟩ : ∃ j_ : Int, (wrap64 (2 * x15_1)) = j_ := ⟨_, rfl⟩
                  replace H : (if 0 ≤ (ji13) then (if (ji13) < (x4_1.length : Int) then (if 0 ≤ (wrap64 ((ji13) + 1)) then (if (wrap64 ((ji13) + 1)) < (x4_1.length : Int) then (offs_Pack.l0 k1 l0 ((x4_1.set ((ji13) : Int).toNat ((rd_T83 l0 x15_1).f0)).set ((wrap64 ((ji13) + 1)) : Int).toNat ((rd_T83 l0 x15_1).f1)) (l0.length : Int) (wrap64 (x15_1 + 1))) else (none)) else (none)) else (none)) else (none)) = some (r1, r2) := by first | (rw [hji13] at H; exact H) | (simp only [hji13] at H ⊢; exact H)
                  have hji13w : (IntKind.i64.wrap (2 * x15_1)) = ji13 := (i64_w _).trans hji13
                  by_cases c14 : 0 ≤ (ji13)
                  · rw [if_pos c14] at H
                    have c14b0 : decide (0 ≤ (ji13)) = true := decide_eq_true c14
                    clear c14
                    by_cases c15 : (ji13) < (x4_1.length : Int)
                    · rw [if_pos c15] at H
                      have c15b0 : decide ((ji13) < (x4_1.length : Int)) = true := decide_eq_true c15
                      clear c15
                      obtain ⟨y153, hy153⟩ : ∃ y_ : List Int, y_ = (x4_1.set ((ji13) : Int).toNat ((rd_T83 l0 x15_1).f0)) := ⟨_, rfl⟩
                      replace H : (if 0 ≤ (wrap64 ((ji13) + 1)) then (if (wrap64 ((ji13) + 1)) < (x4_1.length : Int) then (offs_Pack.l0 k1 l0 (y153.set ((wrap64 ((ji13) + 1)) : Int).toNat ((rd_T83 l0 x15_1).f1)) (l0.length : Int) (wrap64 (x15_1 + 1))) else (none)) else (none)) = some (r1, r2) := by first | (rw [hy153]; with_reducible exact H) | (have H2_ := (Option.bind_some _ _).symm.trans H; rw [hy153]; with_reducible exact H2_) | (have H2_ := (Option.bind_some _ _).symm.trans H; with_reducible exact H2_) | with_reducible exact H | (rw [hy153]; exact H) | exact H
                      have Ny153 := Aside0.mk hy153
                      clear hy153
                      obtain ⟨ji17, hji17⟩ : ∃ j_ : Int, (wrap64 ((ji13) + 1)) = j_ := ⟨_, rfl⟩
                      replace H : (if 0 ≤ (ji17) then (if (ji17) < (x4_1.length : Int) then (offs_Pack.l0 k1 l0 (y153.set ((ji17) : Int).toNat ((rd_T83 l0 x15_1).f1)) (l0.length : Int) (wrap64 (x15_1 + 1))) else (none)) else (none)) = some (r1, r2) := by first | (rw [hji17] at H; exact H) | (simp only [hji17] at H ⊢; exact H)
                      have hji17w : (IntKind.i64.wrap ((ji13) + 1)) = ji17 := (i64_w _).trans hji17
                      by_cases c18 : 0 ≤ (ji17)
                      · rw [if_pos c18] at H
                        have c18b0 : decide (0 ≤ (ji17)) = true := decide_eq_true c18
                        clear c18
                        by_cases c19 : (ji17) < (x4_1.length : Int)
                        · rw [if_pos c19] at H
                          have c19b0 : decide ((ji17) < (x4_1.length : Int)) = true := decide_eq_true c19
                          clear c19
                          obtain ⟨y154, hy154⟩ : ∃ y_ : List Int, y_ = (y153.set ((ji17) : Int).toNat ((rd_T83 l0 x15_1).f1)) := ⟨_, rfl⟩
                          replace H : (offs_Pack.l0 k1 l0 y154 (l0.length : Int) (wrap64 (x15_1 + 1))) = some (r1, r2) := by first | (rw [hy154]; with_reducible exact H) | (have H2_ := (Option.bind_some _ _).symm.trans H; rw [hy154]; with_reducible exact H2_) | (have H2_ := (Option.bind_some _ _).symm.trans H; with_reducible exact H2_) | with_reducible exact H | (rw [hy154]; exact H) | exact H
                          have Ny154 := Aside0.mk hy154
                          clear hy154
                          have H' := Aside0.mk H
                          clear H
                          try go_wp2
                          have n0_ := Aside0.mk (Kd.R_drew HO_4.out)
                          have n1_ := Aside0.mk (below_drew1 HB.out)
                          clear HO_4
                          clear HB
                          have HO_4 := n0_
                          have HB := n1_
                          clear n0_ n1_
                          have p151 : 0 ≤ (x15_1 : Int) := of_decide_eq_true (by first | (with_reducible assumption) | assumption)
                          have q151 : x15_1 < (l0.length : Int) := of_decide_eq_true (by first | (with_reducible assumption) | assumption)
                          obtain ⟨ad151, e151, hx151_0, hx151_1⟩ := at_T83 HR0.out x15_1 p151 q151
                          have hw151_1 := hx151_1
                          have hw151_0 := hx151_0
                          cases e151
                          replace hx151_0 := (HB.out.cell (World.block_lt_of_cell? w _ hx151_0)).trans hx151_0
                          replace hx151_1 := (HB.out.cell (World.block_lt_of_cell? w _ hx151_1)).trans hx151_1
                          replace p151 := eq_true p151
                          replace q151 := eq_true q151
                          have p152 : 0 ≤ (x15_1 : Int) := of_decide_eq_true (by first | (with_reducible assumption) | assumption)
                          have q152 : x15_1 < (l0.length : Int) := of_decide_eq_true (by first | (with_reducible assumption) | assumption)
                          obtain ⟨ad152, e152, hx152_0, hx152_1⟩ := at_T83 HR0.out x15_1 p152 q152
                          have hw152_1 := hx152_1
                          have hw152_0 := hx152_0
                          obtain rfl : ad151 = ad152 := (by injection e152)
                          replace hx152_0 := (HB.out.cell (World.block_lt_of_cell? w _ hx152_0)).trans hx152_0
                          replace hx152_1 := (HB.out.cell (World.block_lt_of_cell? w _ hx152_1)).trans hx152_1
                          replace p152 := eq_true p152
                          replace q152 := eq_true q152
                          have p16 : 0 ≤ ((ji13) : Int) := of_decide_eq_true (by first | (with_reducible assumption) | assumption)
                          have q16 : ((ji13) : Int) < ((x4_1.length : Int) : Int) := of_decide_eq_true (by first | (with_reducible assumption) | assumption)
                          obtain ⟨go16, co16, eo16, gb16, gl16, cl16, HG16⟩ := Kd.R_form HO_4.out (by omega)
                          (first | cases eo16 | (injection eo16 with ea_ en_ ec_; (first | subst ea_ | (injection ea_ with ea_; subst ea_)); subst ec_; clear en_))
                          have GB16 := Aside0.mk gb16
                          have GG16 := Aside0.mk HG16
                          clear gb16 gl16 HG16
                          obtain ⟨hx16_0, hf16_0⟩ := Kd.R_celln 0 HO_4.out ((ji13) : Int) p16 q16
                          replace p16 := eq_true p16
                          replace q16 := eq_true q16
                          have HP22 := Kd.R_putn HO_4.out ((ji13) : Int) ((rd_T83 l0 x15_1).f0)
                          rw [← Ny153.out] at HP22
                          have HQ22 := Aside0.mk HP22
                          clear HP22
                          have p20 : 0 ≤ ((ji17) : Int) := of_decide_eq_true (by first | (with_reducible assumption) | assumption)
                          have q20 : ((ji17) : Int) < ((x4_1.length : Int) : Int) := of_decide_eq_true (by first | (with_reducible assumption) | assumption)
                          obtain ⟨hx20_0, hf20_0⟩ := Kd.R_celln 0 HQ22.out ((ji17) : Int) p20 q20
                          replace p20 := eq_true p20
                          replace q20 := eq_true q20
                          have HP23 := Kd.R_putn HQ22.out ((ji17) : Int) ((rd_T83 l0 x15_1).f1)
                          rw [← Ny154.out] at HP23
                          have HQ23 := Aside0.mk HP23
                          clear HP23
                          refine start_ (n := 21) (S := fun w' => w'.cell? (ad151.add ((x15_1).toNat * 2)) = some (.int .i64 ((rd_T83 l0 x15_1).f0)) ∧ w'.cell? ⟨(ad151.add ((x15_1).toNat * 2)).block, (ad151.add ((x15_1).toNat * 2)).off + 1, none⟩ = some (.int .i64 ((rd_T83 l0 x15_1).f1)) ∧ w'.cell? (ad151.add ((x15_1).toNat * 2)) = some (.int .i64 ((rd_T83 l0 x15_1).f0)) ∧ w'.cell? ⟨(ad151.add ((x15_1).toNat * 2)).block, (ad151.add ((x15_1).toNat * 2)).off + 1, none⟩ = some (.int .i64 ((rd_T83 l0 x15_1).f1))) (ds := [18, 20]) #[false, false, false, false, false, false, false, false, false, false, false, false, false, false, false, false, false, false, false, false, false] (by kernel_rfl) rfl rfl ⟨((HB.out.cell (World.block_lt_of_cell? w _ hw151_0)).trans hw151_0), ((HB.out.cell (World.block_lt_of_cell? w _ hw151_1)).trans hw151_1), ((HB.out.cell (World.block_lt_of_cell? w _ hw152_0)).trans hw152_0), ((HB.out.cell (World.block_lt_of_cell? w _ hw152_1)).trans hw152_1)⟩ (fun hHeld => ?_); refine with_tabW offs_Pack.tab7 offs_Pack.bits7 (fun HT_ HW_ => ?_)
                          generalize wr.drew = w21 at HO_4 HB GG16 HQ22 HQ23 hf16_0 hf20_0 hx151_0 hx151_1 hx152_0 hx152_1 hx16_0 hx20_0 hHeld ⊢
                          refine pure_ (i := 0) (N := some 18) (v := ?_) (a' := ?_) #[true, false, false, false, false, false, false, false, false, false, false, false, false, false, false, false, false, false, false, false, false] rfl rfl (any_of HT_.out (by kernel_rfl)) (fun _ _ _ h => h) (Or.inl ⟨by rfl, ?_⟩) ?_ ?_
                          rotate_left
                          · intro w'
                            go_simp
                            with_reducible rfl
                          rotate_left
                          · simp only [Act.put, List.setIfInBounds_toArray, List.set_cons_zero, List.set_cons_succ, i64_w, i32_w]
                            rfl
                          refine pure_ (i := 1) (N := some 19) (v := ?_) (a' := ?_) #[true, true, false, false, false, false, false, false, false, false, false, false, false, false, false, false, false, false, false, false, false] rfl rfl (any_of HT_.out (by kernel_rfl)) (fun _ _ _ h => h) (Or.inl ⟨by rfl, ?_⟩) ?_ ?_
                          rotate_left
                          · intro w'
                            go_simp
                            with_reducible rfl
                          rotate_left
                          · simp only [Act.put, List.setIfInBounds_toArray, List.set_cons_zero, List.set_cons_succ, i64_w, i32_w]
                            rfl
                          refine pure_ (i := 2) (N := some 20) (v := ?_) (a' := ?_) #[true, true, true, false, false, false, false, false, false, false, false, false, false, false, false, false, false, false, false, false, false] rfl rfl (any_of HT_.out (by kernel_rfl)) (fun _ _ _ h => h) (Or.inl ⟨by rfl, ?_⟩) ?_ ?_
                          rotate_left
                          · intro w'
                            go_simp
                            with_reducible rfl
                          rotate_left
                          · simp only [Act.put, List.setIfInBounds_toArray, List.set_cons_zero, List.set_cons_succ, i64_w, i32_w]
                            rfl
                          refine pure_ (i := 3) (N := some 21) (v := ?_) (a' := ?_) #[true, true, true, true, false, false, false, false, false, false, false, false, false, false, false, false, false, false, false, false, false] rfl rfl (any_of HT_.out (by kernel_rfl)) (fun _ _ _ h => h) (Or.inl ⟨by rfl, ?_⟩) ?_ ?_
                          rotate_left
                          · intro w'
                            go_simp
                            with_reducible rfl
                          rotate_left
                          · simp only [Act.put, List.setIfInBounds_toArray, List.set_cons_zero, List.set_cons_succ, i64_w, i32_w]
                            rfl
                          refine pure_ (i := 4) (N := some 22) (v := ?_) (a' := ?_) #[true, true, true, true, true, false, false, false, false, false, false, false, false, false, false, false, false, false, false, false, false] rfl rfl (any_of HT_.out (by kernel_rfl)) (fun _ _ _ h => h) (Or.inl ⟨by rfl, ?_⟩) ?_ ?_
                          rotate_left
                          · intro w'
                            go_simp
                            with_reducible rfl
                          rotate_left
                          · simp only [Act.put, List.setIfInBounds_toArray, List.set_cons_zero, List.set_cons_succ, i64_w, i32_w]
                            rfl
                          refine pure_ (i := 5) (N := some 23) (v := ?_) (a' := ?_) #[true, true, true, true, true, true, false, false, false, false, false, false, false, false, false, false, false, false, false, false, false] rfl rfl (any_of HT_.out (by kernel_rfl)) (fun _ _ _ h => h) (Or.inl ⟨by rfl, ?_⟩) ?_ ?_
                          rotate_left
                          · intro w'
                            go_simp
                            with_reducible rfl
                          rotate_left
                          · simp only [Act.put, List.setIfInBounds_toArray, List.set_cons_zero, List.set_cons_succ, i64_w, i32_w]
                            rfl
                          refine pure_ (i := 6) (N := some 24) (v := ?_) (a' := ?_) #[true, true, true, true, true, true, true, false, false, false, false, false, false, false, false, false, false, false, false, false, false] rfl rfl (any_of HT_.out (by kernel_rfl)) (fun _ _ _ h => h) (Or.inl ⟨by rfl, ?_⟩) ?_ ?_
                          rotate_left
                          · intro w'
                            go_simp
                            with_reducible rfl
                          rotate_left
                          · simp only [Act.put, List.setIfInBounds_toArray, List.set_cons_zero, List.set_cons_succ, i64_w, i32_w]
                            rfl
                          refine pure_ (i := 7) (N := some 25) (v := ?_) (a' := ?_) #[true, true, true, true, true, true, true, true, false, false, false, false, false, false, false, false, false, false, false, false, false] rfl rfl (any_of HT_.out (by kernel_rfl)) (fun _ _ _ h => h) (Or.inl ⟨by rfl, ?_⟩) ?_ ?_
                          rotate_left
                          · intro w'
                            go_simp
                            with_reducible rfl
                          rotate_left
                          · simp only [Act.put, List.setIfInBounds_toArray, List.set_cons_zero, List.set_cons_succ, i64_w, i32_w]
                            rfl
                          refine pure_ (i := 8) (N := some 26) (v := ?_) (a' := ?_) #[true, true, true, true, true, true, true, true, true, false, false, false, false, false, false, false, false, false, false, false, false] rfl rfl (any_of HT_.out (by kernel_rfl)) (fun _ _ _ h => h) (Or.inl ⟨by rfl, ?_⟩) ?_ ?_
                          rotate_left
                          · intro w'
                            go_simp
                            with_reducible rfl
                          rotate_left
                          · simp only [Act.put, List.setIfInBounds_toArray, List.set_cons_zero, List.set_cons_succ, i64_w, i32_w]
                            rfl
                          refine pure_ (i := 9) (N := some 27) (v := ?_) (a' := ?_) #[true, true, true, true, true, true, true, true, true, true, false, false, false, false, false, false, false, false, false, false, false] rfl rfl (any_of HT_.out (by kernel_rfl)) (fun _ _ _ h => h) (Or.inl ⟨by rfl, ?_⟩) ?_ ?_
                          rotate_left
                          · intro w'
                            go_simp
                            with_reducible rfl
                          rotate_left
                          · simp only [Act.put, List.setIfInBounds_toArray, List.set_cons_zero, List.set_cons_succ, i64_w, i32_w]
                            rfl
                          refine pure_ (i := 10) (N := some 28) (v := ?_) (a' := ?_) #[true, true, true, true, true, true, true, true, true, true, true, false, false, false, false, false, false, false, false, false, false] rfl rfl (any_of HT_.out (by kernel_rfl)) (fun _ _ _ h => h) (Or.inl ⟨by rfl, ?_⟩) ?_ ?_
                          rotate_left
                          · intro w'
                            go_simp
                            with_reducible rfl
                          rotate_left
                          · simp only [Act.put, List.setIfInBounds_toArray, List.set_cons_zero, List.set_cons_succ, i64_w, i32_w]
                            rfl
                          refine pure_ (i := 12) (N := some 30) (v := ?_) (a' := ?_) #[true, true, true, true, true, true, true, true, true, true, true, false, true, false, false, false, false, false, false, false, false] rfl rfl (any_of HT_.out (by kernel_rfl)) (fun _ _ _ h => h) (Or.inl ⟨by rfl, ?_⟩) ?_ ?_
                          rotate_left
                          · intro w'
                            go_simp
                            with_reducible rfl
                          rotate_left
                          · simp only [Act.put, List.setIfInBounds_toArray, List.set_cons_zero, List.set_cons_succ, i64_w, i32_w]
                            rfl
                          refine pure_ (i := 13) (N := some 31) (v := ?_) (a' := ?_) #[true, true, true, true, true, true, true, true, true, true, true, false, true, true, false, false, false, false, false, false, false] rfl rfl (any_of HT_.out (by kernel_rfl)) (fun _ _ _ h => h) (Or.inl ⟨by rfl, ?_⟩) ?_ ?_
                          rotate_left
                          · intro w'
                            go_simp
                            with_reducible rfl
                          rotate_left
                          · simp only [Act.put, List.setIfInBounds_toArray, List.set_cons_zero, List.set_cons_succ, i64_w, i32_w]
                            rfl
                          refine pure_ (i := 14) (N := some 32) (v := ?_) (a' := ?_) #[true, true, true, true, true, true, true, true, true, true, true, false, true, true, true, false, false, false, false, false, false] rfl rfl (any_of HT_.out (by kernel_rfl)) (fun _ _ _ h => h) (Or.inl ⟨by rfl, ?_⟩) ?_ ?_
                          rotate_left
                          · intro w'
                            go_simp
                            with_reducible rfl
                          rotate_left
                          · simp only [Act.put, List.setIfInBounds_toArray, List.set_cons_zero, List.set_cons_succ, i64_w, i32_w]
                            rfl
                          refine pure_ (i := 15) (N := some 33) (v := ?_) (a' := ?_) #[true, true, true, true, true, true, true, true, true, true, true, false, true, true, true, true, false, false, false, false, false] rfl rfl (any_of HT_.out (by kernel_rfl)) (fun _ _ _ h => h) (Or.inl ⟨by rfl, ?_⟩) ?_ ?_
                          rotate_left
                          · intro w'
                            go_simp
                            with_reducible rfl
                          rotate_left
                          · simp only [Act.put, List.setIfInBounds_toArray, List.set_cons_zero, List.set_cons_succ, i64_w, i32_w]
                            rfl
                          refine take_ (i := 11) (N := some 29) (v := ?_) (a' := ?_) #[true, true, true, true, true, true, true, true, true, true, true, true, true, true, true, true, false, false, false, false, false] rfl rfl (take_ofW HT_.out HW_.out (by kernel_rfl)) (fun _ _ _ h => h) (Or.inl ⟨by rfl, ?_⟩) hHeld ?_ ?_
                          rotate_left
                          · rintro w' ⟨s0, s1, s2, s3⟩
                            go_simp
                            with_reducible rfl
                          rotate_left
                          · simp only [Act.put, List.setIfInBounds_toArray, List.set_cons_zero, List.set_cons_succ, i64_w, i32_w]
                            rfl
                          refine take_ (i := 16) (N := some 34) (v := ?_) (a' := ?_) #[true, true, true, true, true, true, true, true, true, true, true, true, true, true, true, true, true, false, false, false, false] rfl rfl (take_ofW HT_.out HW_.out (by kernel_rfl)) (fun _ _ _ h => h) (Or.inl ⟨by rfl, ?_⟩) hHeld ?_ ?_
                          rotate_left
                          · rintro w' ⟨s0, s1, s2, s3⟩
                            go_simp
                            with_reducible rfl
                          rotate_left
                          · simp only [Act.put, List.setIfInBounds_toArray, List.set_cons_zero, List.set_cons_succ, i64_w, i32_w]
                            rfl
                          refine pure_ (i := 17) (N := some 35) (v := ?_) (a' := ?_) #[true, true, true, true, true, true, true, true, true, true, true, true, true, true, true, true, true, true, false, false, false] rfl rfl (any_of HT_.out (by kernel_rfl)) (fun _ _ _ h => h) (Or.inl ⟨by rfl, ?_⟩) ?_ ?_
                          rotate_left
                          · intro w'
                            go_simp
                            with_reducible rfl
                          rotate_left
                          · simp only [Act.put, List.setIfInBounds_toArray, List.set_cons_zero, List.set_cons_succ, i64_w, i32_w]
                            rfl
                          refine last_ (i := 18) (N := none) #[true, true, true, true, true, true, true, true, true, true, true, true, true, true, true, true, true, true, true, false, false] rfl rfl (one_of HT_.out (by kernel_rfl)) (by decide) (fun K hK => ?_)
                          refine skip_ (w1 := ?_) (by rfl) rfl ?_ ?_
                          rotate_left
                          · go_simp
                            rfl
                          refine hK.out _ _ ?_
                          clear hK K
                          refine pure_ (i := 19) (N := some 36) (v := ?_) (a' := ?_) #[true, true, true, true, true, true, true, true, true, true, true, true, true, true, true, true, true, true, true, true, false] rfl rfl (any_of HT_.out (by kernel_rfl)) (fun _ _ _ h => h) (Or.inl ⟨by rfl, ?_⟩) ?_ ?_
                          rotate_left
                          · intro w'
                            go_simp
                            with_reducible rfl
                          rotate_left
                          · simp only [Act.put, List.setIfInBounds_toArray, List.set_cons_zero, List.set_cons_succ, i64_w, i32_w]
                            rfl
                          refine last_ (i := 20) (N := none) #[true, true, true, true, true, true, true, true, true, true, true, true, true, true, true, true, true, true, true, true, true] rfl rfl (one_of HT_.out (by kernel_rfl)) (by decide) (fun K hK => ?_)
                          refine skip_ (w1 := ?_) (by rfl) rfl ?_ ?_
                          rotate_left
                          · go_simp
                            rfl
                          refine hK.out _ _ ?_
                          clear hK K
                          refine done_ (done_of HT_.out (by kernel_rfl)) ?_
                          try go_wp2
                          go_roundg k1
                          case measure => have := HK1.out; omega
                          case rel => exact ⟨(y154), (wrap64 (x15_1 + 1)), (by first | rfl | (simp; done) | (simp [*]; done) | (simp; rw [Bool.eq_iff_iff]; simp; done)), H', ⟨by have := HK1.out; omega⟩, ⟨by (with_reducible repeat (first | apply Kd.R_alloc | apply Kd.R_drewN | apply Kd.R_drew)); exact HQ23.out⟩, ⟨by repeat (first | (with_reducible first | exact HB.out | apply below_alloc | apply pw_below_drewN | apply below_drew1 | refine below_set ?_ GB16.out | refine below_set ?_ GB16.out) | exact HB.out)⟩⟩
                        · rw [if_neg c19] at H
                          exact absurd H (by simp)
                      · rw [if_neg c18] at H
                        exact absurd H (by simp)
                    · rw [if_neg c15] at H
                      exact absurd H (by simp)
                  · rw [if_neg c14] at H
                    exact absurd H (by simp)
                · rw [if_neg c12] at H
                  exact absurd H (by simp)
              · rw [if_neg c11] at H
                exact absurd H (by simp)
            · rw [if_neg c10] at H
              have c10b0 : decide (x15_1 < (l0.length : Int)) = false := decide_eq_false c10
              clear c10
              replace H := Option.bind_eq_some_iff.mp H
              obtain ⟨⟨t155, t156⟩, A240, H⟩ := H
              replace H : (some (t155, t156)) = some (r1, r2) := H
              have A24 := Aside0.mk A240
              clear A240
              simp only [Option.some.injEq, Prod.mk.injEq] at H
              obtain ⟨rfl, rfl⟩ := H
              obtain ⟨Ao25, co25, eo25⟩ := Kd.R_slice HO_4.out
              subst eo25
              go_wp2_with (first | ((with_reducible refine gate_callee (f := 27) rfl ?_); refine goesL_ (some 39) rfl rfl Try.func27 (by kernel_rfl) rfl #[.slice Ao25 x4_1.length co25] rfl (by (try simp only [List.map_toArray, List.map_cons, List.map_nil]); first | done | rfl | (simp only [List.length_drop, List.length_take]; rfl) | exact congrArg (fun x_ : Int => #[Value.int .u64 x_]) (show _ = _ % (18446744073709551616 : Int) by omega)) ?_; (with_reducible refine (code_Nums.calls k1 _ _ x4_1 t155 t156 _ ?side1 ?side2 A24.out).mono ?_); (case side1 => repeat (first | exact (Kd.R_reads' HO_4.out).2.2 | (with_reducible refine Kd.C_alloc ?_ _) | (with_reducible refine Kd.C_drewN ?_ _) | (with_reducible refine Kd.C_drew ?_))); (case side2 => exact (Kd.R_reads' HO_4.out).2.1); rintro e w26 ⟨v157, rfl, ho0, hb⟩; refine ⟨_, rfl, ?_⟩; have n0_ := Aside0.mk (Kd.R_below (by (with_reducible repeat (first | apply Kd.R_alloc | apply Kd.R_drewN | apply Kd.R_drew)); exact HO_4.out) hb); have n1_ := Aside0.mk (Kd.R_lower ho0 (below_size (by repeat (first | (with_reducible first | exact HB.out | apply below_alloc | apply pw_below_drewN | apply below_drew1) | exact HB.out)))); have n2_ := Aside0.mk (below_step (by repeat (first | (with_reducible first | exact HB.out | apply below_alloc | apply pw_below_drewN | apply below_drew1) | exact HB.out)) hb); clear HO_4; clear HB; have HO_4 := n0_; have HO158 := n1_; have HB := n2_; clear n0_ n1_ n2_; (try clear hb); (try clear hb2); (try clear hk); (try clear hi); (try clear ho0)))
              go_ret2
              exact ⟨_, by first | rfl | (simp [errW_none, errW_some] <;> rfl) | (simp only [← hji4]; first | rfl | (simp [errW_none, errW_some] <;> rfl)) | (simp [*, errW_none, errW_some] <;> rfl), by (with_reducible repeat (first | apply Kd.R_alloc | apply Kd.R_drewN | apply Kd.R_drew)); exact HO158.out, by repeat (first | (with_reducible first | exact HB.out | apply below_alloc | apply pw_below_drewN | apply below_drew1) | exact HB.out)⟩
      · rw [if_neg c6] at H
        exact absurd H (by simp)
    · rw [if_neg c5] at H
      exact absurd H (by simp)
  · rw [if_neg c3] at H
    have c3b0 : (t147 == 0) = false := beq_eq_false_iff_ne.mpr c3
    have c3b1 : (t147 != 0) = true := bne_iff_ne.mpr c3
    simp only [Option.some.injEq, Prod.mk.injEq] at H
    obtain ⟨rfl, rfl⟩ := H
    go_enter Try.func41, Try.ntmps41
    go_wp2_with (first | ((with_reducible refine gate_callee (f := 100) rfl ?_); refine goesL_ (some 7) rfl rfl Try.func100 (by kernel_rfl) rfl #[.slice A0 l0.length c0] rfl (by (try simp only [List.map_toArray, List.map_cons, List.map_nil]); first | done | rfl | (simp only [List.length_drop, List.length_take]; rfl) | exact congrArg (fun x_ : Int => #[Value.int .u64 x_]) (show _ = _ % (18446744073709551616 : Int) by omega)) ?_; (with_reducible refine (offs_Check.calls k _ _ l0 t147 _ ?side1 ?side2 A2.out).mono ?_); (case side1 => repeat (first | exact HR0.out | (with_reducible refine Kd.C_alloc ?_ _) | (with_reducible refine Kd.C_drewN ?_ _) | (with_reducible refine Kd.C_drew ?_))); (case side2 => exact HC0.out); rintro e w27 ⟨rfl, hb⟩; refine ⟨_, rfl, ?_⟩; have n0_ := Aside0.mk (below_step (by repeat (first | (with_reducible first | exact HB.out | apply below_alloc | apply pw_below_drewN | apply below_drew1) | exact HB.out)) hb); clear HB; have HB := n0_; clear n0_; (try clear hb); (try clear hb2); (try clear hk); (try clear hi)))
    go_ret2
    exact ⟨_, by first | rfl | (simp [errW_none, errW_some] <;> rfl) | (simp [*, errW_none, errW_some] <;> rfl), by first | exact Kd.R_nil _ _ _ _ _ | exact Kd.N_nil _ _ _ _ _ | exact Kd.V_nil _ _ _ _ _ | exact Kd.Q_nil _ _ _ _ _ | exact Kd.S_nil _ _ _ _ _, by repeat (first | (with_reducible first | exact HB.out | apply below_alloc | apply pw_below_drewN | apply below_drew1) | exact HB.out)⟩

end Go.Proofs.Ytgihecpobichbaa.Q
-- Written by a program of the session over the translation's print: functions as plain Lean, and that the machine's call comes to them.
namespace Go.Proofs.Ytgihecpobichbaa.Q
open Go.RowKit Go.Proofs.YtgihecpobichbaaW.PrintWords Go.Proofs.YtgihecpobichbaaW.PrintLast Go.Proofs.YtgihecpobichbaaW.PrintMore
attribute [local go_sem] max2_int min2_int max_two min_two max_three min_three max_four min_four   -- for this text's walks alone
set_option linter.unusedVariables false
set_option linter.unusedSimpArgs false

/-! ### headgateref08_Unpack: function 46 -/
end Go.Proofs.Ytgihecpobichbaa.Q
-- Written by a program of the session over the translation's print: functions as plain Lean, and that the machine's call comes to them.
namespace Go.Proofs.Ytgihecpobichbaa.Q
open Go.RowKit Go.Proofs.YtgihecpobichbaaW.PrintWords Go.Proofs.YtgihecpobichbaaW.PrintLast Go.Proofs.YtgihecpobichbaaW.PrintMore
attribute [local go_sem] max2_int min2_int max_two min_two max_three min_three max_four min_four   -- for this text's walks alone
set_option linter.unusedVariables false
set_option linter.unusedSimpArgs false

/-! ### headgateref19_Pack: function 54 -/
/-! ### headgateref08_Pack: function 43 -/
end Go.Proofs.Ytgihecpobichbaa.Q
-- Written by a program of the session over the translation's print: functions as plain Lean, and that the machine's call comes to them.
namespace Go.Proofs.Ytgihecpobichbaa.Q
open Go.RowKit Go.Proofs.YtgihecpobichbaaW.PrintWords Go.Proofs.YtgihecpobichbaaW.PrintLast Go.Proofs.YtgihecpobichbaaW.PrintMore
attribute [local go_sem] max2_int min2_int max_two min_two max_three min_three max_four min_four   -- for this text's walks alone
set_option linter.unusedVariables false
set_option linter.unusedSimpArgs false

/-! ### offs_Start: function 98 -/
def offs_Start.f (a0 : Int) : Option ((List (S83)) × Int) := if a0 < 1 then (some (([] : List (S83)), 80)) else (if a0 > 4 then (some (([] : List (S83)), 80)) else (if 0 ≤ a0 then (if (a0 : Int).toNat ≤ 17592186044416 then (some ((List.replicate (a0 : Int).toNat z83), 0)) else (none)) else (none)))
set_option maxHeartbeats 8000000 in
set_option maxRecDepth 100000 in
theorem offs_Start.calls (a0 : Int) (r1 : List (S83)) (r2 : Int) (w : World) (h : offs_Start.f a0 = some (r1, r2)) :
    Calls Try.prog 98 #[.int .i64 a0] w fun e w' => ∃ v0_ : Value, e = .returned (.tuple #[v0_, .int .i64 r2]) ∧ Kd.R k83 83 w' w.heap.size (fun _ => True) v0_ r1 ∧ Below w.heap.size w w' := by
  have HB := Aside0.mk (Below.refl w.heap.size w)
  have H : (if a0 < 1 then (some (([] : List (S83)), 80)) else (if a0 > 4 then (some (([] : List (S83)), 80)) else (if 0 ≤ a0 then (if (a0 : Int).toNat ≤ 17592186044416 then (some ((List.replicate (a0 : Int).toNat z83), 0)) else (none)) else (none)))) = some (r1, r2) := h
  clear h
  by_cases c2 : a0 < 1
  · rw [if_pos c2] at H
    have c2b0 : decide (a0 < 1) = true := decide_eq_true c2
    clear c2
    simp only [Option.some.injEq, Prod.mk.injEq] at H
    obtain ⟨rfl, rfl⟩ := H
    go_enter Try.func98, Try.ntmps98
    go_wp2
    go_ret2
    exact ⟨_, by first | rfl | (simp [errW_none, errW_some] <;> rfl) | (simp [*, errW_none, errW_some] <;> rfl), by first | exact Kd.R_nil _ _ _ _ _ | exact Kd.N_nil _ _ _ _ _ | exact Kd.V_nil _ _ _ _ _ | exact Kd.Q_nil _ _ _ _ _ | exact Kd.S_nil _ _ _ _ _, by repeat (first | (with_reducible first | exact HB.out | apply below_alloc | apply pw_below_drewN | apply below_drew1) | exact HB.out)⟩
  · rw [if_neg c2] at H
    have c2b0 : decide (a0 < 1) = false := decide_eq_false c2
    clear c2
    by_cases c3 : a0 > 4
    · rw [if_pos c3] at H
      have c3b0 : decide (4 < a0) = true := decide_eq_true c3
      clear c3
      simp only [Option.some.injEq, Prod.mk.injEq] at H
      obtain ⟨rfl, rfl⟩ := H
      go_enter Try.func98, Try.ntmps98
      go_wp2
      go_ret2
      exact ⟨_, by first | rfl | (simp [errW_none, errW_some] <;> rfl) | (simp [*, errW_none, errW_some] <;> rfl), by first | exact Kd.R_nil _ _ _ _ _ | exact Kd.N_nil _ _ _ _ _ | exact Kd.V_nil _ _ _ _ _ | exact Kd.Q_nil _ _ _ _ _ | exact Kd.S_nil _ _ _ _ _, by repeat (first | (with_reducible first | exact HB.out | apply below_alloc | apply pw_below_drewN | apply below_drew1) | exact HB.out)⟩
    · rw [if_neg c3] at H
      have c3b0 : decide (4 < a0) = false := decide_eq_false c3
      clear c3
      by_cases c4 : 0 ≤ a0
      · rw [if_pos c4] at H
        have c4b0 := eq_true c4
        have c4b1 : decide (0 ≤ a0) = true := decide_eq_true c4
        clear c4
        by_cases c5 : (a0 : Int).toNat ≤ 17592186044416
        · rw [if_pos c5] at H
          have c5b0 := eq_true c5
          have c5b1 : decide ((a0 : Int).toNat ≤ 17592186044416) = true := decide_eq_true c5
          clear c5
          obtain ⟨y101, hy101⟩ : ∃ y_ : List (S83), y_ = (List.replicate (a0 : Int).toNat z83) := ⟨_, rfl⟩
          replace H : (some (y101, 0)) = some (r1, r2) := by first | (rw [hy101]; with_reducible exact H) | (have H2_ := (Option.bind_some _ _).symm.trans H; rw [hy101]; with_reducible exact H2_) | (have H2_ := (Option.bind_some _ _).symm.trans H; with_reducible exact H2_) | with_reducible exact H | (rw [hy101]; exact H) | exact H
          have Ny101 := Aside0.mk hy101
          clear hy101
          simp only [Option.some.injEq, Prod.mk.injEq] at H
          obtain ⟨rfl, rfl⟩ := H
          go_enter Try.func98, Try.ntmps98
          go_wp2_with (first | ((with_reducible refine gate_dst (N := 11) rfl ?_); refine Kd.R_make k83 _ 83 rfl (N := 11) rfl 81 _ _ rfl a0 rfl rfl Try.underlying81 (.agg #[(.int .i64 0), (.int .i64 0)]) 16 info83 rfl (by decide) (by omega) z83 (ok := fun _ => True) (okp := fun _ => True) (k83_mkM _ _ _ z83 ) (fun _ hk => hk) trivial (of_decide_eq_true (by first | (with_reducible assumption) | assumption)) (Nat.le_trans (Nat.mul_le_mul_right _ (of_decide_eq_true (by first | (with_reducible assumption) | assumption) : a0.toNat ≤ 17592186044416)) (by omega)) (Below.refl _ _) (Nat.le_refl _) ?_; intro v102 w6 ho7 hb hg_ hnew_; clear hg_ hnew_; (first | rw [← Ny101.out] at ho7 | (simp only [Int.reduceToNat] at ho7; rw [← Ny101.out] at ho7)); have n0_ := Aside0.mk (Kd.R_lower ho7 (below_size (by repeat (first | (with_reducible first | exact HB.out | apply below_alloc | apply pw_below_drewN | apply below_drew1) | exact HB.out)))); have n1_ := Aside0.mk (below_step (by repeat (first | (with_reducible first | exact HB.out | apply below_alloc | apply pw_below_drewN | apply below_drew1) | exact HB.out)) hb); clear HB; have HO103 := n0_; have HB := n1_; clear n0_ n1_; clear hb ho7))
          go_ret2
          exact ⟨_, by first | rfl | (simp [errW_none, errW_some] <;> rfl) | (simp [*, errW_none, errW_some] <;> rfl), by (with_reducible repeat (first | apply Kd.R_alloc | apply Kd.R_drewN | apply Kd.R_drew)); exact HO103.out, by repeat (first | (with_reducible first | exact HB.out | apply below_alloc | apply pw_below_drewN | apply below_drew1) | exact HB.out)⟩
        · rw [if_neg c5] at H
          exact absurd H (by simp)
      · rw [if_neg c4] at H
        exact absurd H (by simp)

/-! ### offs_Follows_1: function 118 -/
def offs_Follows_1.f (a0_0 : Int) (a0_1 : Int) (a1_0 : Int) (a1_1 : Int) : Option (Bool) := some (a0_1 == a1_0)
set_option maxHeartbeats 8000000 in
set_option maxRecDepth 100000 in
theorem offs_Follows_1.calls (a0_0 : Int) (a0_1 : Int) (a1_0 : Int) (a1_1 : Int) (r : Bool) (w : World) (h : offs_Follows_1.f a0_0 a0_1 a1_0 a1_1 = some r) :
    Calls Try.prog 118 #[.agg #[.int .i64 a0_0, .int .i64 a0_1], .agg #[.int .i64 a1_0, .int .i64 a1_1]] w fun e w' => e = .returned (.bool r) ∧ Below w.heap.size w w' := by
  have hu83 := Try.underlying83
  have HB := Aside0.mk (Below.refl w.heap.size w)
  have H : (some (a0_1 == a1_0)) = some r := h
  clear h
  obtain rfl := Option.some.inj H
  go_enter Try.func118, Try.ntmps118
  go_wp2_with (first | ((with_reducible refine gate_dst (N := 2) rfl ?_); refine box_event ?hg (N := 2) ?hd (cs := #[.int .i64 a0_0, .int .i64 a0_1]) (t := 83) ?hr ?_; (case hd => rfl); (case hg => rfl); (case hr => first | (go_simp; done) | (go_simp; rfl)); intro gb104 hg w3 hbox hb; have n0_ := Aside0.mk (below_step (by repeat (first | (with_reducible first | exact HB.out | apply below_alloc | apply pw_below_drewN | apply below_drew1) | exact HB.out)) hb); have n1_ := Aside0.mk (hbox); have n2_ := Aside0.mk ((by rw [hg]; exact (below_size (by repeat (first | (with_reducible first | exact HB.out | apply below_alloc | apply pw_below_drewN | apply below_drew1) | exact HB.out))) : w.heap.size ≤ gb104)); have n3_ := Aside0.mk ((by rw [hg]; exact (below_size (by repeat (first | (with_reducible first | exact HB.out | apply below_alloc | apply pw_below_drewN | apply below_drew1) | exact HB.out))) : w.heap.size ≤ gb104)); clear HB; have HB := n0_; have BK104 := n1_; have GW104 := n2_; have GE104 := n3_; clear n0_ n1_ n2_ n3_; clear hb hbox hg) | ((with_reducible refine gate_dst (N := 3) rfl ?_); refine box_event ?hg (N := 3) ?hd (cs := #[.int .i64 a1_0, .int .i64 a1_1]) (t := 83) ?hr ?_; (case hd => rfl); (case hg => rfl); (case hr => first | (go_simp; done) | (go_simp; rfl)); intro gb105 hg w4 hbox hb; have n0_ := Aside0.mk (blk_below (g := gb104) (o := .cells #[.int .i64 a0_0, .int .i64 a0_1] 83 (0, 0)) (by (with_reducible repeat (first | refine blk_drewN ?_ _ | refine blk_drew ?_ | refine blk_alloc ?_ _)); exact BK104.out) hb); have n1_ := Aside0.mk (below_step (by repeat (first | (with_reducible first | exact HB.out | apply below_alloc | apply pw_below_drewN | apply below_drew1 | refine below_set ?_ GE104.out) | exact HB.out)) hb); have n2_ := Aside0.mk (hbox); have n3_ := Aside0.mk ((by rw [hg]; exact (below_size (by repeat (first | (with_reducible first | exact HB.out | apply below_alloc | apply pw_below_drewN | apply below_drew1 | refine below_set ?_ GE104.out) | exact HB.out))) : w.heap.size ≤ gb105)); have n4_ := Aside0.mk ((by rw [hg]; exact (below_size (by repeat (first | (with_reducible first | exact HB.out | apply below_alloc | apply pw_below_drewN | apply below_drew1 | refine below_set ?_ GE104.out) | exact HB.out))) : w.heap.size ≤ gb105)); have n5_ := Aside0.mk ((by rw [hg]; exact Nat.ne_of_lt (blk_lt (g := gb104) (o := .cells #[.int .i64 a0_0, .int .i64 a0_1] 83 (0, 0)) (by (with_reducible repeat (first | refine blk_drewN ?_ _ | refine blk_drew ?_ | refine blk_alloc ?_ _)); exact BK104.out)) : gb104 ≠ gb105)); have n6_ := Aside0.mk ((by rw [hg]; exact Nat.ne_of_gt (blk_lt (g := gb104) (o := .cells #[.int .i64 a0_0, .int .i64 a0_1] 83 (0, 0)) (by (with_reducible repeat (first | refine blk_drewN ?_ _ | refine blk_drew ?_ | refine blk_alloc ?_ _)); exact BK104.out)) : gb105 ≠ gb104)); clear BK104; clear HB; have BK104 := n0_; have HB := n1_; have BK105 := n2_; have GW105 := n3_; have GE105 := n4_; have NB104_105 := n5_; have NB105_104 := n6_; clear n0_ n1_ n2_ n3_ n4_ n5_ n6_; clear hb hbox hg; have hnb5 := NB104_105.out; have hnc5 := NB105_104.out; obtain ⟨hcz6_0, hcz6_1, hfz6_0, hfz6_1⟩ := bf2 BK104.out; obtain ⟨hcz7_0, hcz7_1, hfz7_0, hfz7_1⟩ := bf2 BK105.out))
  go_ret
  exact ⟨by first | rfl | (simp [errW_none, errW_some] <;> rfl) | (simp [*, errW_none, errW_some] <;> rfl), by repeat (first | (with_reducible first | exact HB.out | apply below_alloc | apply pw_below_drewN | apply below_drew1 | refine below_set ?_ GE104.out | refine below_set ?_ GE105.out) | exact HB.out)⟩

/-! ### api_Range: function 117 -/
def api_Range.l0 : Nat → List (S83) → List (S83) → Int → Int → Option (Bool)
  | 0, _, _, _, _ => none
  | k + 1, x0, x1, x14, x15 => if x15 < x14 then (if 0 ≤ x15 then (if x15 < (x0.length : Int) then (if x15 < (x1.length : Int) then ((offs_Follows_1.f ((rd_T83 x0 x15).f0) ((rd_T83 x0 x15).f1) ((rd_T83 x1 x15).f0) ((rd_T83 x1 x15).f1)).bind fun t108 => (if t108 = true then (api_Range.l0 k x0 x1 x14 (wrap64 (x15 + 1))) else (some false))) else (none)) else (none)) else (none)) else (some true)
def api_Range.f (k : Nat) (l0 : List (S83)) (l1 : List (S83)) (a2 : Unit) : Option (Bool) := if (l0.length : Int) = (l1.length : Int) then (api_Range.l0 k l0 l1 (l0.length : Int) 0) else (some false)
def api_Range.T6 : Bool × List (List Nat × List Nat) := (true, [([], []), ([], []), ([], []), ([1, 2], [1, 2]), ([3], [3]), ([], []), ([], []), ([5, 6], [5, 6]), ([7], [7]), ([0, 4, 8], [0, 4, 8]), ([9], [9])])
def api_Range.B6 : List Nat := [0, 0, 0, 6, 14, 0, 0, 96, 224, 511, 1023]
theorem api_Range.tab6 : rtab .any (opsOf Try.f117 6) = api_Range.T6 := by kernel_rfl
theorem api_Range.bits6 : waitsOk api_Range.T6.2 api_Range.B6 = true := by kernel_rfl
set_option maxHeartbeats 8000000 in
set_option maxRecDepth 100000 in
theorem api_Range.calls (k : Nat) (A0 : Option Addr) (c0 : Nat) (l0 : List (S83)) (A1 : Option Addr) (c1 : Nat) (l1 : List (S83)) (a2 : Unit) (r : Bool) (w : World) (hr0 : Kd.C k83 w A0 l0.length l0) (hc0 : l0.length ≤ c0) (hr1 : Kd.C k83 w A1 l1.length l1) (hc1 : l1.length ≤ c1) (h : api_Range.f k l0 l1 a2 = some r) :
    Calls Try.prog 117 #[.slice A0 l0.length c0, .slice A1 l1.length c1, .func (.func 118) #[] #[]] w fun e w' => e = .returned (.bool r) ∧ Below w.heap.size w w' := by
  have hu83 := Try.underlying83
  have HR0 := Aside0.mk hr0
  have HC0 := Aside0.mk hc0
  clear hr0 hc0
  have HR1 := Aside0.mk hr1
  have HC1 := Aside0.mk hc1
  clear hr1 hc1
  have HB := Aside0.mk (Below.refl w.heap.size w)
  have H : (if (l0.length : Int) = (l1.length : Int) then (api_Range.l0 k l0 l1 (l0.length : Int) 0) else (some false)) = some r := h
  clear h
  by_cases c4 : (l0.length : Int) = (l1.length : Int)
  · rw [if_pos c4] at H
    have c4b0 : ((l0.length : Int) == (l1.length : Int)) = true := beq_iff_eq.mpr c4
    have c4b1 : ((l0.length : Int) != (l1.length : Int)) = false := bne_eq_false_iff_eq.mpr c4
    have c4b2 : (l0.length == l1.length) = true := by first | simpa using c4 | (simp at c4 ⊢; omega)
    clear c4
    have H' := Aside0.mk H
    clear H
    go_enter Try.func117, Try.ntmps117
    go_wp2
    go_loopg [15] k (fun kq v15 w' => ∃ (x15_1 : Int), v15 = .int .i64 x15_1 ∧ Aside0 (api_Range.l0 kq l0 l1 (l0.length : Int) x15_1 = some r) ∧ Aside0 (kq ≤ k) ∧ Aside0 (Below w.heap.size w w'))
    case atStart => exact ⟨(0), (by first | rfl | (simp; done) | (simp [*]; done) | (simp; rw [Bool.eq_iff_iff]; simp; done)), H', ⟨Nat.le_refl _⟩, ⟨by repeat (first | (with_reducible first | exact HB.out | apply below_alloc | apply pw_below_drewN | apply below_drew1) | exact HB.out)⟩⟩
    case round =>
      clear H'
      try clear c1
      try clear p2
      try clear c4
      try clear c4b0
      try clear c4b1
      try clear c4b2
      obtain ⟨x15_1, rfl, HA, HK1, HB⟩ := hrel
      cases gk with
      | zero => exact absurd HA.out (by simp [api_Range.l0])
      | succ k1 =>
        have H := HA.out
        clear HA
        simp only [api_Range.l0] at H
        by_cases c5 : x15_1 < (l0.length : Int)
        · rw [if_pos c5] at H
          have c5b0 : decide (x15_1 < (l0.length : Int)) = true := decide_eq_true c5
          clear c5
          by_cases c6 : 0 ≤ x15_1
          · rw [if_pos c6] at H
            have c6b0 : decide (0 ≤ x15_1) = true := decide_eq_true c6
            clear c6
            by_cases c7 : x15_1 < (l0.length : Int)
            · rw [if_pos c7] at H
              have c7b0 : decide (x15_1 < (l0.length : Int)) = true := decide_eq_true c7
              clear c7
              by_cases c8 : x15_1 < (l1.length : Int)
              · rw [if_pos c8] at H
                have c8b0 : decide (x15_1 < (l1.length : Int)) = true := decide_eq_true c8
                clear c8
                replace H := Option.bind_eq_some_iff.mp H
                obtain ⟨t108, A90, H⟩ := H
                replace H : (if t108 = true then (api_Range.l0 k1 l0 l1 (l0.length : Int) (wrap64 (x15_1 + 1))) else (some false)) = some r := H
                have A9 := Aside0.mk A90
                clear A90
                by_cases c10 : t108 = true
                · subst c10
                  have H1 : (api_Range.l0 k1 l0 l1 (l0.length : Int) (wrap64 (x15_1 + 1))) = some r := by rw [if_pos rfl] at H; exact H
                  clear H
                  have H := H1
                  clear H1
                  have H' := Aside0.mk H
                  clear H
                  try go_wp2
                  have n0_ := Aside0.mk (below_drew1 HB.out)
                  clear HB
                  have HB := n0_
                  clear n0_
                  have p106 : 0 ≤ (x15_1 : Int) := of_decide_eq_true (by first | (with_reducible assumption) | assumption)
                  have q106 : x15_1 < (l0.length : Int) := of_decide_eq_true (by first | (with_reducible assumption) | assumption)
                  obtain ⟨ad106, e106, hx106_0, hx106_1⟩ := at_T83 HR0.out x15_1 p106 q106
                  have hw106_1 := hx106_1
                  have hw106_0 := hx106_0
                  cases e106
                  replace hx106_0 := (HB.out.cell (World.block_lt_of_cell? w _ hx106_0)).trans hx106_0
                  replace hx106_1 := (HB.out.cell (World.block_lt_of_cell? w _ hx106_1)).trans hx106_1
                  replace p106 := eq_true p106
                  replace q106 := eq_true q106
                  have p107 : 0 ≤ (x15_1 : Int) := of_decide_eq_true (by first | (with_reducible assumption) | assumption)
                  have q107 : x15_1 < (l1.length : Int) := of_decide_eq_true (by first | (with_reducible assumption) | assumption)
                  obtain ⟨ad107, e107, hx107_0, hx107_1⟩ := at_T83 HR1.out x15_1 p107 q107
                  have hw107_1 := hx107_1
                  have hw107_0 := hx107_0
                  cases e107
                  replace hx107_0 := (HB.out.cell (World.block_lt_of_cell? w _ hx107_0)).trans hx107_0
                  replace hx107_1 := (HB.out.cell (World.block_lt_of_cell? w _ hx107_1)).trans hx107_1
                  replace p107 := eq_true p107
                  replace q107 := eq_true q107
                  refine start_ (n := 11) (S := fun w' => w'.cell? (ad106.add ((x15_1).toNat * 2)) = some (.int .i64 ((rd_T83 l0 x15_1).f0)) ∧ w'.cell? ⟨(ad106.add ((x15_1).toNat * 2)).block, (ad106.add ((x15_1).toNat * 2)).off + 1, none⟩ = some (.int .i64 ((rd_T83 l0 x15_1).f1)) ∧ w'.cell? (ad107.add ((x15_1).toNat * 2)) = some (.int .i64 ((rd_T83 l1 x15_1).f0)) ∧ w'.cell? ⟨(ad107.add ((x15_1).toNat * 2)).block, (ad107.add ((x15_1).toNat * 2)).off + 1, none⟩ = some (.int .i64 ((rd_T83 l1 x15_1).f1))) (ds := []) #[false, false, false, false, false, false, false, false, false, false, false] (by kernel_rfl) rfl rfl ⟨((HB.out.cell (World.block_lt_of_cell? w _ hw106_0)).trans hw106_0), ((HB.out.cell (World.block_lt_of_cell? w _ hw106_1)).trans hw106_1), ((HB.out.cell (World.block_lt_of_cell? w _ hw107_0)).trans hw107_0), ((HB.out.cell (World.block_lt_of_cell? w _ hw107_1)).trans hw107_1)⟩ (fun hHeld => ?_); refine with_tabW api_Range.tab6 api_Range.bits6 (fun HT_ HW_ => ?_)
                  generalize wr.drew = w11 at HB hx106_0 hx106_1 hx107_0 hx107_1 hHeld ⊢
                  refine pure_ (i := 0) (N := some 18) (v := ?_) (a' := ?_) #[true, false, false, false, false, false, false, false, false, false, false] rfl rfl (any_of HT_.out (by kernel_rfl)) (fun _ _ _ h => h) (Or.inl ⟨by rfl, ?_⟩) ?_ ?_
                  rotate_left
                  · intro w'
                    go_simp
                    with_reducible rfl
                  rotate_left
                  · simp only [Act.put, List.setIfInBounds_toArray, List.set_cons_zero, List.set_cons_succ, i64_w, i32_w]
                    rfl
                  refine pure_ (i := 1) (N := some 19) (v := ?_) (a' := ?_) #[true, true, false, false, false, false, false, false, false, false, false] rfl rfl (any_of HT_.out (by kernel_rfl)) (fun _ _ _ h => h) (Or.inl ⟨by rfl, ?_⟩) ?_ ?_
                  rotate_left
                  · intro w'
                    go_simp
                    with_reducible rfl
                  rotate_left
                  · simp only [Act.put, List.setIfInBounds_toArray, List.set_cons_zero, List.set_cons_succ, i64_w, i32_w]
                    rfl
                  refine pure_ (i := 2) (N := some 20) (v := ?_) (a' := ?_) #[true, true, true, false, false, false, false, false, false, false, false] rfl rfl (any_of HT_.out (by kernel_rfl)) (fun _ _ _ h => h) (Or.inl ⟨by rfl, ?_⟩) ?_ ?_
                  rotate_left
                  · intro w'
                    go_simp
                    with_reducible rfl
                  rotate_left
                  · simp only [Act.put, List.setIfInBounds_toArray, List.set_cons_zero, List.set_cons_succ, i64_w, i32_w]
                    rfl
                  refine pure_ (i := 3) (N := some 21) (v := ?_) (a' := ?_) #[true, true, true, true, false, false, false, false, false, false, false] rfl rfl (any_of HT_.out (by kernel_rfl)) (fun _ _ _ h => h) (Or.inl ⟨by rfl, ?_⟩) ?_ ?_
                  rotate_left
                  · intro w'
                    go_simp
                    with_reducible rfl
                  rotate_left
                  · simp only [Act.put, List.setIfInBounds_toArray, List.set_cons_zero, List.set_cons_succ, i64_w, i32_w]
                    rfl
                  refine pure_ (i := 5) (N := some 23) (v := ?_) (a' := ?_) #[true, true, true, true, false, true, false, false, false, false, false] rfl rfl (any_of HT_.out (by kernel_rfl)) (fun _ _ _ h => h) (Or.inl ⟨by rfl, ?_⟩) ?_ ?_
                  rotate_left
                  · intro w'
                    go_simp
                    with_reducible rfl
                  rotate_left
                  · simp only [Act.put, List.setIfInBounds_toArray, List.set_cons_zero, List.set_cons_succ, i64_w, i32_w]
                    rfl
                  refine pure_ (i := 6) (N := some 24) (v := ?_) (a' := ?_) #[true, true, true, true, false, true, true, false, false, false, false] rfl rfl (any_of HT_.out (by kernel_rfl)) (fun _ _ _ h => h) (Or.inl ⟨by rfl, ?_⟩) ?_ ?_
                  rotate_left
                  · intro w'
                    go_simp
                    with_reducible rfl
                  rotate_left
                  · simp only [Act.put, List.setIfInBounds_toArray, List.set_cons_zero, List.set_cons_succ, i64_w, i32_w]
                    rfl
                  refine pure_ (i := 7) (N := some 25) (v := ?_) (a' := ?_) #[true, true, true, true, false, true, true, true, false, false, false] rfl rfl (any_of HT_.out (by kernel_rfl)) (fun _ _ _ h => h) (Or.inl ⟨by rfl, ?_⟩) ?_ ?_
                  rotate_left
                  · intro w'
                    go_simp
                    with_reducible rfl
                  rotate_left
                  · simp only [Act.put, List.setIfInBounds_toArray, List.set_cons_zero, List.set_cons_succ, i64_w, i32_w]
                    rfl
                  refine take_ (i := 4) (N := some 22) (v := ?_) (a' := ?_) #[true, true, true, true, true, true, true, true, false, false, false] rfl rfl (take_ofW HT_.out HW_.out (by kernel_rfl)) (fun _ _ _ h => h) (Or.inl ⟨by rfl, ?_⟩) hHeld ?_ ?_
                  rotate_left
                  · rintro w' ⟨s0, s1, s2, s3⟩
                    go_simp
                    with_reducible rfl
                  rotate_left
                  · simp only [Act.put, List.setIfInBounds_toArray, List.set_cons_zero, List.set_cons_succ, i64_w, i32_w]
                    rfl
                  refine take_ (i := 8) (N := some 26) (v := ?_) (a' := ?_) #[true, true, true, true, true, true, true, true, true, false, false] rfl rfl (take_ofW HT_.out HW_.out (by kernel_rfl)) (fun _ _ _ h => h) (Or.inl ⟨by rfl, ?_⟩) hHeld ?_ ?_
                  rotate_left
                  · rintro w' ⟨s0, s1, s2, s3⟩
                    go_simp
                    with_reducible rfl
                  rotate_left
                  · simp only [Act.put, List.setIfInBounds_toArray, List.set_cons_zero, List.set_cons_succ, i64_w, i32_w]
                    rfl
                  refine one_ (i := 9) (N := some 27) #[true, true, true, true, true, true, true, true, true, true, false] rfl rfl (one_of HT_.out (by kernel_rfl)) (by decide) (fun K hK => ?_)
                  refine goesT_ Try.func118 (by kernel_rfl) rfl #[.agg #[.int .i64 ((rd_T83 l0 x15_1).f0), .int .i64 ((rd_T83 l0 x15_1).f1)], .agg #[.int .i64 ((rd_T83 l1 x15_1).f0), .int .i64 ((rd_T83 l1 x15_1).f1)]] (by rfl) rfl rfl rfl (by (try simp only [List.map_toArray, List.map_cons, List.map_nil]); first | done | rfl | (simp only [List.length_drop, List.length_take]; rfl) | exact congrArg (fun x_ : Int => #[Value.int .u64 x_]) (show _ = _ % (18446744073709551616 : Int) by omega)) ?_
                  with_reducible refine (offs_Follows_1.calls ((rd_T83 l0 x15_1).f0) ((rd_T83 l0 x15_1).f1) ((rd_T83 l1 x15_1).f0) ((rd_T83 l1 x15_1).f1) true _ A9.out).mono ?_
                  rintro e w12 ⟨rfl, hb⟩
                  refine ⟨_, rfl, ?_⟩
                  have n0_ := Aside0.mk (below_step (by repeat (first | (with_reducible first | exact HB.out | apply below_alloc | apply pw_below_drewN | apply below_drew1) | exact HB.out)) hb)
                  clear HB
                  have HB := n0_
                  clear n0_
                  (try clear hb)
                  (try clear hb2)
                  (try clear hk)
                  (try clear hi)
                  refine hK.out _ _ ⟨((HB.out.cell (World.block_lt_of_cell? w _ hw106_0)).trans hw106_0), ((HB.out.cell (World.block_lt_of_cell? w _ hw106_1)).trans hw106_1), ((HB.out.cell (World.block_lt_of_cell? w _ hw107_0)).trans hw107_0), ((HB.out.cell (World.block_lt_of_cell? w _ hw107_1)).trans hw107_1)⟩ (fun hHeld => ?_)
                  clear hK K
                  refine norm_ (a' := ?_) ?_ ?_
                  rotate_left
                  · show Act.put _ (some 27) _ = _
                    simp only [Act.put, List.setIfInBounds_toArray, List.set_cons_zero, List.set_cons_succ, i64_w, i32_w]
                    rfl
                  refine pure_ (i := 10) (N := some 28) (v := ?_) (a' := ?_) #[true, true, true, true, true, true, true, true, true, true, true] rfl rfl (any_of HT_.out (by kernel_rfl)) (fun _ _ _ h => h) (Or.inl ⟨by rfl, ?_⟩) ?_ ?_
                  rotate_left
                  · intro w'
                    go_simp
                    with_reducible rfl
                  rotate_left
                  · simp only [Act.put, List.setIfInBounds_toArray, List.set_cons_zero, List.set_cons_succ, i64_w, i32_w]
                    rfl
                  refine done_ (done_of HT_.out (by kernel_rfl)) ?_
                  try go_wp2
                  go_roundg k1
                  case measure => have := HK1.out; omega
                  case rel => exact ⟨(wrap64 (x15_1 + 1)), (by first | rfl | (simp; done) | (simp [*]; done) | (simp; rw [Bool.eq_iff_iff]; simp; done)), H', ⟨by have := HK1.out; omega⟩, ⟨by repeat (first | (with_reducible first | exact HB.out | apply below_alloc | apply pw_below_drewN | apply below_drew1) | exact HB.out)⟩⟩
                · replace c10 := Bool.eq_false_iff.mpr c10
                  subst c10
                  have H1 : (some false) = some r := by rw [if_neg (show ¬ (false = true) by decide)] at H; exact H
                  clear H
                  have H := H1
                  clear H1
                  obtain rfl := Option.some.inj H
                  try go_wp2
                  have n0_ := Aside0.mk (below_drew1 HB.out)
                  clear HB
                  have HB := n0_
                  clear n0_
                  have p106 : 0 ≤ (x15_1 : Int) := of_decide_eq_true (by first | (with_reducible assumption) | assumption)
                  have q106 : x15_1 < (l0.length : Int) := of_decide_eq_true (by first | (with_reducible assumption) | assumption)
                  obtain ⟨ad106, e106, hx106_0, hx106_1⟩ := at_T83 HR0.out x15_1 p106 q106
                  have hw106_1 := hx106_1
                  have hw106_0 := hx106_0
                  cases e106
                  replace hx106_0 := (HB.out.cell (World.block_lt_of_cell? w _ hx106_0)).trans hx106_0
                  replace hx106_1 := (HB.out.cell (World.block_lt_of_cell? w _ hx106_1)).trans hx106_1
                  replace p106 := eq_true p106
                  replace q106 := eq_true q106
                  have p107 : 0 ≤ (x15_1 : Int) := of_decide_eq_true (by first | (with_reducible assumption) | assumption)
                  have q107 : x15_1 < (l1.length : Int) := of_decide_eq_true (by first | (with_reducible assumption) | assumption)
                  obtain ⟨ad107, e107, hx107_0, hx107_1⟩ := at_T83 HR1.out x15_1 p107 q107
                  have hw107_1 := hx107_1
                  have hw107_0 := hx107_0
                  cases e107
                  replace hx107_0 := (HB.out.cell (World.block_lt_of_cell? w _ hx107_0)).trans hx107_0
                  replace hx107_1 := (HB.out.cell (World.block_lt_of_cell? w _ hx107_1)).trans hx107_1
                  replace p107 := eq_true p107
                  replace q107 := eq_true q107
                  refine start_ (n := 11) (S := fun w' => w'.cell? (ad106.add ((x15_1).toNat * 2)) = some (.int .i64 ((rd_T83 l0 x15_1).f0)) ∧ w'.cell? ⟨(ad106.add ((x15_1).toNat * 2)).block, (ad106.add ((x15_1).toNat * 2)).off + 1, none⟩ = some (.int .i64 ((rd_T83 l0 x15_1).f1)) ∧ w'.cell? (ad107.add ((x15_1).toNat * 2)) = some (.int .i64 ((rd_T83 l1 x15_1).f0)) ∧ w'.cell? ⟨(ad107.add ((x15_1).toNat * 2)).block, (ad107.add ((x15_1).toNat * 2)).off + 1, none⟩ = some (.int .i64 ((rd_T83 l1 x15_1).f1))) (ds := []) #[false, false, false, false, false, false, false, false, false, false, false] (by kernel_rfl) rfl rfl ⟨((HB.out.cell (World.block_lt_of_cell? w _ hw106_0)).trans hw106_0), ((HB.out.cell (World.block_lt_of_cell? w _ hw106_1)).trans hw106_1), ((HB.out.cell (World.block_lt_of_cell? w _ hw107_0)).trans hw107_0), ((HB.out.cell (World.block_lt_of_cell? w _ hw107_1)).trans hw107_1)⟩ (fun hHeld => ?_); refine with_tabW api_Range.tab6 api_Range.bits6 (fun HT_ HW_ => ?_)
                  generalize wr.drew = w13 at HB hx106_0 hx106_1 hx107_0 hx107_1 hHeld ⊢
                  refine pure_ (i := 0) (N := some 18) (v := ?_) (a' := ?_) #[true, false, false, false, false, false, false, false, false, false, false] rfl rfl (any_of HT_.out (by kernel_rfl)) (fun _ _ _ h => h) (Or.inl ⟨by rfl, ?_⟩) ?_ ?_
                  rotate_left
                  · intro w'
                    go_simp
                    with_reducible rfl
                  rotate_left
                  · simp only [Act.put, List.setIfInBounds_toArray, List.set_cons_zero, List.set_cons_succ, i64_w, i32_w]
                    rfl
                  refine pure_ (i := 1) (N := some 19) (v := ?_) (a' := ?_) #[true, true, false, false, false, false, false, false, false, false, false] rfl rfl (any_of HT_.out (by kernel_rfl)) (fun _ _ _ h => h) (Or.inl ⟨by rfl, ?_⟩) ?_ ?_
                  rotate_left
                  · intro w'
                    go_simp
                    with_reducible rfl
                  rotate_left
                  · simp only [Act.put, List.setIfInBounds_toArray, List.set_cons_zero, List.set_cons_succ, i64_w, i32_w]
                    rfl
                  refine pure_ (i := 2) (N := some 20) (v := ?_) (a' := ?_) #[true, true, true, false, false, false, false, false, false, false, false] rfl rfl (any_of HT_.out (by kernel_rfl)) (fun _ _ _ h => h) (Or.inl ⟨by rfl, ?_⟩) ?_ ?_
                  rotate_left
                  · intro w'
                    go_simp
                    with_reducible rfl
                  rotate_left
                  · simp only [Act.put, List.setIfInBounds_toArray, List.set_cons_zero, List.set_cons_succ, i64_w, i32_w]
                    rfl
                  refine pure_ (i := 3) (N := some 21) (v := ?_) (a' := ?_) #[true, true, true, true, false, false, false, false, false, false, false] rfl rfl (any_of HT_.out (by kernel_rfl)) (fun _ _ _ h => h) (Or.inl ⟨by rfl, ?_⟩) ?_ ?_
                  rotate_left
                  · intro w'
                    go_simp
                    with_reducible rfl
                  rotate_left
                  · simp only [Act.put, List.setIfInBounds_toArray, List.set_cons_zero, List.set_cons_succ, i64_w, i32_w]
                    rfl
                  refine pure_ (i := 5) (N := some 23) (v := ?_) (a' := ?_) #[true, true, true, true, false, true, false, false, false, false, false] rfl rfl (any_of HT_.out (by kernel_rfl)) (fun _ _ _ h => h) (Or.inl ⟨by rfl, ?_⟩) ?_ ?_
                  rotate_left
                  · intro w'
                    go_simp
                    with_reducible rfl
                  rotate_left
                  · simp only [Act.put, List.setIfInBounds_toArray, List.set_cons_zero, List.set_cons_succ, i64_w, i32_w]
                    rfl
                  refine pure_ (i := 6) (N := some 24) (v := ?_) (a' := ?_) #[true, true, true, true, false, true, true, false, false, false, false] rfl rfl (any_of HT_.out (by kernel_rfl)) (fun _ _ _ h => h) (Or.inl ⟨by rfl, ?_⟩) ?_ ?_
                  rotate_left
                  · intro w'
                    go_simp
                    with_reducible rfl
                  rotate_left
                  · simp only [Act.put, List.setIfInBounds_toArray, List.set_cons_zero, List.set_cons_succ, i64_w, i32_w]
                    rfl
                  refine pure_ (i := 7) (N := some 25) (v := ?_) (a' := ?_) #[true, true, true, true, false, true, true, true, false, false, false] rfl rfl (any_of HT_.out (by kernel_rfl)) (fun _ _ _ h => h) (Or.inl ⟨by rfl, ?_⟩) ?_ ?_
                  rotate_left
                  · intro w'
                    go_simp
                    with_reducible rfl
                  rotate_left
                  · simp only [Act.put, List.setIfInBounds_toArray, List.set_cons_zero, List.set_cons_succ, i64_w, i32_w]
                    rfl
                  refine take_ (i := 4) (N := some 22) (v := ?_) (a' := ?_) #[true, true, true, true, true, true, true, true, false, false, false] rfl rfl (take_ofW HT_.out HW_.out (by kernel_rfl)) (fun _ _ _ h => h) (Or.inl ⟨by rfl, ?_⟩) hHeld ?_ ?_
                  rotate_left
                  · rintro w' ⟨s0, s1, s2, s3⟩
                    go_simp
                    with_reducible rfl
                  rotate_left
                  · simp only [Act.put, List.setIfInBounds_toArray, List.set_cons_zero, List.set_cons_succ, i64_w, i32_w]
                    rfl
                  refine take_ (i := 8) (N := some 26) (v := ?_) (a' := ?_) #[true, true, true, true, true, true, true, true, true, false, false] rfl rfl (take_ofW HT_.out HW_.out (by kernel_rfl)) (fun _ _ _ h => h) (Or.inl ⟨by rfl, ?_⟩) hHeld ?_ ?_
                  rotate_left
                  · rintro w' ⟨s0, s1, s2, s3⟩
                    go_simp
                    with_reducible rfl
                  rotate_left
                  · simp only [Act.put, List.setIfInBounds_toArray, List.set_cons_zero, List.set_cons_succ, i64_w, i32_w]
                    rfl
                  refine one_ (i := 9) (N := some 27) #[true, true, true, true, true, true, true, true, true, true, false] rfl rfl (one_of HT_.out (by kernel_rfl)) (by decide) (fun K hK => ?_)
                  refine goesT_ Try.func118 (by kernel_rfl) rfl #[.agg #[.int .i64 ((rd_T83 l0 x15_1).f0), .int .i64 ((rd_T83 l0 x15_1).f1)], .agg #[.int .i64 ((rd_T83 l1 x15_1).f0), .int .i64 ((rd_T83 l1 x15_1).f1)]] (by rfl) rfl rfl rfl (by (try simp only [List.map_toArray, List.map_cons, List.map_nil]); first | done | rfl | (simp only [List.length_drop, List.length_take]; rfl) | exact congrArg (fun x_ : Int => #[Value.int .u64 x_]) (show _ = _ % (18446744073709551616 : Int) by omega)) ?_
                  with_reducible refine (offs_Follows_1.calls ((rd_T83 l0 x15_1).f0) ((rd_T83 l0 x15_1).f1) ((rd_T83 l1 x15_1).f0) ((rd_T83 l1 x15_1).f1) false _ A9.out).mono ?_
                  rintro e w14 ⟨rfl, hb⟩
                  refine ⟨_, rfl, ?_⟩
                  have n0_ := Aside0.mk (below_step (by repeat (first | (with_reducible first | exact HB.out | apply below_alloc | apply pw_below_drewN | apply below_drew1) | exact HB.out)) hb)
                  clear HB
                  have HB := n0_
                  clear n0_
                  (try clear hb)
                  (try clear hb2)
                  (try clear hk)
                  (try clear hi)
                  refine hK.out _ _ ⟨((HB.out.cell (World.block_lt_of_cell? w _ hw106_0)).trans hw106_0), ((HB.out.cell (World.block_lt_of_cell? w _ hw106_1)).trans hw106_1), ((HB.out.cell (World.block_lt_of_cell? w _ hw107_0)).trans hw107_0), ((HB.out.cell (World.block_lt_of_cell? w _ hw107_1)).trans hw107_1)⟩ (fun hHeld => ?_)
                  clear hK K
                  refine norm_ (a' := ?_) ?_ ?_
                  rotate_left
                  · show Act.put _ (some 27) _ = _
                    simp only [Act.put, List.setIfInBounds_toArray, List.set_cons_zero, List.set_cons_succ, i64_w, i32_w]
                    rfl
                  refine pure_ (i := 10) (N := some 28) (v := ?_) (a' := ?_) #[true, true, true, true, true, true, true, true, true, true, true] rfl rfl (any_of HT_.out (by kernel_rfl)) (fun _ _ _ h => h) (Or.inl ⟨by rfl, ?_⟩) ?_ ?_
                  rotate_left
                  · intro w'
                    go_simp
                    with_reducible rfl
                  rotate_left
                  · simp only [Act.put, List.setIfInBounds_toArray, List.set_cons_zero, List.set_cons_succ, i64_w, i32_w]
                    rfl
                  refine done_ (done_of HT_.out (by kernel_rfl)) ?_
                  try go_wp2
                  go_ret
                  exact ⟨by first | rfl | (simp [errW_none, errW_some] <;> rfl) | (simp [*, errW_none, errW_some] <;> rfl), by repeat (first | (with_reducible first | exact HB.out | apply below_alloc | apply pw_below_drewN | apply below_drew1) | exact HB.out)⟩
              · rw [if_neg c8] at H
                exact absurd H (by simp)
            · rw [if_neg c7] at H
              exact absurd H (by simp)
          · rw [if_neg c6] at H
            exact absurd H (by simp)
        · rw [if_neg c5] at H
          have c5b0 : decide (x15_1 < (l0.length : Int)) = false := decide_eq_false c5
          clear c5
          obtain rfl := Option.some.inj H
          go_wp2
          go_ret
          exact ⟨by first | rfl | (simp [errW_none, errW_some] <;> rfl) | (simp [*, errW_none, errW_some] <;> rfl), by repeat (first | (with_reducible first | exact HB.out | apply below_alloc | apply pw_below_drewN | apply below_drew1) | exact HB.out)⟩
  · rw [if_neg c4] at H
    have c4b0 : ((l0.length : Int) == (l1.length : Int)) = false := beq_eq_false_iff_ne.mpr c4
    have c4b1 : ((l0.length : Int) != (l1.length : Int)) = true := bne_iff_ne.mpr c4
    have c4b2 : (l0.length == l1.length) = false := by first | simpa using c4 | (simp at c4 ⊢; omega)
    obtain rfl := Option.some.inj H
    go_enter Try.func117, Try.ntmps117
    go_wp2
    go_ret
    exact ⟨by first | rfl | (simp [errW_none, errW_some] <;> rfl) | (simp [*, errW_none, errW_some] <;> rfl), by repeat (first | (with_reducible first | exact HB.out | apply below_alloc | apply pw_below_drewN | apply below_drew1) | exact HB.out)⟩

/-! ### offs_Follows: function 99 -/
def offs_Follows.f (k : Nat) (l0 : List (S83)) (l1 : List (S83)) : Option (Bool) := (offs_Check.f k l0).bind fun t109 => (if t109 = 0 then ((offs_Check.f k l1).bind fun t110 => (if t110 = 0 then ((api_Range.f k l0 l1 ()).bind fun t111 => (some t111)) else (some false))) else (some false))
set_option maxHeartbeats 8000000 in
set_option maxRecDepth 100000 in
theorem offs_Follows.calls (k : Nat) (A0 : Option Addr) (c0 : Nat) (l0 : List (S83)) (A1 : Option Addr) (c1 : Nat) (l1 : List (S83)) (r : Bool) (w : World) (hr0 : Kd.C k83 w A0 l0.length l0) (hc0 : l0.length ≤ c0) (hr1 : Kd.C k83 w A1 l1.length l1) (hc1 : l1.length ≤ c1) (h : offs_Follows.f k l0 l1 = some r) :
    Calls Try.prog 99 #[.slice A0 l0.length c0, .slice A1 l1.length c1] w fun e w' => e = .returned (.bool r) ∧ Below w.heap.size w w' := by
  have HR0 := Aside0.mk hr0
  have HC0 := Aside0.mk hc0
  clear hr0 hc0
  have HR1 := Aside0.mk hr1
  have HC1 := Aside0.mk hc1
  clear hr1 hc1
  have HB := Aside0.mk (Below.refl w.heap.size w)
  have H : ((offs_Check.f k l0).bind fun t109 => (if t109 = 0 then ((offs_Check.f k l1).bind fun t110 => (if t110 = 0 then ((api_Range.f k l0 l1 ()).bind fun t111 => (some t111)) else (some false))) else (some false))) = some r := h
  clear h
  replace H := Option.bind_eq_some_iff.mp H
  obtain ⟨t109, A30, H⟩ := H
  replace H : (if t109 = 0 then ((offs_Check.f k l1).bind fun t110 => (if t110 = 0 then ((api_Range.f k l0 l1 ()).bind fun t111 => (some t111)) else (some false))) else (some false)) = some r := H
  have A3 := Aside0.mk A30
  clear A30
  by_cases c4 : t109 = 0
  · rw [if_pos c4] at H
    have c4b0 : (t109 == 0) = true := beq_iff_eq.mpr c4
    have c4b1 : (t109 != 0) = false := bne_eq_false_iff_eq.mpr c4
    clear c4
    replace H := Option.bind_eq_some_iff.mp H
    obtain ⟨t110, A50, H⟩ := H
    replace H : (if t110 = 0 then ((api_Range.f k l0 l1 ()).bind fun t111 => (some t111)) else (some false)) = some r := H
    have A5 := Aside0.mk A50
    clear A50
    by_cases c6 : t110 = 0
    · rw [if_pos c6] at H
      have c6b0 : (t110 == 0) = true := beq_iff_eq.mpr c6
      have c6b1 : (t110 != 0) = false := bne_eq_false_iff_eq.mpr c6
      clear c6
      replace H := Option.bind_eq_some_iff.mp H
      obtain ⟨t111, A70, H⟩ := H
      replace H : (some t111) = some r := H
      have A7 := Aside0.mk A70
      clear A70
      obtain rfl := Option.some.inj H
      go_enter Try.func99, Try.ntmps99
      go_wp2_with (first | ((with_reducible refine gate_callee (f := 100) rfl ?_); refine goesL_ (some 6) rfl rfl Try.func100 (by kernel_rfl) rfl #[.slice A0 l0.length c0] rfl (by (try simp only [List.map_toArray, List.map_cons, List.map_nil]); first | done | rfl | (simp only [List.length_drop, List.length_take]; rfl) | exact congrArg (fun x_ : Int => #[Value.int .u64 x_]) (show _ = _ % (18446744073709551616 : Int) by omega)) ?_; (with_reducible refine (offs_Check.calls k _ _ l0 t109 _ ?side1 ?side2 A3.out).mono ?_); (case side1 => repeat (first | exact HR0.out | (with_reducible refine Kd.C_alloc ?_ _) | (with_reducible refine Kd.C_drewN ?_ _) | (with_reducible refine Kd.C_drew ?_))); (case side2 => exact HC0.out); rintro e w8 ⟨rfl, hb⟩; refine ⟨_, rfl, ?_⟩; have n0_ := Aside0.mk (below_step (by repeat (first | (with_reducible first | exact HB.out | apply below_alloc | apply pw_below_drewN | apply below_drew1) | exact HB.out)) hb); clear HB; have HB := n0_; clear n0_; (try clear hb); (try clear hb2); (try clear hk); (try clear hi)) | (go_at_call 100; (with_reducible refine (offs_Check.calls k _ _ l1 t110 _ ?side1 ?side2 A5.out).mono ?_); (case side1 => repeat (first | exact (Kd.C_below HR1.out HB.out) | (with_reducible refine Kd.C_alloc ?_ _) | (with_reducible refine Kd.C_drewN ?_ _) | (with_reducible refine Kd.C_drew ?_))); (case side2 => exact HC1.out); rintro e w9 ⟨rfl, hb⟩; have n0_ := Aside0.mk (below_step (by repeat (first | (with_reducible first | exact HB.out | apply below_alloc | apply pw_below_drewN | apply below_drew1) | exact HB.out)) hb); clear HB; have HB := n0_; clear n0_; (try clear hb); (try clear hb2); (try clear hk); (try clear hi)) | (go_at_call 117; (with_reducible refine (api_Range.calls k _ _ l0 _ _ l1 () t111 _ ?side1 ?side2 ?side3 ?side4 A7.out).mono ?_); (case side1 => repeat (first | exact (Kd.C_below HR0.out HB.out) | (with_reducible refine Kd.C_alloc ?_ _) | (with_reducible refine Kd.C_drewN ?_ _) | (with_reducible refine Kd.C_drew ?_))); (case side2 => exact HC0.out); (case side3 => repeat (first | exact (Kd.C_below HR1.out HB.out) | (with_reducible refine Kd.C_alloc ?_ _) | (with_reducible refine Kd.C_drewN ?_ _) | (with_reducible refine Kd.C_drew ?_))); (case side4 => exact HC1.out); rintro e w10 ⟨rfl, hb⟩; have n0_ := Aside0.mk (below_step (by repeat (first | (with_reducible first | exact HB.out | apply below_alloc | apply pw_below_drewN | apply below_drew1) | exact HB.out)) hb); clear HB; have HB := n0_; clear n0_; (try clear hb); (try clear hb2); (try clear hk); (try clear hi)))
      go_ret
      exact ⟨by first | rfl | (simp [errW_none, errW_some] <;> rfl) | (simp [*, errW_none, errW_some] <;> rfl), by repeat (first | (with_reducible first | exact HB.out | apply below_alloc | apply pw_below_drewN | apply below_drew1) | exact HB.out)⟩
    · rw [if_neg c6] at H
      have c6b0 : (t110 == 0) = false := beq_eq_false_iff_ne.mpr c6
      have c6b1 : (t110 != 0) = true := bne_iff_ne.mpr c6
      obtain rfl := Option.some.inj H
      go_enter Try.func99, Try.ntmps99
      go_wp2_with (first | ((with_reducible refine gate_callee (f := 100) rfl ?_); refine goesL_ (some 6) rfl rfl Try.func100 (by kernel_rfl) rfl #[.slice A0 l0.length c0] rfl (by (try simp only [List.map_toArray, List.map_cons, List.map_nil]); first | done | rfl | (simp only [List.length_drop, List.length_take]; rfl) | exact congrArg (fun x_ : Int => #[Value.int .u64 x_]) (show _ = _ % (18446744073709551616 : Int) by omega)) ?_; (with_reducible refine (offs_Check.calls k _ _ l0 t109 _ ?side1 ?side2 A3.out).mono ?_); (case side1 => repeat (first | exact HR0.out | (with_reducible refine Kd.C_alloc ?_ _) | (with_reducible refine Kd.C_drewN ?_ _) | (with_reducible refine Kd.C_drew ?_))); (case side2 => exact HC0.out); rintro e w11 ⟨rfl, hb⟩; refine ⟨_, rfl, ?_⟩; have n0_ := Aside0.mk (below_step (by repeat (first | (with_reducible first | exact HB.out | apply below_alloc | apply pw_below_drewN | apply below_drew1) | exact HB.out)) hb); clear HB; have HB := n0_; clear n0_; (try clear hb); (try clear hb2); (try clear hk); (try clear hi)) | (go_at_call 100; (with_reducible refine (offs_Check.calls k _ _ l1 t110 _ ?side1 ?side2 A5.out).mono ?_); (case side1 => repeat (first | exact (Kd.C_below HR1.out HB.out) | (with_reducible refine Kd.C_alloc ?_ _) | (with_reducible refine Kd.C_drewN ?_ _) | (with_reducible refine Kd.C_drew ?_))); (case side2 => exact HC1.out); rintro e w12 ⟨rfl, hb⟩; have n0_ := Aside0.mk (below_step (by repeat (first | (with_reducible first | exact HB.out | apply below_alloc | apply pw_below_drewN | apply below_drew1) | exact HB.out)) hb); clear HB; have HB := n0_; clear n0_; (try clear hb); (try clear hb2); (try clear hk); (try clear hi)))
      go_ret
      exact ⟨by first | rfl | (simp [errW_none, errW_some] <;> rfl) | (simp [*, errW_none, errW_some] <;> rfl), by repeat (first | (with_reducible first | exact HB.out | apply below_alloc | apply pw_below_drewN | apply below_drew1) | exact HB.out)⟩
  · rw [if_neg c4] at H
    have c4b0 : (t109 == 0) = false := beq_eq_false_iff_ne.mpr c4
    have c4b1 : (t109 != 0) = true := bne_iff_ne.mpr c4
    obtain rfl := Option.some.inj H
    go_enter Try.func99, Try.ntmps99
    go_wp2_with (first | ((with_reducible refine gate_callee (f := 100) rfl ?_); refine goesL_ (some 6) rfl rfl Try.func100 (by kernel_rfl) rfl #[.slice A0 l0.length c0] rfl (by (try simp only [List.map_toArray, List.map_cons, List.map_nil]); first | done | rfl | (simp only [List.length_drop, List.length_take]; rfl) | exact congrArg (fun x_ : Int => #[Value.int .u64 x_]) (show _ = _ % (18446744073709551616 : Int) by omega)) ?_; (with_reducible refine (offs_Check.calls k _ _ l0 t109 _ ?side1 ?side2 A3.out).mono ?_); (case side1 => repeat (first | exact HR0.out | (with_reducible refine Kd.C_alloc ?_ _) | (with_reducible refine Kd.C_drewN ?_ _) | (with_reducible refine Kd.C_drew ?_))); (case side2 => exact HC0.out); rintro e w13 ⟨rfl, hb⟩; refine ⟨_, rfl, ?_⟩; have n0_ := Aside0.mk (below_step (by repeat (first | (with_reducible first | exact HB.out | apply below_alloc | apply pw_below_drewN | apply below_drew1) | exact HB.out)) hb); clear HB; have HB := n0_; clear n0_; (try clear hb); (try clear hb2); (try clear hk); (try clear hi)))
    go_ret
    exact ⟨by first | rfl | (simp [errW_none, errW_some] <;> rfl) | (simp [*, errW_none, errW_some] <;> rfl), by repeat (first | (with_reducible first | exact HB.out | apply below_alloc | apply pw_below_drewN | apply below_drew1) | exact HB.out)⟩

/-! ### offs_Tiles: function 40 -/
def offs_Tiles.l0 : Nat → List (S83) → List (List (S83)) → Int → Int → Option (Bool)
  | 0, _, _, _, _ => none
  | k + 1, x3, x20, x21, x22 => if x22 < x21 then (if 0 ≤ x22 then (if x22 < (x20.length : Int) then ((offs_Follows.f k x3 (rd_L23 x20 x22)).bind fun t118 => (if t118 = true then (offs_Tiles.l0 k (rd_L23 x20 x22) x20 x21 (wrap64 (x22 + 1))) else (some false))) else (none)) else (none)) else (some true)
def offs_Tiles.f (k : Nat) (l0 : List (List (S83))) : Option (Bool) := if (l0.length : Int) = 0 then (some true) else (if 0 < (l0.length : Int) then ((offs_Start.f ((rd_L23 l0 0).length : Int)).bind fun bt113 => (if bt113.2 = 0 then (offs_Tiles.l0 k bt113.1 l0 (l0.length : Int) 0) else (some false))) else (none))
set_option maxHeartbeats 8000000 in
set_option maxRecDepth 100000 in
theorem offs_Tiles.calls (k : Nat) (P0_ : Nat → Prop) (A0 : Option Addr) (c0 : Nat) (l0 : List (List (S83))) (r : Bool) (w : World) (hs0 : Kd.V (Kd.slice 83 k83) 81 w w.heap.size (fun k_ => P0_ k_) (.slice A0 l0.length c0) l0) (h : offs_Tiles.f k l0 = some r) :
    Calls Try.prog 40 #[.slice A0 l0.length c0] w fun e w' => e = .returned (.bool r) ∧ Below w.heap.size w w' := by
  have HO0 := Aside0.mk (show Kd.V (Kd.slice 83 k83) 81 w w.heap.size (fun k_ => (P0_ k_ ∨ w.heap.size ≤ k_)) (.slice A0 l0.length c0) l0 from Kd.V_mono hs0 (fun k_ hk => .inl hk))
  have HB := Aside0.mk (Below.refl w.heap.size w)
  have H : (if (l0.length : Int) = 0 then (some true) else (if 0 < (l0.length : Int) then ((offs_Start.f ((rd_L23 l0 0).length : Int)).bind fun bt113 => (if bt113.2 = 0 then (offs_Tiles.l0 k bt113.1 l0 (l0.length : Int) 0) else (some false))) else (none))) = some r := h
  clear h
  by_cases c2 : (l0.length : Int) = 0
  · rw [if_pos c2] at H
    have c2b0 : ((l0.length : Int) == 0) = true := beq_iff_eq.mpr c2
    have c2b1 : ((l0.length : Int) != 0) = false := bne_eq_false_iff_eq.mpr c2
    clear c2
    obtain rfl := Option.some.inj H
    go_enter Try.func40, Try.ntmps40
    go_wp2
    go_ret
    exact ⟨by first | rfl | (simp [errW_none, errW_some] <;> rfl) | (simp [*, errW_none, errW_some] <;> rfl), by repeat (first | (with_reducible first | exact HB.out | apply below_alloc | apply pw_below_drewN | apply below_drew1) | exact HB.out)⟩
  · rw [if_neg c2] at H
    have c2b0 : ((l0.length : Int) == 0) = false := beq_eq_false_iff_ne.mpr c2
    have c2b1 : ((l0.length : Int) != 0) = true := bne_iff_ne.mpr c2
    have c2b2 : ¬ (l0 = []) := fun h_ => c2 (by rw [h_]; rfl)
    by_cases c3 : 0 < (l0.length : Int)
    · rw [if_pos c3] at H
      have c3b0 : decide (0 < (l0.length : Int)) = true := decide_eq_true c3
      have c3b1 : decide (0 < l0.length) = true := decide_eq_true (by omega)
      clear c3
      replace H := Option.bind_eq_some_iff.mp H
      obtain ⟨⟨t113, t114⟩, A40, H⟩ := H
      replace H : (if t114 = 0 then (offs_Tiles.l0 k t113 l0 (l0.length : Int) 0) else (some false)) = some r := H
      have A4 := Aside0.mk A40
      clear A40
      by_cases c5 : t114 = 0
      · rw [if_pos c5] at H
        have c5b0 : (t114 == 0) = true := beq_iff_eq.mpr c5
        have c5b1 : (t114 != 0) = false := bne_eq_false_iff_eq.mpr c5
        clear c5
        have H' := Aside0.mk H
        clear H
        have p112 : 0 ≤ (0 : Int) := (by omega)
        have q112 : 0 < (l0.length : Int) := of_decide_eq_true (by first | (with_reducible assumption) | assumption)
        obtain ⟨ad112, A112_0, c112_0, e112, hx112_0, hl112_0, hi112_0⟩ := at_L23 (Kd.V_reads' HO0.out).2.2 0 p112 q112
        cases e112
        obtain ⟨ce112, hce112, hMe112, hcc112⟩ := Kd.V_get HO0.out [] 0 p112 (by first | exact q112 | exact of_decide_eq_true (by first | (with_reducible assumption) | assumption) | (have e_ := (Kd.V_reads' HO0.out).1; omega))
        obtain ⟨ua112_0, uc112_0, rfl, ul112_0, ge112_0⟩ := Kd.FK_slice_open hMe112
        have hv112_0 := hcc112 0 _ rfl
        rw [Nat.add_zero, show ((Kd.slice 83 k83)).sz = 1 from rfl, Nat.mul_one] at hv112_0
        replace hv112_0 := Option.some.inj (hv112_0.symm.trans hx112_0)
        injection hv112_0 with hva_ hvn_ hvc_
        rw [hva_] at ge112_0
        rw [hvc_] at ul112_0
        have HL112_0 := Aside0.mk (show Kd.V k83 83 _ w.heap.size _ _ (rd_L23 l0 0) from Kd.V_mk ul112_0 ge112_0)
        clear hva_ hvn_ hvc_ ge112_0 ul112_0
        clear hcc112 hce112
        have qi112 : (0 < l0.length) = True := eq_true (by omega)
        (try rw [show ((0 : Int)).toNat = 0 from rfl] at hx112_0)
        (try rw [Addr.add_zero'] at hx112_0)
        have HR112_0 := Aside0.mk hi112_0
        have HC112_0 := Aside0.mk hl112_0
        clear hi112_0 hl112_0
        replace p112 := eq_true p112
        replace q112 := eq_true q112
        go_enter Try.func40, Try.ntmps40
        go_wp2_with (first | ((with_reducible refine gate_callee (f := 98) rfl ?_); refine goesL_ (some 15) rfl rfl Try.func98 (by kernel_rfl) rfl #[.int .i64 ((rd_L23 l0 0).length : Int)] rfl (by (try simp only [List.map_toArray, List.map_cons, List.map_nil]); first | done | rfl | (simp only [List.length_drop, List.length_take]; rfl) | exact congrArg (fun x_ : Int => #[Value.int .u64 x_]) (show _ = _ % (18446744073709551616 : Int) by omega)) ?_; (with_reducible refine (offs_Start.calls ((rd_L23 l0 0).length : Int) t113 t114 _ A4.out).mono ?_); rintro e w6 ⟨v115, rfl, ho0, hb⟩; refine ⟨_, rfl, ?_⟩; have n0_ := Aside0.mk (Kd.V_elder' (by (with_reducible repeat (first | apply Kd.V_alloc | apply Kd.V_drewN | apply Kd.V_drew)); exact HO0.out) (Kd.R_base ho0) hb); have n1_ := Aside0.mk (Kd.V_elder' (by (with_reducible repeat (first | apply Kd.V_alloc | apply Kd.V_drewN | apply Kd.V_drew)); exact HL112_0.out) (Kd.R_base ho0) hb); have n2_ := Aside0.mk (Kd.R_lower (Kd.R_newM (M := fun k_ => (w.heap.size ≤ k_)) ho0 (below_size (by repeat (first | (with_reducible first | exact HB.out | apply below_alloc | apply pw_below_drewN | apply below_drew1) | exact HB.out))) (fun k_ h_ => h_)) (below_size (by repeat (first | (with_reducible first | exact HB.out | apply below_alloc | apply pw_below_drewN | apply below_drew1) | exact HB.out)))); have n3_ := Aside0.mk (Kd.C_below (by repeat (first | (with_reducible exact HR112_0.out) | (with_reducible refine Kd.C_alloc ?_ _) | (with_reducible refine Kd.C_drewN ?_ _) | (with_reducible refine Kd.C_drew ?_) | exact HR112_0.out)) hb); have n4_ := Aside0.mk (below_step (by repeat (first | (with_reducible first | exact HB.out | apply below_alloc | apply pw_below_drewN | apply below_drew1) | exact HB.out)) hb); clear HO0; clear HL112_0; clear HR112_0; clear HB; have HO0 := n0_; have HL112_0 := n1_; have HO116 := n2_; have HR112_0 := n3_; have HB := n4_; clear n0_ n1_ n2_ n3_ n4_; (try clear hb); (try clear hb2); (try clear hk); (try clear hi); (try clear ho0)))
        go_loopg [3, 22] k (fun kq v3 v22 w' => ∃ (x3_1 : List (S83)) (x22_1 : Int), v22 = .int .i64 x22_1 ∧ Aside0 (offs_Tiles.l0 kq x3_1 l0 (l0.length : Int) x22_1 = some r) ∧ Aside0 (kq ≤ k) ∧ Aside0 (Kd.V k83 83 w' w.heap.size (fun k_ => (P0_ k_ ∨ w.heap.size ≤ k_)) v3 x3_1) ∧ Aside0 (Kd.V (Kd.slice 83 k83) 81 w' w.heap.size (fun k_ => (P0_ k_ ∨ w.heap.size ≤ k_)) (.slice (some ad112) l0.length c0) l0) ∧ Aside0 (Kd.C k83 w' A112_0 (rd_L23 l0 0).length (rd_L23 l0 0)) ∧ Aside0 (Below w.heap.size w w'))
        case atStart => exact ⟨(t113), (0), (by first | rfl | (simp; done) | (simp [*]; done) | (simp; rw [Bool.eq_iff_iff]; simp; done)), H', ⟨Nat.le_refl _⟩, ⟨Kd.V_mono (Kd.R_V (by (with_reducible repeat (first | apply Kd.R_alloc | apply Kd.R_drewN | apply Kd.R_drew)); exact Kd.R_mono HO116.out (fun _ hk => hk.1))) (fun k_ hk => by first | exact ⟨(.inr (hk.1)), hk.2⟩ | exact (.inr (hk)))⟩, ⟨by (with_reducible repeat (first | apply Kd.V_alloc | apply Kd.V_drewN | apply Kd.V_drew)); exact Kd.V_mono HO0.out (fun _ hk => hk.1)⟩, ⟨by repeat (first | (with_reducible exact HR112_0.out) | (with_reducible refine Kd.C_alloc ?_ _) | (with_reducible refine Kd.C_drewN ?_ _) | (with_reducible refine Kd.C_drew ?_) | exact HR112_0.out)⟩, ⟨by repeat (first | (with_reducible first | exact HB.out | apply below_alloc | apply pw_below_drewN | apply below_drew1) | exact HB.out)⟩⟩
        case round =>
          clear H'
          try clear c1
          try clear p1
          try clear q1
          try clear hx1
          try clear qi1
          try clear c2
          try clear c2b0
          try clear c2b1
          try clear c2b2
          try clear p2
          try clear c3
          try clear c3b0
          try clear c3b1
          try clear c4
          try clear c5
          try clear c5b0
          try clear c5b1
          try clear hx112_0
          try clear p112
          try clear q112
          obtain ⟨x3_1, x22_1, rfl, HA, HK1, HO_3, HO_20, HR112_0, HB⟩ := hrel
          cases gk with
          | zero => exact absurd HA.out (by simp [offs_Tiles.l0])
          | succ k1 =>
            have H := HA.out
            clear HA
            simp only [offs_Tiles.l0] at H
            by_cases c7 : x22_1 < (l0.length : Int)
            · rw [if_pos c7] at H
              have c7b0 : decide (x22_1 < (l0.length : Int)) = true := decide_eq_true c7
              clear c7
              by_cases c8 : 0 ≤ x22_1
              · rw [if_pos c8] at H
                have c8b0 : decide (0 ≤ x22_1) = true := decide_eq_true c8
                clear c8
                by_cases c9 : x22_1 < (l0.length : Int)
                · rw [if_pos c9] at H
                  have c9b0 : decide (x22_1 < (l0.length : Int)) = true := decide_eq_true c9
                  clear c9
                  replace H := Option.bind_eq_some_iff.mp H
                  obtain ⟨t118, A100, H⟩ := H
                  replace H : (if t118 = true then (offs_Tiles.l0 k1 (rd_L23 l0 x22_1) l0 (l0.length : Int) (wrap64 (x22_1 + 1))) else (some false)) = some r := H
                  have A10 := Aside0.mk A100
                  clear A100
                  by_cases c11 : t118 = true
                  · subst c11
                    have H1 : (offs_Tiles.l0 k1 (rd_L23 l0 x22_1) l0 (l0.length : Int) (wrap64 (x22_1 + 1))) = some r := by rw [if_pos rfl] at H; exact H
                    clear H
                    have H := H1
                    clear H1
                    have H' := Aside0.mk H
                    clear H
                    have p117 : 0 ≤ (x22_1 : Int) := of_decide_eq_true (by first | (with_reducible assumption) | assumption)
                    have q117 : x22_1 < (l0.length : Int) := of_decide_eq_true (by first | (with_reducible assumption) | assumption)
                    obtain ⟨ad117, A117_0, c117_0, e117, hx117_0, hl117_0, hi117_0⟩ := at_L23 (Kd.V_reads' HO_20.out).2.2 x22_1 p117 q117
                    obtain rfl : ad112 = ad117 := (by injection e117)
                    obtain ⟨ce117, hce117, hMe117, hcc117⟩ := Kd.V_get HO_20.out [] x22_1 p117 (by first | exact q117 | exact of_decide_eq_true (by first | (with_reducible assumption) | assumption) | (have e_ := (Kd.V_reads' HO_20.out).1; omega))
                    obtain ⟨ua117_0, uc117_0, rfl, ul117_0, ge117_0⟩ := Kd.FK_slice_open hMe117
                    have hv117_0 := hcc117 0 _ rfl
                    rw [Nat.add_zero, show ((Kd.slice 83 k83)).sz = 1 from rfl, Nat.mul_one] at hv117_0
                    replace hv117_0 := Option.some.inj (hv117_0.symm.trans hx117_0)
                    injection hv117_0 with hva_ hvn_ hvc_
                    rw [hva_] at ge117_0
                    rw [hvc_] at ul117_0
                    have HL117_0 := Aside0.mk (show Kd.V k83 83 _ w.heap.size _ _ (rd_L23 l0 x22_1) from Kd.V_mk ul117_0 ge117_0)
                    clear hva_ hvn_ hvc_ ge117_0 ul117_0
                    clear hcc117 hce117
                    have HR117_0 := Aside0.mk hi117_0
                    have HC117_0 := Aside0.mk hl117_0
                    clear hi117_0 hl117_0
                    replace p117 := eq_true p117
                    replace q117 := eq_true q117
                    obtain ⟨Ao12, co12, eo12⟩ := Kd.V_slice HO_3.out
                    subst eo12
                    go_wp2_with (first | ((with_reducible refine gate_callee (f := 99) rfl ?_); refine goesL_ (some 28) rfl rfl Try.func99 (by kernel_rfl) rfl #[.slice Ao12 x3_1.length co12, .slice A117_0 (rd_L23 l0 x22_1).length c117_0] rfl (by (try simp only [List.map_toArray, List.map_cons, List.map_nil]); first | done | rfl | (simp only [List.length_drop, List.length_take]; rfl) | exact congrArg (fun x_ : Int => #[Value.int .u64 x_]) (show _ = _ % (18446744073709551616 : Int) by omega)) ?_; (with_reducible refine (offs_Follows.calls k1 _ _ x3_1 _ _ (rd_L23 l0 x22_1) true _ ?side1 ?side2 ?side3 ?side4 A10.out).mono ?_); (case side1 => repeat (first | exact (Kd.V_reads' HO_3.out).2.2 | (with_reducible refine Kd.C_alloc ?_ _) | (with_reducible refine Kd.C_drewN ?_ _) | (with_reducible refine Kd.C_drew ?_))); (case side2 => exact (Kd.V_reads' HO_3.out).2.1); (case side3 => repeat (first | exact (by repeat (first | (with_reducible exact HR117_0.out) | (with_reducible refine Kd.C_alloc ?_ _) | (with_reducible refine Kd.C_drewN ?_ _) | (with_reducible refine Kd.C_drew ?_) | exact HR117_0.out)) | (with_reducible refine Kd.C_alloc ?_ _) | (with_reducible refine Kd.C_drewN ?_ _) | (with_reducible refine Kd.C_drew ?_))); (case side4 => exact HC117_0.out); rintro e w13 ⟨rfl, hb⟩; refine ⟨_, rfl, ?_⟩; have n0_ := Aside0.mk (Kd.V_below (by (with_reducible repeat (first | apply Kd.V_alloc | apply Kd.V_drewN | apply Kd.V_drew)); exact HO_3.out) hb); have n1_ := Aside0.mk (Kd.V_below (by (with_reducible repeat (first | apply Kd.V_alloc | apply Kd.V_drewN | apply Kd.V_drew)); exact HO_20.out) hb); have n2_ := Aside0.mk (Kd.V_below (by (with_reducible repeat (first | apply Kd.V_alloc | apply Kd.V_drewN | apply Kd.V_drew)); exact HL117_0.out) hb); have n3_ := Aside0.mk (Kd.C_below (by repeat (first | (with_reducible exact HR112_0.out) | (with_reducible refine Kd.C_alloc ?_ _) | (with_reducible refine Kd.C_drewN ?_ _) | (with_reducible refine Kd.C_drew ?_) | exact HR112_0.out)) hb); have n4_ := Aside0.mk (Kd.C_below (by repeat (first | (with_reducible exact HR117_0.out) | (with_reducible refine Kd.C_alloc ?_ _) | (with_reducible refine Kd.C_drewN ?_ _) | (with_reducible refine Kd.C_drew ?_) | exact HR117_0.out)) hb); have n5_ := Aside0.mk (below_step (by repeat (first | (with_reducible first | exact HB.out | apply below_alloc | apply pw_below_drewN | apply below_drew1) | exact HB.out)) hb); clear HO_3; clear HO_20; clear HL117_0; clear HR112_0; clear HR117_0; clear HB; have HO_3 := n0_; have HO_20 := n1_; have HL117_0 := n2_; have HR112_0 := n3_; have HR117_0 := n4_; have HB := n5_; clear n0_ n1_ n2_ n3_ n4_ n5_; (try clear hb); (try clear hb2); (try clear hk); (try clear hi)))
                    go_roundg k1
                    case measure => have := HK1.out; omega
                    case rel => exact ⟨(rd_L23 l0 x22_1), (wrap64 (x22_1 + 1)), (by first | rfl | (simp; done) | (simp [*]; done) | (simp; rw [Bool.eq_iff_iff]; simp; done)), H', ⟨by have := HK1.out; omega⟩, ⟨by (with_reducible repeat (first | apply Kd.V_alloc | apply Kd.V_drewN | apply Kd.V_drew)); exact HL117_0.out⟩, ⟨by (with_reducible repeat (first | apply Kd.V_alloc | apply Kd.V_drewN | apply Kd.V_drew)); exact HO_20.out⟩, ⟨by repeat (first | (with_reducible exact HR112_0.out) | (with_reducible refine Kd.C_alloc ?_ _) | (with_reducible refine Kd.C_drewN ?_ _) | (with_reducible refine Kd.C_drew ?_) | exact HR112_0.out)⟩, ⟨by repeat (first | (with_reducible first | exact HB.out | apply below_alloc | apply pw_below_drewN | apply below_drew1) | exact HB.out)⟩⟩
                  · replace c11 := Bool.eq_false_iff.mpr c11
                    subst c11
                    have H1 : (some false) = some r := by rw [if_neg (show ¬ (false = true) by decide)] at H; exact H
                    clear H
                    have H := H1
                    clear H1
                    obtain rfl := Option.some.inj H
                    have p117 : 0 ≤ (x22_1 : Int) := of_decide_eq_true (by first | (with_reducible assumption) | assumption)
                    have q117 : x22_1 < (l0.length : Int) := of_decide_eq_true (by first | (with_reducible assumption) | assumption)
                    obtain ⟨ad117, A117_0, c117_0, e117, hx117_0, hl117_0, hi117_0⟩ := at_L23 (Kd.V_reads' HO_20.out).2.2 x22_1 p117 q117
                    obtain rfl : ad112 = ad117 := (by injection e117)
                    obtain ⟨ce117, hce117, hMe117, hcc117⟩ := Kd.V_get HO_20.out [] x22_1 p117 (by first | exact q117 | exact of_decide_eq_true (by first | (with_reducible assumption) | assumption) | (have e_ := (Kd.V_reads' HO_20.out).1; omega))
                    obtain ⟨ua117_0, uc117_0, rfl, ul117_0, ge117_0⟩ := Kd.FK_slice_open hMe117
                    have hv117_0 := hcc117 0 _ rfl
                    rw [Nat.add_zero, show ((Kd.slice 83 k83)).sz = 1 from rfl, Nat.mul_one] at hv117_0
                    replace hv117_0 := Option.some.inj (hv117_0.symm.trans hx117_0)
                    injection hv117_0 with hva_ hvn_ hvc_
                    rw [hva_] at ge117_0
                    rw [hvc_] at ul117_0
                    have HL117_0 := Aside0.mk (show Kd.V k83 83 _ w.heap.size _ _ (rd_L23 l0 x22_1) from Kd.V_mk ul117_0 ge117_0)
                    clear hva_ hvn_ hvc_ ge117_0 ul117_0
                    clear hcc117 hce117
                    have HR117_0 := Aside0.mk hi117_0
                    have HC117_0 := Aside0.mk hl117_0
                    clear hi117_0 hl117_0
                    replace p117 := eq_true p117
                    replace q117 := eq_true q117
                    obtain ⟨Ao14, co14, eo14⟩ := Kd.V_slice HO_3.out
                    subst eo14
                    go_wp2_with (first | ((with_reducible refine gate_callee (f := 99) rfl ?_); refine goesL_ (some 28) rfl rfl Try.func99 (by kernel_rfl) rfl #[.slice Ao14 x3_1.length co14, .slice A117_0 (rd_L23 l0 x22_1).length c117_0] rfl (by (try simp only [List.map_toArray, List.map_cons, List.map_nil]); first | done | rfl | (simp only [List.length_drop, List.length_take]; rfl) | exact congrArg (fun x_ : Int => #[Value.int .u64 x_]) (show _ = _ % (18446744073709551616 : Int) by omega)) ?_; (with_reducible refine (offs_Follows.calls k1 _ _ x3_1 _ _ (rd_L23 l0 x22_1) false _ ?side1 ?side2 ?side3 ?side4 A10.out).mono ?_); (case side1 => repeat (first | exact (Kd.V_reads' HO_3.out).2.2 | (with_reducible refine Kd.C_alloc ?_ _) | (with_reducible refine Kd.C_drewN ?_ _) | (with_reducible refine Kd.C_drew ?_))); (case side2 => exact (Kd.V_reads' HO_3.out).2.1); (case side3 => repeat (first | exact (by repeat (first | (with_reducible exact HR117_0.out) | (with_reducible refine Kd.C_alloc ?_ _) | (with_reducible refine Kd.C_drewN ?_ _) | (with_reducible refine Kd.C_drew ?_) | exact HR117_0.out)) | (with_reducible refine Kd.C_alloc ?_ _) | (with_reducible refine Kd.C_drewN ?_ _) | (with_reducible refine Kd.C_drew ?_))); (case side4 => exact HC117_0.out); rintro e w15 ⟨rfl, hb⟩; refine ⟨_, rfl, ?_⟩; have n0_ := Aside0.mk (Kd.V_below (by (with_reducible repeat (first | apply Kd.V_alloc | apply Kd.V_drewN | apply Kd.V_drew)); exact HO_3.out) hb); have n1_ := Aside0.mk (Kd.V_below (by (with_reducible repeat (first | apply Kd.V_alloc | apply Kd.V_drewN | apply Kd.V_drew)); exact HO_20.out) hb); have n2_ := Aside0.mk (Kd.V_below (by (with_reducible repeat (first | apply Kd.V_alloc | apply Kd.V_drewN | apply Kd.V_drew)); exact HL117_0.out) hb); have n3_ := Aside0.mk (Kd.C_below (by repeat (first | (with_reducible exact HR112_0.out) | (with_reducible refine Kd.C_alloc ?_ _) | (with_reducible refine Kd.C_drewN ?_ _) | (with_reducible refine Kd.C_drew ?_) | exact HR112_0.out)) hb); have n4_ := Aside0.mk (Kd.C_below (by repeat (first | (with_reducible exact HR117_0.out) | (with_reducible refine Kd.C_alloc ?_ _) | (with_reducible refine Kd.C_drewN ?_ _) | (with_reducible refine Kd.C_drew ?_) | exact HR117_0.out)) hb); have n5_ := Aside0.mk (below_step (by repeat (first | (with_reducible first | exact HB.out | apply below_alloc | apply pw_below_drewN | apply below_drew1) | exact HB.out)) hb); clear HO_3; clear HO_20; clear HL117_0; clear HR112_0; clear HR117_0; clear HB; have HO_3 := n0_; have HO_20 := n1_; have HL117_0 := n2_; have HR112_0 := n3_; have HR117_0 := n4_; have HB := n5_; clear n0_ n1_ n2_ n3_ n4_ n5_; (try clear hb); (try clear hb2); (try clear hk); (try clear hi)))
                    go_ret
                    exact ⟨by first | rfl | (simp [errW_none, errW_some] <;> rfl) | (simp [*, errW_none, errW_some] <;> rfl), by repeat (first | (with_reducible first | exact HB.out | apply below_alloc | apply pw_below_drewN | apply below_drew1) | exact HB.out)⟩
                · rw [if_neg c9] at H
                  exact absurd H (by simp)
              · rw [if_neg c8] at H
                exact absurd H (by simp)
            · rw [if_neg c7] at H
              have c7b0 : decide (x22_1 < (l0.length : Int)) = false := decide_eq_false c7
              clear c7
              obtain rfl := Option.some.inj H
              go_wp2
              go_ret
              exact ⟨by first | rfl | (simp [errW_none, errW_some] <;> rfl) | (simp [*, errW_none, errW_some] <;> rfl), by repeat (first | (with_reducible first | exact HB.out | apply below_alloc | apply pw_below_drewN | apply below_drew1) | exact HB.out)⟩
      · rw [if_neg c5] at H
        have c5b0 : (t114 == 0) = false := beq_eq_false_iff_ne.mpr c5
        have c5b1 : (t114 != 0) = true := bne_iff_ne.mpr c5
        obtain rfl := Option.some.inj H
        have p112 : 0 ≤ (0 : Int) := (by omega)
        have q112 : 0 < (l0.length : Int) := of_decide_eq_true (by first | (with_reducible assumption) | assumption)
        obtain ⟨ad112, A112_0, c112_0, e112, hx112_0, hl112_0, hi112_0⟩ := at_L23 (Kd.V_reads' HO0.out).2.2 0 p112 q112
        cases e112
        obtain ⟨ce112, hce112, hMe112, hcc112⟩ := Kd.V_get HO0.out [] 0 p112 (by first | exact q112 | exact of_decide_eq_true (by first | (with_reducible assumption) | assumption) | (have e_ := (Kd.V_reads' HO0.out).1; omega))
        obtain ⟨ua112_0, uc112_0, rfl, ul112_0, ge112_0⟩ := Kd.FK_slice_open hMe112
        have hv112_0 := hcc112 0 _ rfl
        rw [Nat.add_zero, show ((Kd.slice 83 k83)).sz = 1 from rfl, Nat.mul_one] at hv112_0
        replace hv112_0 := Option.some.inj (hv112_0.symm.trans hx112_0)
        injection hv112_0 with hva_ hvn_ hvc_
        rw [hva_] at ge112_0
        rw [hvc_] at ul112_0
        have HL112_0 := Aside0.mk (show Kd.V k83 83 _ w.heap.size _ _ (rd_L23 l0 0) from Kd.V_mk ul112_0 ge112_0)
        clear hva_ hvn_ hvc_ ge112_0 ul112_0
        clear hcc112 hce112
        have qi112 : (0 < l0.length) = True := eq_true (by omega)
        (try rw [show ((0 : Int)).toNat = 0 from rfl] at hx112_0)
        (try rw [Addr.add_zero'] at hx112_0)
        have HR112_0 := Aside0.mk hi112_0
        have HC112_0 := Aside0.mk hl112_0
        clear hi112_0 hl112_0
        replace p112 := eq_true p112
        replace q112 := eq_true q112
        go_enter Try.func40, Try.ntmps40
        go_wp2_with (first | ((with_reducible refine gate_callee (f := 98) rfl ?_); refine goesL_ (some 15) rfl rfl Try.func98 (by kernel_rfl) rfl #[.int .i64 ((rd_L23 l0 0).length : Int)] rfl (by (try simp only [List.map_toArray, List.map_cons, List.map_nil]); first | done | rfl | (simp only [List.length_drop, List.length_take]; rfl) | exact congrArg (fun x_ : Int => #[Value.int .u64 x_]) (show _ = _ % (18446744073709551616 : Int) by omega)) ?_; (with_reducible refine (offs_Start.calls ((rd_L23 l0 0).length : Int) t113 t114 _ A4.out).mono ?_); rintro e w16 ⟨v115, rfl, ho0, hb⟩; refine ⟨_, rfl, ?_⟩; have n0_ := Aside0.mk (Kd.V_elder' (by (with_reducible repeat (first | apply Kd.V_alloc | apply Kd.V_drewN | apply Kd.V_drew)); exact HO0.out) (Kd.R_base ho0) hb); have n1_ := Aside0.mk (Kd.V_elder' (by (with_reducible repeat (first | apply Kd.V_alloc | apply Kd.V_drewN | apply Kd.V_drew)); exact HL112_0.out) (Kd.R_base ho0) hb); have n2_ := Aside0.mk (Kd.R_lower (Kd.R_newM (M := fun k_ => (w.heap.size ≤ k_)) ho0 (below_size (by repeat (first | (with_reducible first | exact HB.out | apply below_alloc | apply pw_below_drewN | apply below_drew1) | exact HB.out))) (fun k_ h_ => h_)) (below_size (by repeat (first | (with_reducible first | exact HB.out | apply below_alloc | apply pw_below_drewN | apply below_drew1) | exact HB.out)))); have n3_ := Aside0.mk (Kd.C_below (by repeat (first | (with_reducible exact HR112_0.out) | (with_reducible refine Kd.C_alloc ?_ _) | (with_reducible refine Kd.C_drewN ?_ _) | (with_reducible refine Kd.C_drew ?_) | exact HR112_0.out)) hb); have n4_ := Aside0.mk (below_step (by repeat (first | (with_reducible first | exact HB.out | apply below_alloc | apply pw_below_drewN | apply below_drew1) | exact HB.out)) hb); clear HO0; clear HL112_0; clear HR112_0; clear HB; have HO0 := n0_; have HL112_0 := n1_; have HO116 := n2_; have HR112_0 := n3_; have HB := n4_; clear n0_ n1_ n2_ n3_ n4_; (try clear hb); (try clear hb2); (try clear hk); (try clear hi); (try clear ho0)))
        go_ret
        exact ⟨by first | rfl | (simp [errW_none, errW_some] <;> rfl) | (simp [*, errW_none, errW_some] <;> rfl), by repeat (first | (with_reducible first | exact HB.out | apply below_alloc | apply pw_below_drewN | apply below_drew1) | exact HB.out)⟩
    · rw [if_neg c3] at H
      exact absurd H (by simp)

end Go.Proofs.Ytgihecpobichbaa.Q
-- Written by a program of the session over the translation's print: functions as plain Lean, and that the machine's call comes to them.
namespace Go.Proofs.Ytgihecpobichbaa.Q
open Go.RowKit Go.Proofs.YtgihecpobichbaaW.PrintWords Go.Proofs.YtgihecpobichbaaW.PrintLast Go.Proofs.YtgihecpobichbaaW.PrintMore
attribute [local go_sem] max2_int min2_int max_two min_two max_three min_three max_four min_four   -- for this text's walks alone
set_option linter.unusedVariables false
set_option linter.unusedSimpArgs false

/-! ### headgatelaw08_alive: function 39 -/
def headgatelaw08_alive.f (k : Nat)  : Option (Bool) := (offs_Pack.f k (([(⟨0, 1⟩ : S83)] : List (S83)))).bind fun bt122 => (if bt122.2 = 0 then (if (strOfNums bt122.1).toList = ([2, 0, 2] : List UInt8) then ((offs_Tiles.f k (([(([(⟨0, 2⟩ : S83)] : List (S83))), (([(⟨2, 2⟩ : S83)] : List (S83))), (([(⟨2, 5⟩ : S83)] : List (S83)))] : List (List (S83))))).bind fun t138 => (if t138 = true then ((offs_Tiles.f k (([(([(⟨1, 2⟩ : S83)] : List (S83)))] : List (List (S83))))).bind fun t145 => (some (!t145))) else (some false))) else (some false)) else (some false))
set_option maxHeartbeats 8000000 in
set_option maxRecDepth 100000 in
theorem headgatelaw08_alive.calls (k : Nat)  (r : Bool) (w : World) (h : headgatelaw08_alive.f k  = some r) :
    Calls Try.prog 39 #[] w fun e w' => e = .returned (.bool r) ∧ Below w.heap.size w w' := by
  have hu83 := Try.underlying83
  have HB := Aside0.mk (Below.refl w.heap.size w)
  have H : ((offs_Pack.f k (([(⟨0, 1⟩ : S83)] : List (S83)))).bind fun bt122 => (if bt122.2 = 0 then (if (strOfNums bt122.1).toList = ([2, 0, 2] : List UInt8) then ((offs_Tiles.f k (([(([(⟨0, 2⟩ : S83)] : List (S83))), (([(⟨2, 2⟩ : S83)] : List (S83))), (([(⟨2, 5⟩ : S83)] : List (S83)))] : List (List (S83))))).bind fun t138 => (if t138 = true then ((offs_Tiles.f k (([(([(⟨1, 2⟩ : S83)] : List (S83)))] : List (List (S83))))).bind fun t145 => (some (!t145))) else (some false))) else (some false)) else (some false))) = some r := h
  clear h
  obtain ⟨y119, hy119⟩ : ∃ y_ : List (S83), y_ = (([(⟨0, 1⟩ : S83)] : List (S83))) := ⟨_, rfl⟩
  replace H : ((offs_Pack.f k y119).bind fun bt122 => (if bt122.2 = 0 then (if (strOfNums bt122.1).toList = ([2, 0, 2] : List UInt8) then ((offs_Tiles.f k (([(([(⟨0, 2⟩ : S83)] : List (S83))), (([(⟨2, 2⟩ : S83)] : List (S83))), (([(⟨2, 5⟩ : S83)] : List (S83)))] : List (List (S83))))).bind fun t138 => (if t138 = true then ((offs_Tiles.f k (([(([(⟨1, 2⟩ : S83)] : List (S83)))] : List (List (S83))))).bind fun t145 => (some (!t145))) else (some false))) else (some false)) else (some false))) = some r := by first | (rw [hy119]; with_reducible exact H) | (have H2_ := (Option.bind_some _ _).symm.trans H; rw [hy119]; with_reducible exact H2_) | (have H2_ := (Option.bind_some _ _).symm.trans H; with_reducible exact H2_) | with_reducible exact H | (rw [hy119]; exact H) | exact H
  have Ny119 := Aside0.mk hy119
  clear hy119
  replace H := Option.bind_eq_some_iff.mp H
  obtain ⟨⟨t122, t123⟩, A10, H⟩ := H
  replace H : (if t123 = 0 then (if (strOfNums t122).toList = ([2, 0, 2] : List UInt8) then ((offs_Tiles.f k (([(([(⟨0, 2⟩ : S83)] : List (S83))), (([(⟨2, 2⟩ : S83)] : List (S83))), (([(⟨2, 5⟩ : S83)] : List (S83)))] : List (List (S83))))).bind fun t138 => (if t138 = true then ((offs_Tiles.f k (([(([(⟨1, 2⟩ : S83)] : List (S83)))] : List (List (S83))))).bind fun t145 => (some (!t145))) else (some false))) else (some false)) else (some false)) = some r := H
  have A1 := Aside0.mk A10
  clear A10
  by_cases c2 : t123 = 0
  · rw [if_pos c2] at H
    have c2b0 : (t123 == 0) = true := beq_iff_eq.mpr c2
    have c2b1 : (t123 != 0) = false := bne_eq_false_iff_eq.mpr c2
    clear c2
    by_cases c3 : (strOfNums t122).toList = ([2, 0, 2] : List UInt8)
    · rw [if_pos c3] at H
      have c3b0 : ((strOfNums t122).toList == ([2, 0, 2] : List UInt8)) = true := beq_iff_eq.mpr c3
      have c3b1 : ((strOfNums t122).toList != ([2, 0, 2] : List UInt8)) = false := bne_eq_false_iff_eq.mpr c3
      clear c3
      obtain ⟨y126, hy126⟩ : ∃ y_ : List (S83), y_ = (([(⟨0, 2⟩ : S83)] : List (S83))) := ⟨_, rfl⟩
      replace H : ((offs_Tiles.f k (([y126, (([(⟨2, 2⟩ : S83)] : List (S83))), (([(⟨2, 5⟩ : S83)] : List (S83)))] : List (List (S83))))).bind fun t138 => (if t138 = true then ((offs_Tiles.f k (([(([(⟨1, 2⟩ : S83)] : List (S83)))] : List (List (S83))))).bind fun t145 => (some (!t145))) else (some false))) = some r := by first | (rw [hy126]; with_reducible exact H) | (have H2_ := (Option.bind_some _ _).symm.trans H; rw [hy126]; with_reducible exact H2_) | (have H2_ := (Option.bind_some _ _).symm.trans H; with_reducible exact H2_) | with_reducible exact H | (rw [hy126]; exact H) | exact H
      have Ny126 := Aside0.mk hy126
      clear hy126
      obtain ⟨y129, hy129⟩ : ∃ y_ : List (S83), y_ = (([(⟨2, 2⟩ : S83)] : List (S83))) := ⟨_, rfl⟩
      replace H : ((offs_Tiles.f k (([y126, y129, (([(⟨2, 5⟩ : S83)] : List (S83)))] : List (List (S83))))).bind fun t138 => (if t138 = true then ((offs_Tiles.f k (([(([(⟨1, 2⟩ : S83)] : List (S83)))] : List (List (S83))))).bind fun t145 => (some (!t145))) else (some false))) = some r := by first | (rw [hy129]; with_reducible exact H) | (have H2_ := (Option.bind_some _ _).symm.trans H; rw [hy129]; with_reducible exact H2_) | (have H2_ := (Option.bind_some _ _).symm.trans H; with_reducible exact H2_) | with_reducible exact H | (rw [hy129]; exact H) | exact H
      have Ny129 := Aside0.mk hy129
      clear hy129
      obtain ⟨y132, hy132⟩ : ∃ y_ : List (S83), y_ = (([(⟨2, 5⟩ : S83)] : List (S83))) := ⟨_, rfl⟩
      replace H : ((offs_Tiles.f k (([y126, y129, y132] : List (List (S83))))).bind fun t138 => (if t138 = true then ((offs_Tiles.f k (([(([(⟨1, 2⟩ : S83)] : List (S83)))] : List (List (S83))))).bind fun t145 => (some (!t145))) else (some false))) = some r := by first | (rw [hy132]; with_reducible exact H) | (have H2_ := (Option.bind_some _ _).symm.trans H; rw [hy132]; with_reducible exact H2_) | (have H2_ := (Option.bind_some _ _).symm.trans H; with_reducible exact H2_) | with_reducible exact H | (rw [hy132]; exact H) | exact H
      have Ny132 := Aside0.mk hy132
      clear hy132
      obtain ⟨y135, hy135⟩ : ∃ y_ : List (List (S83)), y_ = (([y126, y129, y132] : List (List (S83)))) := ⟨_, rfl⟩
      replace H : ((offs_Tiles.f k y135).bind fun t138 => (if t138 = true then ((offs_Tiles.f k (([(([(⟨1, 2⟩ : S83)] : List (S83)))] : List (List (S83))))).bind fun t145 => (some (!t145))) else (some false))) = some r := by first | (rw [hy135]; with_reducible exact H) | (have H2_ := (Option.bind_some _ _).symm.trans H; rw [hy135]; with_reducible exact H2_) | (have H2_ := (Option.bind_some _ _).symm.trans H; with_reducible exact H2_) | with_reducible exact H | (rw [hy135]; exact H) | exact H
      have Ny135 := Aside0.mk hy135
      clear hy135
      replace H := Option.bind_eq_some_iff.mp H
      obtain ⟨t138, A40, H⟩ := H
      replace H : (if t138 = true then ((offs_Tiles.f k (([(([(⟨1, 2⟩ : S83)] : List (S83)))] : List (List (S83))))).bind fun t145 => (some (!t145))) else (some false)) = some r := H
      have A4 := Aside0.mk A40
      clear A40
      by_cases c5 : t138 = true
      · subst c5
        have H1 : ((offs_Tiles.f k (([(([(⟨1, 2⟩ : S83)] : List (S83)))] : List (List (S83))))).bind fun t145 => (some (!t145))) = some r := by rw [if_pos rfl] at H; exact H
        clear H
        have H := H1
        clear H1
        obtain ⟨y139, hy139⟩ : ∃ y_ : List (S83), y_ = (([(⟨1, 2⟩ : S83)] : List (S83))) := ⟨_, rfl⟩
        replace H : ((offs_Tiles.f k (([y139] : List (List (S83))))).bind fun t145 => (some (!t145))) = some r := by first | (rw [hy139]; with_reducible exact H) | (have H2_ := (Option.bind_some _ _).symm.trans H; rw [hy139]; with_reducible exact H2_) | (have H2_ := (Option.bind_some _ _).symm.trans H; with_reducible exact H2_) | with_reducible exact H | (rw [hy139]; exact H) | exact H
        have Ny139 := Aside0.mk hy139
        clear hy139
        obtain ⟨y142, hy142⟩ : ∃ y_ : List (List (S83)), y_ = (([y139] : List (List (S83)))) := ⟨_, rfl⟩
        replace H : ((offs_Tiles.f k y142).bind fun t145 => (some (!t145))) = some r := by first | (rw [hy142]; with_reducible exact H) | (have H2_ := (Option.bind_some _ _).symm.trans H; rw [hy142]; with_reducible exact H2_) | (have H2_ := (Option.bind_some _ _).symm.trans H; with_reducible exact H2_) | with_reducible exact H | (rw [hy142]; exact H) | exact H
        have Ny142 := Aside0.mk hy142
        clear hy142
        replace H := Option.bind_eq_some_iff.mp H
        obtain ⟨t145, A60, H⟩ := H
        replace H : (some (!t145)) = some r := H
        have A6 := Aside0.mk A60
        clear A60
        obtain rfl := Option.some.inj H
        go_enter Try.func39, Try.ntmps39
        go_wp2_with (first | ((with_reducible refine gate_dst (N := 5) rfl ?_); (try (refine gate_guard (by rfl) ?_; dsimp only)); refine Kd.R_lit k83 _ 83 ?hg (N := 5) ?hd (xs := ([(⟨0, 1⟩ : S83)] : List (S83))) (inner := [.int .i64 0, .int .i64 1]) (ok := fun _ => True) (okp := fun _ => True) ?hr ?hp (fun _ hk => hk) trivial (Below.refl _ _) (Nat.le_refl _) (by simp) ?_; (case hd => rfl); (case hg => rfl); (case hr => first | (go_simp; done) | (go_simp; rfl)); (case hp => exact (Reps.c2 (show Kd.M k83 _ _ _ (⟨0, 1⟩ : S83) [.int .i64 0, .int .i64 1] from (k83_mkM _ _ _ (⟨0, 1⟩ : S83) )) (Reps.none _ _))); intro v120 w7 ho8 hb hg_ hnew_; clear hg_ hnew_; (first | rw [← Ny119.out] at ho8 | (simp only [Int.reduceToNat] at ho8; rw [← Ny119.out] at ho8)); have n0_ := Aside0.mk (Kd.R_lower ho8 (below_size (by repeat (first | (with_reducible first | exact HB.out | apply below_alloc | apply pw_below_drewN | apply below_drew1) | exact HB.out)))); have n1_ := Aside0.mk (below_step (by repeat (first | (with_reducible first | exact HB.out | apply below_alloc | apply pw_below_drewN | apply below_drew1) | exact HB.out)) hb); clear HB; have HO121 := n0_; have HB := n1_; clear n0_ n1_; clear hb ho8; obtain ⟨Ao9, co9, eo9⟩ := Kd.R_slice HO121.out; subst eo9) | ((with_reducible refine gate_callee (f := 41) rfl ?_); refine goesL_ (some 6) rfl rfl Try.func41 (by kernel_rfl) rfl #[.slice Ao9 y119.length co9] rfl (by (try simp only [List.map_toArray, List.map_cons, List.map_nil]); first | done | rfl | (simp only [List.length_drop, List.length_take]; rfl) | exact congrArg (fun x_ : Int => #[Value.int .u64 x_]) (show _ = _ % (18446744073709551616 : Int) by omega)) ?_; (with_reducible refine (offs_Pack.calls k _ _ y119 t122 t123 _ ?side1 ?side2 A1.out).mono ?_); (case side1 => repeat (first | exact (Kd.R_reads' HO121.out).2.2 | (with_reducible refine Kd.C_alloc ?_ _) | (with_reducible refine Kd.C_drewN ?_ _) | (with_reducible refine Kd.C_drew ?_))); (case side2 => exact (Kd.R_reads' HO121.out).2.1); rintro e w10 ⟨v124, rfl, ho0, hb⟩; refine ⟨_, rfl, ?_⟩; have n0_ := Aside0.mk (Kd.R_below (by (with_reducible repeat (first | apply Kd.R_alloc | apply Kd.R_drewN | apply Kd.R_drew)); exact HO121.out) hb); have n1_ := Aside0.mk (Kd.R_lower ho0 (below_size (by repeat (first | (with_reducible first | exact HB.out | apply below_alloc | apply pw_below_drewN | apply below_drew1) | exact HB.out)))); have n2_ := Aside0.mk (below_step (by repeat (first | (with_reducible first | exact HB.out | apply below_alloc | apply pw_below_drewN | apply below_drew1) | exact HB.out)) hb); clear HO121; clear HB; have HO121 := n0_; have HO125 := n1_; have HB := n2_; clear n0_ n1_ n2_; (try clear hb); (try clear hb2); (try clear hk); (try clear hi); (try clear ho0); have hcv11 := own_string (P := Try.prog) Try.underlying27 Try.underlying5 Try.underlying9 (Kd.own_of_R HO125.out)) | ((with_reducible refine gate_dst (N := 18) rfl ?_); (try (refine gate_guard (by rfl) ?_; dsimp only)); refine Kd.R_lit k83 _ 83 ?hg (N := 18) ?hd (xs := ([(⟨0, 2⟩ : S83)] : List (S83))) (inner := [.int .i64 0, .int .i64 2]) (ok := fun _ => True) (okp := fun _ => True) ?hr ?hp (fun _ hk => hk) trivial (Below.refl _ _) (Nat.le_refl _) (by simp) ?_; (case hd => rfl); (case hg => rfl); (case hr => first | (go_simp; done) | (go_simp; rfl)); (case hp => exact (Reps.c2 (show Kd.M k83 _ _ _ (⟨0, 2⟩ : S83) [.int .i64 0, .int .i64 2] from (k83_mkM _ _ _ (⟨0, 2⟩ : S83) )) (Reps.none _ _))); intro v127 w12 ho13 hb hg_ hnew_; clear hg_ hnew_; (first | rw [← Ny126.out] at ho13 | (simp only [Int.reduceToNat] at ho13; rw [← Ny126.out] at ho13)); have n0_ := Aside0.mk (Kd.R_elder' (by (with_reducible repeat (first | apply Kd.R_alloc | apply Kd.R_drewN | apply Kd.R_drew)); exact HO121.out) (Kd.R_base ho13) hb); have n1_ := Aside0.mk (Kd.R_below (by (with_reducible repeat (first | apply Kd.R_alloc | apply Kd.R_drewN | apply Kd.R_drew)); exact HO125.out) hb); have n2_ := Aside0.mk (Kd.R_lower (Kd.R_new' ho13 (Kd.R_lt (by (with_reducible repeat (first | apply Kd.R_alloc | apply Kd.R_drewN | apply Kd.R_drew)); exact HO121.out))) (below_size (by repeat (first | (with_reducible first | exact HB.out | apply below_alloc | apply pw_below_drewN | apply below_drew1) | exact HB.out)))); have n3_ := Aside0.mk (below_step (by repeat (first | (with_reducible first | exact HB.out | apply below_alloc | apply pw_below_drewN | apply below_drew1) | exact HB.out)) hb); clear HO121; clear HO125; clear HB; have HO121 := n0_; have HO125 := n1_; have HO128 := n2_; have HB := n3_; clear n0_ n1_ n2_ n3_; clear hb ho13) | ((with_reducible refine gate_dst (N := 20) rfl ?_); (try (refine gate_guard (by rfl) ?_; dsimp only)); refine Kd.R_lit k83 _ 83 ?hg (N := 20) ?hd (xs := ([(⟨2, 2⟩ : S83)] : List (S83))) (inner := [.int .i64 2, .int .i64 2]) (ok := fun _ => True) (okp := fun _ => True) ?hr ?hp (fun _ hk => hk) trivial (Below.refl _ _) (Nat.le_refl _) (by simp) ?_; (case hd => rfl); (case hg => rfl); (case hr => first | (go_simp; done) | (go_simp; rfl)); (case hp => exact (Reps.c2 (show Kd.M k83 _ _ _ (⟨2, 2⟩ : S83) [.int .i64 2, .int .i64 2] from (k83_mkM _ _ _ (⟨2, 2⟩ : S83) )) (Reps.none _ _))); intro v130 w14 ho15 hb hg_ hnew_; clear hg_ hnew_; (first | rw [← Ny129.out] at ho15 | (simp only [Int.reduceToNat] at ho15; rw [← Ny129.out] at ho15)); have n0_ := Aside0.mk (Kd.R_elder' (by (with_reducible repeat (first | apply Kd.R_alloc | apply Kd.R_drewN | apply Kd.R_drew)); exact HO121.out) (Kd.R_base ho15) hb); have n1_ := Aside0.mk (Kd.R_below (by (with_reducible repeat (first | apply Kd.R_alloc | apply Kd.R_drewN | apply Kd.R_drew)); exact HO125.out) hb); have n2_ := Aside0.mk (Kd.R_elder' (by (with_reducible repeat (first | apply Kd.R_alloc | apply Kd.R_drewN | apply Kd.R_drew)); exact HO128.out) (Kd.R_base ho15) hb); have n3_ := Aside0.mk (Kd.R_lower (Kd.R_new' (Kd.R_new' ho15 (Kd.R_lt (by (with_reducible repeat (first | apply Kd.R_alloc | apply Kd.R_drewN | apply Kd.R_drew)); exact HO121.out))) (Kd.R_lt (by (with_reducible repeat (first | apply Kd.R_alloc | apply Kd.R_drewN | apply Kd.R_drew)); exact HO128.out))) (below_size (by repeat (first | (with_reducible first | exact HB.out | apply below_alloc | apply pw_below_drewN | apply below_drew1) | exact HB.out)))); have n4_ := Aside0.mk (below_step (by repeat (first | (with_reducible first | exact HB.out | apply below_alloc | apply pw_below_drewN | apply below_drew1) | exact HB.out)) hb); clear HO121; clear HO125; clear HO128; clear HB; have HO121 := n0_; have HO125 := n1_; have HO128 := n2_; have HO131 := n3_; have HB := n4_; clear n0_ n1_ n2_ n3_ n4_; clear hb ho15) | ((with_reducible refine gate_dst (N := 22) rfl ?_); (try (refine gate_guard (by rfl) ?_; dsimp only)); refine Kd.R_lit k83 _ 83 ?hg (N := 22) ?hd (xs := ([(⟨2, 5⟩ : S83)] : List (S83))) (inner := [.int .i64 2, .int .i64 5]) (ok := fun _ => True) (okp := fun _ => True) ?hr ?hp (fun _ hk => hk) trivial (Below.refl _ _) (Nat.le_refl _) (by simp) ?_; (case hd => rfl); (case hg => rfl); (case hr => first | (go_simp; done) | (go_simp; rfl)); (case hp => exact (Reps.c2 (show Kd.M k83 _ _ _ (⟨2, 5⟩ : S83) [.int .i64 2, .int .i64 5] from (k83_mkM _ _ _ (⟨2, 5⟩ : S83) )) (Reps.none _ _))); intro v133 w16 ho17 hb hg_ hnew_; clear hg_ hnew_; (first | rw [← Ny132.out] at ho17 | (simp only [Int.reduceToNat] at ho17; rw [← Ny132.out] at ho17)); have n0_ := Aside0.mk (Kd.R_elder' (by (with_reducible repeat (first | apply Kd.R_alloc | apply Kd.R_drewN | apply Kd.R_drew)); exact HO121.out) (Kd.R_base ho17) hb); have n1_ := Aside0.mk (Kd.R_below (by (with_reducible repeat (first | apply Kd.R_alloc | apply Kd.R_drewN | apply Kd.R_drew)); exact HO125.out) hb); have n2_ := Aside0.mk (Kd.R_elder' (by (with_reducible repeat (first | apply Kd.R_alloc | apply Kd.R_drewN | apply Kd.R_drew)); exact HO128.out) (Kd.R_base ho17) hb); have n3_ := Aside0.mk (Kd.R_elder' (by (with_reducible repeat (first | apply Kd.R_alloc | apply Kd.R_drewN | apply Kd.R_drew)); exact HO131.out) (Kd.R_base ho17) hb); have n4_ := Aside0.mk (Kd.R_lower (Kd.R_new' (Kd.R_new' (Kd.R_new' ho17 (Kd.R_lt (by (with_reducible repeat (first | apply Kd.R_alloc | apply Kd.R_drewN | apply Kd.R_drew)); exact HO121.out))) (Kd.R_lt (by (with_reducible repeat (first | apply Kd.R_alloc | apply Kd.R_drewN | apply Kd.R_drew)); exact HO128.out))) (Kd.R_lt (by (with_reducible repeat (first | apply Kd.R_alloc | apply Kd.R_drewN | apply Kd.R_drew)); exact HO131.out))) (below_size (by repeat (first | (with_reducible first | exact HB.out | apply below_alloc | apply pw_below_drewN | apply below_drew1) | exact HB.out)))); have n5_ := Aside0.mk (below_step (by repeat (first | (with_reducible first | exact HB.out | apply below_alloc | apply pw_below_drewN | apply below_drew1) | exact HB.out)) hb); clear HO121; clear HO125; clear HO128; clear HO131; clear HB; have HO121 := n0_; have HO125 := n1_; have HO128 := n2_; have HO131 := n3_; have HO134 := n4_; have HB := n5_; clear n0_ n1_ n2_ n3_ n4_ n5_; clear hb ho17; obtain ⟨Ao18, co18, eo18⟩ := Kd.R_slice HO128.out; subst eo18; obtain ⟨Ao19, co19, eo19⟩ := Kd.R_slice HO131.out; subst eo19; obtain ⟨Ao20, co20, eo20⟩ := Kd.R_slice HO134.out; subst eo20) | ((with_reducible refine gate_dst (N := 23) rfl ?_); (try (refine gate_guard (by rfl) ?_; dsimp only)); refine Kd.N_lit (Kd.slice 83 k83) _ 81 ?hg (N' := 23) ?hd (xs := ([y126, y129, y132] : List (List (S83)))) (inner := [.slice Ao18 y126.length co18, .slice Ao19 y129.length co19, .slice Ao20 y132.length co20]) (ok := (fun k_ => some k_ ≠ (.slice Ao9 y119.length co9 : Value).ownBlock ∧ some k_ ≠ (v124 : Value).ownBlock)) (okp := (fun k_ => some k_ ≠ (.slice Ao9 y119.length co9 : Value).ownBlock ∧ some k_ ≠ (v124 : Value).ownBlock)) ?hr ?hp (fun _ hk => hk) ((show ∀ k_, w16.heap.size ≤ k_ → (fun k_ => some k_ ≠ (.slice Ao9 y119.length co9 : Value).ownBlock ∧ some k_ ≠ (v124 : Value).ownBlock) k_ from fun k_ hk => ⟨Kd.fresh' (Kd.R_lt (by (with_reducible repeat (first | apply Kd.R_alloc | apply Kd.R_drewN | apply Kd.R_drew)); exact HO121.out)) k_ hk, Kd.fresh' (Kd.R_lt (by (with_reducible repeat (first | apply Kd.R_alloc | apply Kd.R_drewN | apply Kd.R_drew)); exact HO125.out)) k_ hk⟩) _ (Nat.le_refl _)) (Below.refl _ _) (Nat.le_refl _) (by simp) ?_; (case hd => rfl); (case hg => rfl); (case hr => first | (go_simp; done) | (go_simp; rfl)); (case hp => exact (Reps.one (show Kd.FK (Kd.slice 83 k83) _ _ y126 [.slice Ao18 y126.length co18] from (Kd.FK_slice_mk (Kd.R_reads' (Kd.R_mono (ok' := (fun k_ => some k_ ≠ (.slice Ao9 y119.length co9 : Value).ownBlock ∧ some k_ ≠ (v124 : Value).ownBlock)) (Kd.R_apart' (HO128.out) (Kd.R_typed HO125.out) (by decide)) (fun k_ hk => ⟨hk.1.1.1.2, hk.2⟩))).2.1 (Kd.R_F (Kd.R_mono (ok' := (fun k_ => some k_ ≠ (.slice Ao9 y119.length co9 : Value).ownBlock ∧ some k_ ≠ (v124 : Value).ownBlock)) (Kd.R_apart' (HO128.out) (Kd.R_typed HO125.out) (by decide)) (fun k_ hk => ⟨hk.1.1.1.2, hk.2⟩))))) (Reps.one (show Kd.FK (Kd.slice 83 k83) _ _ y129 [.slice Ao19 y129.length co19] from (Kd.FK_slice_mk (Kd.R_reads' (Kd.R_mono (ok' := (fun k_ => some k_ ≠ (.slice Ao9 y119.length co9 : Value).ownBlock ∧ some k_ ≠ (v124 : Value).ownBlock)) (Kd.R_apart' (HO131.out) (Kd.R_typed HO125.out) (by decide)) (fun k_ hk => ⟨hk.1.1.1.2, hk.2⟩))).2.1 (Kd.R_F (Kd.R_mono (ok' := (fun k_ => some k_ ≠ (.slice Ao9 y119.length co9 : Value).ownBlock ∧ some k_ ≠ (v124 : Value).ownBlock)) (Kd.R_apart' (HO131.out) (Kd.R_typed HO125.out) (by decide)) (fun k_ hk => ⟨hk.1.1.1.2, hk.2⟩))))) (Reps.one (show Kd.FK (Kd.slice 83 k83) _ _ y132 [.slice Ao20 y132.length co20] from (Kd.FK_slice_mk (Kd.R_reads' (Kd.R_mono (ok' := (fun k_ => some k_ ≠ (.slice Ao9 y119.length co9 : Value).ownBlock ∧ some k_ ≠ (v124 : Value).ownBlock)) (Kd.R_apart' (HO134.out) (Kd.R_typed HO125.out) (by decide)) (fun k_ hk => ⟨hk.1.1.1.2, hk.2⟩))).2.1 (Kd.R_F (Kd.R_mono (ok' := (fun k_ => some k_ ≠ (.slice Ao9 y119.length co9 : Value).ownBlock ∧ some k_ ≠ (v124 : Value).ownBlock)) (Kd.R_apart' (HO134.out) (Kd.R_typed HO125.out) (by decide)) (fun k_ hk => ⟨hk.1.1.1.2, hk.2⟩))))) (Reps.none _ _))))); intro v136 w21 ho22 hb hg_ hnew_; clear hg_ hnew_; (first | rw [← Ny135.out] at ho22 | (simp only [Int.reduceToNat] at ho22; rw [← Ny135.out] at ho22)); have n0_ := Aside0.mk (Kd.R_below (by (with_reducible repeat (first | apply Kd.R_alloc | apply Kd.R_drewN | apply Kd.R_drew)); exact HO121.out) hb); have n1_ := Aside0.mk (Kd.R_below (by (with_reducible repeat (first | apply Kd.R_alloc | apply Kd.R_drewN | apply Kd.R_drew)); exact HO125.out) hb); have n2_ := Aside0.mk (Kd.N_lower ho22 (below_size (by repeat (first | (with_reducible first | exact HB.out | apply below_alloc | apply pw_below_drewN | apply below_drew1) | exact HB.out)))); have n3_ := Aside0.mk (below_step (by repeat (first | (with_reducible first | exact HB.out | apply below_alloc | apply pw_below_drewN | apply below_drew1) | exact HB.out)) hb); clear HO121; clear HO125; clear HB; clear HO128; clear HO131; clear HO134; have HO121 := n0_; have HO125 := n1_; have HO137 := n2_; have HB := n3_; clear n0_ n1_ n2_ n3_; clear hb ho22; obtain ⟨Ao23, co23, eo23⟩ := Kd.N_slice HO137.out; subst eo23) | (go_at_call 40; (with_reducible refine (offs_Tiles.calls k (fun k_ => (some k_ ≠ (.slice Ao9 y119.length co9 : Value).ownBlock ∧ some k_ ≠ (v124 : Value).ownBlock)) _ _ y135 true _ ?side1 A4.out).mono ?_); (case side1 => exact Kd.N_V (HO137.out)); rintro e w24 ⟨rfl, hb⟩; have n0_ := Aside0.mk (Kd.R_below (by (with_reducible repeat (first | apply Kd.R_alloc | apply Kd.R_drewN | apply Kd.R_drew)); exact HO121.out) hb); have n1_ := Aside0.mk (Kd.R_below (by (with_reducible repeat (first | apply Kd.R_alloc | apply Kd.R_drewN | apply Kd.R_drew)); exact HO125.out) hb); have n2_ := Aside0.mk (Kd.N_below (by (with_reducible repeat (first | apply Kd.N_alloc | apply Kd.N_drewN | apply Kd.N_drew)); exact HO137.out) hb); have n3_ := Aside0.mk (below_step (by repeat (first | (with_reducible first | exact HB.out | apply below_alloc | apply pw_below_drewN | apply below_drew1) | exact HB.out)) hb); clear HO121; clear HO125; clear HO137; clear HB; have HO121 := n0_; have HO125 := n1_; have HO137 := n2_; have HB := n3_; clear n0_ n1_ n2_ n3_; (try clear hb); (try clear hb2); (try clear hk); (try clear hi)) | ((with_reducible refine gate_dst (N := 28) rfl ?_); (try (refine gate_guard (by rfl) ?_; dsimp only)); refine Kd.R_lit k83 _ 83 ?hg (N := 28) ?hd (xs := ([(⟨1, 2⟩ : S83)] : List (S83))) (inner := [.int .i64 1, .int .i64 2]) (ok := fun _ => True) (okp := fun _ => True) ?hr ?hp (fun _ hk => hk) trivial (Below.refl _ _) (Nat.le_refl _) (by simp) ?_; (case hd => rfl); (case hg => rfl); (case hr => first | (go_simp; done) | (go_simp; rfl)); (case hp => exact (Reps.c2 (show Kd.M k83 _ _ _ (⟨1, 2⟩ : S83) [.int .i64 1, .int .i64 2] from (k83_mkM _ _ _ (⟨1, 2⟩ : S83) )) (Reps.none _ _))); intro v140 w25 ho26 hb hg_ hnew_; clear hg_ hnew_; (first | rw [← Ny139.out] at ho26 | (simp only [Int.reduceToNat] at ho26; rw [← Ny139.out] at ho26)); have n0_ := Aside0.mk (Kd.R_elder' (by (with_reducible repeat (first | apply Kd.R_alloc | apply Kd.R_drewN | apply Kd.R_drew)); exact HO121.out) (Kd.R_base ho26) hb); have n1_ := Aside0.mk (Kd.R_below (by (with_reducible repeat (first | apply Kd.R_alloc | apply Kd.R_drewN | apply Kd.R_drew)); exact HO125.out) hb); have n2_ := Aside0.mk (Kd.N_elder' (by (with_reducible repeat (first | apply Kd.N_alloc | apply Kd.N_drewN | apply Kd.N_drew)); exact HO137.out) (Kd.R_base ho26) hb); have n3_ := Aside0.mk (Kd.R_lower (Kd.R_new' ho26 (Kd.R_lt (by (with_reducible repeat (first | apply Kd.R_alloc | apply Kd.R_drewN | apply Kd.R_drew)); exact HO121.out))) (below_size (by repeat (first | (with_reducible first | exact HB.out | apply below_alloc | apply pw_below_drewN | apply below_drew1) | exact HB.out)))); have n4_ := Aside0.mk (below_step (by repeat (first | (with_reducible first | exact HB.out | apply below_alloc | apply pw_below_drewN | apply below_drew1) | exact HB.out)) hb); clear HO121; clear HO125; clear HO137; clear HB; have HO121 := n0_; have HO125 := n1_; have HO137 := n2_; have HO141 := n3_; have HB := n4_; clear n0_ n1_ n2_ n3_ n4_; clear hb ho26; obtain ⟨Ao27, co27, eo27⟩ := Kd.R_slice HO141.out; subst eo27) | ((with_reducible refine gate_dst (N := 29) rfl ?_); (try (refine gate_guard (by rfl) ?_; dsimp only)); refine Kd.N_lit (Kd.slice 83 k83) _ 81 ?hg (N' := 29) ?hd (xs := ([y139] : List (List (S83)))) (inner := [.slice Ao27 y139.length co27]) (ok := (fun k_ => some k_ ≠ (.slice Ao9 y119.length co9 : Value).ownBlock ∧ some k_ ≠ (v124 : Value).ownBlock ∧ some k_ ≠ (.slice Ao23 y135.length co23 : Value).ownBlock)) (okp := (fun k_ => some k_ ≠ (.slice Ao9 y119.length co9 : Value).ownBlock ∧ some k_ ≠ (v124 : Value).ownBlock ∧ some k_ ≠ (.slice Ao23 y135.length co23 : Value).ownBlock)) ?hr ?hp (fun _ hk => hk) ((show ∀ k_, w25.heap.size ≤ k_ → (fun k_ => some k_ ≠ (.slice Ao9 y119.length co9 : Value).ownBlock ∧ some k_ ≠ (v124 : Value).ownBlock ∧ some k_ ≠ (.slice Ao23 y135.length co23 : Value).ownBlock) k_ from fun k_ hk => ⟨Kd.fresh' (Kd.R_lt (by (with_reducible repeat (first | apply Kd.R_alloc | apply Kd.R_drewN | apply Kd.R_drew)); exact HO121.out)) k_ hk, Kd.fresh' (Kd.R_lt (by (with_reducible repeat (first | apply Kd.R_alloc | apply Kd.R_drewN | apply Kd.R_drew)); exact HO125.out)) k_ hk, Kd.fresh' (Kd.N_lt (by (with_reducible repeat (first | apply Kd.N_alloc | apply Kd.N_drewN | apply Kd.N_drew)); exact HO137.out)) k_ hk⟩) _ (Nat.le_refl _)) (Below.refl _ _) (Nat.le_refl _) (by simp) ?_; (case hd => rfl); (case hg => rfl); (case hr => first | (go_simp; done) | (go_simp; rfl)); (case hp => exact (Reps.one (show Kd.FK (Kd.slice 83 k83) _ _ y139 [.slice Ao27 y139.length co27] from (Kd.FK_slice_mk (Kd.R_reads' (Kd.R_mono (ok' := (fun k_ => some k_ ≠ (.slice Ao9 y119.length co9 : Value).ownBlock ∧ some k_ ≠ (v124 : Value).ownBlock ∧ some k_ ≠ (.slice Ao23 y135.length co23 : Value).ownBlock)) (Kd.R_apart' (Kd.R_apart' (HO141.out) (Kd.R_typed HO125.out) (by decide)) (Kd.N_typed HO137.out) (by decide)) (fun k_ hk => ⟨hk.1.1.2, ⟨hk.1.2, hk.2⟩⟩))).2.1 (Kd.R_F (Kd.R_mono (ok' := (fun k_ => some k_ ≠ (.slice Ao9 y119.length co9 : Value).ownBlock ∧ some k_ ≠ (v124 : Value).ownBlock ∧ some k_ ≠ (.slice Ao23 y135.length co23 : Value).ownBlock)) (Kd.R_apart' (Kd.R_apart' (HO141.out) (Kd.R_typed HO125.out) (by decide)) (Kd.N_typed HO137.out) (by decide)) (fun k_ hk => ⟨hk.1.1.2, ⟨hk.1.2, hk.2⟩⟩))))) (Reps.none _ _))); intro v143 w28 ho29 hb hg_ hnew_; clear hg_ hnew_; (first | rw [← Ny142.out] at ho29 | (simp only [Int.reduceToNat] at ho29; rw [← Ny142.out] at ho29)); have n0_ := Aside0.mk (Kd.R_below (by (with_reducible repeat (first | apply Kd.R_alloc | apply Kd.R_drewN | apply Kd.R_drew)); exact HO121.out) hb); have n1_ := Aside0.mk (Kd.R_below (by (with_reducible repeat (first | apply Kd.R_alloc | apply Kd.R_drewN | apply Kd.R_drew)); exact HO125.out) hb); have n2_ := Aside0.mk (Kd.N_elder' (by (with_reducible repeat (first | apply Kd.N_alloc | apply Kd.N_drewN | apply Kd.N_drew)); exact HO137.out) (Kd.N_base ho29) hb); have n3_ := Aside0.mk (Kd.N_lower ho29 (below_size (by repeat (first | (with_reducible first | exact HB.out | apply below_alloc | apply pw_below_drewN | apply below_drew1) | exact HB.out)))); have n4_ := Aside0.mk (below_step (by repeat (first | (with_reducible first | exact HB.out | apply below_alloc | apply pw_below_drewN | apply below_drew1) | exact HB.out)) hb); clear HO121; clear HO125; clear HO137; clear HB; clear HO141; have HO121 := n0_; have HO125 := n1_; have HO137 := n2_; have HO144 := n3_; have HB := n4_; clear n0_ n1_ n2_ n3_ n4_; clear hb ho29; obtain ⟨Ao30, co30, eo30⟩ := Kd.N_slice HO144.out; subst eo30) | (go_at_call 40; (with_reducible refine (offs_Tiles.calls k (fun k_ => (some k_ ≠ (.slice Ao9 y119.length co9 : Value).ownBlock ∧ (some k_ ≠ (v124 : Value).ownBlock ∧ some k_ ≠ (.slice Ao23 y135.length co23 : Value).ownBlock))) _ _ y142 t145 _ ?side1 A6.out).mono ?_); (case side1 => exact Kd.N_V (HO144.out)); rintro e w31 ⟨rfl, hb⟩; have n0_ := Aside0.mk (Kd.R_below (by (with_reducible repeat (first | apply Kd.R_alloc | apply Kd.R_drewN | apply Kd.R_drew)); exact HO121.out) hb); have n1_ := Aside0.mk (Kd.R_below (by (with_reducible repeat (first | apply Kd.R_alloc | apply Kd.R_drewN | apply Kd.R_drew)); exact HO125.out) hb); have n2_ := Aside0.mk (Kd.N_below (by (with_reducible repeat (first | apply Kd.N_alloc | apply Kd.N_drewN | apply Kd.N_drew)); exact HO137.out) hb); have n3_ := Aside0.mk (Kd.N_below (by (with_reducible repeat (first | apply Kd.N_alloc | apply Kd.N_drewN | apply Kd.N_drew)); exact HO144.out) hb); have n4_ := Aside0.mk (below_step (by repeat (first | (with_reducible first | exact HB.out | apply below_alloc | apply pw_below_drewN | apply below_drew1) | exact HB.out)) hb); clear HO121; clear HO125; clear HO137; clear HO144; clear HB; have HO121 := n0_; have HO125 := n1_; have HO137 := n2_; have HO144 := n3_; have HB := n4_; clear n0_ n1_ n2_ n3_ n4_; (try clear hb); (try clear hb2); (try clear hk); (try clear hi)))
        go_ret
        exact ⟨by first | rfl | (simp [errW_none, errW_some] <;> rfl) | (simp [*, errW_none, errW_some] <;> rfl), by repeat (first | (with_reducible first | exact HB.out | apply below_alloc | apply pw_below_drewN | apply below_drew1) | exact HB.out)⟩
      · replace c5 := Bool.eq_false_iff.mpr c5
        subst c5
        have H1 : (some false) = some r := by rw [if_neg (show ¬ (false = true) by decide)] at H; exact H
        clear H
        have H := H1
        clear H1
        obtain rfl := Option.some.inj H
        go_enter Try.func39, Try.ntmps39
        go_wp2_with (first | ((with_reducible refine gate_dst (N := 5) rfl ?_); (try (refine gate_guard (by rfl) ?_; dsimp only)); refine Kd.R_lit k83 _ 83 ?hg (N := 5) ?hd (xs := ([(⟨0, 1⟩ : S83)] : List (S83))) (inner := [.int .i64 0, .int .i64 1]) (ok := fun _ => True) (okp := fun _ => True) ?hr ?hp (fun _ hk => hk) trivial (Below.refl _ _) (Nat.le_refl _) (by simp) ?_; (case hd => rfl); (case hg => rfl); (case hr => first | (go_simp; done) | (go_simp; rfl)); (case hp => exact (Reps.c2 (show Kd.M k83 _ _ _ (⟨0, 1⟩ : S83) [.int .i64 0, .int .i64 1] from (k83_mkM _ _ _ (⟨0, 1⟩ : S83) )) (Reps.none _ _))); intro v120 w32 ho33 hb hg_ hnew_; clear hg_ hnew_; (first | rw [← Ny119.out] at ho33 | (simp only [Int.reduceToNat] at ho33; rw [← Ny119.out] at ho33)); have n0_ := Aside0.mk (Kd.R_lower ho33 (below_size (by repeat (first | (with_reducible first | exact HB.out | apply below_alloc | apply pw_below_drewN | apply below_drew1) | exact HB.out)))); have n1_ := Aside0.mk (below_step (by repeat (first | (with_reducible first | exact HB.out | apply below_alloc | apply pw_below_drewN | apply below_drew1) | exact HB.out)) hb); clear HB; have HO121 := n0_; have HB := n1_; clear n0_ n1_; clear hb ho33; obtain ⟨Ao34, co34, eo34⟩ := Kd.R_slice HO121.out; subst eo34) | ((with_reducible refine gate_callee (f := 41) rfl ?_); refine goesL_ (some 6) rfl rfl Try.func41 (by kernel_rfl) rfl #[.slice Ao34 y119.length co34] rfl (by (try simp only [List.map_toArray, List.map_cons, List.map_nil]); first | done | rfl | (simp only [List.length_drop, List.length_take]; rfl) | exact congrArg (fun x_ : Int => #[Value.int .u64 x_]) (show _ = _ % (18446744073709551616 : Int) by omega)) ?_; (with_reducible refine (offs_Pack.calls k _ _ y119 t122 t123 _ ?side1 ?side2 A1.out).mono ?_); (case side1 => repeat (first | exact (Kd.R_reads' HO121.out).2.2 | (with_reducible refine Kd.C_alloc ?_ _) | (with_reducible refine Kd.C_drewN ?_ _) | (with_reducible refine Kd.C_drew ?_))); (case side2 => exact (Kd.R_reads' HO121.out).2.1); rintro e w35 ⟨v124, rfl, ho0, hb⟩; refine ⟨_, rfl, ?_⟩; have n0_ := Aside0.mk (Kd.R_below (by (with_reducible repeat (first | apply Kd.R_alloc | apply Kd.R_drewN | apply Kd.R_drew)); exact HO121.out) hb); have n1_ := Aside0.mk (Kd.R_lower ho0 (below_size (by repeat (first | (with_reducible first | exact HB.out | apply below_alloc | apply pw_below_drewN | apply below_drew1) | exact HB.out)))); have n2_ := Aside0.mk (below_step (by repeat (first | (with_reducible first | exact HB.out | apply below_alloc | apply pw_below_drewN | apply below_drew1) | exact HB.out)) hb); clear HO121; clear HB; have HO121 := n0_; have HO125 := n1_; have HB := n2_; clear n0_ n1_ n2_; (try clear hb); (try clear hb2); (try clear hk); (try clear hi); (try clear ho0); have hcv36 := own_string (P := Try.prog) Try.underlying27 Try.underlying5 Try.underlying9 (Kd.own_of_R HO125.out)) | ((with_reducible refine gate_dst (N := 18) rfl ?_); (try (refine gate_guard (by rfl) ?_; dsimp only)); refine Kd.R_lit k83 _ 83 ?hg (N := 18) ?hd (xs := ([(⟨0, 2⟩ : S83)] : List (S83))) (inner := [.int .i64 0, .int .i64 2]) (ok := fun _ => True) (okp := fun _ => True) ?hr ?hp (fun _ hk => hk) trivial (Below.refl _ _) (Nat.le_refl _) (by simp) ?_; (case hd => rfl); (case hg => rfl); (case hr => first | (go_simp; done) | (go_simp; rfl)); (case hp => exact (Reps.c2 (show Kd.M k83 _ _ _ (⟨0, 2⟩ : S83) [.int .i64 0, .int .i64 2] from (k83_mkM _ _ _ (⟨0, 2⟩ : S83) )) (Reps.none _ _))); intro v127 w37 ho38 hb hg_ hnew_; clear hg_ hnew_; (first | rw [← Ny126.out] at ho38 | (simp only [Int.reduceToNat] at ho38; rw [← Ny126.out] at ho38)); have n0_ := Aside0.mk (Kd.R_elder' (by (with_reducible repeat (first | apply Kd.R_alloc | apply Kd.R_drewN | apply Kd.R_drew)); exact HO121.out) (Kd.R_base ho38) hb); have n1_ := Aside0.mk (Kd.R_below (by (with_reducible repeat (first | apply Kd.R_alloc | apply Kd.R_drewN | apply Kd.R_drew)); exact HO125.out) hb); have n2_ := Aside0.mk (Kd.R_lower (Kd.R_new' ho38 (Kd.R_lt (by (with_reducible repeat (first | apply Kd.R_alloc | apply Kd.R_drewN | apply Kd.R_drew)); exact HO121.out))) (below_size (by repeat (first | (with_reducible first | exact HB.out | apply below_alloc | apply pw_below_drewN | apply below_drew1) | exact HB.out)))); have n3_ := Aside0.mk (below_step (by repeat (first | (with_reducible first | exact HB.out | apply below_alloc | apply pw_below_drewN | apply below_drew1) | exact HB.out)) hb); clear HO121; clear HO125; clear HB; have HO121 := n0_; have HO125 := n1_; have HO128 := n2_; have HB := n3_; clear n0_ n1_ n2_ n3_; clear hb ho38) | ((with_reducible refine gate_dst (N := 20) rfl ?_); (try (refine gate_guard (by rfl) ?_; dsimp only)); refine Kd.R_lit k83 _ 83 ?hg (N := 20) ?hd (xs := ([(⟨2, 2⟩ : S83)] : List (S83))) (inner := [.int .i64 2, .int .i64 2]) (ok := fun _ => True) (okp := fun _ => True) ?hr ?hp (fun _ hk => hk) trivial (Below.refl _ _) (Nat.le_refl _) (by simp) ?_; (case hd => rfl); (case hg => rfl); (case hr => first | (go_simp; done) | (go_simp; rfl)); (case hp => exact (Reps.c2 (show Kd.M k83 _ _ _ (⟨2, 2⟩ : S83) [.int .i64 2, .int .i64 2] from (k83_mkM _ _ _ (⟨2, 2⟩ : S83) )) (Reps.none _ _))); intro v130 w39 ho40 hb hg_ hnew_; clear hg_ hnew_; (first | rw [← Ny129.out] at ho40 | (simp only [Int.reduceToNat] at ho40; rw [← Ny129.out] at ho40)); have n0_ := Aside0.mk (Kd.R_elder' (by (with_reducible repeat (first | apply Kd.R_alloc | apply Kd.R_drewN | apply Kd.R_drew)); exact HO121.out) (Kd.R_base ho40) hb); have n1_ := Aside0.mk (Kd.R_below (by (with_reducible repeat (first | apply Kd.R_alloc | apply Kd.R_drewN | apply Kd.R_drew)); exact HO125.out) hb); have n2_ := Aside0.mk (Kd.R_elder' (by (with_reducible repeat (first | apply Kd.R_alloc | apply Kd.R_drewN | apply Kd.R_drew)); exact HO128.out) (Kd.R_base ho40) hb); have n3_ := Aside0.mk (Kd.R_lower (Kd.R_new' (Kd.R_new' ho40 (Kd.R_lt (by (with_reducible repeat (first | apply Kd.R_alloc | apply Kd.R_drewN | apply Kd.R_drew)); exact HO121.out))) (Kd.R_lt (by (with_reducible repeat (first | apply Kd.R_alloc | apply Kd.R_drewN | apply Kd.R_drew)); exact HO128.out))) (below_size (by repeat (first | (with_reducible first | exact HB.out | apply below_alloc | apply pw_below_drewN | apply below_drew1) | exact HB.out)))); have n4_ := Aside0.mk (below_step (by repeat (first | (with_reducible first | exact HB.out | apply below_alloc | apply pw_below_drewN | apply below_drew1) | exact HB.out)) hb); clear HO121; clear HO125; clear HO128; clear HB; have HO121 := n0_; have HO125 := n1_; have HO128 := n2_; have HO131 := n3_; have HB := n4_; clear n0_ n1_ n2_ n3_ n4_; clear hb ho40) | ((with_reducible refine gate_dst (N := 22) rfl ?_); (try (refine gate_guard (by rfl) ?_; dsimp only)); refine Kd.R_lit k83 _ 83 ?hg (N := 22) ?hd (xs := ([(⟨2, 5⟩ : S83)] : List (S83))) (inner := [.int .i64 2, .int .i64 5]) (ok := fun _ => True) (okp := fun _ => True) ?hr ?hp (fun _ hk => hk) trivial (Below.refl _ _) (Nat.le_refl _) (by simp) ?_; (case hd => rfl); (case hg => rfl); (case hr => first | (go_simp; done) | (go_simp; rfl)); (case hp => exact (Reps.c2 (show Kd.M k83 _ _ _ (⟨2, 5⟩ : S83) [.int .i64 2, .int .i64 5] from (k83_mkM _ _ _ (⟨2, 5⟩ : S83) )) (Reps.none _ _))); intro v133 w41 ho42 hb hg_ hnew_; clear hg_ hnew_; (first | rw [← Ny132.out] at ho42 | (simp only [Int.reduceToNat] at ho42; rw [← Ny132.out] at ho42)); have n0_ := Aside0.mk (Kd.R_elder' (by (with_reducible repeat (first | apply Kd.R_alloc | apply Kd.R_drewN | apply Kd.R_drew)); exact HO121.out) (Kd.R_base ho42) hb); have n1_ := Aside0.mk (Kd.R_below (by (with_reducible repeat (first | apply Kd.R_alloc | apply Kd.R_drewN | apply Kd.R_drew)); exact HO125.out) hb); have n2_ := Aside0.mk (Kd.R_elder' (by (with_reducible repeat (first | apply Kd.R_alloc | apply Kd.R_drewN | apply Kd.R_drew)); exact HO128.out) (Kd.R_base ho42) hb); have n3_ := Aside0.mk (Kd.R_elder' (by (with_reducible repeat (first | apply Kd.R_alloc | apply Kd.R_drewN | apply Kd.R_drew)); exact HO131.out) (Kd.R_base ho42) hb); have n4_ := Aside0.mk (Kd.R_lower (Kd.R_new' (Kd.R_new' (Kd.R_new' ho42 (Kd.R_lt (by (with_reducible repeat (first | apply Kd.R_alloc | apply Kd.R_drewN | apply Kd.R_drew)); exact HO121.out))) (Kd.R_lt (by (with_reducible repeat (first | apply Kd.R_alloc | apply Kd.R_drewN | apply Kd.R_drew)); exact HO128.out))) (Kd.R_lt (by (with_reducible repeat (first | apply Kd.R_alloc | apply Kd.R_drewN | apply Kd.R_drew)); exact HO131.out))) (below_size (by repeat (first | (with_reducible first | exact HB.out | apply below_alloc | apply pw_below_drewN | apply below_drew1) | exact HB.out)))); have n5_ := Aside0.mk (below_step (by repeat (first | (with_reducible first | exact HB.out | apply below_alloc | apply pw_below_drewN | apply below_drew1) | exact HB.out)) hb); clear HO121; clear HO125; clear HO128; clear HO131; clear HB; have HO121 := n0_; have HO125 := n1_; have HO128 := n2_; have HO131 := n3_; have HO134 := n4_; have HB := n5_; clear n0_ n1_ n2_ n3_ n4_ n5_; clear hb ho42; obtain ⟨Ao43, co43, eo43⟩ := Kd.R_slice HO128.out; subst eo43; obtain ⟨Ao44, co44, eo44⟩ := Kd.R_slice HO131.out; subst eo44; obtain ⟨Ao45, co45, eo45⟩ := Kd.R_slice HO134.out; subst eo45) | ((with_reducible refine gate_dst (N := 23) rfl ?_); (try (refine gate_guard (by rfl) ?_; dsimp only)); refine Kd.N_lit (Kd.slice 83 k83) _ 81 ?hg (N' := 23) ?hd (xs := ([y126, y129, y132] : List (List (S83)))) (inner := [.slice Ao43 y126.length co43, .slice Ao44 y129.length co44, .slice Ao45 y132.length co45]) (ok := (fun k_ => some k_ ≠ (.slice Ao34 y119.length co34 : Value).ownBlock ∧ some k_ ≠ (v124 : Value).ownBlock)) (okp := (fun k_ => some k_ ≠ (.slice Ao34 y119.length co34 : Value).ownBlock ∧ some k_ ≠ (v124 : Value).ownBlock)) ?hr ?hp (fun _ hk => hk) ((show ∀ k_, w41.heap.size ≤ k_ → (fun k_ => some k_ ≠ (.slice Ao34 y119.length co34 : Value).ownBlock ∧ some k_ ≠ (v124 : Value).ownBlock) k_ from fun k_ hk => ⟨Kd.fresh' (Kd.R_lt (by (with_reducible repeat (first | apply Kd.R_alloc | apply Kd.R_drewN | apply Kd.R_drew)); exact HO121.out)) k_ hk, Kd.fresh' (Kd.R_lt (by (with_reducible repeat (first | apply Kd.R_alloc | apply Kd.R_drewN | apply Kd.R_drew)); exact HO125.out)) k_ hk⟩) _ (Nat.le_refl _)) (Below.refl _ _) (Nat.le_refl _) (by simp) ?_; (case hd => rfl); (case hg => rfl); (case hr => first | (go_simp; done) | (go_simp; rfl)); (case hp => exact (Reps.one (show Kd.FK (Kd.slice 83 k83) _ _ y126 [.slice Ao43 y126.length co43] from (Kd.FK_slice_mk (Kd.R_reads' (Kd.R_mono (ok' := (fun k_ => some k_ ≠ (.slice Ao34 y119.length co34 : Value).ownBlock ∧ some k_ ≠ (v124 : Value).ownBlock)) (Kd.R_apart' (HO128.out) (Kd.R_typed HO125.out) (by decide)) (fun k_ hk => ⟨hk.1.1.1.2, hk.2⟩))).2.1 (Kd.R_F (Kd.R_mono (ok' := (fun k_ => some k_ ≠ (.slice Ao34 y119.length co34 : Value).ownBlock ∧ some k_ ≠ (v124 : Value).ownBlock)) (Kd.R_apart' (HO128.out) (Kd.R_typed HO125.out) (by decide)) (fun k_ hk => ⟨hk.1.1.1.2, hk.2⟩))))) (Reps.one (show Kd.FK (Kd.slice 83 k83) _ _ y129 [.slice Ao44 y129.length co44] from (Kd.FK_slice_mk (Kd.R_reads' (Kd.R_mono (ok' := (fun k_ => some k_ ≠ (.slice Ao34 y119.length co34 : Value).ownBlock ∧ some k_ ≠ (v124 : Value).ownBlock)) (Kd.R_apart' (HO131.out) (Kd.R_typed HO125.out) (by decide)) (fun k_ hk => ⟨hk.1.1.1.2, hk.2⟩))).2.1 (Kd.R_F (Kd.R_mono (ok' := (fun k_ => some k_ ≠ (.slice Ao34 y119.length co34 : Value).ownBlock ∧ some k_ ≠ (v124 : Value).ownBlock)) (Kd.R_apart' (HO131.out) (Kd.R_typed HO125.out) (by decide)) (fun k_ hk => ⟨hk.1.1.1.2, hk.2⟩))))) (Reps.one (show Kd.FK (Kd.slice 83 k83) _ _ y132 [.slice Ao45 y132.length co45] from (Kd.FK_slice_mk (Kd.R_reads' (Kd.R_mono (ok' := (fun k_ => some k_ ≠ (.slice Ao34 y119.length co34 : Value).ownBlock ∧ some k_ ≠ (v124 : Value).ownBlock)) (Kd.R_apart' (HO134.out) (Kd.R_typed HO125.out) (by decide)) (fun k_ hk => ⟨hk.1.1.1.2, hk.2⟩))).2.1 (Kd.R_F (Kd.R_mono (ok' := (fun k_ => some k_ ≠ (.slice Ao34 y119.length co34 : Value).ownBlock ∧ some k_ ≠ (v124 : Value).ownBlock)) (Kd.R_apart' (HO134.out) (Kd.R_typed HO125.out) (by decide)) (fun k_ hk => ⟨hk.1.1.1.2, hk.2⟩))))) (Reps.none _ _))))); intro v136 w46 ho47 hb hg_ hnew_; clear hg_ hnew_; (first | rw [← Ny135.out] at ho47 | (simp only [Int.reduceToNat] at ho47; rw [← Ny135.out] at ho47)); have n0_ := Aside0.mk (Kd.R_below (by (with_reducible repeat (first | apply Kd.R_alloc | apply Kd.R_drewN | apply Kd.R_drew)); exact HO121.out) hb); have n1_ := Aside0.mk (Kd.R_below (by (with_reducible repeat (first | apply Kd.R_alloc | apply Kd.R_drewN | apply Kd.R_drew)); exact HO125.out) hb); have n2_ := Aside0.mk (Kd.N_lower ho47 (below_size (by repeat (first | (with_reducible first | exact HB.out | apply below_alloc | apply pw_below_drewN | apply below_drew1) | exact HB.out)))); have n3_ := Aside0.mk (below_step (by repeat (first | (with_reducible first | exact HB.out | apply below_alloc | apply pw_below_drewN | apply below_drew1) | exact HB.out)) hb); clear HO121; clear HO125; clear HB; clear HO128; clear HO131; clear HO134; have HO121 := n0_; have HO125 := n1_; have HO137 := n2_; have HB := n3_; clear n0_ n1_ n2_ n3_; clear hb ho47; obtain ⟨Ao48, co48, eo48⟩ := Kd.N_slice HO137.out; subst eo48) | (go_at_call 40; (with_reducible refine (offs_Tiles.calls k (fun k_ => (some k_ ≠ (.slice Ao34 y119.length co34 : Value).ownBlock ∧ some k_ ≠ (v124 : Value).ownBlock)) _ _ y135 false _ ?side1 A4.out).mono ?_); (case side1 => exact Kd.N_V (HO137.out)); rintro e w49 ⟨rfl, hb⟩; have n0_ := Aside0.mk (Kd.R_below (by (with_reducible repeat (first | apply Kd.R_alloc | apply Kd.R_drewN | apply Kd.R_drew)); exact HO121.out) hb); have n1_ := Aside0.mk (Kd.R_below (by (with_reducible repeat (first | apply Kd.R_alloc | apply Kd.R_drewN | apply Kd.R_drew)); exact HO125.out) hb); have n2_ := Aside0.mk (Kd.N_below (by (with_reducible repeat (first | apply Kd.N_alloc | apply Kd.N_drewN | apply Kd.N_drew)); exact HO137.out) hb); have n3_ := Aside0.mk (below_step (by repeat (first | (with_reducible first | exact HB.out | apply below_alloc | apply pw_below_drewN | apply below_drew1) | exact HB.out)) hb); clear HO121; clear HO125; clear HO137; clear HB; have HO121 := n0_; have HO125 := n1_; have HO137 := n2_; have HB := n3_; clear n0_ n1_ n2_ n3_; (try clear hb); (try clear hb2); (try clear hk); (try clear hi)))
        go_ret
        exact ⟨by first | rfl | (simp [errW_none, errW_some] <;> rfl) | (simp [*, errW_none, errW_some] <;> rfl), by repeat (first | (with_reducible first | exact HB.out | apply below_alloc | apply pw_below_drewN | apply below_drew1) | exact HB.out)⟩
    · rw [if_neg c3] at H
      have c3b0 : ((strOfNums t122).toList == ([2, 0, 2] : List UInt8)) = false := beq_eq_false_iff_ne.mpr c3
      have c3b1 : ((strOfNums t122).toList != ([2, 0, 2] : List UInt8)) = true := bne_iff_ne.mpr c3
      obtain rfl := Option.some.inj H
      go_enter Try.func39, Try.ntmps39
      go_wp2_with (first | ((with_reducible refine gate_dst (N := 5) rfl ?_); (try (refine gate_guard (by rfl) ?_; dsimp only)); refine Kd.R_lit k83 _ 83 ?hg (N := 5) ?hd (xs := ([(⟨0, 1⟩ : S83)] : List (S83))) (inner := [.int .i64 0, .int .i64 1]) (ok := fun _ => True) (okp := fun _ => True) ?hr ?hp (fun _ hk => hk) trivial (Below.refl _ _) (Nat.le_refl _) (by simp) ?_; (case hd => rfl); (case hg => rfl); (case hr => first | (go_simp; done) | (go_simp; rfl)); (case hp => exact (Reps.c2 (show Kd.M k83 _ _ _ (⟨0, 1⟩ : S83) [.int .i64 0, .int .i64 1] from (k83_mkM _ _ _ (⟨0, 1⟩ : S83) )) (Reps.none _ _))); intro v120 w50 ho51 hb hg_ hnew_; clear hg_ hnew_; (first | rw [← Ny119.out] at ho51 | (simp only [Int.reduceToNat] at ho51; rw [← Ny119.out] at ho51)); have n0_ := Aside0.mk (Kd.R_lower ho51 (below_size (by repeat (first | (with_reducible first | exact HB.out | apply below_alloc | apply pw_below_drewN | apply below_drew1) | exact HB.out)))); have n1_ := Aside0.mk (below_step (by repeat (first | (with_reducible first | exact HB.out | apply below_alloc | apply pw_below_drewN | apply below_drew1) | exact HB.out)) hb); clear HB; have HO121 := n0_; have HB := n1_; clear n0_ n1_; clear hb ho51; obtain ⟨Ao52, co52, eo52⟩ := Kd.R_slice HO121.out; subst eo52) | ((with_reducible refine gate_callee (f := 41) rfl ?_); refine goesL_ (some 6) rfl rfl Try.func41 (by kernel_rfl) rfl #[.slice Ao52 y119.length co52] rfl (by (try simp only [List.map_toArray, List.map_cons, List.map_nil]); first | done | rfl | (simp only [List.length_drop, List.length_take]; rfl) | exact congrArg (fun x_ : Int => #[Value.int .u64 x_]) (show _ = _ % (18446744073709551616 : Int) by omega)) ?_; (with_reducible refine (offs_Pack.calls k _ _ y119 t122 t123 _ ?side1 ?side2 A1.out).mono ?_); (case side1 => repeat (first | exact (Kd.R_reads' HO121.out).2.2 | (with_reducible refine Kd.C_alloc ?_ _) | (with_reducible refine Kd.C_drewN ?_ _) | (with_reducible refine Kd.C_drew ?_))); (case side2 => exact (Kd.R_reads' HO121.out).2.1); rintro e w53 ⟨v124, rfl, ho0, hb⟩; refine ⟨_, rfl, ?_⟩; have n0_ := Aside0.mk (Kd.R_below (by (with_reducible repeat (first | apply Kd.R_alloc | apply Kd.R_drewN | apply Kd.R_drew)); exact HO121.out) hb); have n1_ := Aside0.mk (Kd.R_lower ho0 (below_size (by repeat (first | (with_reducible first | exact HB.out | apply below_alloc | apply pw_below_drewN | apply below_drew1) | exact HB.out)))); have n2_ := Aside0.mk (below_step (by repeat (first | (with_reducible first | exact HB.out | apply below_alloc | apply pw_below_drewN | apply below_drew1) | exact HB.out)) hb); clear HO121; clear HB; have HO121 := n0_; have HO125 := n1_; have HB := n2_; clear n0_ n1_ n2_; (try clear hb); (try clear hb2); (try clear hk); (try clear hi); (try clear ho0); have hcv54 := own_string (P := Try.prog) Try.underlying27 Try.underlying5 Try.underlying9 (Kd.own_of_R HO125.out)))
      go_ret
      exact ⟨by first | rfl | (simp [errW_none, errW_some] <;> rfl) | (simp [*, errW_none, errW_some] <;> rfl), by repeat (first | (with_reducible first | exact HB.out | apply below_alloc | apply pw_below_drewN | apply below_drew1) | exact HB.out)⟩
  · rw [if_neg c2] at H
    have c2b0 : (t123 == 0) = false := beq_eq_false_iff_ne.mpr c2
    have c2b1 : (t123 != 0) = true := bne_iff_ne.mpr c2
    obtain rfl := Option.some.inj H
    go_enter Try.func39, Try.ntmps39
    go_wp2_with (first | ((with_reducible refine gate_dst (N := 5) rfl ?_); (try (refine gate_guard (by rfl) ?_; dsimp only)); refine Kd.R_lit k83 _ 83 ?hg (N := 5) ?hd (xs := ([(⟨0, 1⟩ : S83)] : List (S83))) (inner := [.int .i64 0, .int .i64 1]) (ok := fun _ => True) (okp := fun _ => True) ?hr ?hp (fun _ hk => hk) trivial (Below.refl _ _) (Nat.le_refl _) (by simp) ?_; (case hd => rfl); (case hg => rfl); (case hr => first | (go_simp; done) | (go_simp; rfl)); (case hp => exact (Reps.c2 (show Kd.M k83 _ _ _ (⟨0, 1⟩ : S83) [.int .i64 0, .int .i64 1] from (k83_mkM _ _ _ (⟨0, 1⟩ : S83) )) (Reps.none _ _))); intro v120 w55 ho56 hb hg_ hnew_; clear hg_ hnew_; (first | rw [← Ny119.out] at ho56 | (simp only [Int.reduceToNat] at ho56; rw [← Ny119.out] at ho56)); have n0_ := Aside0.mk (Kd.R_lower ho56 (below_size (by repeat (first | (with_reducible first | exact HB.out | apply below_alloc | apply pw_below_drewN | apply below_drew1) | exact HB.out)))); have n1_ := Aside0.mk (below_step (by repeat (first | (with_reducible first | exact HB.out | apply below_alloc | apply pw_below_drewN | apply below_drew1) | exact HB.out)) hb); clear HB; have HO121 := n0_; have HB := n1_; clear n0_ n1_; clear hb ho56; obtain ⟨Ao57, co57, eo57⟩ := Kd.R_slice HO121.out; subst eo57) | ((with_reducible refine gate_callee (f := 41) rfl ?_); refine goesL_ (some 6) rfl rfl Try.func41 (by kernel_rfl) rfl #[.slice Ao57 y119.length co57] rfl (by (try simp only [List.map_toArray, List.map_cons, List.map_nil]); first | done | rfl | (simp only [List.length_drop, List.length_take]; rfl) | exact congrArg (fun x_ : Int => #[Value.int .u64 x_]) (show _ = _ % (18446744073709551616 : Int) by omega)) ?_; (with_reducible refine (offs_Pack.calls k _ _ y119 t122 t123 _ ?side1 ?side2 A1.out).mono ?_); (case side1 => repeat (first | exact (Kd.R_reads' HO121.out).2.2 | (with_reducible refine Kd.C_alloc ?_ _) | (with_reducible refine Kd.C_drewN ?_ _) | (with_reducible refine Kd.C_drew ?_))); (case side2 => exact (Kd.R_reads' HO121.out).2.1); rintro e w58 ⟨v124, rfl, ho0, hb⟩; refine ⟨_, rfl, ?_⟩; have n0_ := Aside0.mk (Kd.R_below (by (with_reducible repeat (first | apply Kd.R_alloc | apply Kd.R_drewN | apply Kd.R_drew)); exact HO121.out) hb); have n1_ := Aside0.mk (Kd.R_lower ho0 (below_size (by repeat (first | (with_reducible first | exact HB.out | apply below_alloc | apply pw_below_drewN | apply below_drew1) | exact HB.out)))); have n2_ := Aside0.mk (below_step (by repeat (first | (with_reducible first | exact HB.out | apply below_alloc | apply pw_below_drewN | apply below_drew1) | exact HB.out)) hb); clear HO121; clear HB; have HO121 := n0_; have HO125 := n1_; have HB := n2_; clear n0_ n1_ n2_; (try clear hb); (try clear hb2); (try clear hk); (try clear hi); (try clear ho0)))
    go_ret
    exact ⟨by first | rfl | (simp [errW_none, errW_some] <;> rfl) | (simp [*, errW_none, errW_some] <;> rfl), by repeat (first | (with_reducible first | exact HB.out | apply below_alloc | apply pw_below_drewN | apply below_drew1) | exact HB.out)⟩

end Go.Proofs.Ytgihecpobichbaa.Q
-- Written by a program of the session over the translation's print: functions as plain Lean, and that the machine's call comes to them.
namespace Go.Proofs.Ytgihecpobichbaa.Q
open Go.RowKit Go.Proofs.YtgihecpobichbaaW.PrintWords Go.Proofs.YtgihecpobichbaaW.PrintLast Go.Proofs.YtgihecpobichbaaW.PrintMore
attribute [local go_sem] max2_int min2_int max_two min_two max_three min_three max_four min_four   -- for this text's walks alone
set_option linter.unusedVariables false
set_option linter.unusedSimpArgs false

end Go.Proofs.Ytgihecpobichbaa.Q
/- Ranges as bytes and back, in plain words: no program in it. -/
namespace Go.Proofs.Ytgihecpobichbaa.Q
open Go.RowKit Go.Proofs.YtgihecpobichbaaW.PrintWords Go.Proofs.YtgihecpobichbaaW.PrintLast Go.Proofs.YtgihecpobichbaaW.PrintMore
set_option linter.unusedVariables false
set_option linter.unusedSimpArgs false

abbrev Rg := S83
theorem rg_drop (l : List Rg) (j : Int) (h0 : 0 ≤ j) (h1 : j < (l.length : Int)) : l.drop j.toNat = rd_T83 l j :: l.drop (j + 1).toNat := by
  have e : (j + 1).toNat = j.toNat + 1 := by omega
  have hl : j.toNat < l.length := by omega
  rw [e, List.drop_eq_getElem_cons hl]
  unfold rd_T83
  rw [List.getD_eq_getElem?_getD, List.getElem?_eq_getElem hl]
  rfl
def okR (y : Rg) : Bool := decide (0 ≤ y.f0 ∧ y.f0 ≤ y.f1 ∧ y.f1 ≤ 1099511627776)
def rightR (l : List Rg) : Bool := decide (1 ≤ l.length ∧ l.length ≤ 4) && l.all okR
theorem check_loop (l : List Rg) (hl : l.length ≤ 9223372036854775806) : ∀ (d : Nat) (i : Int), 0 ≤ i → i + d = l.length → Ev (fun k => offs_Check.l0 k l (l.length : Int) i) (if (l.drop i.toNat).all okR = true then 0 else 80) := by
  intro d
  induction d with
  | zero =>
    intro i h0 h1
    rw [List.drop_of_length_le (by omega)]
    exact Ev.step (f := fun _ => some 0) (fun k => by simp only [offs_Check.l0]; rw [if_neg (by omega)]) (Ev.now _)
  | succ d ih =>
    intro i h0 h1
    have e2 : wrap64 (i + 1) = i + 1 := wrap_in (by unfold in64; omega)
    rw [rg_drop l i h0 (by omega), List.all_cons]
    obtain ⟨y, hy⟩ : ∃ y, rd_T83 l i = y := ⟨_, rfl⟩
    have key : ∀ b : Bool, b = !(okR y) → Ev (fun k => offs_Check.j2 k l (l.length : Int) i b) (if (okR y && (l.drop (i + 1).toNat).all okR) = true then 0 else 80) := by
      intro b hb
      cases hv : okR y with
      | false =>
        rw [hv] at hb
        subst hb
        exact Ev.step (f := fun _ => some 80) (fun k => by simp only [offs_Check.j2]; rw [if_pos (by simp)]) (by simpa using Ev.now (80 : Int))
      | true =>
        rw [hv] at hb
        subst hb
        exact Ev.step (fun k => by simp only [offs_Check.j2]; rw [if_neg (by simp), e2]) (by simpa using ih (i + 1) (by omega) (by omega))
    rw [hy]
    refine Ev.step (fun k => ?_) (key (!(okR y)) rfl)
    simp only [offs_Check.l0]
    rw [if_pos (by omega), if_pos h0, if_pos (by omega), hy]
    unfold okR
    by_cases q1 : y.f0 < 0
    · rw [if_pos q1, show (!decide (0 ≤ y.f0 ∧ y.f0 ≤ y.f1 ∧ y.f1 ≤ 1099511627776)) = true by simp; omega]
    rw [if_neg q1]
    by_cases q2 : y.f1 < y.f0
    · rw [if_pos q2, show (!decide (0 ≤ y.f0 ∧ y.f0 ≤ y.f1 ∧ y.f1 ≤ 1099511627776)) = true by simp; omega]
    rw [if_neg q2]
    congr 1
    rw [← decide_not, decide_eq_decide]
    omega
theorem Check_ev (l : List Rg) (hl : l.length ≤ 9223372036854775806) : Ev (fun k => offs_Check.f k l) (if rightR l = true then 0 else 80) := by
  unfold offs_Check.f rightR
  by_cases h1 : (l.length : Int) < 1
  · refine Ev.congr (fun k => if_pos h1) ?_
    rw [if_neg (by simp; omega)]
    exact Ev.step (f := fun _ => some 80) (fun k => by simp only [offs_Check.j0]; rw [if_pos trivial]) (Ev.now _)
  refine Ev.congr (fun k => if_neg h1) ?_
  by_cases h2 : (l.length : Int) > 4
  · rw [if_neg (by simp; omega)]
    exact Ev.step (f := fun _ => some 80) (fun k => by simp only [offs_Check.j0]; rw [if_pos (by simpa using h2)]) (Ev.now _)
  · have e : decide (1 ≤ l.length ∧ l.length ≤ 4) = true := by simp; omega
    rw [e, Bool.true_and]
    refine Ev.step (fun k => ?_) (check_loop l hl l.length 0 (by omega) (by omega))
    simp only [offs_Check.j0]
    rw [if_neg (by simpa using h2)]
theorem alive08 : headgatelaw08_alive.f 40 = some true := by kernel_rfl
end Go.Proofs.Ytgihecpobichbaa.Q
/- Ranges that tile: of the printed functions alone; no machine in it. -/
namespace Go.Proofs.Ytgihecpobichbaa.Q
open Go.RowKit Go.Proofs.YtgihecpobichbaaW.PrintWords Go.Proofs.YtgihecpobichbaaW.PrintLast Go.Proofs.YtgihecpobichbaaW.PrintMore
set_option linter.unusedVariables false
set_option linter.unusedSimpArgs false
theorem rl_drop (l : List (List Rg)) (j : Int) (h0 : 0 ≤ j) (h1 : j < (l.length : Int)) : l.drop j.toNat = rd_L23 l j :: l.drop (j + 1).toNat := by
  have e : (j + 1).toNat = j.toNat + 1 := by omega
  have hl : j.toNat < l.length := by omega
  rw [e, List.drop_eq_getElem_cons hl]
  unfold rd_L23
  rw [List.getD_eq_getElem?_getD, List.getElem?_eq_getElem hl]
  rfl
def goes : List Rg → List Rg → Bool
  | a :: xs, b :: ys => (a.f1 == b.f0) && goes xs ys
  | _, _ => true
def follows (a b : List Rg) : Bool := rightR a && rightR b && decide (a.length = b.length) && goes a b
def chain : List Rg → List (List Rg) → Bool
  | _, [] => true
  | was, x :: xs => follows was x && chain x xs

theorem all_loop (a b : List Rg) (hl : a.length ≤ 9223372036854775806) (hab : a.length = b.length) : ∀ (d : Nat) (i : Int), 0 ≤ i → i + d = a.length → Ev (fun k => api_Range.l0 k a b (a.length : Int) i) (goes (a.drop i.toNat) (b.drop i.toNat)) := by
  intro d
  induction d with
  | zero =>
    intro i h0 h1
    rw [List.drop_of_length_le (by omega)]
    exact Ev.step (f := fun _ => some true) (fun k => by simp only [api_Range.l0]; rw [if_neg (by omega)]) (Ev.now _)
  | succ d ih =>
    intro i h0 h1
    have e2 : wrap64 (i + 1) = i + 1 := wrap_in (by unfold in64; omega)
    rw [rg_drop a i h0 (by omega), rg_drop b i h0 (by omega)]
    unfold goes
    cases hg : ((rd_T83 a i).f1 == (rd_T83 b i).f0) with
    | true =>
      rw [Bool.true_and]
      refine Ev.step (fun k => ?_) (ih (i + 1) (by omega) (by omega))
      simp only [api_Range.l0, offs_Follows_1.f]
      rw [if_pos (by omega), if_pos h0, if_pos (by omega), if_pos (by omega), hg, Option.bind_some, if_pos rfl, e2]
    | false =>
      rw [Bool.false_and]
      refine Ev.step (f := fun _ => some false) (fun k => ?_) (Ev.now _)
      simp only [api_Range.l0, offs_Follows_1.f]
      rw [if_pos (by omega), if_pos h0, if_pos (by omega), if_pos (by omega), hg, Option.bind_some, if_neg (by simp)]
theorem Follows_ev (a b : List Rg) (ha : a.length ≤ 9223372036854775806) (hb : b.length ≤ 9223372036854775806) : Ev (fun k => offs_Follows.f k a b) (follows a b) := by
  unfold offs_Follows.f follows
  refine Ev.bind (Check_ev a ha) ?_
  cases h1 : rightR a with
  | false => exact Ev.congr (fun k => if_neg (by simp)) (by simpa using Ev.now false)
  | true =>
    refine Ev.congr (fun k => if_pos (by simp)) ?_
    refine Ev.bind (Check_ev b hb) ?_
    cases h2 : rightR b with
    | false => exact Ev.congr (fun k => if_neg (by simp)) (by simpa using Ev.now false)
    | true =>
      refine Ev.congr (fun k => if_pos (by simp)) ?_
      refine Ev.bind (a := decide (a.length = b.length) && goes a b) ?_ (by simpa using Ev.now _)
      unfold api_Range.f
      by_cases h3 : a.length = b.length
      · rw [decide_eq_true h3, Bool.true_and]
        exact Ev.congr (fun k => if_pos (by omega)) (all_loop a b ha h3 a.length 0 (by omega) (by omega))
      · rw [decide_eq_false h3, Bool.false_and]
        exact Ev.congr (fun k => if_neg (by omega)) (Ev.now _)
theorem tiles_loop (l : List (List Rg)) (hl : l.length ≤ 9223372036854775806) (hm : ∀ x ∈ l, x.length ≤ 9223372036854775806) : ∀ (d : Nat) (i : Int) (was : List Rg), was.length ≤ 9223372036854775806 → 0 ≤ i → i + d = l.length → Ev (fun k => offs_Tiles.l0 k was l (l.length : Int) i) (chain was (l.drop i.toNat)) := by
  intro d
  induction d with
  | zero =>
    intro i was hw h0 h1
    rw [List.drop_of_length_le (by omega)]
    exact Ev.step (f := fun _ => some true) (fun k => by simp only [offs_Tiles.l0]; rw [if_neg (by omega)]) (Ev.now _)
  | succ d ih =>
    intro i was hw h0 h1
    have e2 : wrap64 (i + 1) = i + 1 := wrap_in (by unfold in64; omega)
    have hx : (rd_L23 l i).length ≤ 9223372036854775806 := hm _ (by
      have := rl_drop l i h0 (by omega)
      exact List.mem_of_mem_drop (this ▸ List.mem_cons_self ..))
    rw [rl_drop l i h0 (by omega)]
    unfold chain
    refine Ev.step (f := fun k => (offs_Follows.f k was (rd_L23 l i)).bind fun t120 => (if t120 = true then (offs_Tiles.l0 k (rd_L23 l i) l (l.length : Int) (i + 1)) else (some false))) (fun k => ?_) ?_
    · simp only [offs_Tiles.l0]
      rw [if_pos (by omega), if_pos h0, if_pos (by omega), e2]
    · refine Ev.bind (Follows_ev was _ hw hx) ?_
      cases follows was (rd_L23 l i) with
      | true => exact Ev.congr (fun k => if_pos rfl) (by simpa using ih (i + 1) _ hx (by omega) (by omega))
      | false => exact Ev.congr (fun k => if_neg (by simp)) (by simpa using Ev.now false)
/-- How the first one must begin: n ranges of nothing. -/
def begins (n : Nat) : List Rg := List.replicate (if n < 5 then n else 5) z83
def tiles : List (List Rg) → Bool
  | [] => true
  | x :: xs => chain (begins x.length) (x :: xs)
theorem tiles_cons (x : List Rg) (xs : List (List Rg)) : tiles (x :: xs) = chain (begins x.length) (x :: xs) := rfl
theorem chain_cons (w x : List Rg) (xs : List (List Rg)) : chain w (x :: xs) = (follows w x && chain x xs) := rfl
theorem follows_bad (a x : List Rg) (h : ¬ (1 ≤ x.length ∧ x.length ≤ 4)) : follows a x = false := by
  unfold follows rightR
  rw [show decide (1 ≤ x.length ∧ x.length ≤ 4) = false by simpa using h]
  simp
theorem Tiles_ev (l : List (List Rg)) (hl : l.length ≤ 9223372036854775806) (hm : ∀ x ∈ l, x.length ≤ 9223372036854775806) : Ev (fun k => offs_Tiles.f k l) (tiles l) := by
  unfold offs_Tiles.f
  cases l with
  | nil => exact Ev.congr (fun k => if_pos (by simp)) (Ev.now _)
  | cons x xs =>
    have e0 : rd_L23 (x :: xs) 0 = x := rfl
    have hlen : ((x :: xs).length : Int) = xs.length + 1 := by simp
    refine Ev.congr (fun k => (if_neg (by omega)).trans (if_pos (by omega))) ?_
    rw [e0, tiles_cons]
    unfold offs_Start.f
    by_cases h1 : (x.length : Int) < 1
    · rw [if_pos h1]
      rw [chain_cons, follows_bad _ x (by omega), Bool.false_and]
      exact Ev.congr (fun k => (Option.bind_some _ _).trans (if_neg (by simp))) (Ev.now _)
    rw [if_neg h1]
    by_cases h2 : (x.length : Int) > 4
    · rw [if_pos h2]
      rw [chain_cons, follows_bad _ x (by omega), Bool.false_and]
      exact Ev.congr (fun k => (Option.bind_some _ _).trans (if_neg (by simp))) (Ev.now _)
    rw [if_neg h2, if_pos (by omega), if_pos (by omega)]
    refine Ev.congr (fun k => (Option.bind_some _ _).trans (if_pos rfl)) ?_
    have := tiles_loop (x :: xs) hl hm (x :: xs).length 0 (begins x.length) (by unfold begins; rw [List.length_replicate]; split <;> omega) (by omega) (by omega)
    unfold begins at this ⊢
    rw [if_pos (by omega)] at this ⊢
    simpa using this
end Go.Proofs.Ytgihecpobichbaa.Q
/- The reader of package code: so many bytes, a byte, a text: walked. -/
namespace Go.Proofs.Ytgihecpobichbaa.Q
open Go.RowKit Go.Proofs.YtgihecpobichbaaW.PrintWords Go.Proofs.YtgihecpobichbaaW.PrintLast Go.Proofs.YtgihecpobichbaaW.PrintMore
set_option linter.unusedVariables false
set_option linter.unusedSimpArgs false

theorem RdS.below {w0 w : World} {G : Nat} {l : List Int} (h : RdS w0 w G l) : Below w0.heap.size w0 w := by
  obtain ⟨A, c, h⟩ := h
  exact h.below
end Go.Proofs.Ytgihecpobichbaa.Q
/- What package code's lists of pairs and of columns read one by one: walked. Printed by wip/gen/readp.py. -/
namespace Go.Proofs.Ytgihecpobichbaa.Q
open Go.RowKit Go.Proofs.YtgihecpobichbaaW.PrintWords Go.Proofs.YtgihecpobichbaaW.PrintLast Go.Proofs.YtgihecpobichbaaW.PrintMore
set_option linter.unusedVariables false
set_option linter.unusedSimpArgs false
theorem gb_setAt (W : World) (b j : Nat) (v : Value) : W.grownBy (W.setCell ⟨b, j, none⟩ v) (some b) :=
  ⟨rfl, rfl, rfl, (KeepsWalks.setCell W _ v).size, fun k _ hk => Below.heap_setCell _ _ _ k (fun e => hk (by rw [e]))⟩
/-- The box that a closure holds: the reader's address. -/
def PBox (w : World) (p G : Nat) : Prop := w.heap[p]? = some (.cells #[.pointer (some ⟨G, 0, none⟩)] 129 (0, 0))
theorem PBox.cell {w : World} {p G : Nat} (h : PBox w p G) : w.cell? ⟨p, 0, none⟩ = some (.pointer (some ⟨G, 0, none⟩)) := (blk_cell h 0).trans rfl
theorem PBox.grown {w w' : World} {p G : Nat} (h : PBox w p G) (hg : w.grownBy w' (some G)) (hne : p ≠ G) : PBox w' p G := blk_grown h hg (fun e => by injection e with e; exact hne e)
end Go.Proofs.Ytgihecpobichbaa.Q
-- Written by a program of the session over the translation's print: functions as plain Lean, and that the machine's call comes to them.
namespace Go.Proofs.Ytgihecpobichbaa.Q
open Go.RowKit Go.Proofs.YtgihecpobichbaaW.PrintWords Go.Proofs.YtgihecpobichbaaW.PrintLast Go.Proofs.YtgihecpobichbaaW.PrintMore
attribute [local go_sem] max2_int min2_int max_two min_two max_three min_three max_four min_four   -- for this text's walks alone
set_option linter.unusedVariables false
set_option linter.unusedSimpArgs false

/-! ### code_word: function 66 -/
/-! ### code_Cols_1: function 65 -/
/-! ### api_Column_64: function 64 -/
/-! ### code_Cols: function 23 -/
/-! ### code_Pairs_1: function 69 -/
end Go.Proofs.Ytgihecpobichbaa.Q
-- Written by a program of the session over the translation's print: functions as plain Lean, and that the machine's call comes to them.
namespace Go.Proofs.Ytgihecpobichbaa.Q
open Go.RowKit Go.Proofs.YtgihecpobichbaaW.PrintWords Go.Proofs.YtgihecpobichbaaW.PrintLast Go.Proofs.YtgihecpobichbaaW.PrintMore
attribute [local go_sem] max2_int min2_int max_two min_two max_three min_three max_four min_four   -- for this text's walks alone
set_option linter.unusedVariables false
set_option linter.unusedSimpArgs false

/-! ### api_Pair_68: function 68 -/
/-! ### code_Pairs: function 25 -/
/-! ### value_Check: function 108 -/
/-! ### value_Row: function 56 -/
/-! ### code_one: function 61 -/
end Go.Proofs.Ytgihecpobichbaa.Q
/- What package code's reader makes of a value: walked. -/
namespace Go.Proofs.Ytgihecpobichbaa.Q
open Go.RowKit Go.Proofs.YtgihecpobichbaaW.PrintWords Go.Proofs.YtgihecpobichbaaW.PrintLast Go.Proofs.YtgihecpobichbaaW.PrintMore
set_option linter.unusedVariables false
set_option linter.unusedSimpArgs false

end Go.Proofs.Ytgihecpobichbaa.Q
/- package code's rows, one by one: walked. Printed by wip/gen/readx.py. -/
namespace Go.Proofs.Ytgihecpobichbaa.Q
open Go.RowKit Go.Proofs.YtgihecpobichbaaW.PrintWords Go.Proofs.YtgihecpobichbaaW.PrintLast Go.Proofs.YtgihecpobichbaaW.PrintMore
set_option linter.unusedVariables false
set_option linter.unusedSimpArgs false
end Go.Proofs.Ytgihecpobichbaa.Q
/- package code's Unrows: walked. Printed by wip/gen/readx.py. -/
namespace Go.Proofs.Ytgihecpobichbaa.Q
open Go.RowKit Go.Proofs.YtgihecpobichbaaW.PrintWords Go.Proofs.YtgihecpobichbaaW.PrintLast Go.Proofs.YtgihecpobichbaaW.PrintMore
set_option linter.unusedVariables false
set_option linter.unusedSimpArgs false
end Go.Proofs.Ytgihecpobichbaa.Q
/- package code's Unpairs: walked. Printed by wip/gen/readx.py. -/
namespace Go.Proofs.Ytgihecpobichbaa.Q
open Go.RowKit Go.Proofs.YtgihecpobichbaaW.PrintWords Go.Proofs.YtgihecpobichbaaW.PrintLast Go.Proofs.YtgihecpobichbaaW.PrintMore
set_option linter.unusedVariables false
set_option linter.unusedSimpArgs false
end Go.Proofs.Ytgihecpobichbaa.Q
/- package code's Uncols: walked. Printed by wip/gen/readx.py. -/
namespace Go.Proofs.Ytgihecpobichbaa.Q
open Go.RowKit Go.Proofs.YtgihecpobichbaaW.PrintWords Go.Proofs.YtgihecpobichbaaW.PrintLast Go.Proofs.YtgihecpobichbaaW.PrintMore
set_option linter.unusedVariables false
set_option linter.unusedSimpArgs false
end Go.Proofs.Ytgihecpobichbaa.Q
/- Texts, values, rows, columns and pairs as bytes and back, in plain words: no program in it. -/
namespace Go.Proofs.Ytgihecpobichbaa.Q
open Go.RowKit Go.Proofs.YtgihecpobichbaaW.PrintWords Go.Proofs.YtgihecpobichbaaW.PrintLast Go.Proofs.YtgihecpobichbaaW.PrintMore
set_option linter.unusedVariables false
set_option linter.unusedSimpArgs false

end Go.Proofs.Ytgihecpobichbaa.Q
/- The law OffsOnce: walked. -/
namespace Go.Proofs.Ytgihecpobichbaa.Q
open Go.RowKit Go.Proofs.YtgihecpobichbaaW.PrintWords Go.Proofs.YtgihecpobichbaaW.PrintLast Go.Proofs.YtgihecpobichbaaW.PrintMore
set_option linter.unusedVariables false
set_option linter.unusedSimpArgs false
/-- How many rows the i-th write lays into the partition p. -/
def amt (d : List (List Int)) (i p : Nat) : Int := if p < (rd_L9 d (i : Int)).length then rd (rd_L9 d (i : Int)) (p : Int) % 5 else 0
/-- What stands in the partition p ahead of the i-th write. -/
def nxt (d : List (List Int)) : Nat → Nat → Int
  | 0, _ => 0
  | i + 1, p => nxt d i p + amt d i p
def winAt (d : List (List Int)) (i p : Nat) : Rg := ⟨nxt d i p, nxt d (i + 1) p⟩
def winRow (d : List (List Int)) (i : Nat) : List Rg := [winAt d i 0, winAt d i 1, winAt d i 2]
def wins (d : List (List Int)) : Nat → List (List Rg)
  | 0 => []
  | i + 1 => wins d i ++ [winRow d i]
def bytes (d : List (List Int)) : Prop := ∀ y ∈ d, ∀ z ∈ y, 0 ≤ z ∧ z ≤ 255
theorem amt_in (d : List (List Int)) (hb : bytes d) (i p : Nat) : 0 ≤ amt d i p ∧ amt d i p ≤ 4 := by
  unfold amt
  split
  · omega
  · omega
theorem nxt_in (d : List (List Int)) (hb : bytes d) (p : Nat) : ∀ i : Nat, 0 ≤ nxt d i p ∧ nxt d i p ≤ 4 * i
  | 0 => by simp [nxt]
  | i + 1 => by
    have h1 := nxt_in d hb p i
    have h2 := amt_in d hb i p
    simp only [nxt]
    omega
theorem wins_len (d : List (List Int)) : ∀ n, (wins d n).length = n
  | 0 => rfl
  | n + 1 => by simp [wins, wins_len d n]
theorem winRow_right (d : List (List Int)) (hb : bytes d) (i : Nat) (hi : i ≤ 1000) : rightR (winRow d i) = true := by
  have h := fun p => nxt_in d hb p i
  have g := fun p => nxt_in d hb p (i + 1)
  have a := fun p => amt_in d hb i p
  have e : ∀ p, nxt d (i + 1) p = nxt d i p + amt d i p := fun p => rfl
  have k : ∀ p, okR (winAt d i p) = true := fun p => by
    have := h p; have := g p; have := a p; have := e p
    unfold okR winAt
    exact decide_eq_true (by dsimp only; omega)
  unfold rightR winRow
  simp [k]
/-- Chains, from the other end. -/
theorem chain_snoc : ∀ (xs : List (List Rg)) (was x : List Rg), chain was (xs ++ [x]) = (chain was xs && follows ((was :: xs).getLast (by simp)) x)
  | [], was, x => by simp [chain]
  | y :: ys, was, x => by
    rw [List.cons_append]
    simp only [chain]
    rw [chain_snoc ys y x, Bool.and_assoc]
    rfl
theorem follows_rows (d : List (List Int)) (hb : bytes d) (i : Nat) (hi : i ≤ 999) : follows (winRow d i) (winRow d (i + 1)) = true := by
  unfold follows
  rw [winRow_right d hb i (by omega), winRow_right d hb (i + 1) (by omega)]
  simp [winRow, goes, winAt]
theorem follows_first (d : List (List Int)) (hb : bytes d) : follows (begins 3) (winRow d 0) = true := by
  unfold follows
  rw [winRow_right d hb 0 (by omega), show rightR (begins 3) = true from rfl]
  simp [winRow, goes, winAt, begins, nxt]
  decide
theorem wins_last (d : List (List Int)) (b : List Rg) : ∀ n, ((b :: wins d (n + 1)).getLast (by simp)) = winRow d n := by
  intro n
  show ((b :: (wins d n ++ [winRow d n])).getLast (by simp)) = winRow d n
  rw [List.getLast_cons (by simp), List.getLast_append_of_ne_nil (by simp) (by simp)]
  rfl
theorem chain_wins (d : List (List Int)) (hb : bytes d) : ∀ n : Nat, n ≤ 999 → chain (begins 3) (wins d n) = true
  | 0, _ => rfl
  | 1, _ => by
    simp only [wins, List.nil_append, chain, follows_first d hb, Bool.and_self]
  | n + 2, h => by
    have ih := chain_wins d hb (n + 1) (by omega)
    rw [show wins d (n + 2) = wins d (n + 1) ++ [winRow d (n + 1)] from rfl, chain_snoc, ih, wins_last, follows_rows d hb n (by omega)]
    rfl
theorem tiles_wins (d : List (List Int)) (hb : bytes d) (n : Nat) (hn : n ≤ 999) : tiles (wins d n) = true := by
  have h := chain_wins d hb n hn
  have hl := wins_len d n
  cases n with
  | zero => rfl
  | succ m =>
    have hx : ∃ xs, wins d (m + 1) = winRow d 0 :: xs := by
      clear h hl hn
      induction m with
      | zero => exact ⟨[], rfl⟩
      | succ k ih =>
        obtain ⟨xs, e⟩ := ih
        exact ⟨xs ++ [winRow d (k + 1)], by rw [show wins d (k + 1 + 1) = wins d (k + 1) ++ [winRow d (k + 1)] from rfl, e]; rfl⟩
    obtain ⟨xs, e⟩ := hx
    rw [e] at h ⊢
    exact h
theorem rd_wins (d : List (List Int)) : ∀ (n i : Nat), i < n → rd_L23 (wins d n) (i : Int) = winRow d i
  | 0, i, h => by omega
  | n + 1, i, h => by
    have hl := wins_len d n
    unfold rd_L23
    rw [Int.toNat_natCast, List.getD_eq_getElem?_getD]
    by_cases hi : i < n
    · have ih := rd_wins d n i hi
      unfold rd_L23 at ih
      rw [Int.toNat_natCast, List.getD_eq_getElem?_getD] at ih
      rw [show wins d (n + 1) = wins d n ++ [winRow d n] from rfl, List.getElem?_append_left (by omega)]
      exact ih
    · obtain rfl : i = n := by omega
      rw [show wins d (i + 1) = wins d i ++ [winRow d i] from rfl, List.getElem?_append_right (by omega), hl]
      simp
theorem rd_winRow (d : List (List Int)) (i p : Nat) (hp : p < 3) : rd_T83 (winRow d i) (p : Int) = winAt d i p := by
  match p, hp with
  | 0, _ => rfl
  | 1, _ => rfl
  | 2, _ => rfl
theorem wins_mem (d : List (List Int)) : ∀ n, ∀ x ∈ wins d n, x.length = 3
  | 0, x, h => by simp [wins] at h
  | n + 1, x, h => by
    simp only [wins, List.mem_append, List.mem_singleton] at h
    rcases h with h | rfl
    · exact wins_mem d n x h
    · rfl
/-- What the array holds while the i-th write has laid its rows into q partitions. -/
def cur (d : List (List Int)) (i q p : Nat) : Int := if p < q then nxt d (i + 1) p else nxt d i p
def arr (d : List (List Int)) (i q : Nat) : Array Value := #[.int .i64 (cur d i q 0), .int .i64 (cur d i q 1), .int .i64 (cur d i q 2)]
def ABox (W : World) (g : Nat) (d : List (List Int)) (i q : Nat) : Prop := W.heap[g]? = some (.cells (arr d i q) 80 (0, 0))
theorem arr_get (d : List (List Int)) (i p : Nat) (hp : p < 3) : (arr d i p)[p]? = some (.int .i64 (nxt d i p)) := by
  match p, hp with
  | 0, _ => rfl
  | 1, _ => rfl
  | 2, _ => rfl
theorem arr_get0 (d : List (List Int)) (i p : Nat) (hp : p < 3) : (arr d i 0)[p]? = some (.int .i64 (nxt d i p)) := by
  match p, hp with
  | 0, _ => rfl
  | 1, _ => rfl
  | 2, _ => rfl
theorem arr_set (d : List (List Int)) (i p : Nat) (hp : p < 3) : (arr d i p).setIfInBounds p (.int .i64 (nxt d (i + 1) p)) = arr d i (p + 1) := by
  match p, hp with
  | 0, _ => rfl
  | 1, _ => rfl
  | 2, _ => rfl
theorem arr_full (d : List (List Int)) (i : Nat) : arr d i 3 = arr d (i + 1) 0 := rfl
theorem take_snoc (d : List (List Int)) (i p : Nat) (hp : p < 3) : (winRow d i).take p ++ [winAt d i p] = (winRow d i).take (p + 1) := by
  match p, hp with
  | 0, _ => rfl
  | 1, _ => rfl
  | 2, _ => rfl
def once_T : Bool × List (List Nat × List Nat) := (true, [([], []), ([], []), ([1], [1]), ([2], [2]), ([], []), ([4], [4]), ([5], [5]), ([], []), ([6, 7], [6, 7]), ([3, 8], [3, 8]), ([9], [9]), ([0, 10], [0, 10]), ([11, 11, 0, 1, 2, 3, 4, 5, 6, 7, 8, 9, 10, 11], [0, 11])])
def once_B : List Nat := [0, 0, 2, 6, 0, 16, 48, 0, 240, 510, 1022, 2047, 4095]
theorem once_tab : rtab .any (opsOf Try.f9 17) = once_T := by kernel_rfl
theorem once_bits : waitsOk once_T.2 once_B = true := by kernel_rfl
set_option maxHeartbeats 8000000 in
set_option maxRecDepth 100000 in
theorem once_walk (A : Option Addr) (c : Nat) (d : List (List Int)) (hd : bytes d) (w : World) (hr : Kd.C (Kd.slice 5 (Kd.int .u8)) w A d.length d) (hc : d.length ≤ c) :
    Calls Try.prog 9 #[.slice A d.length c] w fun e w' => e = .returned (.bool true) ∧ Below w.heap.size w w' := by
  have HR := Aside0.mk hr
  have hmax := Kd.C_max hr
  clear hr
  go_enter Try.func9, Try.ntmps9
  go_wp2_with fail
  refine (headgatelaw08_alive.calls 40 true _ alive08).mono ?_
  rintro e w1 ⟨rfl, hb1⟩
  have HB := Aside0.mk hb1
  clear hb1
  by_cases hn : d.length ≤ 40
  · have hlb : decide ((40 : Int) < (d.length : Int)) = false := decide_eq_false (by omega)
    have hlb2 : decide (40 < d.length) = false := decide_eq_false (by omega)
    go_wp2_with fail
    have hs0 : (w1.alloc (Obj.cells #[Value.int IntKind.i64 0, Value.int IntKind.i64 0, Value.int IntKind.i64 0] 80)).heap.size = w1.heap.size + 1 := by simp
    have HA0 : Aside0 (ABox (w1.alloc (Obj.cells #[Value.int IntKind.i64 0, Value.int IntKind.i64 0, Value.int IntKind.i64 0] 80)) w1.heap.size d 0 0) := ⟨blk_new _ _⟩
    have HB0 := Aside0.mk (show Below w.heap.size w (w1.alloc (Obj.cells #[Value.int IntKind.i64 0, Value.int IntKind.i64 0, Value.int IntKind.i64 0] 80)) from below_alloc HB.out _)
    have HG0 := Aside0.mk (show w.heap.size ≤ w1.heap.size from HB.out.size)
    generalize w1.alloc (Obj.cells #[Value.int IntKind.i64 0, Value.int IntKind.i64 0, Value.int IntKind.i64 0] 80) = wa at *
    generalize w1.heap.size = g at *
    clear HB
    go_loopg [3, 5] d.length (fun kq v3 v5 wr => ∃ (i : Nat), v5 = .int .i64 i ∧ Aside0 (i + kq = d.length) ∧ Aside0 (ABox wr g d i 0) ∧ Aside0 (Kd.R (Kd.slice 83 k83) 81 wr (g + 1) (fun _ => True) v3 (wins d i)) ∧ Aside0 (Below w.heap.size w wr) ∧ Aside0 (g + 1 ≤ wr.heap.size))
    case atStart => exact ⟨0, rfl, ⟨by omega⟩, HA0, ⟨Kd.R_nil _ _ _ _ _⟩, HB0, ⟨by omega⟩⟩
    case round =>
      clear HA0 HB0
      obtain ⟨i, rfl, HI, HA, HO, HB, HZ⟩ := hrel
      cases gk with
      | succ k1 =>
        have hlt : i < d.length := by have := HI.out; omega
        have hlb3 : decide ((i : Int) < (d.length : Int)) = true := decide_eq_true (by omega)
        have hlb4 : decide (i < d.length) = true := decide_eq_true hlt
        clear hlb hlb2
        go_wp2_with fail
        obtain ⟨W0, hW0⟩ : ∃ W, W = wr := ⟨_, rfl⟩
        subst hW0
        go_loopg [6, 7] 3 (fun kq v6 v7 wx => ∃ (p : Nat), v7 = .int .i64 p ∧ Aside0 (p + kq = 3) ∧ Aside0 (ABox wx g d i p) ∧ Aside0 (Kd.R k83 83 wx W0.heap.size (fun _ => True) v6 ((winRow d i).take p)) ∧ Aside0 (W0.grownBy wx (some g)))
        case atStart => exact ⟨0, rfl, ⟨by omega⟩, HA, ⟨Kd.R_nil _ _ _ _ _⟩, ⟨World.grownBy.refl _ _⟩⟩
        case round =>
          obtain ⟨p, rfl, HP, HAx, HX, HGx⟩ := hrel
          clear HA
          cases gk with
          | succ k2 =>
            have hp3 : p < 3 := by have := HP.out; omega
            have hlp : decide ((p : Int) < 3) = true := decide_eq_true (by omega)
            have hlp2 : decide (p < 3) = true := decide_eq_true hp3
            have hp3i : (p : Int) < 3 := by omega
            have hp0i : (0 : Int) ≤ (p : Int) := by omega
            have HBx := Aside0.mk (HB.out.grown HGx.out HB.out.size (fun k e => by injection e with e; have := HG0.out; omega))
            obtain ⟨ad, A1, c1, rfl, x0, hc1, hC1⟩ := at_L9 (Kd.C_below HR.out HBx.out) (i : Int) (by omega) (by omega)
            rw [Int.toNat_natCast] at x0
            have hrow : ∀ z ∈ rd_L9 d (i : Int), 0 ≤ z ∧ z ≤ 255 := hd _ (by
              have : rd_L9 d ((i : Nat) : Int) = d[i] := by unfold rd_L9; rw [Int.toNat_natCast, List.getD_eq_getElem?_getD, List.getElem?_eq_getElem hlt]; rfl
              rw [this]; exact List.getElem_mem hlt)
            have ham : amt d i p = if p < (rd_L9 d (i : Int)).length then rd (rd_L9 d (i : Int)) (p : Int) % 5 else 0 := rfl
            have hin := amt_in d hd i p
            have hnb := nxt_in d hd p i
            have hnx : nxt d (i + 1) p = nxt d i p + amt d i p := rfl
            have hset := Aside0.mk (arr_set d i p hp3)
            have hsnoc := Aside0.mk (take_snoc d i p hp3)
            unfold winAt at hsnoc
            have hcell : wr.cell? ⟨g, p, none⟩ = some (.int .i64 (nxt d i p)) := (blk_cell HAx.out p).trans (arr_get d i p hp3)
            have hfz := blk_frozen HAx.out p
            have HK : Aside0 (∀ W, ABox W g d i p → W.cell? ⟨g, p, none⟩ = some (.int .i64 (nxt d i p)) ∧ W.frozen? ⟨g, p, none⟩ = false ∧ ABox W g d i p) := ⟨fun W h => ⟨(blk_cell h p).trans (arr_get d i p hp3), blk_frozen h p, h⟩⟩
            generalize amt d i p = q at ham hin hnx
            generalize nxt d (i + 1) p = b0 at hnx hset hsnoc
            generalize nxt d i p = a0 at hnx hset hsnoc hnb hcell HK
            generalize rd_L9 d (i : Int) = row at *
            by_cases hq : p < row.length
            case' pos =>
              have hq1 : decide ((p : Int) < (row.length : Int)) = true := decide_eq_true (by omega)
              have hq2 : decide (p < row.length) = true := decide_eq_true hq
              obtain ⟨ad1, rfl, x1⟩ := Kd.at_int hC1 (p : Int) (by omega) (by omega)
              rw [Int.toNat_natCast] at x1
              have hz := hrow _ (rd_mem row (p : Int) (by omega) (by omega))
              rw [if_pos hq] at ham
              generalize rd row (p : Int) = z at *
              clear hrow
              go_upto_region 17 with (fail)
              rw [← ham]
              clear ham hz x1 hq1 hq2
            case' neg =>
              have hq1 : decide ((p : Int) < (row.length : Int)) = false := decide_eq_false (by omega)
              have hq2 : decide (p < row.length) = false := decide_eq_false hq
              rw [if_neg hq] at ham
              clear hrow
              go_upto_region 17 with (fail)
              rw [← ham]
              clear ham hq1 hq2
            all_goals
              have hw : wrap64 (a0 + q) = b0 := by rw [hnx]; exact wrap_in (by unfold in64; omega)
              have HW := Aside0.mk hw
              have HZ2 := Aside0.mk (show W0.heap.size ≤ wr.heap.size from HGx.out.size)
              clear hnx hin hnb x0 hC1 hc1 hq
              have hXd := Aside0.mk (Kd.R_drew HX.out)
              have hAd := Aside0.mk (show ABox wr.drew g d i p from HAx.out)
              have hGd := Aside0.mk (show W0.grownBy wr.drew (some g) from World.grownBy.trans HGx.out (grown_of_below (below_drew (Below.refl _ _)) _))
              have hZd := Aside0.mk (show W0.heap.size ≤ wr.drew.heap.size from HZ2.out)
              clear HX HAx HGx HZ2
              have HX := hXd
              have HAx := hAd
              have HGx := hGd
              have HZ2 := hZd
              clear hXd hAd hGd hZd
              refine start_ (n := 13) (S := fun w' => w'.cell? ⟨g, p, none⟩ = some (.int .i64 a0)) (ds := [10, 11]) #[false, false, false, false, false, false, false, false, false, false, false, false, false] (by kernel_rfl) rfl rfl (HK.out _ HAx.out).1 (fun hHeld => ?_); refine with_tabW once_tab once_bits (fun HT_ HW_ => ?_)
              generalize wr.drew = wd at HX HAx HGx HZ2 hHeld ⊢
              refine pure_ (i := 0) (N := some 44) (v := ?_) (a' := ?_) #[true, false, false, false, false, false, false, false, false, false, false, false, false] rfl rfl (any_of HT_.out (by kernel_rfl)) (fun _ _ _ h => h) (Or.inl ⟨by rfl, ?_⟩) ?_ ?_
              rotate_left
              · intro w'
                go_simp
                first | with_reducible rfl | skip
              rotate_left
              · simp only [Act.put, List.setIfInBounds_toArray, List.set_cons_zero, List.set_cons_succ, i64_w, i32_w]
                rfl
              refine pure_ (i := 1) (N := some 45) (v := ?_) (a' := ?_) #[true, true, false, false, false, false, false, false, false, false, false, false, false] rfl rfl (any_of HT_.out (by kernel_rfl)) (fun _ _ _ h => h) (Or.inl ⟨by rfl, ?_⟩) ?_ ?_
              rotate_left
              · intro w'
                go_simp
                first | with_reducible rfl | skip
              rotate_left
              · simp only [Act.put, List.setIfInBounds_toArray, List.set_cons_zero, List.set_cons_succ, i64_w, i32_w]
                rfl
              refine pure_ (i := 2) (N := some 46) (v := ?_) (a' := ?_) #[true, true, true, false, false, false, false, false, false, false, false, false, false] rfl rfl (any_of HT_.out (by kernel_rfl)) (fun _ _ _ h => h) (Or.inl ⟨by rfl, ?_⟩) ?_ ?_
              rotate_left
              · intro w'
                go_simp
                first | with_reducible rfl | skip
              rotate_left
              · simp only [Act.put, List.setIfInBounds_toArray, List.set_cons_zero, List.set_cons_succ, i64_w, i32_w]
                rfl
              refine pure_ (i := 4) (N := some 48) (v := ?_) (a' := ?_) #[true, true, true, false, true, false, false, false, false, false, false, false, false] rfl rfl (any_of HT_.out (by kernel_rfl)) (fun _ _ _ h => h) (Or.inl ⟨by rfl, ?_⟩) ?_ ?_
              rotate_left
              · intro w'
                go_simp
                first | with_reducible rfl | skip
              rotate_left
              · simp only [Act.put, List.setIfInBounds_toArray, List.set_cons_zero, List.set_cons_succ, i64_w, i32_w]
                rfl
              refine pure_ (i := 5) (N := some 49) (v := ?_) (a' := ?_) #[true, true, true, false, true, true, false, false, false, false, false, false, false] rfl rfl (any_of HT_.out (by kernel_rfl)) (fun _ _ _ h => h) (Or.inl ⟨by rfl, ?_⟩) ?_ ?_
              rotate_left
              · intro w'
                go_simp
                first | with_reducible rfl | skip
              rotate_left
              · simp only [Act.put, List.setIfInBounds_toArray, List.set_cons_zero, List.set_cons_succ, i64_w, i32_w]
                rfl
              refine pure_ (i := 7) (N := some 51) (v := ?_) (a' := ?_) #[true, true, true, false, true, true, false, true, false, false, false, false, false] rfl rfl (any_of HT_.out (by kernel_rfl)) (fun _ _ _ h => h) (Or.inl ⟨by rfl, ?_⟩) ?_ ?_
              rotate_left
              · intro w'
                go_simp
                first | with_reducible rfl | skip
              rotate_left
              · simp only [Act.put, List.setIfInBounds_toArray, List.set_cons_zero, List.set_cons_succ, i64_w, i32_w]
                rfl
              refine take_ (i := 3) (N := some 47) (v := ?_) (a' := ?_) #[true, true, true, true, true, true, false, true, false, false, false, false, false] rfl rfl (take_ofW HT_.out HW_.out (by kernel_rfl)) (fun _ _ _ h => h) (Or.inl ⟨by rfl, ?_⟩) hHeld ?_ ?_
              rotate_left
              · rintro w' s0
                go_simp
                with_reducible rfl
              rotate_left
              · simp only [Act.put, List.setIfInBounds_toArray, List.set_cons_zero, List.set_cons_succ, i64_w, i32_w]
                rfl
              refine take_ (i := 6) (N := some 50) (v := ?_) (a' := ?_) #[true, true, true, true, true, true, true, true, false, false, false, false, false] rfl rfl (take_ofW HT_.out HW_.out (by kernel_rfl)) (fun _ _ _ h => h) (Or.inl ⟨by rfl, ?_⟩) hHeld ?_ ?_
              rotate_left
              · rintro w' s0
                go_simp
                with_reducible rfl
              rotate_left
              · simp only [Act.put, List.setIfInBounds_toArray, List.set_cons_zero, List.set_cons_succ, i64_w, i32_w]
                rfl
              refine pure_ (i := 8) (N := some 52) (v := ?_) (a' := ?_) #[true, true, true, true, true, true, true, true, true, false, false, false, false] rfl rfl (any_of HT_.out (by kernel_rfl)) (fun _ _ _ h => h) (Or.inl ⟨by rfl, ?_⟩) ?_ ?_
              rotate_left
              · intro w'
                go_simp
                first | with_reducible rfl | skip
              rotate_left
              · simp only [Act.put, List.setIfInBounds_toArray, List.set_cons_zero, List.set_cons_succ, i64_w, i32_w]
                rfl
              rw [HW.out]
              refine pure_ (i := 9) (N := some 53) (v := ?_) (a' := ?_) #[true, true, true, true, true, true, true, true, true, true, false, false, false] rfl rfl (any_of HT_.out (by kernel_rfl)) (fun _ _ _ h => h) (Or.inl ⟨by rfl, ?_⟩) ?_ ?_
              rotate_left
              · intro w'
                go_simp
                first | with_reducible rfl | skip
              rotate_left
              · simp only [Act.put, List.setIfInBounds_toArray, List.set_cons_zero, List.set_cons_succ, i64_w, i32_w]
                rfl
              refine last_ (i := 10) (N := some 54) #[true, true, true, true, true, true, true, true, true, true, true, false, false] rfl rfl (one_of HT_.out (by kernel_rfl)) (by decide) (fun K hK => ?_)
              refine value_ (w1 := ?_) (v := ?_) (by rfl) rfl ?_ ?_
              rotate_left 2
              · go_simp
                constructor
                · rfl
                · rfl
              refine hK.out _ _ ?_
              clear hK K
              refine norm_ (a' := ?_) ?_ ?_
              rotate_left
              · show Act.put _ (some 54) _ = _
                simp only [Act.put, List.setIfInBounds_toArray, List.set_cons_zero, List.set_cons_succ, i64_w, i32_w]
                rfl
              refine last_ (i := 11) (N := some 55) #[true, true, true, true, true, true, true, true, true, true, true, true, false] rfl rfl (one_of HT_.out (by kernel_rfl)) (by decide) (fun K hK => ?_)
              refine Kd.R_append_step k83 (w0 := wd) W0.heap.size (by rfl) (.tmp 44) (.tmp 54) 81 83 (.agg #[.int .i64 0, .int .i64 0]) 16 rfl Try.underlying81 info83 rfl (by decide) (by omega) u6 ((winRow d i).take p) (⟨a0, b0⟩ : Rg) [.int .i64 a0, .int .i64 b0] (fun _ => True) (fun _ => False) rfl rfl ?aP (fun _ hk => hk.elim) ?aF ?aO ?aB ?aS ?aL ?_
              (case aP => exact k83_mkM _ _ _ (⟨a0, b0⟩ : Rg))
              (case aB => exact Below.refl _ _)
              (case aF => exact (fun _ _ => trivial))
              (case aO => exact HX.out)
              (case aS => exact HZ2.out)
              (case aL => rw [List.length_take]; have : (winRow d i).length = 3 := rfl; omega)
              intro v1 w3 ho hb hg hat
              rw [hsnoc.out] at ho
              have HO3 := Aside0.mk ho
              have HGr := Aside0.mk hg
              clear ho hb hg hat
              refine hK.out _ _ ?_
              clear hK K
              refine norm_ (a' := ?_) ?_ ?_
              rotate_left
              · show Act.put _ (some 55) _ = _
                simp only [Act.put, List.setIfInBounds_toArray, List.set_cons_zero, List.set_cons_succ, i64_w, i32_w]
                rfl
              refine pure_ (i := 12) (N := some 6) (v := ?_) (a' := ?_) #[true, true, true, true, true, true, true, true, true, true, true, true, true] rfl rfl (any_of HT_.out (by kernel_rfl)) (fun _ _ _ h => h) (Or.inl ⟨by rfl, ?_⟩) ?_ ?_
              rotate_left
              · intro w'
                go_simp
                first | with_reducible rfl | skip
              rotate_left
              · simp only [Act.put, List.setIfInBounds_toArray, List.set_cons_zero, List.set_cons_succ, i64_w, i32_w]
                rfl
              refine done_ (done_of HT_.out (by kernel_rfl)) ?_
              have hgz : g < W0.heap.size := by have := HZ.out; omega
              have hnb : ∀ k, u6.ownBlock = some k → W0.heap.size ≤ k := Kd.R_base HX.out
              have HA3 : Aside0 (ABox w3 g d i p) := ⟨blk_grown HAx.out HGr.out (fun e => by have := hnb g e.symm; omega)⟩
              have HG3 := Aside0.mk (gb_new HGx.out HGr.out hnb)
              have HA4 : Aside0 (ABox (w3.setCell ⟨g, p, none⟩ (.int .i64 b0)) g d i (p + 1)) := ⟨by
                have h := blk_set HA3.out p (.int .i64 b0)
                rw [hset.out] at h
                exact h⟩
              have HX4 := Aside0.mk (R_past HO3.out (gb_setAt w3 g p (.int .i64 b0)) hgz)
              have HG4 := Aside0.mk (gb_trans HG3.out (gb_setAt w3 g p (.int .i64 b0)))
              have hcell3 := (HK.out w3 HA3.out).1
              have hfz3 := (HK.out w3 HA3.out).2.1
              clear hnb hgz hcell hfz
              go_wp2
              try rw [HW.out]
              go_roundg k2
              case measure => omega
              case rel => exact ⟨p + 1, by congr 1, ⟨by have := HP.out; omega⟩, HA4, HX4, HG4⟩
          | zero =>
            obtain rfl : p = 3 := HP.out
            have HBx := Aside0.mk (HB.out.grown HGx.out HB.out.size (fun k e => by injection e with e; have := HG0.out; omega))
            have hX : Kd.R k83 83 wr W0.heap.size (fun _ => True) u6 (winRow d i) := HX.out
            have hsn : Aside0 (wins d i ++ [winRow d i] = wins d (i + 1)) := ⟨rfl⟩
            generalize winRow d i = x at hX hsn
            clear HX
            obtain ⟨Ax, cx, rfl⟩ := Kd.R_slice hX
            have HVX := Aside0.mk (Kd.R_lower (Kd.R_bound hX) (base' := g + 1) HZ.out)
            have HUL := Aside0.mk (Kd.R_lt HO.out)
            have HO2 := Aside0.mk (R_past HO.out HGx.out (Nat.lt_succ_self g))
            have HZ2 := Aside0.mk (show g + 1 ≤ wr.heap.size from Nat.le_trans HZ.out HGx.out.size)
            have HLn := Aside0.mk (show (wins d i).length ≤ 40 by rw [wins_len]; omega)
            clear hX HO
            go_wp2_with (first | ((with_reducible refine gate_builtin (b := .append) (xs := #[.tmp 63, .tmp 65]) rfl ?_); (try (refine gate_guard (by rfl) ?_; dsimp only)); at_builtin; refine Kd.R_append (Kd.slice 83 k83) (w0 := wr) (g + 1) rfl (.tmp 63) (.tmp 65) 79 81 (.slice none 0 0) 24 rfl Try.underlying79 info81 rfl (by decide) (by omega) u3 (wins d i) x [.slice Ax x.length cx] (fun _ => True) (fun k => True ∧ W0.heap.size ≤ k ∧ k < wr.heap.size ∧ ∃ q, q ∈ 83 :: (k83).E ∧ ∃ cells, wr.heap[k]? = some (.cells cells q (0, 0))) rfl rfl ?aP (fun k hk => ⟨trivial, fun e => by have := HUL.out k e.symm; have := hk.2.1; omega⟩) ?aF ?aO ?aB ?aS ?aL ?_; (case aP => exact ⟨_, rfl, HVX.out⟩); (case aB => exact Below.refl _ _); (case aF => exact (fun _ _ => trivial)); (case aO => exact HO2.out); (case aS => exact HZ2.out); (case aL => have := HLn.out; omega); intro v1 w3 ho hb hg hat; rw [hsn.out] at ho; have HO3 := Aside0.mk ho; have HGr := Aside0.mk hg; clear ho hb hg hat))
            have hnb : ∀ k, u3.ownBlock = some k → g + 1 ≤ k := Kd.R_base HO2.out
            have HA3 : Aside0 (ABox w3 g d (i + 1) 0) := ⟨by
              have h := blk_grown HAx.out HGr.out (fun e => by have := hnb g e.symm; omega)
              rw [arr_full] at h
              exact h⟩
            have HB3 := Aside0.mk (HBx.out.grown HGr.out HBx.out.size (fun k e => by have := hnb k e; have := HG0.out; omega))
            have HZ3 := Aside0.mk (show g + 1 ≤ w3.heap.size from Nat.le_trans HZ2.out HGr.out.size)
            have hw1 : wrap64 ((i : Int) + 1) = (i : Int) + 1 := wrap_in (by unfold in64; omega)
            clear hnb
            go_wp2
            go_roundg k1
            case measure => omega
            case rel => exact ⟨i + 1, by congr 1, ⟨by have := HI.out; omega⟩, HA3, HO3, HB3, HZ3⟩
      | zero =>
        have hi : i = d.length := HI.out
        have hlb3 : decide ((i : Int) < (d.length : Int)) = false := decide_eq_false (by omega)
        have hlb4 : decide (i < d.length) = false := decide_eq_false (by omega)
        have HA2 : Aside0 (ABox wr g d d.length 0) := ⟨by have h := HA.out; rw [hi] at h; exact h⟩
        have hO : Kd.R (Kd.slice 83 k83) 81 wr (g + 1) (fun _ => True) u3 (wins d d.length) := by have h := HO.out; rw [hi] at h; exact h
        clear hi HO HA HI hlb hlb2
        have hlen : Aside0 ((wins d d.length).length = d.length) := ⟨by exact wins_len d d.length⟩
        have hrd : Aside0 (∀ i : Nat, i < d.length → rd_L23 (wins d d.length) (i : Int) = winRow d i) := ⟨fun i h => rd_wins d d.length i h⟩
        have hmem : Aside0 (∀ x ∈ wins d d.length, x.length = 3) := ⟨by exact wins_mem d d.length⟩
        have htil : Aside0 (tiles (wins d d.length) = true) := ⟨tiles_wins d hd d.length (by omega)⟩
        generalize wins d d.length = rows at hlen hrd hmem htil hO
        obtain ⟨AR, cR, rfl⟩ := Kd.R_slice hO
        have HV := Aside0.mk (Kd.R_V (base' := wr.heap.size) hO)
        have HC := Aside0.mk (Kd.R_reads' hO).2.2
        clear hO
        have hev := Tiles_ev rows (by have := hlen.out; omega) (fun x hx => by have := hmem.out x hx; omega)
        rw [htil.out] at hev
        obtain ⟨KT, hT⟩ := hev.rounds
        have HT := Aside0.mk hT
        clear hT hev htil hmem
        go_wp2_with fail
        refine (offs_Tiles.calls KT (fun _ => True) AR cR rows true _ HV.out HT.out).mono ?_
        rintro e wT ⟨rfl, hbT⟩
        have HAT : Aside0 (ABox wT g d d.length 0) := ⟨blk_below HA2.out hbT⟩
        have HCT := Aside0.mk (Kd.C_below HC.out hbT)
        have HBT := Aside0.mk (below_step HB.out hbT)
        clear hbT HV HC HA2
        go_wp2_with fail
        go_loopg [9] 3 (fun kq v9 wx => ∃ (p : Nat), v9 = .int .i64 p ∧ Aside0 (p + kq = 3) ∧ wT = wx)
        case atStart => exact ⟨0, rfl, ⟨by omega⟩, rfl⟩
        case round =>
          obtain ⟨p, rfl, HP, rfl⟩ := hrel
          cases gk with
          | zero =>
            have hp : p = 3 := HP.out
            have hlp : decide ((p : Int) < 3) = false := decide_eq_false (by omega)
            have hlp2 : decide (p < 3) = false := decide_eq_false (by omega)
            clear hp
            go_wp2
            first | exact ⟨rfl, HBT.out⟩ | (go_ret; exact ⟨rfl, HBT.out⟩)
          | succ k3 =>
            have hp3 : p < 3 := by have := HP.out; omega
            have hlp : decide ((p : Int) < 3) = true := decide_eq_true (by omega)
            have hlp2 : decide (p < 3) = true := decide_eq_true hp3
            have hp3i : (p : Int) < 3 := by omega
            have hcell : wT.cell? ⟨g, p, none⟩ = some (.int .i64 (nxt d d.length p)) := (blk_cell HAT.out p).trans (arr_get0 d d.length p hp3)
            have hnn := nxt_in d hd p d.length
            obtain ⟨N, hN⟩ : ∃ N : Nat, nxt d d.length p = (N : Int) := ⟨(nxt d d.length p).toNat, by omega⟩
            rw [hN] at hcell hnn
            have HN := Aside0.mk hN
            have HNN := Aside0.mk hnn
            clear hN hnn
            go_wp2_with fail
            go_loopg [10] N (fun kq v10 wx => ∃ (x : Nat), v10 = .int .i64 x ∧ Aside0 (x + kq = N) ∧ wT = wx)
            case atStart => exact ⟨0, rfl, ⟨by omega⟩, rfl⟩
            case round =>
              obtain ⟨x, rfl, HX, rfl⟩ := hrel
              cases gk with
              | zero =>
                have hx : x = N := HX.out
                have hlx : decide ((x : Int) < (N : Int)) = false := decide_eq_false (by omega)
                have hlx2 : decide (x < N) = false := decide_eq_false (by omega)
                have hw1 : wrap64 ((p : Int) + 1) = (p : Int) + 1 := wrap_in (by unfold in64; omega)
                clear hx
                go_wp2
                go_roundg k3
                case measure => omega
                case rel => exact ⟨p + 1, by congr 1, ⟨by have := HP.out; omega⟩, rfl⟩
              | succ k4 =>
                have hlx1 : x < N := by have := HX.out; omega
                have hlx : decide ((x : Int) < (N : Int)) = true := decide_eq_true (by omega)
                have hlx2 : decide (x < N) = true := decide_eq_true hlx1
                go_wp2_with fail
                go_loopg [11, 12] rows.length (fun kq v11 v12 wx => ∃ (j : Nat), v12 = .int .i64 j ∧ v11 = .int .i64 (if (x : Int) < nxt d j p then 1 else 0) ∧ Aside0 (j + kq = rows.length) ∧ wT = wx)
                case atStart => exact ⟨0, rfl, by rw [if_neg (by simp only [nxt]; omega)], ⟨by omega⟩, rfl⟩
                case round =>
                  obtain ⟨j, rfl, rfl, HJ, rfl⟩ := hrel
                  cases gk with
                  | zero =>
                    have hj : j = rows.length := HJ.out
                    have hlj : decide ((j : Int) < (rows.length : Int)) = false := decide_eq_false (by omega)
                    have hlj2 : decide (j < rows.length) = false := decide_eq_false (by omega)
                    have hone : (if (x : Int) < nxt d j p then (1 : Int) else 0) = 1 := if_pos (by rw [hj, hlen.out, HN.out]; omega)
                    rw [hone]
                    have hw1 : wrap64 ((x : Int) + 1) = (x : Int) + 1 := wrap_in (by have := HNN.out; unfold in64; omega)
                    clear hj hone
                    go_wp2
                    go_roundg k4
                    case measure => omega
                    case rel => exact ⟨x + 1, by congr 1, ⟨by have := HX.out; omega⟩, rfl⟩
                  | succ k5 =>
                    have hj0 : j < rows.length := by have := HJ.out; omega
                    have hlj : decide ((j : Int) < (rows.length : Int)) = true := decide_eq_true (by omega)
                    have hlj2 : decide (j < rows.length) = true := decide_eq_true hj0
                    have hw1 : wrap64 ((j : Int) + 1) = (j : Int) + 1 := wrap_in (by have := hlen.out; unfold in64; omega)
                    obtain ⟨ad, A3, c3, rfl, x0, hc3, hC3⟩ := at_L23 HCT.out (j : Int) (by omega) (by omega)
                    rw [hrd.out j (by have := hlen.out; omega)] at x0 hc3 hC3
                    obtain ⟨ad3, rfl, y0, y1⟩ := at_T83 hC3 (p : Int) (by omega) (by show (p : Int) < ((3 : Nat) : Int); omega)
                    rw [rd_winRow d j p hp3] at y0 y1
                    unfold winAt at y0 y1
                    dsimp only at y0 y1
                    have hz3 : (winRow d j).length = 3 := rfl
                    rw [hz3] at x0 hc3
                    rw [Int.toNat_natCast] at x0 y0 y1
                    have ha := amt_in d hd j p
                    have hs : nxt d (j + 1) p = nxt d j p + amt d j p := rfl
                    obtain ⟨a0, hA⟩ : ∃ a, nxt d j p = a := ⟨_, rfl⟩
                    obtain ⟨b0, hB⟩ : ∃ b, nxt d (j + 1) p = b := ⟨_, rfl⟩
                    rw [hA] at y0 hs
                    rw [hB] at y1 hs
                    rw [hA]
                    have HBb := Aside0.mk hB
                    have hab : a0 ≤ b0 := by omega
                    clear ha hs hA hB hC3 hz3
                    by_cases c1 : (x : Int) < a0
                    · rw [if_pos c1]
                      have d1 : decide (a0 ≤ (x : Int)) = false := decide_eq_false (by omega)
                      have hnew : Aside0 ((if (x : Int) < nxt d (j + 1) p then (1 : Int) else 0) = 1) := ⟨by rw [HBb.out]; exact if_pos (by omega)⟩
                      clear c1 hab
                      go_wp2
                      go_roundg k5
                      case measure => omega
                      case rel => exact ⟨j + 1, by congr 1, by rw [hnew.out], ⟨by have := HJ.out; omega⟩, rfl⟩
                    · rw [if_neg c1]
                      have d1 : decide (a0 ≤ (x : Int)) = true := decide_eq_true (by omega)
                      by_cases c2 : (x : Int) < b0
                      · have d2 : decide ((x : Int) < b0) = true := decide_eq_true c2
                        have hnew : Aside0 ((if (x : Int) < nxt d (j + 1) p then (1 : Int) else 0) = 1) := ⟨by rw [HBb.out]; exact if_pos c2⟩
                        clear c1 c2 hab
                        go_wp2
                        go_roundg k5
                        case measure => omega
                        case rel => exact ⟨j + 1, by congr 1, by rw [hnew.out]; try rfl, ⟨by have := HJ.out; omega⟩, rfl⟩
                      · have d2 : decide ((x : Int) < b0) = false := decide_eq_false c2
                        have hnew : Aside0 ((if (x : Int) < nxt d (j + 1) p then (1 : Int) else 0) = 0) := ⟨by rw [HBb.out]; exact if_neg c2⟩
                        clear c1 c2 hab
                        go_wp2
                        go_roundg k5
                        case measure => omega
                        case rel => exact ⟨j + 1, by congr 1, by rw [hnew.out], ⟨by have := HJ.out; omega⟩, rfl⟩
  · have hlb : decide ((40 : Int) < (d.length : Int)) = true := decide_eq_true (by omega)
    have hlb2 : decide (40 < d.length) = true := decide_eq_true (by omega)
    go_wp2
    first | exact ⟨rfl, HB.out⟩ | (go_ret; exact ⟨rfl, HB.out⟩)
def headgatelaw08_OffsOnce.f (k : Nat) (l0 : List (List Int)) : Option Bool := if (∀ y ∈ l0, ∀ z ∈ y, 0 ≤ z ∧ z ≤ 255) then some true else none
theorem headgatelaw08_OffsOnce.calls (k : Nat) (A0 : Option Addr) (c0 : Nat) (l0 : List (List Int)) (r : Bool) (w : World) (hr0 : Kd.C (Kd.slice 5 (Kd.int .u8)) w A0 l0.length l0) (hc0 : l0.length ≤ c0) (h : headgatelaw08_OffsOnce.f k l0 = some r) :
    Calls Try.prog 9 #[.slice A0 l0.length c0] w fun e w' => e = .returned (.bool r) ∧ Below w.heap.size w w' := by
  unfold headgatelaw08_OffsOnce.f at h
  split at h
  · rename_i hb
    cases h
    exact once_walk A0 c0 l0 hb w hr0 hc0
  · cases h
theorem OffsOnce_pure (l0 : List (List Int)) (h : l0.length * 24 ≤ 140737488351232 ∧ ∀ y ∈ l0, y.length * 1 ≤ 140737488351232 ∧ ∀ z ∈ y, (Lit.int .u8 z).wf = true) : ∃ k, headgatelaw08_OffsOnce.f k l0 = some true := by
  have hmin : IntKind.u8.min = 0 := rfl
  have hmax : IntKind.u8.max = 255 := rfl
  refine ⟨0, if_pos (fun y hy z hz => ?_)⟩
  have w0 := (h.2 y hy).2 z hz
  simp only [Lit.wf, Bool.and_eq_true, decide_eq_true_eq] at w0
  omega
end Go.Proofs.Ytgihecpobichbaa.Q
