/- The document's reader of rows, in plain words: no program in it. -/
import Derived.Test.YtgihecpobichbaaZCodeTells2
import Derived.Test.YtgihecpobichbaaK
import Derived.Test.YtgihecpobichbaaZCodeTells1
import Derived.Deep.QuietTactic
import Derived.Test.YtgihecpobichbaaRk
namespace Go.Proofs.Ytgihecpobichbaa.Q
open Go.RowKit Go.Proofs.YtgihecpobichbaaW.PrintWords Go.Proofs.YtgihecpobichbaaW.PrintLast Go.Proofs.YtgihecpobichbaaW.PrintMore
set_option linter.unusedVariables false
set_option linter.unusedSimpArgs false

theorem refChk_ev (k n : Int) (s : ByteArray) : Ev (fun K => headgateref03_Check.f K k n s) (chkV ⟨k, n, s⟩) := by
  unfold headgateref03_Check.f chkV
  simp only
  have hj1 : ∀ b : Bool, Ev (fun K => headgateref03_Check.j1 K b) (if b = true then 31 else 0) := by
    intro b
    refine Ev.step (f := fun _ => some (if b = true then 31 else 0)) (fun k => ?_) (Ev.now _)
    simp only [headgateref03_Check.j1]
    split <;> rfl
  by_cases hneg : k < 0
  · refine Ev.congr (fun _ => if_pos hneg) (Ev.step (f := fun _ => some 30) (fun K => ?_) ?_)
    · simp only [headgateref03_Check.j0]
      rw [if_pos trivial]
    · rw [if_neg (by omega), if_neg (by omega), if_neg (by omega), if_neg (by omega)]
      exact Ev.now _
  refine Ev.congr (fun _ => if_neg hneg) ?_
  by_cases hbig : k > 3
  · rw [decide_eq_true hbig]
    refine Ev.step (f := fun _ => some 30) (fun K => ?_) ?_
    · simp only [headgateref03_Check.j0]
      rw [if_pos trivial]
    · rw [if_neg (by omega), if_neg (by omega), if_neg (by omega), if_neg (by omega)]
      exact Ev.now _
  rw [decide_eq_false hbig]
  by_cases h3 : k = 3
  · rw [if_neg (by omega), if_neg (by omega), if_neg (by omega), if_pos h3]
    by_cases hn : n = 0
    · by_cases hs : s.size ≤ 200
      · rw [if_pos ⟨hn, hs⟩]
        refine Ev.step (f := fun _ => some 0) (fun K => ?_) (Ev.now _)
        simp only [headgateref03_Check.j0]
        rw [if_neg (by simp), if_pos h3, if_pos hn, if_neg (by omega)]
      · rw [if_neg (fun h => hs h.2)]
        refine Ev.step (f := fun _ => some 31) (fun K => ?_) (Ev.now _)
        simp only [headgateref03_Check.j0]
        rw [if_neg (by simp), if_pos h3, if_pos hn, if_pos (by omega)]
    · rw [if_neg (fun h => hn h.1)]
      refine Ev.step (f := fun _ => some 31) (fun K => ?_) (Ev.now _)
      simp only [headgateref03_Check.j0]
      rw [if_neg (by simp), if_pos h3, if_neg hn]
  · by_cases hs : s.toList = []
    · by_cases h0 : k = 0
      · rw [if_pos h0]
        by_cases hn : n = 0
        · rw [if_pos ⟨hn, hs⟩]
          refine Ev.step (fun K => ?_) (hj1 false)
          simp only [headgateref03_Check.j0]
          rw [if_neg (by simp), if_neg h3, if_pos hs, if_pos h0, if_pos hn, if_neg (by omega)]
        · rw [if_neg (fun h => hn h.1)]
          refine Ev.step (fun K => ?_) (hj1 true)
          simp only [headgateref03_Check.j0]
          rw [if_neg (by simp), if_neg h3, if_pos hs, if_pos h0, if_neg hn]
      · rw [if_neg h0]
        by_cases h1 : k = 1
        · rw [if_pos h1, if_pos hs]
          refine Ev.step (fun K => ?_) (hj1 false)
          simp only [headgateref03_Check.j0]
          rw [if_neg (by simp), if_neg h3, if_pos hs, if_neg h0, if_neg (by omega)]
        · rw [if_neg h1]
          have h2 : k = 2 := by omega
          rw [if_pos h2]
          by_cases hn : n = 0
          · rw [if_pos ⟨.inl hn, hs⟩]
            refine Ev.step (fun K => ?_) (hj1 false)
            simp only [headgateref03_Check.j0]
            rw [if_neg (by simp), if_neg h3, if_pos hs, if_neg h0, if_pos h2, if_pos hn]
          · have hj := hj1 (n != 1)
            have e : (if (n != 1) = true then (31 : Int) else 0) = (if (n = 0 ∨ n = 1) ∧ s.toList = [] then 0 else 31) := by
              by_cases hn1 : n = 1
              · rw [if_neg (by simp [hn1]), if_pos ⟨.inr hn1, hs⟩]
              · rw [if_pos (by simpa using hn1), if_neg (fun h => by omega)]
            rw [e] at hj
            refine Ev.step (fun K => ?_) hj
            simp only [headgateref03_Check.j0]
            rw [if_neg (by simp), if_neg h3, if_pos hs, if_neg h0, if_pos h2, if_neg hn]
    · have e : (if k = 0 then (if n = 0 ∧ s.toList = [] then (0 : Int) else 31) else if k = 1 then (if s.toList = [] then 0 else 31) else if k = 2 then (if (n = 0 ∨ n = 1) ∧ s.toList = [] then 0 else 31) else if k = 3 then (if n = 0 ∧ s.size ≤ 200 then 0 else 31) else 30) = 31 := by
        by_cases h0 : k = 0
        · rw [if_pos h0, if_neg (fun h => hs h.2)]
        · rw [if_neg h0]
          by_cases h1 : k = 1
          · rw [if_pos h1, if_neg hs]
          · rw [if_neg h1, if_pos (show k = 2 by omega), if_neg (fun h => hs h.2)]
      rw [e]
      refine Ev.step (fun K => ?_) (hj1 true)
      simp only [headgateref03_Check.j0]
      rw [if_neg (by simp), if_neg h3, if_neg hs]
end Go.Proofs.Ytgihecpobichbaa.Q
-- Written by a program of the session over the translation's print: functions as plain Lean, and that the machine's call comes to them.
namespace Go.Proofs.Ytgihecpobichbaa.Q
open Go.RowKit Go.Proofs.YtgihecpobichbaaW.PrintWords Go.Proofs.YtgihecpobichbaaW.PrintLast Go.Proofs.YtgihecpobichbaaW.PrintMore
attribute [local go_sem] max2_int min2_int max_two min_two max_three min_three max_four min_four   -- for this text's walks alone
set_option linter.unusedVariables false
set_option linter.unusedSimpArgs false

/-! ### headgateref03_Row: function 62 -/
def headgateref03_Row.l0 : Nat → List (S116) → Int → Option (Bool)
  | 0, _, _ => none
  | k + 1, x0, x3 => if x3 < (x0.length : Int) then (if 0 ≤ x3 then ((headgateref03_Check.f k ((rd_T116 x0 x3).f0) ((rd_T116 x0 x3).f1) ((rd_T116 x0 x3).f2)).bind fun t102 => (if t102 = 0 then (headgateref03_Row.l0 k x0 (wrap64 (x3 + 1))) else (some false))) else (none)) else (some true)
def headgateref03_Row.f (k : Nat) (l0 : List (S116)) : Option (Bool) := if (l0.length : Int) > 12 then (some false) else (headgateref03_Row.l0 k l0 0)
set_option maxHeartbeats 8000000 in
set_option maxRecDepth 100000 in
theorem headgateref03_Row.calls (k : Nat) (A0 : Option Addr) (c0 : Nat) (l0 : List (S116)) (r : Bool) (w : World) (hr0 : Kd.C k116 w A0 l0.length l0) (hc0 : l0.length ≤ c0) (h : headgateref03_Row.f k l0 = some r) :
    Calls Try.prog 62 #[.slice A0 l0.length c0] w fun e w' => e = .returned (.bool r) ∧ Below w.heap.size w w' := by
  have hu116 := Try.underlying116
  have HR0 := Aside0.mk hr0
  have HC0 := Aside0.mk hc0
  clear hr0 hc0
  have HB := Aside0.mk (Below.refl w.heap.size w)
  have H : (if (l0.length : Int) > 12 then (some false) else (headgateref03_Row.l0 k l0 0)) = some r := h
  clear h
  by_cases c2 : (l0.length : Int) > 12
  · rw [if_pos c2] at H
    have c2b0 : decide (12 < (l0.length : Int)) = true := decide_eq_true c2
    have c2b1 : decide (12 < l0.length) = true := decide_eq_true (by omega)
    clear c2
    obtain rfl := Option.some.inj H
    go_enter Try.func62, Try.ntmps62
    go_wp2
    go_ret
    exact ⟨by first | rfl | (simp [errW_none, errW_some] <;> rfl) | (simp [*, errW_none, errW_some] <;> rfl), by repeat (first | (with_reducible first | exact HB.out | apply below_alloc | apply pw_below_drewN | apply below_drew1) | exact HB.out)⟩
  · rw [if_neg c2] at H
    have c2b0 : decide (12 < (l0.length : Int)) = false := decide_eq_false c2
    have c2b1 : decide (12 < l0.length) = false := decide_eq_false (by omega)
    clear c2
    have H' := Aside0.mk H
    clear H
    go_enter Try.func62, Try.ntmps62
    go_wp2
    go_loopg [3] k (fun kq v3 w' => ∃ (x3_1 : Int), v3 = .int .i64 x3_1 ∧ Aside0 (headgateref03_Row.l0 kq l0 x3_1 = some r) ∧ Aside0 (kq ≤ k) ∧ Aside0 (Below w.heap.size w w'))
    case atStart => exact ⟨(0), (by first | rfl | (simp; done) | (simp [*]; done) | (simp; rw [Bool.eq_iff_iff]; simp; done)), H', ⟨Nat.le_refl _⟩, ⟨by repeat (first | (with_reducible first | exact HB.out | apply below_alloc | apply pw_below_drewN | apply below_drew1) | exact HB.out)⟩⟩
    case round =>
      clear H'
      try clear c2
      try clear c2b0
      try clear c2b1
      try clear p2
      obtain ⟨x3_1, rfl, HA, HK1, HB⟩ := hrel
      cases gk with
      | zero => exact absurd HA.out (by simp [headgateref03_Row.l0])
      | succ k1 =>
        have H := HA.out
        clear HA
        simp only [headgateref03_Row.l0] at H
        by_cases c3 : x3_1 < (l0.length : Int)
        · rw [if_pos c3] at H
          have c3b0 : decide (x3_1 < (l0.length : Int)) = true := decide_eq_true c3
          clear c3
          by_cases c4 : 0 ≤ x3_1
          · rw [if_pos c4] at H
            have c4b0 : decide (0 ≤ x3_1) = true := decide_eq_true c4
            clear c4
            replace H := Option.bind_eq_some_iff.mp H
            obtain ⟨t102, A50, H⟩ := H
            replace H : (if t102 = 0 then (headgateref03_Row.l0 k1 l0 (wrap64 (x3_1 + 1))) else (some false)) = some r := H
            have A5 := Aside0.mk A50
            clear A50
            by_cases c6 : t102 = 0
            · rw [if_pos c6] at H
              have c6b0 : (t102 == 0) = true := beq_iff_eq.mpr c6
              have c6b1 : (t102 != 0) = false := bne_eq_false_iff_eq.mpr c6
              clear c6
              have H' := Aside0.mk H
              clear H
              have p101 : 0 ≤ (x3_1 : Int) := of_decide_eq_true (by first | (with_reducible assumption) | assumption)
              have q101 : x3_1 < (l0.length : Int) := of_decide_eq_true (by first | (with_reducible assumption) | assumption)
              obtain ⟨ad101, e101, hx101_0, hx101_1, hx101_2⟩ := at_T116 HR0.out x3_1 p101 q101
              cases e101
              replace hx101_0 := (HB.out.cell (World.block_lt_of_cell? w _ hx101_0)).trans hx101_0
              replace hx101_1 := (HB.out.cell (World.block_lt_of_cell? w _ hx101_1)).trans hx101_1
              replace hx101_2 := (HB.out.cell (World.block_lt_of_cell? w _ hx101_2)).trans hx101_2
              replace p101 := eq_true p101
              replace q101 := eq_true q101
              go_wp2_with (first | ((with_reducible refine gate_callee (f := 109) rfl ?_); refine goesL_ (some 17) rfl rfl Try.func109 (by kernel_rfl) rfl #[.agg #[.int .i64 ((rd_T116 l0 x3_1).f0), .int .i64 ((rd_T116 l0 x3_1).f1), .string ((rd_T116 l0 x3_1).f2)]] rfl (by (try simp only [List.map_toArray, List.map_cons, List.map_nil]); first | done | rfl | (simp only [List.length_drop, List.length_take]; rfl) | exact congrArg (fun x_ : Int => #[Value.int .u64 x_]) (show _ = _ % (18446744073709551616 : Int) by omega)) ?_; (with_reducible refine (headgateref03_Check.calls k1 ((rd_T116 l0 x3_1).f0) ((rd_T116 l0 x3_1).f1) ((rd_T116 l0 x3_1).f2) t102 _ A5.out).mono ?_); rintro e w7 ⟨rfl, hb⟩; refine ⟨_, rfl, ?_⟩; have n0_ := Aside0.mk (below_step (by repeat (first | (with_reducible first | exact HB.out | apply below_alloc | apply pw_below_drewN | apply below_drew1) | exact HB.out)) hb); clear HB; have HB := n0_; clear n0_; (try clear hb); (try clear hb2); (try clear hk); (try clear hi)))
              go_roundg k1
              case measure => have := HK1.out; omega
              case rel => exact ⟨(wrap64 (x3_1 + 1)), (by first | rfl | (simp; done) | (simp [*]; done) | (simp; rw [Bool.eq_iff_iff]; simp; done)), H', ⟨by have := HK1.out; omega⟩, ⟨by repeat (first | (with_reducible first | exact HB.out | apply below_alloc | apply pw_below_drewN | apply below_drew1) | exact HB.out)⟩⟩
            · rw [if_neg c6] at H
              have c6b0 : (t102 == 0) = false := beq_eq_false_iff_ne.mpr c6
              have c6b1 : (t102 != 0) = true := bne_iff_ne.mpr c6
              obtain rfl := Option.some.inj H
              have p101 : 0 ≤ (x3_1 : Int) := of_decide_eq_true (by first | (with_reducible assumption) | assumption)
              have q101 : x3_1 < (l0.length : Int) := of_decide_eq_true (by first | (with_reducible assumption) | assumption)
              obtain ⟨ad101, e101, hx101_0, hx101_1, hx101_2⟩ := at_T116 HR0.out x3_1 p101 q101
              cases e101
              replace hx101_0 := (HB.out.cell (World.block_lt_of_cell? w _ hx101_0)).trans hx101_0
              replace hx101_1 := (HB.out.cell (World.block_lt_of_cell? w _ hx101_1)).trans hx101_1
              replace hx101_2 := (HB.out.cell (World.block_lt_of_cell? w _ hx101_2)).trans hx101_2
              replace p101 := eq_true p101
              replace q101 := eq_true q101
              go_wp2_with (first | ((with_reducible refine gate_callee (f := 109) rfl ?_); refine goesL_ (some 17) rfl rfl Try.func109 (by kernel_rfl) rfl #[.agg #[.int .i64 ((rd_T116 l0 x3_1).f0), .int .i64 ((rd_T116 l0 x3_1).f1), .string ((rd_T116 l0 x3_1).f2)]] rfl (by (try simp only [List.map_toArray, List.map_cons, List.map_nil]); first | done | rfl | (simp only [List.length_drop, List.length_take]; rfl) | exact congrArg (fun x_ : Int => #[Value.int .u64 x_]) (show _ = _ % (18446744073709551616 : Int) by omega)) ?_; (with_reducible refine (headgateref03_Check.calls k1 ((rd_T116 l0 x3_1).f0) ((rd_T116 l0 x3_1).f1) ((rd_T116 l0 x3_1).f2) t102 _ A5.out).mono ?_); rintro e w8 ⟨rfl, hb⟩; refine ⟨_, rfl, ?_⟩; have n0_ := Aside0.mk (below_step (by repeat (first | (with_reducible first | exact HB.out | apply below_alloc | apply pw_below_drewN | apply below_drew1) | exact HB.out)) hb); clear HB; have HB := n0_; clear n0_; (try clear hb); (try clear hb2); (try clear hk); (try clear hi)))
              go_ret
              exact ⟨by first | rfl | (simp [errW_none, errW_some] <;> rfl) | (simp [*, errW_none, errW_some] <;> rfl), by repeat (first | (with_reducible first | exact HB.out | apply below_alloc | apply pw_below_drewN | apply below_drew1) | exact HB.out)⟩
          · rw [if_neg c4] at H
            exact absurd H (by simp)
        · rw [if_neg c3] at H
          have c3b0 : decide (x3_1 < (l0.length : Int)) = false := decide_eq_false c3
          clear c3
          obtain rfl := Option.some.inj H
          go_wp2
          go_ret
          exact ⟨by first | rfl | (simp [errW_none, errW_some] <;> rfl) | (simp [*, errW_none, errW_some] <;> rfl), by repeat (first | (with_reducible first | exact HB.out | apply below_alloc | apply pw_below_drewN | apply below_drew1) | exact HB.out)⟩

end Go.Proofs.Ytgihecpobichbaa.Q
/- The document's writer of rows, in plain words. -/
namespace Go.Proofs.Ytgihecpobichbaa.Q
open Go.RowKit Go.Proofs.YtgihecpobichbaaW.PrintWords Go.Proofs.YtgihecpobichbaaW.PrintLast Go.Proofs.YtgihecpobichbaaW.PrintMore
set_option linter.unusedVariables false
set_option linter.unusedSimpArgs false
theorem refRow_loop (l : List Va) (hl : l.length ≤ 12) : ∀ (d : Nat) (i : Int), 0 ≤ i → i + d = l.length → Ev (fun k => headgateref03_Row.l0 k l i) ((l.drop i.toNat).all (fun v => chkV v == 0)) := by
  intro d
  induction d with
  | zero =>
    intro i h0 h1
    rw [List.drop_of_length_le (by omega)]
    exact Ev.step (f := fun _ => some true) (fun k => by simp only [headgateref03_Row.l0]; rw [if_neg (by omega)]) (Ev.now _)
  | succ d ih =>
    intro i h0 h1
    have e2 : wrap64 (i + 1) = i + 1 := wrap_in (by unfold in64; omega)
    rw [rdV_drop l i h0 (by omega), List.all_cons]
    obtain ⟨y, hy⟩ : ∃ y, rd_T116 l i = y := ⟨_, rfl⟩
    rw [hy]
    by_cases hc : chkV y = 0
    · have hb : (chkV y == 0) = true := by simp [hc]
      rw [hb, Bool.true_and]
      refine Ev.step (fun k => ?_) (Ev.bind (f := fun k t102 => (if t102 = 0 then (headgateref03_Row.l0 k l (wrap64 (i + 1))) else (some false))) (refChk_ev y.f0 y.f1 y.f2) (Ev.congr (fun k => if_pos hc) (by rw [e2]; exact ih (i + 1) (by omega) (by omega))))
      simp only [headgateref03_Row.l0]
      rw [if_pos (by omega), if_pos h0, hy]
    · have hb : (chkV y == 0) = false := by simpa using hc
      rw [hb, Bool.false_and]
      refine Ev.step (fun k => ?_) (Ev.bind (f := fun k t102 => (if t102 = 0 then (headgateref03_Row.l0 k l (wrap64 (i + 1))) else (some false))) (refChk_ev y.f0 y.f1 y.f2) (Ev.congr (fun k => if_neg hc) (Ev.now _)))
      simp only [headgateref03_Row.l0]
      rw [if_pos (by omega), if_pos h0, hy]
theorem refRow_ev (l : List Va) : Ev (fun k => headgateref03_Row.f k l) (rowOk l) := by
  unfold headgateref03_Row.f rowOk
  by_cases h : l.length ≤ 12
  · rw [decide_eq_true h, Bool.true_and]
    exact Ev.congr (fun k => if_neg (by omega)) (by simpa using refRow_loop l h l.length 0 (by omega) (by omega))
  · rw [decide_eq_false h, Bool.false_and]
    exact Ev.congr (fun k => if_pos (by omega)) (Ev.now _)
theorem refValue_ev (v : Va) (hs : v.f2.size ≤ 1000000000) (hi : in64 v.f1) : Ev (fun k => headgateref04_Value.f k v.f0 v.f1 v.f2) (strOfNums (encV v)) := by
  have h1 : (strOfNums [v.f0 % 256]).size = 1 := by rw [str_size]; rfl
  unfold headgateref04_Value.f encV
  rw [str_append]
  refine Ev.congr (fun k => Option.bind_some _ _) ?_
  by_cases c1 : v.f0 = 1
  · rw [if_pos c1]
    have hz := refInt_zig hi
    have hr := (zig_range hi)
    have hN := refNum_of (n := zig v.f1) (by omega) (by omega)
    have hl := numR_len 9 (zig v.f1)
    refine Ev.congr (fun k => if_pos c1) ?_
    rw [hz]
    refine Ev.congr (fun k => Option.bind_some _ _) ?_
    refine Ev.bind (Ev.of (fun k => headgateref04_Num.mono _ k) hN) ?_
    exact Ev.congr (fun k => if_pos (by rw [h1, str_size]; omega)) (Ev.now _)
  · rw [if_neg c1]
    refine Ev.congr (fun k => if_neg c1) ?_
    by_cases c2 : v.f0 = 2
    · rw [if_pos c2]
      refine Ev.congr (fun k => if_pos c2) ?_
      refine Ev.congr (fun k => Option.bind_some _ _) ?_
      exact Ev.congr (fun k => if_pos (by rw [h1, str_size]; simp)) (Ev.now _)
    · rw [if_neg c2]
      refine Ev.congr (fun k => if_neg c2) ?_
      by_cases c3 : v.f0 = 3
      · rw [if_pos c3]
        refine Ev.congr (fun k => if_pos c3) ?_
        have hl := encW_len v.f2
        refine Ev.bind (refWord_ev v.f2 hs) ?_
        exact Ev.congr (fun k => if_pos (by rw [h1, str_size]; omega)) (Ev.now _)
      · rw [if_neg c3]
        refine Ev.congr (fun k => if_neg c3) ?_
        have e : strOfNums [v.f0 % 256] ++ strOfNums [] = strOfNums [v.f0 % 256] := by rw [← str_append, List.append_nil]
        rw [e]
        exact Ev.now _
end Go.Proofs.Ytgihecpobichbaa.Q
/- headgateref04.Rows: walked: the bytes of rows. -/
namespace Go.Proofs.Ytgihecpobichbaa.Q
open Go.RowKit Go.Proofs.YtgihecpobichbaaW.PrintWords Go.Proofs.YtgihecpobichbaaW.PrintLast Go.Proofs.YtgihecpobichbaaW.PrintMore
set_option linter.unusedVariables false
set_option linter.unusedSimpArgs false
def refRowsR (l : List (List Va)) : ByteArray × Int := if l.all rowOk = true then refTold (listB encR l) else (⟨#[]⟩, 41)
theorem goodV_size {v : Va} (h : goodV v) : v.f2.size ≤ 200 := by
  rcases chk_parts h.1 with ⟨_, _, h⟩ | ⟨_, h⟩ | ⟨_, _, h⟩ | ⟨_, _, h⟩
  · rw [toList_nil h]; exact Nat.zero_le _
  · rw [toList_nil h]; exact Nat.zero_le _
  · rw [toList_nil h]; exact Nat.zero_le _
  · exact h
theorem encR_le {r : List Va} (h : goodR r) : (encR r).length ≤ 2650 := by
  obtain ⟨h1, h2⟩ := goodR_parts h
  have hfl := flat_le encV 220 r (fun p hp => by have := encV_len p; have := goodV_size (h2 p hp); omega)
  have hn2 := numR_len 9 (r.length : Int)
  unfold encR
  rw [List.length_append]
  omega
theorem pre_le (l : List (List Va)) (i : Nat) (hl : l.length ≤ 300) (h : ∀ r ∈ l.take i, goodR r) : (numR 9 (l.length : Int) ++ flat encR (l.take i)).length ≤ 795010 := by
  have hfl := flat_le encR 2650 (l.take i) (fun p hp => encR_le (h p hp))
  have hti : (l.take i).length ≤ l.length := by rw [List.length_take]; exact Nat.min_le_right _ _
  have hn2 := numR_len 9 (l.length : Int)
  rw [List.length_append]
  omega
set_option maxHeartbeats 8000000 in
set_option maxRecDepth 100000 in
theorem refRowsT_walk (A : Option Addr) (c : Nat) (l : List (List Va)) (hl : l.length ≤ 300) (hin : ∀ r ∈ l, ∀ v ∈ r, in64 v.f1) (w : World) (hr : Kd.C (Kd.slice 116 k116) w A l.length l) (hc : l.length ≤ c) :
    Calls Try.prog 21 #[.slice A l.length c] w fun e w' => e = .returned (.tuple #[.string (refRowsR l).1, .int .i64 (refRowsR l).2]) ∧ Below w.heap.size w w' := by
  have HR := Aside0.mk hr
  have HIN := Aside0.mk hin
  have hN := refNum_of (n := (l.length : Int)) (by omega) (by omega)
  have hS := bytes_strNums (numR_bytes 9 (l.length : Int) (by omega))
  have hlen1 := numR_len 9 (l.length : Int)
  obtain ⟨s0, hs0⟩ : ∃ s0, s0 = strOfNums (numR 9 (l.length : Int)) := ⟨_, rfl⟩
  rw [← hs0] at hN hS
  have hsz : s0.size ≤ 10 := by rw [← bytesOf_length, hS]; exact hlen1
  obtain ⟨R, hRR⟩ : ∃ R : ByteArray × Int, R = refRowsR l := ⟨_, rfl⟩
  rw [← hRR]
  have HS := Aside0.mk hS
  have HRR := Aside0.mk hRR
  have kb := fun W => print_bytes (P := Try.prog) 9 27 5 Try.underlying9 Try.underlying27 Try.underlying5 s0 W
  have hlw : IntKind.u64.wrap (l.length : Int) = (l.length : Int) := by rw [wrapu]; omega
  clear hr hin hs0 hS hRR
  go_enter Try.func21, Try.ntmps21
  go_wp2_with (go_at_call 16; (try rw [hlw]); refine (headgateref04_Num.calls 10 (l.length : Int) s0 _ hN).mono ?_; rintro e w1 ⟨rfl, hb1⟩; have HO := Aside0.mk (ownB_bytes w1 w.heap.size 5 s0 hb1.size (by simp only [maxLen]; omega)); have HB := Aside0.mk (bytes_below hb1 hb1.size 5 s0); have HZ := Aside0.mk (show w.heap.size ≤ (Lib.bytesWorld w1 5 s0).heap.size by rw [Lib.bytesWorld_size]; have := hb1.size; omega); clear hb1)
  clear kb hlw
  go_loopg [4, 5] l.length (fun kq v4 v5 wr => ∃ (i : Nat), v5 = .int .i64 i ∧ Aside0 (i + kq = l.length) ∧ Aside0 (OwnB wr w.heap.size 5 v4 (numR 9 (l.length : Int) ++ flat encR (l.take i))) ∧ Aside0 (∀ r ∈ l.take i, rowOk r = true) ∧ Aside0 (Below w.heap.size w wr) ∧ Aside0 (w.heap.size ≤ wr.heap.size))
  case atStart => exact ⟨0, rfl, ⟨by omega⟩, ⟨by have h := HO.out; rw [HS.out] at h; simpa [flat] using h⟩, ⟨by simp⟩, HB, HZ⟩
  case round =>
    clear HO HB HZ HS
    obtain ⟨i, rfl, HI, HO, HK, HB, HZ⟩ := hrel
    cases gk with
    | zero =>
      have hi : i = l.length := HI.out
      have hlb : decide ((i : Int) < (l.length : Int)) = false := decide_eq_false (by omega)
      have hlb2 : decide (i < l.length) = false := decide_eq_false (by omega)
      have hall : l.all rowOk = true := by
        have h := HK.out
        rw [hi, List.take_length] at h
        exact List.all_eq_true.2 h
      have hO : OwnB wr w.heap.size 5 u4 (listB encR l) := by
        have h := HO.out
        rwa [hi, List.take_length] at h
      obtain ⟨A4, c4, rfl⟩ := hO.slice
      have hcv := hO.string (P := Try.prog) Try.underlying27 Try.underlying5 Try.underlying9
      obtain ⟨bs, hbs⟩ : ∃ bs, bs = listB encR l := ⟨_, rfl⟩
      have hR := HRR.out
      unfold refRowsR at hR
      rw [if_pos hall] at hR
      unfold refTold at hR
      rw [← hbs] at hO hcv hR ⊢
      clear hbs hi hall
      by_cases hbig : bs.length > 16777216
      · rw [if_pos hbig] at hR
        subst hR
        have hb1 : decide (16777216 < (bs.length : Int)) = true := decide_eq_true (by omega)
        have hb2 : decide (16777216 < bs.length) = true := decide_eq_true (by omega)
        clear hO HO hbig
        go_wp2
        go_ret2
        first | exact ⟨rfl, HB.out⟩ | exact HB.out
      · rw [if_neg hbig] at hR
        subst hR
        have hb1 : decide (16777216 < (bs.length : Int)) = false := decide_eq_false (by omega)
        have hb2 : decide (16777216 < bs.length) = false := decide_eq_false (by omega)
        clear hO HO hbig
        go_wp2
        go_ret2
        first | exact ⟨rfl, HB.out⟩ | exact HB.out
    | succ k1 =>
      have hlt : i < l.length := by have := HI.out; omega
      have hlb : decide ((i : Int) < (l.length : Int)) = true := decide_eq_true (by omega)
      have hlb2 : decide (i < l.length) = true := decide_eq_true hlt
      obtain ⟨ad, AY, cY, rfl, x0, hcY, hCY⟩ := at_L12 (Kd.C_below HR.out HB.out) (i : Int) (by omega) (by omega)
      have hyl : rd_L12 l (i : Int) = l[i] := by
        unfold rd_L12
        rw [Int.toNat_natCast, List.getD_eq_getElem?_getD, List.getElem?_eq_getElem hlt]
        rfl
      have hmem : rd_L12 l (i : Int) ∈ l := by rw [hyl]; exact List.getElem_mem hlt
      have htk : l.take (i + 1) = l.take i ++ [rd_L12 l (i : Int)] := by
        rw [List.take_add_one, List.getElem?_eq_getElem hlt, hyl]
        rfl
      have HY : Aside0 (∀ W, Below w.heap.size w W → ∃ AY cY, W.cell? (ad.add i) = some (.slice AY (rd_L12 l (i : Int)).length cY) ∧ (rd_L12 l (i : Int)).length ≤ cY ∧ Kd.C k116 W AY (rd_L12 l (i : Int)).length (rd_L12 l (i : Int))) := ⟨fun W h => by
        obtain ⟨ad', A', c', e', x', hc', hC'⟩ := at_L12 (Kd.C_below HR.out h) (i : Int) (by omega) (by omega)
        obtain rfl := Option.some.inj e'
        rw [Int.toNat_natCast] at x'
        exact ⟨A', c', x', hc', hC'⟩⟩
      obtain ⟨y, hy⟩ : ∃ y, rd_L12 l (i : Int) = y := ⟨_, rfl⟩
      rw [hy] at x0 hcY hCY hmem htk HY
      clear hyl hy
      rw [Int.toNat_natCast] at x0
      obtain ⟨KY, hKY⟩ := (refRow_ev y).rounds
      cases hok : rowOk y with
      | false =>
        rw [hok] at hKY
        have hall : ¬ l.all rowOk = true := fun h => by
          have := List.all_eq_true.1 h y hmem
          rw [hok] at this
          cases this
        have hR := HRR.out
        unfold refRowsR at hR
        rw [if_neg hall] at hR
        subst hR
        clear hall htk hmem hok
        go_wp2_with fail
        refine (headgateref03_Row.calls KY AY cY y false _ hCY hcY hKY).mono ?_
        rintro e w2 ⟨rfl, hb2⟩
        have HB2 := Aside0.mk (below_step HB.out hb2)
        clear hb2
        go_wp2
        go_ret2
        first | exact ⟨rfl, HB2.out⟩ | exact HB2.out
      | true =>
        rw [hok] at hKY
        obtain ⟨hy12, hgv⟩ := goodR_parts (r := y) ⟨hok, HIN.out y hmem⟩
        have hN2 := refNum_of (n := (y.length : Int)) (by omega) (by omega)
        have hS2 := bytes_strNums (numR_bytes 9 (y.length : Int) (by omega))
        have hlen2 := numR_len 9 (y.length : Int)
        obtain ⟨s1, hs1⟩ : ∃ s1, s1 = strOfNums (numR 9 (y.length : Int)) := ⟨_, rfl⟩
        rw [← hs1] at hN2 hS2
        have hz1 : s1.size ≤ 10 := by rw [← bytesOf_length, hS2]; exact hlen2
        have hlw2 : IntKind.u64.wrap (y.length : Int) = (y.length : Int) := by rw [wrapu]; omega
        have hbase := pre_le l i hl (fun r hr => ⟨HK.out r hr, HIN.out r (List.mem_of_mem_take hr)⟩)
        obtain ⟨pre, hpre⟩ : ∃ pre, pre = numR 9 (l.length : Int) ++ flat encR (l.take i) := ⟨_, rfl⟩
        rw [← hpre] at hbase HO
        have HPRE : Aside0 (pre ++ numR 9 (y.length : Int) ++ flat encV y = numR 9 (l.length : Int) ++ flat encR (l.take (i + 1))) := ⟨by
          rw [hpre, htk, flat_snoc]
          simp [encR]⟩
        have HK2 : Aside0 (∀ r ∈ l.take (i + 1), rowOk r = true) := ⟨by
          rw [htk]
          intro r hr
          rcases List.mem_append.1 hr with h | h
          · exact HK.out r h
          · rw [List.mem_singleton.1 h]; exact hok⟩
        have HL1 := Aside0.mk (show pre.length + s1.size ≤ 140737488355328 by omega)
        have HE := Aside0.mk hS2
        have HBA := Aside0.mk hbase
        have HGV := Aside0.mk hgv
        clear htk hmem hok hs1 hS2 hlen2 hpre hbase HK hgv
        go_wp2_with (first
          | (go_at_call 62; refine (headgateref03_Row.calls KY AY cY y true _ hCY hcY hKY).mono ?_; rintro e w2 ⟨rfl, hb2⟩; have HO2 := Aside0.mk (HO.out.kept hb2); have HB2 := Aside0.mk (below_step HB.out hb2); have HZ2 := Aside0.mk (show w.heap.size ≤ w2.heap.size from HB2.out.size); obtain ⟨AY2, cY2, z0, hcY2, hCY2⟩ := HY.out w2 HB2.out; clear hb2)
          | (go_at_call 16; (try rw [hlw2]); refine (headgateref04_Num.calls 10 (y.length : Int) s1 _ hN2).mono ?_; rintro e w3 ⟨rfl, hb3⟩; have HO3 := Aside0.mk (HO2.out.kept hb3); have HB3 := Aside0.mk (below_step HB2.out hb3); have HZ3 := Aside0.mk (show w.heap.size ≤ w3.heap.size from HB3.out.size); clear hb3)
          | ((with_reducible refine gate_builtin (b := .append) (xs := #[.tmp 24, .tmp 31]) rfl ?_); (try (refine gate_guard (by rfl) ?_; dsimp only)); at_builtin; refine wp_append_ownB w w3 w.heap.size rfl (.tmp 24) (.tmp 31) 27 9 5 rfl Try.underlying27 Try.underlying9 info5 u4 _ rfl HO3.out s1 rfl HL1.out HB3.out HZ3.out ?_; intro v' w4 ho hb hz; rw [HE.out] at ho; have HO4 := Aside0.mk ho; have HB4 := Aside0.mk hb; have HZ4 := Aside0.mk hz; clear ho hb hz HO HB HZ HO2 HB2 HZ2 HO3 HB3 HZ3))
        clear z0 hcY2 hCY2 x0 hcY hCY hN2 hlw2 hz1 HL1 HE
        obtain ⟨W0, hW0⟩ : ∃ W, W = wr := ⟨_, rfl⟩
        subst hW0
        go_loopg [4, 6] y.length (fun kq v4 v6 wi => ∃ (j : Nat), v6 = .int .i64 j ∧ Aside0 (j + kq = y.length) ∧ Aside0 (OwnB wi w.heap.size 5 v4 (pre ++ numR 9 (y.length : Int) ++ flat encV (y.take j))) ∧ Aside0 (Below w.heap.size w wi) ∧ Aside0 (w.heap.size ≤ wi.heap.size))
        case atStart => exact ⟨0, rfl, ⟨by omega⟩, ⟨by have h := HO4.out; simpa [flat] using h⟩, HB4, HZ4⟩
        case round =>
          clear HO4 HB4 HZ4
          obtain ⟨j, rfl, HJ, HO, HB, HZ⟩ := hrel
          obtain ⟨AY, cY, x0, hcY, hCY⟩ := HY.out wr HB.out
          cases gk with
          | zero =>
            have hj : j = y.length := HJ.out
            have hlb3 : decide ((j : Int) < (y.length : Int)) = false := decide_eq_false (by omega)
            have hlb4 : decide (j < y.length) = false := decide_eq_false (by omega)
            have HO6 : Aside0 (OwnB wr w.heap.size 5 u4 (numR 9 (l.length : Int) ++ flat encR (l.take (i + 1)))) := ⟨by
              have h := HO.out
              rw [hj, List.take_length, HPRE.out] at h
              exact h⟩
            clear hj hcY hCY
            go_wp2
            go_roundg k1
            case measure => omega
            case rel => exact ⟨i + 1, by congr 1, ⟨by have := HI.out; omega⟩, HO6, HK2, HB, HZ⟩
          | succ k2 =>
            have hlj : j < y.length := by have := HJ.out; omega
            have hlb3 : decide ((j : Int) < (y.length : Int)) = true := decide_eq_true (by omega)
            have hlb4 : decide (j < y.length) = true := decide_eq_true hlj
            obtain ⟨ay, rfl, y0, y1, y2⟩ := at_T116 hCY (j : Int) (by omega) (by omega)
            have hd := rdV_drop y (j : Int) (by omega) (by omega)
            have hvm : rd_T116 y (j : Int) ∈ y := by
              have : rd_T116 y (j : Int) ∈ y.drop (j : Int).toNat := by rw [hd]; simp
              exact List.mem_of_mem_drop this
            have hvt : y.take (j + 1) = y.take j ++ [rd_T116 y (j : Int)] := by
              rw [List.take_add_one, List.getElem?_eq_getElem hlj]
              unfold rd_T116
              simp [List.getD_eq_getElem?_getD, List.getElem?_eq_getElem hlj]
            obtain ⟨v, hv⟩ : ∃ v, rd_T116 y (j : Int) = v := ⟨_, rfl⟩
            rw [hv] at y0 y1 y2 hvm hvt
            clear hv hd
            rw [Int.toNat_natCast] at y0 y1 y2
            have hgv := HGV.out v hvm
            have hvs := goodV_size hgv
            obtain ⟨KV, hKV⟩ := (refValue_ev v (by omega) hgv.2).rounds
            have hbv := bytes_strNums (encV_bytes v hgv.2)
            have hnv := encV_len v
            obtain ⟨s2, hs2⟩ : ∃ s2, s2 = strOfNums (encV v) := ⟨_, rfl⟩
            rw [← hs2] at hKV hbv
            have hz2 : s2.size ≤ 220 := by rw [← bytesOf_length, hbv]; omega
            have hfl := flat_le encV 220 (y.take j) (fun p hp => by have := encV_len p; have := goodV_size (HGV.out p (List.mem_of_mem_take hp)); omega)
            have hti : (y.take j).length ≤ j := List.length_take_le _ _
            have hn2 := numR_len 9 (y.length : Int)
            have HN2 : Aside0 (pre ++ numR 9 (y.length : Int) ++ flat encV (y.take j) ++ bytesOf s2 = pre ++ numR 9 (y.length : Int) ++ flat encV (y.take (j + 1))) := ⟨by
              rw [hbv, hvt, flat_snoc]
              simp⟩
            have HL2 := Aside0.mk (show (pre ++ numR 9 (y.length : Int) ++ flat encV (y.take j)).length + s2.size ≤ 140737488355328 by
              have := HBA.out
              rw [List.length_append, List.length_append]
              omega)
            clear hvt hbv hnv hs2 hfl hti hn2 hvm hgv hvs hz2 hcY hCY
            go_wp2_with (first
              | (go_at_call 63; refine (headgateref04_Value.calls KV v.f0 v.f1 v.f2 s2 _ hKV).mono ?_; rintro e w5 ⟨rfl, hb5⟩; have HO5 := Aside0.mk (HO.out.kept hb5); have HB5 := Aside0.mk (below_step HB.out hb5); have HZ5 := Aside0.mk (show w.heap.size ≤ w5.heap.size from HB5.out.size); clear hb5)
              | ((with_reducible refine gate_builtin (b := .append) (xs := #[.tmp 42, .tmp 50]) rfl ?_); (try (refine gate_guard (by rfl) ?_; dsimp only)); at_builtin; refine wp_append_ownB w w5 w.heap.size rfl (.tmp 42) (.tmp 50) 27 9 5 rfl Try.underlying27 Try.underlying9 info5 u4 _ rfl HO5.out s2 rfl HL2.out HB5.out HZ5.out ?_; intro v6 w6 ho hb hz; have HO6 := Aside0.mk (HN2.out ▸ ho); have HB6 := Aside0.mk hb; have HZ6 := Aside0.mk hz; clear ho hb hz))
            go_roundg k2
            case measure => omega
            case rel => exact ⟨j + 1, by congr 1, ⟨by have := HJ.out; omega⟩, HO6, HB6, HZ6⟩
def headgateref04_Rows.f (k : Nat) (l0 : List (List (S116))) : Option (ByteArray × Int) := if l0.length ≤ 300 ∧ ∀ r ∈ l0, ∀ v ∈ r, in64 v.f1 then some (refRowsR l0) else none
theorem headgateref04_Rows.calls (k : Nat) (A0 : Option Addr) (c0 : Nat) (l0 : List (List (S116))) (r1 : ByteArray) (r2 : Int) (w : World) (hr0 : Kd.C (Kd.slice 116 k116) w A0 l0.length l0) (hc0 : l0.length ≤ c0) (h : headgateref04_Rows.f k l0 = some (r1, r2)) :
    Calls Try.prog 21 #[.slice A0 l0.length c0] w fun e w' => e = .returned (.tuple #[.string r1, .int .i64 r2]) ∧ Below w.heap.size w w' := by
  unfold headgateref04_Rows.f at h
  split at h
  · rename_i hl
    have h2 := refRowsT_walk A0 c0 l0 hl.1 hl.2 w hr0 hc0
    rw [Option.some.inj h] at h2
    exact h2
  · cases h
def headgateref04_Pairs.f (k : Nat) (l0 : List (S74)) : Option (ByteArray × Int) := if l0.length ≤ 300 ∧ ∀ x ∈ l0, x.f0.size ≤ 2000 ∧ x.f1.size ≤ 2000 then some (refTold (listB encP l0)) else none
theorem headgateref04_Pairs.calls (k : Nat) (A0 : Option Addr) (c0 : Nat) (l0 : List (S74)) (r1 : ByteArray) (r2 : Int) (w : World) (hr0 : Kd.C k74 w A0 l0.length l0) (hc0 : l0.length ≤ c0) (h : headgateref04_Pairs.f k l0 = some (r1, r2)) :
    Calls Try.prog 26 #[.slice A0 l0.length c0] w fun e w' => e = .returned (.tuple #[.string r1, .int .i64 r2]) ∧ Below w.heap.size w w' := by
  unfold headgateref04_Pairs.f at h
  split at h
  · rename_i hl
    have h2 := refPairsT_walk A0 c0 l0 hl.1 hl.2 w hr0 hc0
    rw [Option.some.inj h] at h2
    exact h2
  · cases h
end Go.Proofs.Ytgihecpobichbaa.Q
-- Written by a program of the session over the translation's print: functions as plain Lean, and that the machine's call comes to them.
namespace Go.Proofs.Ytgihecpobichbaa.Q
open Go.RowKit Go.Proofs.YtgihecpobichbaaW.PrintWords Go.Proofs.YtgihecpobichbaaW.PrintLast Go.Proofs.YtgihecpobichbaaW.PrintMore
attribute [local go_sem] max2_int min2_int max_two min_two max_three min_three max_four min_four   -- for this text's walks alone
set_option linter.unusedVariables false
set_option linter.unusedSimpArgs false

/-! ### headgateref04_Cols: function 24 -/
def headgateref04_Cols.l0 : Nat → List (S43) → ByteArray → Int → Option (ByteArray × Int)
  | 0, _, _, _ => none
  | k + 1, x0, x4, x5 => if x5 < (x0.length : Int) then (if 0 ≤ x5 then (if ((rd_T43 x0 x5).f1) < 0 then (some ((⟨#[]⟩ : ByteArray), 41)) else (if ((rd_T43 x0 x5).f1) > 255 then (some ((⟨#[]⟩ : ByteArray), 41)) else ((headgateref04_Word.f k ((rd_T43 x0 x5).f0)).bind fun t105 => (if x4.size + t105.size ≤ 9223372036854775807 then ((some (([((rd_T43 x0 x5).f1) % 256] : List Int) : List Int)).bind fun y107 => (if (x4 ++ t105).size + (strOfNums y107).size ≤ 9223372036854775807 then (headgateref04_Cols.l0 k x0 ((x4 ++ t105) ++ (strOfNums y107)) (wrap64 (x5 + 1))) else (none))) else (none))))) else (none)) else (if (x4.size : Int) > 16777216 then (some ((⟨#[]⟩ : ByteArray), 42)) else (some (x4, 0)))
def headgateref04_Cols.f (k : Nat) (l0 : List (S43)) : Option (ByteArray × Int) := (headgateref04_Num.f k (IntKind.u64.wrap ((l0.length : Int)))).bind fun t101 => (headgateref04_Cols.l0 k l0 t101 0)
def headgateref04_Cols.T7 : Bool × List (List Nat × List Nat) := (true, [([], []), ([], []), ([], []), ([1, 2], [1, 2]), ([3], [3]), ([4], [4]), ([5], [5]), ([0, 6], [0, 6]), ([], []), ([], []), ([8, 9], [8, 9]), ([10], [10]), ([11], [11]), ([12], [12]), ([13], [13]), ([14], [14]), ([7, 15], [7, 15]), ([16, 6, 0, 1, 2, 3, 4, 5, 6, 7, 8, 9, 10, 11, 12, 13, 14, 15, 16], [0, 16])])
def headgateref04_Cols.B7 : List Nat := [0, 0, 0, 6, 14, 30, 62, 127, 0, 0, 768, 1792, 3840, 7936, 16128, 32512, 65535, 131071]
theorem headgateref04_Cols.tab7 : rtab .any (opsOf Try.f24 7) = headgateref04_Cols.T7 := by kernel_rfl
theorem headgateref04_Cols.bits7 : waitsOk headgateref04_Cols.T7.2 headgateref04_Cols.B7 = true := by kernel_rfl
set_option maxHeartbeats 8000000 in
set_option maxRecDepth 100000 in
theorem headgateref04_Cols.calls (k : Nat) (A0 : Option Addr) (c0 : Nat) (l0 : List (S43)) (r1 : ByteArray) (r2 : Int) (w : World) (hr0 : Kd.C k43 w A0 l0.length l0) (hc0 : l0.length ≤ c0) (h : headgateref04_Cols.f k l0 = some (r1, r2)) :
    Calls Try.prog 24 #[.slice A0 l0.length c0] w fun e w' => e = .returned (.tuple #[.string r1, .int .i64 r2]) ∧ Below w.heap.size w w' := by
  have HR0 := Aside0.mk hr0
  have HC0 := Aside0.mk hc0
  clear hr0 hc0
  have HB := Aside0.mk (Below.refl w.heap.size w)
  have H : ((headgateref04_Num.f k (IntKind.u64.wrap ((l0.length : Int)))).bind fun t101 => (headgateref04_Cols.l0 k l0 t101 0)) = some (r1, r2) := h
  clear h
  replace H := Option.bind_eq_some_iff.mp H
  obtain ⟨t101, A20, H⟩ := H
  replace H : (headgateref04_Cols.l0 k l0 t101 0) = some (r1, r2) := H
  have A2 := Aside0.mk A20
  clear A20
  have H' := Aside0.mk H
  clear H
  go_enter Try.func24, Try.ntmps24
  go_wp2_with (first | ((with_reducible refine gate_callee (f := 16) rfl ?_); refine goesL_ (some 9) rfl rfl Try.func16 (by kernel_rfl) rfl #[.int .u64 (IntKind.u64.wrap ((l0.length : Int)))] rfl (by (try simp only [List.map_toArray, List.map_cons, List.map_nil]); first | done | rfl | (simp only [List.length_drop, List.length_take]; rfl) | exact congrArg (fun x_ : Int => #[Value.int .u64 x_]) (show _ = _ % (18446744073709551616 : Int) by omega)) ?_; (with_reducible refine (headgateref04_Num.calls k (IntKind.u64.wrap ((l0.length : Int))) t101 _ A2.out).mono ?_); rintro e w3 ⟨rfl, hb⟩; refine ⟨_, rfl, ?_⟩; have n0_ := Aside0.mk (below_step (by repeat (first | (with_reducible first | exact HB.out | apply below_alloc | apply pw_below_drewN | apply below_drew1) | exact HB.out)) hb); clear HB; have HB := n0_; clear n0_; (try clear hb); (try clear hb2); (try clear hk); (try clear hi)))
  go_loopg [4, 5] k (fun kq v4 v5 w' => ∃ (x4_1 : ByteArray) (x5_1 : Int), v4 = .string x4_1 ∧ v5 = .int .i64 x5_1 ∧ Aside0 (headgateref04_Cols.l0 kq l0 x4_1 x5_1 = some (r1, r2)) ∧ Aside0 (kq ≤ k) ∧ Aside0 (Below w.heap.size w w'))
  case atStart => exact ⟨(t101), (0), (by first | rfl | (simp; done) | (simp [*]; done) | (simp; rw [Bool.eq_iff_iff]; simp; done)), (by first | rfl | (simp; done) | (simp [*]; done) | (simp; rw [Bool.eq_iff_iff]; simp; done)), H', ⟨Nat.le_refl _⟩, ⟨by repeat (first | (with_reducible first | exact HB.out | apply below_alloc | apply pw_below_drewN | apply below_drew1) | exact HB.out)⟩⟩
  case round =>
    clear H'
    try clear c1
    try clear c2
    try clear p2
    obtain ⟨x4_1, x5_1, rfl, rfl, HA, HK1, HB⟩ := hrel
    cases gk with
    | zero => exact absurd HA.out (by simp [headgateref04_Cols.l0])
    | succ k1 =>
      have H := HA.out
      clear HA
      simp only [headgateref04_Cols.l0] at H
      by_cases c4 : x5_1 < (l0.length : Int)
      · rw [if_pos c4] at H
        have c4b0 : decide (x5_1 < (l0.length : Int)) = true := decide_eq_true c4
        clear c4
        by_cases c5 : 0 ≤ x5_1
        · rw [if_pos c5] at H
          have c5b0 : decide (0 ≤ x5_1) = true := decide_eq_true c5
          clear c5
          by_cases c6 : ((rd_T43 l0 x5_1).f1) < 0
          · rw [if_pos c6] at H
            have c6b0 : decide (((rd_T43 l0 x5_1).f1) < 0) = true := decide_eq_true c6
            clear c6
            simp only [Option.some.injEq, Prod.mk.injEq] at H
            obtain ⟨rfl, rfl⟩ := H
            have p102 : 0 ≤ (x5_1 : Int) := of_decide_eq_true (by first | (with_reducible assumption) | assumption)
            have q102 : x5_1 < (l0.length : Int) := of_decide_eq_true (by first | (with_reducible assumption) | assumption)
            obtain ⟨ad102, e102, hx102_0, hx102_1⟩ := at_T43 HR0.out x5_1 p102 q102
            cases e102
            replace hx102_0 := (HB.out.cell (World.block_lt_of_cell? w _ hx102_0)).trans hx102_0
            replace hx102_1 := (HB.out.cell (World.block_lt_of_cell? w _ hx102_1)).trans hx102_1
            replace p102 := eq_true p102
            replace q102 := eq_true q102
            go_wp2
            go_ret2
            exact ⟨by first | rfl | (simp [errW_none, errW_some] <;> rfl) | (simp [*, errW_none, errW_some] <;> rfl), by repeat (first | (with_reducible first | exact HB.out | apply below_alloc | apply pw_below_drewN | apply below_drew1) | exact HB.out)⟩
          · rw [if_neg c6] at H
            have c6b0 : decide (((rd_T43 l0 x5_1).f1) < 0) = false := decide_eq_false c6
            clear c6
            by_cases c7 : ((rd_T43 l0 x5_1).f1) > 255
            · rw [if_pos c7] at H
              have c7b0 : decide (255 < ((rd_T43 l0 x5_1).f1)) = true := decide_eq_true c7
              clear c7
              simp only [Option.some.injEq, Prod.mk.injEq] at H
              obtain ⟨rfl, rfl⟩ := H
              have p102 : 0 ≤ (x5_1 : Int) := of_decide_eq_true (by first | (with_reducible assumption) | assumption)
              have q102 : x5_1 < (l0.length : Int) := of_decide_eq_true (by first | (with_reducible assumption) | assumption)
              obtain ⟨ad102, e102, hx102_0, hx102_1⟩ := at_T43 HR0.out x5_1 p102 q102
              cases e102
              replace hx102_0 := (HB.out.cell (World.block_lt_of_cell? w _ hx102_0)).trans hx102_0
              replace hx102_1 := (HB.out.cell (World.block_lt_of_cell? w _ hx102_1)).trans hx102_1
              replace p102 := eq_true p102
              replace q102 := eq_true q102
              have p103 : 0 ≤ (x5_1 : Int) := of_decide_eq_true (by first | (with_reducible assumption) | assumption)
              have q103 : x5_1 < (l0.length : Int) := of_decide_eq_true (by first | (with_reducible assumption) | assumption)
              obtain ⟨ad103, e103, hx103_0, hx103_1⟩ := at_T43 HR0.out x5_1 p103 q103
              obtain rfl : ad102 = ad103 := (by injection e103)
              replace hx103_0 := (HB.out.cell (World.block_lt_of_cell? w _ hx103_0)).trans hx103_0
              replace hx103_1 := (HB.out.cell (World.block_lt_of_cell? w _ hx103_1)).trans hx103_1
              replace p103 := eq_true p103
              replace q103 := eq_true q103
              go_wp2
              go_ret2
              exact ⟨by first | rfl | (simp [errW_none, errW_some] <;> rfl) | (simp [*, errW_none, errW_some] <;> rfl), by repeat (first | (with_reducible first | exact HB.out | apply below_alloc | apply pw_below_drewN | apply below_drew1) | exact HB.out)⟩
            · rw [if_neg c7] at H
              have c7b0 : decide (255 < ((rd_T43 l0 x5_1).f1)) = false := decide_eq_false c7
              clear c7
              replace H := Option.bind_eq_some_iff.mp H
              obtain ⟨t105, A80, H⟩ := H
              replace H : (if x4_1.size + t105.size ≤ 9223372036854775807 then ((some (([((rd_T43 l0 x5_1).f1) % 256] : List Int) : List Int)).bind fun y107 => (if (x4_1 ++ t105).size + (strOfNums y107).size ≤ 9223372036854775807 then (headgateref04_Cols.l0 k1 l0 ((x4_1 ++ t105) ++ (strOfNums y107)) (wrap64 (x5_1 + 1))) else (none))) else (none)) = some (r1, r2) := H
              have A8 := Aside0.mk A80
              clear A80
              by_cases c9 : x4_1.size + t105.size ≤ 9223372036854775807
              · rw [if_pos c9] at H
                have c9b0 := eq_true c9
                have c9b1 : decide (x4_1.size + t105.size ≤ 9223372036854775807) = true := decide_eq_true c9
                try have c9b2 : (9223372036854775807 < x4_1.size + t105.size) = False := eq_false (Nat.not_lt.2 c9)
                obtain ⟨y107, hy107⟩ : ∃ y_ : List Int, y_ = (([((rd_T43 l0 x5_1).f1) % 256] : List Int)) := ⟨_, rfl⟩
                replace H : (if (x4_1 ++ t105).size + (strOfNums y107).size ≤ 9223372036854775807 then (headgateref04_Cols.l0 k1 l0 ((x4_1 ++ t105) ++ (strOfNums y107)) (wrap64 (x5_1 + 1))) else (none)) = some (r1, r2) := by first | (rw [hy107]; with_reducible exact H) | (have H2_ := (Option.bind_some _ _).symm.trans H; rw [hy107]; with_reducible exact H2_) | (have H2_ := (Option.bind_some _ _).symm.trans H; with_reducible exact H2_) | with_reducible exact H | (rw [hy107]; exact H) | exact H
                have Ny107 := Aside0.mk hy107
                clear hy107
                by_cases c10 : (x4_1 ++ t105).size + (strOfNums y107).size ≤ 9223372036854775807
                · rw [if_pos c10] at H
                  have c10b0 := eq_true c10
                  have c10b1 : decide ((x4_1 ++ t105).size + (strOfNums y107).size ≤ 9223372036854775807) = true := decide_eq_true c10
                  try have c10b2 : (9223372036854775807 < (x4_1 ++ t105).size + (strOfNums y107).size) = False := eq_false (Nat.not_lt.2 c10)
                  try (have c10b3 := c10b2; simp only [ByteArray.size_append] at c10b3)
                  have H' := Aside0.mk H
                  clear H
                  have p102 : 0 ≤ (x5_1 : Int) := of_decide_eq_true (by first | (with_reducible assumption) | assumption)
                  have q102 : x5_1 < (l0.length : Int) := of_decide_eq_true (by first | (with_reducible assumption) | assumption)
                  obtain ⟨ad102, e102, hx102_0, hx102_1⟩ := at_T43 HR0.out x5_1 p102 q102
                  cases e102
                  replace hx102_0 := (HB.out.cell (World.block_lt_of_cell? w _ hx102_0)).trans hx102_0
                  replace hx102_1 := (HB.out.cell (World.block_lt_of_cell? w _ hx102_1)).trans hx102_1
                  replace p102 := eq_true p102
                  replace q102 := eq_true q102
                  have p103 : 0 ≤ (x5_1 : Int) := of_decide_eq_true (by first | (with_reducible assumption) | assumption)
                  have q103 : x5_1 < (l0.length : Int) := of_decide_eq_true (by first | (with_reducible assumption) | assumption)
                  obtain ⟨ad103, e103, hx103_0, hx103_1⟩ := at_T43 HR0.out x5_1 p103 q103
                  obtain rfl : ad102 = ad103 := (by injection e103)
                  replace hx103_0 := (HB.out.cell (World.block_lt_of_cell? w _ hx103_0)).trans hx103_0
                  replace hx103_1 := (HB.out.cell (World.block_lt_of_cell? w _ hx103_1)).trans hx103_1
                  replace p103 := eq_true p103
                  replace q103 := eq_true q103
                  try go_wp2
                  have n0_ := Aside0.mk (below_drew1 HB.out)
                  clear HB
                  have HB := n0_
                  clear n0_
                  have p104 : 0 ≤ (x5_1 : Int) := of_decide_eq_true (by first | (with_reducible assumption) | assumption)
                  have q104 : x5_1 < (l0.length : Int) := of_decide_eq_true (by first | (with_reducible assumption) | assumption)
                  obtain ⟨ad104, e104, hx104_0, hx104_1⟩ := at_T43 HR0.out x5_1 p104 q104
                  have hw104_1 := hx104_1
                  have hw104_0 := hx104_0
                  obtain rfl : ad102 = ad104 := (by injection e104)
                  replace hx104_0 := (HB.out.cell (World.block_lt_of_cell? w _ hx104_0)).trans hx104_0
                  replace hx104_1 := (HB.out.cell (World.block_lt_of_cell? w _ hx104_1)).trans hx104_1
                  replace p104 := eq_true p104
                  replace q104 := eq_true q104
                  have p106 : 0 ≤ (x5_1 : Int) := of_decide_eq_true (by first | (with_reducible assumption) | assumption)
                  have q106 : x5_1 < (l0.length : Int) := of_decide_eq_true (by first | (with_reducible assumption) | assumption)
                  obtain ⟨ad106, e106, hx106_0, hx106_1⟩ := at_T43 HR0.out x5_1 p106 q106
                  have hw106_1 := hx106_1
                  have hw106_0 := hx106_0
                  obtain rfl : ad102 = ad106 := (by injection e106)
                  replace hx106_0 := (HB.out.cell (World.block_lt_of_cell? w _ hx106_0)).trans hx106_0
                  replace hx106_1 := (HB.out.cell (World.block_lt_of_cell? w _ hx106_1)).trans hx106_1
                  replace p106 := eq_true p106
                  replace q106 := eq_true q106
                  refine start_ (n := 18) (S := fun w' => w'.cell? (ad102.add ((x5_1).toNat * 2)) = some (.string ((rd_T43 l0 x5_1).f0)) ∧ w'.cell? ⟨(ad102.add ((x5_1).toNat * 2)).block, (ad102.add ((x5_1).toNat * 2)).off + 1, none⟩ = some (.int .i64 ((rd_T43 l0 x5_1).f1)) ∧ w'.cell? (ad102.add ((x5_1).toNat * 2)) = some (.string ((rd_T43 l0 x5_1).f0)) ∧ w'.cell? ⟨(ad102.add ((x5_1).toNat * 2)).block, (ad102.add ((x5_1).toNat * 2)).off + 1, none⟩ = some (.int .i64 ((rd_T43 l0 x5_1).f1))) (ds := []) #[false, false, false, false, false, false, false, false, false, false, false, false, false, false, false, false, false, false] (by kernel_rfl) rfl rfl ⟨((HB.out.cell (World.block_lt_of_cell? w _ hw104_0)).trans hw104_0), ((HB.out.cell (World.block_lt_of_cell? w _ hw104_1)).trans hw104_1), ((HB.out.cell (World.block_lt_of_cell? w _ hw106_0)).trans hw106_0), ((HB.out.cell (World.block_lt_of_cell? w _ hw106_1)).trans hw106_1)⟩ (fun hHeld => ?_); refine with_tabW headgateref04_Cols.tab7 headgateref04_Cols.bits7 (fun HT_ HW_ => ?_)
                  generalize wr.drew = w11 at HB hx104_0 hx104_1 hx106_0 hx106_1 hHeld ⊢
                  refine pure_ (i := 0) (N := some 30) (v := ?_) (a' := ?_) #[true, false, false, false, false, false, false, false, false, false, false, false, false, false, false, false, false, false] rfl rfl (any_of HT_.out (by kernel_rfl)) (fun _ _ _ h => h) (Or.inl ⟨by rfl, ?_⟩) ?_ ?_
                  rotate_left
                  · intro w'
                    go_simp
                    with_reducible rfl
                  rotate_left
                  · simp only [Act.put, List.setIfInBounds_toArray, List.set_cons_zero, List.set_cons_succ, i64_w, i32_w]
                    rfl
                  refine pure_ (i := 1) (N := some 31) (v := ?_) (a' := ?_) #[true, true, false, false, false, false, false, false, false, false, false, false, false, false, false, false, false, false] rfl rfl (any_of HT_.out (by kernel_rfl)) (fun _ _ _ h => h) (Or.inl ⟨by rfl, ?_⟩) ?_ ?_
                  rotate_left
                  · intro w'
                    go_simp
                    with_reducible rfl
                  rotate_left
                  · simp only [Act.put, List.setIfInBounds_toArray, List.set_cons_zero, List.set_cons_succ, i64_w, i32_w]
                    rfl
                  refine pure_ (i := 2) (N := some 32) (v := ?_) (a' := ?_) #[true, true, true, false, false, false, false, false, false, false, false, false, false, false, false, false, false, false] rfl rfl (any_of HT_.out (by kernel_rfl)) (fun _ _ _ h => h) (Or.inl ⟨by rfl, ?_⟩) ?_ ?_
                  rotate_left
                  · intro w'
                    go_simp
                    with_reducible rfl
                  rotate_left
                  · simp only [Act.put, List.setIfInBounds_toArray, List.set_cons_zero, List.set_cons_succ, i64_w, i32_w]
                    rfl
                  refine pure_ (i := 3) (N := some 33) (v := ?_) (a' := ?_) #[true, true, true, true, false, false, false, false, false, false, false, false, false, false, false, false, false, false] rfl rfl (any_of HT_.out (by kernel_rfl)) (fun _ _ _ h => h) (Or.inl ⟨by rfl, ?_⟩) ?_ ?_
                  rotate_left
                  · intro w'
                    go_simp
                    with_reducible rfl
                  rotate_left
                  · simp only [Act.put, List.setIfInBounds_toArray, List.set_cons_zero, List.set_cons_succ, i64_w, i32_w]
                    rfl
                  refine pure_ (i := 4) (N := some 34) (v := ?_) (a' := ?_) #[true, true, true, true, true, false, false, false, false, false, false, false, false, false, false, false, false, false] rfl rfl (any_of HT_.out (by kernel_rfl)) (fun _ _ _ h => h) (Or.inl ⟨by rfl, ?_⟩) ?_ ?_
                  rotate_left
                  · intro w'
                    go_simp
                    with_reducible rfl
                  rotate_left
                  · simp only [Act.put, List.setIfInBounds_toArray, List.set_cons_zero, List.set_cons_succ, i64_w, i32_w]
                    rfl
                  refine pure_ (i := 8) (N := some 38) (v := ?_) (a' := ?_) #[true, true, true, true, true, false, false, false, true, false, false, false, false, false, false, false, false, false] rfl rfl (any_of HT_.out (by kernel_rfl)) (fun _ _ _ h => h) (Or.inl ⟨by rfl, ?_⟩) ?_ ?_
                  rotate_left
                  · intro w'
                    go_simp
                    with_reducible rfl
                  rotate_left
                  · simp only [Act.put, List.setIfInBounds_toArray, List.set_cons_zero, List.set_cons_succ, i64_w, i32_w]
                    rfl
                  refine pure_ (i := 9) (N := some 39) (v := ?_) (a' := ?_) #[true, true, true, true, true, false, false, false, true, true, false, false, false, false, false, false, false, false] rfl rfl (any_of HT_.out (by kernel_rfl)) (fun _ _ _ h => h) (Or.inl ⟨by rfl, ?_⟩) ?_ ?_
                  rotate_left
                  · intro w'
                    go_simp
                    with_reducible rfl
                  rotate_left
                  · simp only [Act.put, List.setIfInBounds_toArray, List.set_cons_zero, List.set_cons_succ, i64_w, i32_w]
                    rfl
                  refine pure_ (i := 10) (N := some 40) (v := ?_) (a' := ?_) #[true, true, true, true, true, false, false, false, true, true, true, false, false, false, false, false, false, false] rfl rfl (any_of HT_.out (by kernel_rfl)) (fun _ _ _ h => h) (Or.inl ⟨by rfl, ?_⟩) ?_ ?_
                  rotate_left
                  · intro w'
                    go_simp
                    with_reducible rfl
                  rotate_left
                  · simp only [Act.put, List.setIfInBounds_toArray, List.set_cons_zero, List.set_cons_succ, i64_w, i32_w]
                    rfl
                  refine pure_ (i := 11) (N := some 41) (v := ?_) (a' := ?_) #[true, true, true, true, true, false, false, false, true, true, true, true, false, false, false, false, false, false] rfl rfl (any_of HT_.out (by kernel_rfl)) (fun _ _ _ h => h) (Or.inl ⟨by rfl, ?_⟩) ?_ ?_
                  rotate_left
                  · intro w'
                    go_simp
                    with_reducible rfl
                  rotate_left
                  · simp only [Act.put, List.setIfInBounds_toArray, List.set_cons_zero, List.set_cons_succ, i64_w, i32_w]
                    rfl
                  refine take_ (i := 5) (N := some 35) (v := ?_) (a' := ?_) #[true, true, true, true, true, true, false, false, true, true, true, true, false, false, false, false, false, false] rfl rfl (take_ofW HT_.out HW_.out (by kernel_rfl)) (fun _ _ _ h => h) (Or.inl ⟨by rfl, ?_⟩) hHeld ?_ ?_
                  rotate_left
                  · rintro w' ⟨s0, s1, s2, s3⟩
                    go_simp
                    with_reducible rfl
                  rotate_left
                  · simp only [Act.put, List.setIfInBounds_toArray, List.set_cons_zero, List.set_cons_succ, i64_w, i32_w]
                    rfl
                  refine take_ (i := 12) (N := some 42) (v := ?_) (a' := ?_) #[true, true, true, true, true, true, false, false, true, true, true, true, true, false, false, false, false, false] rfl rfl (take_ofW HT_.out HW_.out (by kernel_rfl)) (fun _ _ _ h => h) (Or.inl ⟨by rfl, ?_⟩) hHeld ?_ ?_
                  rotate_left
                  · rintro w' ⟨s0, s1, s2, s3⟩
                    go_simp
                    with_reducible rfl
                  rotate_left
                  · simp only [Act.put, List.setIfInBounds_toArray, List.set_cons_zero, List.set_cons_succ, i64_w, i32_w]
                    rfl
                  refine pure_ (i := 13) (N := some 43) (v := ?_) (a' := ?_) #[true, true, true, true, true, true, false, false, true, true, true, true, true, true, false, false, false, false] rfl rfl (any_of HT_.out (by kernel_rfl)) (fun _ _ _ h => h) (Or.inl ⟨by rfl, ?_⟩) ?_ ?_
                  rotate_left
                  · intro w'
                    go_simp
                    with_reducible rfl
                  rotate_left
                  · simp only [Act.put, List.setIfInBounds_toArray, List.set_cons_zero, List.set_cons_succ, i64_w, i32_w]
                    rfl
                  refine join_ (σ := Value) 2 #[true, true, true, true, true, true, true, true, true, true, true, true, true, true, true, true, false, false] (fun s_ => [(36, .string t105), (44, s_), (45, .string (strOfNums y107)), (37, .string (x4_1 ++ t105))]) (fun s_ w' => (w'.cell? (ad102.add ((x5_1).toNat * 2)) = some (.string ((rd_T43 l0 x5_1).f0)) ∧ w'.cell? ⟨(ad102.add ((x5_1).toNat * 2)).block, (ad102.add ((x5_1).toNat * 2)).off + 1, none⟩ = some (.int .i64 ((rd_T43 l0 x5_1).f1)) ∧ w'.cell? (ad102.add ((x5_1).toNat * 2)) = some (.string ((rd_T43 l0 x5_1).f0)) ∧ w'.cell? ⟨(ad102.add ((x5_1).toNat * 2)).block, (ad102.add ((x5_1).toNat * 2)).off + 1, none⟩ = some (.int .i64 ((rd_T43 l0 x5_1).f1))) ∧ (Kd.R (Kd.int .u8) 5 w' w.heap.size (fun _ => True) s_ y107) ∧ (Below w.heap.size w w')) ?_ ?_
                  rotate_left
                  · intro hCont
                    refine two_ (i := 6) (j := 14) (Ni := some 36) (Nj := some 44) #[true, true, true, true, true, true, true, false, true, true, true, true, true, true, false, false, false, false] #[true, true, true, true, true, true, false, false, true, true, true, true, true, true, true, false, false, false] rfl rfl rfl rfl (two_of HT_.out (by kernel_rfl)) (by decide) (by decide) (fun K hK => ?_) (fun K hK => ?_)
                    · skip
                      refine goes_ Try.func67 (by kernel_rfl) rfl #[.string ((rd_T43 l0 x5_1).f0)] (by rfl) rfl rfl (by (try simp only [List.map_toArray, List.map_cons, List.map_nil]); first | done | rfl | (simp only [List.length_drop, List.length_take]; rfl) | exact congrArg (fun x_ : Int => #[Value.int .u64 x_]) (show _ = _ % (18446744073709551616 : Int) by omega)) ?_
                      with_reducible refine (headgateref04_Word.calls k1 ((rd_T43 l0 x5_1).f0) t105 _ A8.out).mono ?_
                      rintro e w12 ⟨rfl, hb⟩
                      refine ⟨_, rfl, ?_⟩
                      have n0_ := Aside0.mk (below_step (by repeat (first | (with_reducible first | exact HB.out | apply below_alloc | apply pw_below_drewN | apply below_drew1) | exact HB.out)) hb)
                      clear HB
                      have HB := n0_
                      clear n0_
                      (try clear hb)
                      (try clear hb2)
                      (try clear hk)
                      (try clear hi)
                      refine hK.out _ _ ⟨((HB.out.cell (World.block_lt_of_cell? w _ hw104_0)).trans hw104_0), ((HB.out.cell (World.block_lt_of_cell? w _ hw104_1)).trans hw104_1), ((HB.out.cell (World.block_lt_of_cell? w _ hw106_0)).trans hw106_0), ((HB.out.cell (World.block_lt_of_cell? w _ hw106_1)).trans hw106_1)⟩ (fun hHeld => ?_)
                      clear hK K
                      refine norm_ (a' := ?_) ?_ ?_
                      rotate_left
                      · show Act.put _ (some 36) _ = _
                        simp only [Act.put, List.setIfInBounds_toArray, List.set_cons_zero, List.set_cons_succ, i64_w, i32_w]
                        rfl
                      refine pure_ (i := 7) (N := some 37) (v := ?_) (a' := ?_) #[true, true, true, true, true, true, true, true, true, true, true, true, true, true, false, false, false, false] rfl rfl (any_of HT_.out (by kernel_rfl)) (fun _ _ _ h => h) (Or.inl ⟨by rfl, ?_⟩) ?_ ?_
                      rotate_left
                      · intro w'
                        go_simp
                        with_reducible rfl
                      rotate_left
                      · simp only [Act.put, List.setIfInBounds_toArray, List.set_cons_zero, List.set_cons_succ, i64_w, i32_w]
                        rfl
                      refine one_ (i := 14) (N := some 44) #[true, true, true, true, true, true, true, true, true, true, true, true, true, true, true, false, false, false] rfl rfl (one_of HT_.out (by kernel_rfl)) (by decide) (fun K hK => ?_)
                      refine Kd.R_lit_step (Kd.int .u8) _ 5 ?hg (N := 44) ?hd (xs := ([((rd_T43 l0 x5_1).f1) % 256] : List Int)) (inner := [.int .u8 (((rd_T43 l0 x5_1).f1) % 256)]) (ok := fun _ => True) (okp := fun _ => True) ?hr ?hp (fun _ hk => hk) trivial (Below.refl _ _) (Nat.le_refl _) (by simp) ?_; (case hd => rfl); (case hg => rfl); (case hr => first | (go_simp; done) | (go_simp; rfl)); (case hp => exact (Reps.one (show Kd.M (Kd.int .u8) _ _ _ (((rd_T43 l0 x5_1).f1) % 256) [.int .u8 (((rd_T43 l0 x5_1).f1) % 256)] from rfl) (Reps.none _ _)))
                      intro v108 w13 ho14 hb hg_ hnew_
                      clear hg_ hnew_
                      (first | rw [← Ny107.out] at ho14 | (simp only [Int.reduceToNat] at ho14; rw [← Ny107.out] at ho14))
                      have n0_ := Aside0.mk (Kd.R_lower ho14 (below_size (by repeat (first | (with_reducible first | exact HB.out | apply below_alloc | apply pw_below_drewN | apply below_drew1) | exact HB.out))))
                      have n1_ := Aside0.mk (below_step (by repeat (first | (with_reducible first | exact HB.out | apply below_alloc | apply pw_below_drewN | apply below_drew1) | exact HB.out)) hb)
                      clear HB
                      have HO109 := n0_
                      have HB := n1_
                      clear n0_ n1_
                      clear hb ho14
                      refine hK.out _ _ ⟨((HB.out.cell (World.block_lt_of_cell? w _ hw104_0)).trans hw104_0), ((HB.out.cell (World.block_lt_of_cell? w _ hw104_1)).trans hw104_1), ((HB.out.cell (World.block_lt_of_cell? w _ hw106_0)).trans hw106_0), ((HB.out.cell (World.block_lt_of_cell? w _ hw106_1)).trans hw106_1)⟩ (fun hHeld => ?_)
                      clear hK K
                      refine norm_ (a' := ?_) ?_ ?_
                      rotate_left
                      · show Act.put _ (some 44) _ = _
                        simp only [Act.put, List.setIfInBounds_toArray, List.set_cons_zero, List.set_cons_succ, i64_w, i32_w]
                        rfl
                      refine one_ (i := 15) (N := some 45) #[true, true, true, true, true, true, true, true, true, true, true, true, true, true, true, true, false, false] rfl rfl (one_of HT_.out (by kernel_rfl)) (by decide) (fun K hK => ?_)
                      have hcv15 := own_string (P := Try.prog) Try.underlying27 Try.underlying5 Try.underlying9 (Kd.own_of_R HO109.out)
                      refine value_ (w1 := ?_) (v := ?_) (by rfl) rfl ?_ ?_
                      rotate_left 2
                      · go_simp
                        constructor
                        · rfl
                        · rfl
                      clear hcv15
                      refine hK.out _ _ ⟨((HB.out.cell (World.block_lt_of_cell? w _ hw104_0)).trans hw104_0), ((HB.out.cell (World.block_lt_of_cell? w _ hw104_1)).trans hw104_1), ((HB.out.cell (World.block_lt_of_cell? w _ hw106_0)).trans hw106_0), ((HB.out.cell (World.block_lt_of_cell? w _ hw106_1)).trans hw106_1)⟩ (fun hHeld => ?_)
                      clear hK K
                      refine norm_ (a' := ?_) ?_ ?_
                      rotate_left
                      · show Act.put _ (some 45) _ = _
                        simp only [Act.put, List.setIfInBounds_toArray, List.set_cons_zero, List.set_cons_succ, i64_w, i32_w]
                        rfl
                      exact norm_ (by simp only [putAll, Act.put, List.setIfInBounds_toArray, List.set_cons_zero, List.set_cons_succ]) (hCont (v108) _ ⟨hHeld, (by (with_reducible repeat (first | apply Kd.R_alloc | apply Kd.R_drewN | apply Kd.R_drew)); exact HO109.out), (by repeat (first | (with_reducible first | exact HB.out | apply below_alloc | apply pw_below_drewN | apply below_drew1) | exact HB.out))⟩)
                    · skip
                      refine Kd.R_lit_step (Kd.int .u8) _ 5 ?hg (N := 44) ?hd (xs := ([((rd_T43 l0 x5_1).f1) % 256] : List Int)) (inner := [.int .u8 (((rd_T43 l0 x5_1).f1) % 256)]) (ok := fun _ => True) (okp := fun _ => True) ?hr ?hp (fun _ hk => hk) trivial (Below.refl _ _) (Nat.le_refl _) (by simp) ?_; (case hd => rfl); (case hg => rfl); (case hr => first | (go_simp; done) | (go_simp; rfl)); (case hp => exact (Reps.one (show Kd.M (Kd.int .u8) _ _ _ (((rd_T43 l0 x5_1).f1) % 256) [.int .u8 (((rd_T43 l0 x5_1).f1) % 256)] from rfl) (Reps.none _ _)))
                      intro v108 w12 ho13 hb hg_ hnew_
                      clear hg_ hnew_
                      (first | rw [← Ny107.out] at ho13 | (simp only [Int.reduceToNat] at ho13; rw [← Ny107.out] at ho13))
                      have n0_ := Aside0.mk (Kd.R_lower ho13 (below_size (by repeat (first | (with_reducible first | exact HB.out | apply below_alloc | apply pw_below_drewN | apply below_drew1) | exact HB.out))))
                      have n1_ := Aside0.mk (below_step (by repeat (first | (with_reducible first | exact HB.out | apply below_alloc | apply pw_below_drewN | apply below_drew1) | exact HB.out)) hb)
                      clear HB
                      have HO109 := n0_
                      have HB := n1_
                      clear n0_ n1_
                      clear hb ho13
                      refine hK.out _ _ ⟨((HB.out.cell (World.block_lt_of_cell? w _ hw104_0)).trans hw104_0), ((HB.out.cell (World.block_lt_of_cell? w _ hw104_1)).trans hw104_1), ((HB.out.cell (World.block_lt_of_cell? w _ hw106_0)).trans hw106_0), ((HB.out.cell (World.block_lt_of_cell? w _ hw106_1)).trans hw106_1)⟩ (fun hHeld => ?_)
                      clear hK K
                      refine norm_ (a' := ?_) ?_ ?_
                      rotate_left
                      · show Act.put _ (some 44) _ = _
                        simp only [Act.put, List.setIfInBounds_toArray, List.set_cons_zero, List.set_cons_succ, i64_w, i32_w]
                        rfl
                      refine two_ (i := 6) (j := 15) (Ni := some 36) (Nj := some 45) #[true, true, true, true, true, true, true, false, true, true, true, true, true, true, true, false, false, false] #[true, true, true, true, true, true, false, false, true, true, true, true, true, true, true, true, false, false] rfl rfl rfl rfl (two_of HT_.out (by kernel_rfl)) (by decide) (by decide) (fun K hK => ?_) (fun K hK => ?_)
                      · skip
                        refine goes_ Try.func67 (by kernel_rfl) rfl #[.string ((rd_T43 l0 x5_1).f0)] (by rfl) rfl rfl (by (try simp only [List.map_toArray, List.map_cons, List.map_nil]); first | done | rfl | (simp only [List.length_drop, List.length_take]; rfl) | exact congrArg (fun x_ : Int => #[Value.int .u64 x_]) (show _ = _ % (18446744073709551616 : Int) by omega)) ?_
                        with_reducible refine (headgateref04_Word.calls k1 ((rd_T43 l0 x5_1).f0) t105 _ A8.out).mono ?_
                        rintro e w14 ⟨rfl, hb⟩
                        refine ⟨_, rfl, ?_⟩
                        have n0_ := Aside0.mk (Kd.R_below (by (with_reducible repeat (first | apply Kd.R_alloc | apply Kd.R_drewN | apply Kd.R_drew)); exact HO109.out) hb)
                        have n1_ := Aside0.mk (below_step (by repeat (first | (with_reducible first | exact HB.out | apply below_alloc | apply pw_below_drewN | apply below_drew1) | exact HB.out)) hb)
                        clear HO109
                        clear HB
                        have HO109 := n0_
                        have HB := n1_
                        clear n0_ n1_
                        (try clear hb)
                        (try clear hb2)
                        (try clear hk)
                        (try clear hi)
                        refine hK.out _ _ ⟨((HB.out.cell (World.block_lt_of_cell? w _ hw104_0)).trans hw104_0), ((HB.out.cell (World.block_lt_of_cell? w _ hw104_1)).trans hw104_1), ((HB.out.cell (World.block_lt_of_cell? w _ hw106_0)).trans hw106_0), ((HB.out.cell (World.block_lt_of_cell? w _ hw106_1)).trans hw106_1)⟩ (fun hHeld => ?_)
                        clear hK K
                        refine norm_ (a' := ?_) ?_ ?_
                        rotate_left
                        · show Act.put _ (some 36) _ = _
                          simp only [Act.put, List.setIfInBounds_toArray, List.set_cons_zero, List.set_cons_succ, i64_w, i32_w]
                          rfl
                        refine pure_ (i := 7) (N := some 37) (v := ?_) (a' := ?_) #[true, true, true, true, true, true, true, true, true, true, true, true, true, true, true, false, false, false] rfl rfl (any_of HT_.out (by kernel_rfl)) (fun _ _ _ h => h) (Or.inl ⟨by rfl, ?_⟩) ?_ ?_
                        rotate_left
                        · intro w'
                          go_simp
                          with_reducible rfl
                        rotate_left
                        · simp only [Act.put, List.setIfInBounds_toArray, List.set_cons_zero, List.set_cons_succ, i64_w, i32_w]
                          rfl
                        refine one_ (i := 15) (N := some 45) #[true, true, true, true, true, true, true, true, true, true, true, true, true, true, true, true, false, false] rfl rfl (one_of HT_.out (by kernel_rfl)) (by decide) (fun K hK => ?_)
                        have hcv15 := own_string (P := Try.prog) Try.underlying27 Try.underlying5 Try.underlying9 (Kd.own_of_R HO109.out)
                        refine value_ (w1 := ?_) (v := ?_) (by rfl) rfl ?_ ?_
                        rotate_left 2
                        · go_simp
                          constructor
                          · rfl
                          · rfl
                        clear hcv15
                        refine hK.out _ _ ⟨((HB.out.cell (World.block_lt_of_cell? w _ hw104_0)).trans hw104_0), ((HB.out.cell (World.block_lt_of_cell? w _ hw104_1)).trans hw104_1), ((HB.out.cell (World.block_lt_of_cell? w _ hw106_0)).trans hw106_0), ((HB.out.cell (World.block_lt_of_cell? w _ hw106_1)).trans hw106_1)⟩ (fun hHeld => ?_)
                        clear hK K
                        refine norm_ (a' := ?_) ?_ ?_
                        rotate_left
                        · show Act.put _ (some 45) _ = _
                          simp only [Act.put, List.setIfInBounds_toArray, List.set_cons_zero, List.set_cons_succ, i64_w, i32_w]
                          rfl
                        exact norm_ (by simp only [putAll, Act.put, List.setIfInBounds_toArray, List.set_cons_zero, List.set_cons_succ]) (hCont (v108) _ ⟨hHeld, (by (with_reducible repeat (first | apply Kd.R_alloc | apply Kd.R_drewN | apply Kd.R_drew)); exact HO109.out), (by repeat (first | (with_reducible first | exact HB.out | apply below_alloc | apply pw_below_drewN | apply below_drew1) | exact HB.out))⟩)
                      · skip
                        have hcv14 := own_string (P := Try.prog) Try.underlying27 Try.underlying5 Try.underlying9 (Kd.own_of_R HO109.out)
                        refine value_ (w1 := ?_) (v := ?_) (by rfl) rfl ?_ ?_
                        rotate_left 2
                        · go_simp
                          constructor
                          · rfl
                          · rfl
                        clear hcv14
                        refine hK.out _ _ ⟨((HB.out.cell (World.block_lt_of_cell? w _ hw104_0)).trans hw104_0), ((HB.out.cell (World.block_lt_of_cell? w _ hw104_1)).trans hw104_1), ((HB.out.cell (World.block_lt_of_cell? w _ hw106_0)).trans hw106_0), ((HB.out.cell (World.block_lt_of_cell? w _ hw106_1)).trans hw106_1)⟩ (fun hHeld => ?_)
                        clear hK K
                        refine norm_ (a' := ?_) ?_ ?_
                        rotate_left
                        · show Act.put _ (some 45) _ = _
                          simp only [Act.put, List.setIfInBounds_toArray, List.set_cons_zero, List.set_cons_succ, i64_w, i32_w]
                          rfl
                        refine one_ (i := 6) (N := some 36) #[true, true, true, true, true, true, true, false, true, true, true, true, true, true, true, true, false, false] rfl rfl (one_of HT_.out (by kernel_rfl)) (by decide) (fun K hK => ?_)
                        refine goes_ Try.func67 (by kernel_rfl) rfl #[.string ((rd_T43 l0 x5_1).f0)] (by rfl) rfl rfl (by (try simp only [List.map_toArray, List.map_cons, List.map_nil]); first | done | rfl | (simp only [List.length_drop, List.length_take]; rfl) | exact congrArg (fun x_ : Int => #[Value.int .u64 x_]) (show _ = _ % (18446744073709551616 : Int) by omega)) ?_
                        with_reducible refine (headgateref04_Word.calls k1 ((rd_T43 l0 x5_1).f0) t105 _ A8.out).mono ?_
                        rintro e w15 ⟨rfl, hb⟩
                        refine ⟨_, rfl, ?_⟩
                        have n0_ := Aside0.mk (Kd.R_below (by (with_reducible repeat (first | apply Kd.R_alloc | apply Kd.R_drewN | apply Kd.R_drew)); exact HO109.out) hb)
                        have n1_ := Aside0.mk (below_step (by repeat (first | (with_reducible first | exact HB.out | apply below_alloc | apply pw_below_drewN | apply below_drew1) | exact HB.out)) hb)
                        clear HO109
                        clear HB
                        have HO109 := n0_
                        have HB := n1_
                        clear n0_ n1_
                        (try clear hb)
                        (try clear hb2)
                        (try clear hk)
                        (try clear hi)
                        refine hK.out _ _ ⟨((HB.out.cell (World.block_lt_of_cell? w _ hw104_0)).trans hw104_0), ((HB.out.cell (World.block_lt_of_cell? w _ hw104_1)).trans hw104_1), ((HB.out.cell (World.block_lt_of_cell? w _ hw106_0)).trans hw106_0), ((HB.out.cell (World.block_lt_of_cell? w _ hw106_1)).trans hw106_1)⟩ (fun hHeld => ?_)
                        clear hK K
                        refine norm_ (a' := ?_) ?_ ?_
                        rotate_left
                        · show Act.put _ (some 36) _ = _
                          simp only [Act.put, List.setIfInBounds_toArray, List.set_cons_zero, List.set_cons_succ, i64_w, i32_w]
                          rfl
                        refine pure_ (i := 7) (N := some 37) (v := ?_) (a' := ?_) #[true, true, true, true, true, true, true, true, true, true, true, true, true, true, true, true, false, false] rfl rfl (any_of HT_.out (by kernel_rfl)) (fun _ _ _ h => h) (Or.inl ⟨by rfl, ?_⟩) ?_ ?_
                        rotate_left
                        · intro w'
                          go_simp
                          with_reducible rfl
                        rotate_left
                        · simp only [Act.put, List.setIfInBounds_toArray, List.set_cons_zero, List.set_cons_succ, i64_w, i32_w]
                          rfl
                        exact norm_ (by simp only [putAll, Act.put, List.setIfInBounds_toArray, List.set_cons_zero, List.set_cons_succ]) (hCont (v108) _ ⟨hHeld, (by (with_reducible repeat (first | apply Kd.R_alloc | apply Kd.R_drewN | apply Kd.R_drew)); exact HO109.out), (by repeat (first | (with_reducible first | exact HB.out | apply below_alloc | apply pw_below_drewN | apply below_drew1) | exact HB.out))⟩)
                  rintro v108 w16 ⟨hS_, h0_, h1_⟩
                  have n0_ : Aside0 (Kd.R (Kd.int .u8) 5 w16 w.heap.size (fun _ => True) v108 y107) := ⟨h0_⟩
                  have n1_ : Aside0 (Below w.heap.size w w16) := ⟨h1_⟩
                  clear HB
                  clear h0_ h1_
                  have HO109 := n0_
                  have HB := n1_
                  clear n0_ n1_
                  have hHeld : w16.cell? (ad102.add ((x5_1).toNat * 2)) = some (.string ((rd_T43 l0 x5_1).f0)) ∧ w16.cell? ⟨(ad102.add ((x5_1).toNat * 2)).block, (ad102.add ((x5_1).toNat * 2)).off + 1, none⟩ = some (.int .i64 ((rd_T43 l0 x5_1).f1)) ∧ w16.cell? (ad102.add ((x5_1).toNat * 2)) = some (.string ((rd_T43 l0 x5_1).f0)) ∧ w16.cell? ⟨(ad102.add ((x5_1).toNat * 2)).block, (ad102.add ((x5_1).toNat * 2)).off + 1, none⟩ = some (.int .i64 ((rd_T43 l0 x5_1).f1)) := hS_
                  refine norm_ (a' := ?_) ?_ ?_
                  rotate_left
                  · simp only [putAll, Act.put, List.setIfInBounds_toArray, List.set_cons_zero, List.set_cons_succ]
                    rfl
                  refine pure_ (i := 16) (N := some 46) (v := ?_) (a' := ?_) #[true, true, true, true, true, true, true, true, true, true, true, true, true, true, true, true, true, false] rfl rfl (any_of HT_.out (by kernel_rfl)) (fun _ _ _ h => h) (Or.inl ⟨by rfl, ?_⟩) ?_ ?_
                  rotate_left
                  · intro w'
                    go_simp
                    with_reducible rfl
                  rotate_left
                  · simp only [Act.put, List.setIfInBounds_toArray, List.set_cons_zero, List.set_cons_succ, i64_w, i32_w]
                    rfl
                  refine pure_ (i := 17) (N := some 4) (v := ?_) (a' := ?_) #[true, true, true, true, true, true, true, true, true, true, true, true, true, true, true, true, true, true] rfl rfl (any_of HT_.out (by kernel_rfl)) (fun _ _ _ h => h) (Or.inl ⟨by rfl, ?_⟩) ?_ ?_
                  rotate_left
                  · intro w'
                    go_simp
                    with_reducible rfl
                  rotate_left
                  · simp only [Act.put, List.setIfInBounds_toArray, List.set_cons_zero, List.set_cons_succ, i64_w, i32_w]
                    rfl
                  refine done_ (done_of HT_.out (by kernel_rfl)) ?_
                  try go_wp2
                  go_roundg k1
                  case measure => have := HK1.out; omega
                  case rel => exact ⟨((x4_1 ++ t105) ++ (strOfNums y107)), (wrap64 (x5_1 + 1)), (by first | rfl | (simp; done) | (simp [*]; done) | (simp; rw [Bool.eq_iff_iff]; simp; done)), (by first | rfl | (simp; done) | (simp [*]; done) | (simp; rw [Bool.eq_iff_iff]; simp; done)), H', ⟨by have := HK1.out; omega⟩, ⟨by repeat (first | (with_reducible first | exact HB.out | apply below_alloc | apply pw_below_drewN | apply below_drew1) | exact HB.out)⟩⟩
                · rw [if_neg c10] at H
                  exact absurd H (by simp)
              · rw [if_neg c9] at H
                exact absurd H (by simp)
        · rw [if_neg c5] at H
          exact absurd H (by simp)
      · rw [if_neg c4] at H
        have c4b0 : decide (x5_1 < (l0.length : Int)) = false := decide_eq_false c4
        clear c4
        by_cases c17 : (x4_1.size : Int) > 16777216
        · rw [if_pos c17] at H
          have c17b0 : decide (16777216 < (x4_1.size : Int)) = true := decide_eq_true c17
          have c17b1 : decide (16777216 < x4_1.size) = true := decide_eq_true (by omega)
          clear c17
          simp only [Option.some.injEq, Prod.mk.injEq] at H
          obtain ⟨rfl, rfl⟩ := H
          go_wp2
          go_ret2
          exact ⟨by first | rfl | (simp [errW_none, errW_some] <;> rfl) | (simp [*, errW_none, errW_some] <;> rfl), by repeat (first | (with_reducible first | exact HB.out | apply below_alloc | apply pw_below_drewN | apply below_drew1) | exact HB.out)⟩
        · rw [if_neg c17] at H
          have c17b0 : decide (16777216 < (x4_1.size : Int)) = false := decide_eq_false c17
          have c17b1 : decide (16777216 < x4_1.size) = false := decide_eq_false (by omega)
          clear c17
          simp only [Option.some.injEq, Prod.mk.injEq] at H
          obtain ⟨rfl, rfl⟩ := H
          go_wp2
          go_ret2
          exact ⟨by first | rfl | (simp [errW_none, errW_some] <;> rfl) | (simp [*, errW_none, errW_some] <;> rfl), by repeat (first | (with_reducible first | exact HB.out | apply below_alloc | apply pw_below_drewN | apply below_drew1) | exact HB.out)⟩

end Go.Proofs.Ytgihecpobichbaa.Q
-- Written by a program of the session over the translation's print: functions as plain Lean, and that the machine's call comes to them.
namespace Go.Proofs.Ytgihecpobichbaa.Q
open Go.RowKit Go.Proofs.YtgihecpobichbaaW.PrintWords Go.Proofs.YtgihecpobichbaaW.PrintLast Go.Proofs.YtgihecpobichbaaW.PrintMore
attribute [local go_sem] max2_int min2_int max_two min_two max_three min_three max_four min_four   -- for this text's walks alone
set_option linter.unusedVariables false
set_option linter.unusedSimpArgs false

-- NOT PRINTED: function 111 (code_reader_num)

-- NOT PRINTED: function 92 (code_items_int64)

-- NOT PRINTED: function 91 (code_Unnums_1)

-- NOT PRINTED: function 90 (code_read_int64)

/-! ### headgatelaw04_CodeTells: function 5 -/
mutual
def headgatelaw04_CodeTells.j0 : Nat → List (List (S116)) → List (S43) → List (S74) → List Int → Bool → Option (Bool)
  | 0, _, _, _, _, _ => none
  | k + 1, x0, x1, x2, x3, x28 => if x28 = true then (some true) else (headgatelaw04_CodeTells.l0 k x0 x1 x2 x3 0)
def headgatelaw04_CodeTells.l0 : Nat → List (List (S116)) → List (S43) → List (S74) → List Int → Int → Option (Bool)
  | 0, _, _, _, _, _ => none
  | k + 1, x0, x1, x2, x3, x9 => if x9 < (x1.length : Int) then (if 0 ≤ x9 then (if (((rd_T43 x1 x9).f0).size : Int) > 2000 then (some true) else (headgatelaw04_CodeTells.l0 k x0 x1 x2 x3 (wrap64 (x9 + 1)))) else (none)) else ((code_Rows.f k x0).bind fun bt107 => ((headgateref04_Rows.f k x0).bind fun bt111 => ((headgatelaw04_told.f bt107.1 bt107.2 bt111.1 bt111.2).bind fun t113 => (if t113 = true then ((code_Cols.f k x1).bind fun bt114 => ((headgateref04_Cols.f k x1).bind fun bt118 => ((headgatelaw04_told.f bt114.1 bt114.2 bt118.1 bt118.2).bind fun t120 => (if t120 = true then ((code_Pairs.f k x2).bind fun bt121 => ((headgateref04_Pairs.f k x2).bind fun bt125 => ((headgatelaw04_told.f bt121.1 bt121.2 bt125.1 bt125.2).bind fun t127 => (if t127 = true then ((code_Nums.f k x3).bind fun bt128 => ((headgateref04_Nums.f k x3).bind fun bt132 => ((headgatelaw04_told.f bt128.1 bt128.2 bt132.1 bt132.2).bind fun t134 => (some t134)))) else (some false))))) else (some false))))) else (some false)))))
end
def headgatelaw04_CodeTells.f (k : Nat) (l0 : List (List (S116))) (l1 : List (S43)) (l2 : List (S74)) (l3 : List Int) : Option (Bool) := (headgatelaw04_alive.f k).bind fun t104 => (if t104 = true then ((headgatelaw04_long.f k l0 l2).bind fun t105 => (if t105 = true then (headgatelaw04_CodeTells.j0 k l0 l1 l2 l3 true) else (if (l1.length : Int) > 300 then (headgatelaw04_CodeTells.j0 k l0 l1 l2 l3 true) else (headgatelaw04_CodeTells.j0 k l0 l1 l2 l3 (decide ((l3.length : Int) > 2000)))))) else (some false))
set_option maxHeartbeats 8000000 in
set_option maxRecDepth 100000 in
theorem headgatelaw04_CodeTells.calls (k : Nat) (A0 : Option Addr) (c0 : Nat) (l0 : List (List (S116))) (A1 : Option Addr) (c1 : Nat) (l1 : List (S43)) (A2 : Option Addr) (c2 : Nat) (l2 : List (S74)) (A3 : Option Addr) (c3 : Nat) (l3 : List Int) (r : Bool) (w : World) (hr0 : Kd.C (Kd.slice 116 k116) w A0 l0.length l0) (hc0 : l0.length ≤ c0) (hr1 : Kd.C k43 w A1 l1.length l1) (hc1 : l1.length ≤ c1) (hr2 : Kd.C k74 w A2 l2.length l2) (hc2 : l2.length ≤ c2) (hr3 : Kd.C (Kd.int .i64) w A3 l3.length l3) (hc3 : l3.length ≤ c3) (h : headgatelaw04_CodeTells.f k l0 l1 l2 l3 = some r) :
    Calls Try.prog 5 #[.slice A0 l0.length c0, .slice A1 l1.length c1, .slice A2 l2.length c2, .slice A3 l3.length c3] w fun e w' => e = .returned (.bool r) ∧ Below w.heap.size w w' := by
  have HR0 := Aside0.mk hr0
  have HC0 := Aside0.mk hc0
  clear hr0 hc0
  have HR1 := Aside0.mk hr1
  have HC1 := Aside0.mk hc1
  clear hr1 hc1
  have HR2 := Aside0.mk hr2
  have HC2 := Aside0.mk hc2
  clear hr2 hc2
  have HR3 := Aside0.mk hr3
  have HC3 := Aside0.mk hc3
  clear hr3 hc3
  have HB := Aside0.mk (Below.refl w.heap.size w)
  have H : ((headgatelaw04_alive.f k).bind fun t104 => (if t104 = true then ((headgatelaw04_long.f k l0 l2).bind fun t105 => (if t105 = true then (headgatelaw04_CodeTells.j0 k l0 l1 l2 l3 true) else (if (l1.length : Int) > 300 then (headgatelaw04_CodeTells.j0 k l0 l1 l2 l3 true) else (headgatelaw04_CodeTells.j0 k l0 l1 l2 l3 (decide ((l3.length : Int) > 2000)))))) else (some false))) = some r := h
  clear h
  replace H := Option.bind_eq_some_iff.mp H
  obtain ⟨t104, A50, H⟩ := H
  replace H : (if t104 = true then ((headgatelaw04_long.f k l0 l2).bind fun t105 => (if t105 = true then (headgatelaw04_CodeTells.j0 k l0 l1 l2 l3 true) else (if (l1.length : Int) > 300 then (headgatelaw04_CodeTells.j0 k l0 l1 l2 l3 true) else (headgatelaw04_CodeTells.j0 k l0 l1 l2 l3 (decide ((l3.length : Int) > 2000)))))) else (some false)) = some r := H
  have A5 := Aside0.mk A50
  clear A50
  by_cases c6 : t104 = true
  · subst c6
    have H1 : ((headgatelaw04_long.f k l0 l2).bind fun t105 => (if t105 = true then (headgatelaw04_CodeTells.j0 k l0 l1 l2 l3 true) else (if (l1.length : Int) > 300 then (headgatelaw04_CodeTells.j0 k l0 l1 l2 l3 true) else (headgatelaw04_CodeTells.j0 k l0 l1 l2 l3 (decide ((l3.length : Int) > 2000)))))) = some r := by rw [if_pos rfl] at H; exact H
    clear H
    have H := H1
    clear H1
    have HC7 := Aside0.mk H
    clear H
    go_enter Try.func5, Try.ntmps5
    go_upto_region 3 with (first | ((with_reducible refine gate_callee (f := 12) rfl ?_); refine goesL_ (some 14) rfl rfl Try.func12 (by kernel_rfl) rfl #[] rfl (by (try simp only [List.map_toArray, List.map_cons, List.map_nil]); first | done | rfl | (simp only [List.length_drop, List.length_take]; rfl) | exact congrArg (fun x_ : Int => #[Value.int .u64 x_]) (show _ = _ % (18446744073709551616 : Int) by omega)) ?_; (with_reducible refine (headgatelaw04_alive.calls k  true _ A5.out).mono ?_); rintro e w8 ⟨rfl, hb⟩; refine ⟨_, rfl, ?_⟩; have n0_ := Aside0.mk (below_step (by repeat (first | (with_reducible first | exact HB.out | apply below_alloc | apply pw_below_drewN | apply below_drew1) | exact HB.out)) hb); clear HB; have HB := n0_; clear n0_; (try clear hb); (try clear hb2); (try clear hk); (try clear hi)))
    (try simp only [Act.put, List.setIfInBounds_toArray, List.set_cons_zero, List.set_cons_succ])
    go_cut [28] (fun v28 wc => ∃ (kq : Nat) (x28_6 : Bool), v28 = .bool x28_6 ∧ Aside0 (headgatelaw04_CodeTells.j0 kq l0 l1 l2 l3 x28_6 = some r) ∧ Aside0 (kq ≤ k) ∧ Aside0 (Below w.heap.size w wc))
    case first =>
      have H := HC7.out
      clear HC7
      replace H := Option.bind_eq_some_iff.mp H
      obtain ⟨t105, A90, H⟩ := H
      replace H : (if t105 = true then (headgatelaw04_CodeTells.j0 k l0 l1 l2 l3 true) else (if (l1.length : Int) > 300 then (headgatelaw04_CodeTells.j0 k l0 l1 l2 l3 true) else (headgatelaw04_CodeTells.j0 k l0 l1 l2 l3 (decide ((l3.length : Int) > 2000))))) = some r := H
      have A9 := Aside0.mk A90
      clear A90
      by_cases c10 : t105 = true
      · subst c10
        have H1 : (headgatelaw04_CodeTells.j0 k l0 l1 l2 l3 true) = some r := by rw [if_pos rfl] at H; exact H
        clear H
        have H := H1
        clear H1
        have H' := Aside0.mk H
        clear H
        go_wp2_with (first | ((with_reducible refine gate_callee (f := 19) rfl ?_); refine goesL_ (some 18) rfl rfl Try.func19 (by kernel_rfl) rfl #[.slice A0 l0.length c0, .slice A2 l2.length c2] rfl (by (try simp only [List.map_toArray, List.map_cons, List.map_nil]); first | done | rfl | (simp only [List.length_drop, List.length_take]; rfl) | exact congrArg (fun x_ : Int => #[Value.int .u64 x_]) (show _ = _ % (18446744073709551616 : Int) by omega)) ?_; (with_reducible refine (headgatelaw04_long.calls k _ _ l0 _ _ l2 true _ ?side1 ?side2 ?side3 ?side4 A9.out).mono ?_); (case side1 => repeat (first | exact (Kd.C_below HR0.out HB.out) | (with_reducible refine Kd.C_alloc ?_ _) | (with_reducible refine Kd.C_drewN ?_ _) | (with_reducible refine Kd.C_drew ?_))); (case side2 => exact HC0.out); (case side3 => repeat (first | exact (Kd.C_below HR2.out HB.out) | (with_reducible refine Kd.C_alloc ?_ _) | (with_reducible refine Kd.C_drewN ?_ _) | (with_reducible refine Kd.C_drew ?_))); (case side4 => exact HC2.out); rintro e w' ⟨rfl, ⟨nd, rfl⟩⟩; refine ⟨_, rfl, ?_⟩))
        go_meet
        case rel => exact ⟨_, (true), (by first | rfl | (simp; done) | (simp [*]; done) | (simp; rw [Bool.eq_iff_iff]; simp; done)), H', ⟨by first | omega | exact Nat.le_refl _⟩, ⟨by repeat (first | (with_reducible first | exact HB.out | apply below_alloc | apply pw_below_drewN | apply below_drew1) | exact HB.out)⟩⟩
      · replace c10 := Bool.eq_false_iff.mpr c10
        subst c10
        have H1 : (if (l1.length : Int) > 300 then (headgatelaw04_CodeTells.j0 k l0 l1 l2 l3 true) else (headgatelaw04_CodeTells.j0 k l0 l1 l2 l3 (decide ((l3.length : Int) > 2000)))) = some r := by rw [if_neg (show ¬ (false = true) by decide)] at H; exact H
        clear H
        have H := H1
        clear H1
        by_cases c11 : (l1.length : Int) > 300
        · rw [if_pos c11] at H
          have c11b0 : decide (300 < (l1.length : Int)) = true := decide_eq_true c11
          have c11b1 : decide (300 < l1.length) = true := decide_eq_true (by omega)
          clear c11
          (first | rw [c11b0] | (simp only [i64_w, i32_w]; rw [c11b0]) | skip)
          have H' := Aside0.mk H
          clear H
          go_wp2_with (first | ((with_reducible refine gate_callee (f := 19) rfl ?_); refine goesL_ (some 18) rfl rfl Try.func19 (by kernel_rfl) rfl #[.slice A0 l0.length c0, .slice A2 l2.length c2] rfl (by (try simp only [List.map_toArray, List.map_cons, List.map_nil]); first | done | rfl | (simp only [List.length_drop, List.length_take]; rfl) | exact congrArg (fun x_ : Int => #[Value.int .u64 x_]) (show _ = _ % (18446744073709551616 : Int) by omega)) ?_; (with_reducible refine (headgatelaw04_long.calls k _ _ l0 _ _ l2 false _ ?side1 ?side2 ?side3 ?side4 A9.out).mono ?_); (case side1 => repeat (first | exact (Kd.C_below HR0.out HB.out) | (with_reducible refine Kd.C_alloc ?_ _) | (with_reducible refine Kd.C_drewN ?_ _) | (with_reducible refine Kd.C_drew ?_))); (case side2 => exact HC0.out); (case side3 => repeat (first | exact (Kd.C_below HR2.out HB.out) | (with_reducible refine Kd.C_alloc ?_ _) | (with_reducible refine Kd.C_drewN ?_ _) | (with_reducible refine Kd.C_drew ?_))); (case side4 => exact HC2.out); rintro e w' ⟨rfl, ⟨nd, rfl⟩⟩; refine ⟨_, rfl, ?_⟩))
          go_meet
          case rel => exact ⟨_, (true), (by first | rfl | (simp; done) | (simp [*]; done) | (simp; rw [Bool.eq_iff_iff]; simp; done)), H', ⟨by first | omega | exact Nat.le_refl _⟩, ⟨by repeat (first | (with_reducible first | exact HB.out | apply below_alloc | apply pw_below_drewN | apply below_drew1) | exact HB.out)⟩⟩
        · rw [if_neg c11] at H
          have c11b0 : decide (300 < (l1.length : Int)) = false := decide_eq_false c11
          have c11b1 : decide (300 < l1.length) = false := decide_eq_false (by omega)
          clear c11
          (first | rw [c11b0] | (simp only [i64_w, i32_w]; rw [c11b0]) | skip)
          have H' := Aside0.mk H
          clear H
          go_wp2_with (first | ((with_reducible refine gate_callee (f := 19) rfl ?_); refine goesL_ (some 18) rfl rfl Try.func19 (by kernel_rfl) rfl #[.slice A0 l0.length c0, .slice A2 l2.length c2] rfl (by (try simp only [List.map_toArray, List.map_cons, List.map_nil]); first | done | rfl | (simp only [List.length_drop, List.length_take]; rfl) | exact congrArg (fun x_ : Int => #[Value.int .u64 x_]) (show _ = _ % (18446744073709551616 : Int) by omega)) ?_; (with_reducible refine (headgatelaw04_long.calls k _ _ l0 _ _ l2 false _ ?side1 ?side2 ?side3 ?side4 A9.out).mono ?_); (case side1 => repeat (first | exact (Kd.C_below HR0.out HB.out) | (with_reducible refine Kd.C_alloc ?_ _) | (with_reducible refine Kd.C_drewN ?_ _) | (with_reducible refine Kd.C_drew ?_))); (case side2 => exact HC0.out); (case side3 => repeat (first | exact (Kd.C_below HR2.out HB.out) | (with_reducible refine Kd.C_alloc ?_ _) | (with_reducible refine Kd.C_drewN ?_ _) | (with_reducible refine Kd.C_drew ?_))); (case side4 => exact HC2.out); rintro e w' ⟨rfl, ⟨nd, rfl⟩⟩; refine ⟨_, rfl, ?_⟩))
          go_meet
          case rel => exact ⟨_, (decide ((l3.length : Int) > 2000)), (by first | rfl | (simp; done) | (simp [*]; done) | (simp; rw [Bool.eq_iff_iff]; simp; done)), H', ⟨by first | omega | exact Nat.le_refl _⟩, ⟨by repeat (first | (with_reducible first | exact HB.out | apply below_alloc | apply pw_below_drewN | apply below_drew1) | exact HB.out)⟩⟩
    case rest =>
      clear HC7
      try clear c1
      try clear c2
      try clear p2
      try clear c3
      try clear c5
      try clear c6
      try clear c10
      try clear c11
      try clear c11b0
      try clear c11b1
      obtain ⟨kq, x28_6, rfl, HA, HJ6, HB⟩ := hcut
      cases kq with
      | zero => exact absurd HA.out (by simp [headgatelaw04_CodeTells.j0])
      | succ kj6 =>
        have H := HA.out
        clear HA
        simp only [headgatelaw04_CodeTells.j0] at H
        by_cases c12 : x28_6 = true
        · subst c12
          have H1 : (some true) = some r := by rw [if_pos rfl] at H; exact H
          clear H
          have H := H1
          clear H1
          obtain rfl := Option.some.inj H
          go_wp2
          go_ret
          exact ⟨by first | rfl | (simp [errW_none, errW_some] <;> rfl) | (simp [*, errW_none, errW_some] <;> rfl), by repeat (first | (with_reducible first | exact HB.out | apply below_alloc | apply pw_below_drewN | apply below_drew1) | exact HB.out)⟩
        · replace c12 := Bool.eq_false_iff.mpr c12
          subst c12
          have H1 : (headgatelaw04_CodeTells.l0 kj6 l0 l1 l2 l3 0) = some r := by rw [if_neg (show ¬ (false = true) by decide)] at H; exact H
          clear H
          have H := H1
          clear H1
          have H' := Aside0.mk H
          clear H
          go_wp2
          go_loopg [9] kj6 (fun kq v9 w' => ∃ (x9_2 : Int), v9 = .int .i64 x9_2 ∧ Aside0 (headgatelaw04_CodeTells.l0 kq l0 l1 l2 l3 x9_2 = some r) ∧ Aside0 (kq ≤ kj6) ∧ Aside0 (Below w.heap.size w w'))
          case atStart => exact ⟨(0), (by first | rfl | (simp; done) | (simp [*]; done) | (simp; rw [Bool.eq_iff_iff]; simp; done)), H', ⟨Nat.le_refl _⟩, ⟨by repeat (first | (with_reducible first | exact HB.out | apply below_alloc | apply pw_below_drewN | apply below_drew1) | exact HB.out)⟩⟩
          case round =>
            clear H'
            try clear c1
            try clear c2
            try clear p2
            try clear c3
            try clear c5
            try clear c6
            try clear c10
            try clear c11
            try clear c11b0
            try clear c11b1
            try clear c12
            try clear p2
            obtain ⟨x9_2, rfl, HA, HK2, HB⟩ := hrel
            cases gk with
            | zero => exact absurd HA.out (by simp [headgatelaw04_CodeTells.l0])
            | succ k2 =>
              have H := HA.out
              clear HA
              simp only [headgatelaw04_CodeTells.l0] at H
              by_cases c13 : x9_2 < (l1.length : Int)
              · rw [if_pos c13] at H
                have c13b0 : decide (x9_2 < (l1.length : Int)) = true := decide_eq_true c13
                clear c13
                by_cases c14 : 0 ≤ x9_2
                · rw [if_pos c14] at H
                  have c14b0 : decide (0 ≤ x9_2) = true := decide_eq_true c14
                  clear c14
                  by_cases c15 : (((rd_T43 l1 x9_2).f0).size : Int) > 2000
                  · rw [if_pos c15] at H
                    have c15b0 : decide (2000 < (((rd_T43 l1 x9_2).f0).size : Int)) = true := decide_eq_true c15
                    have c15b1 : decide (2000 < ((rd_T43 l1 x9_2).f0).size) = true := decide_eq_true (by omega)
                    clear c15
                    obtain rfl := Option.some.inj H
                    have p106 : 0 ≤ (x9_2 : Int) := of_decide_eq_true (by first | (with_reducible assumption) | assumption)
                    have q106 : x9_2 < (l1.length : Int) := of_decide_eq_true (by first | (with_reducible assumption) | assumption)
                    obtain ⟨ad106, e106, hx106_0, hx106_1⟩ := at_T43 HR1.out x9_2 p106 q106
                    cases e106
                    replace hx106_0 := (HB.out.cell (World.block_lt_of_cell? w _ hx106_0)).trans hx106_0
                    replace hx106_1 := (HB.out.cell (World.block_lt_of_cell? w _ hx106_1)).trans hx106_1
                    replace p106 := eq_true p106
                    replace q106 := eq_true q106
                    go_wp2
                    go_ret
                    exact ⟨by first | rfl | (simp [errW_none, errW_some] <;> rfl) | (simp [*, errW_none, errW_some] <;> rfl), by repeat (first | (with_reducible first | exact HB.out | apply below_alloc | apply pw_below_drewN | apply below_drew1) | exact HB.out)⟩
                  · rw [if_neg c15] at H
                    have c15b0 : decide (2000 < (((rd_T43 l1 x9_2).f0).size : Int)) = false := decide_eq_false c15
                    have c15b1 : decide (2000 < ((rd_T43 l1 x9_2).f0).size) = false := decide_eq_false (by omega)
                    clear c15
                    have H' := Aside0.mk H
                    clear H
                    have p106 : 0 ≤ (x9_2 : Int) := of_decide_eq_true (by first | (with_reducible assumption) | assumption)
                    have q106 : x9_2 < (l1.length : Int) := of_decide_eq_true (by first | (with_reducible assumption) | assumption)
                    obtain ⟨ad106, e106, hx106_0, hx106_1⟩ := at_T43 HR1.out x9_2 p106 q106
                    cases e106
                    replace hx106_0 := (HB.out.cell (World.block_lt_of_cell? w _ hx106_0)).trans hx106_0
                    replace hx106_1 := (HB.out.cell (World.block_lt_of_cell? w _ hx106_1)).trans hx106_1
                    replace p106 := eq_true p106
                    replace q106 := eq_true q106
                    go_wp2
                    go_roundg k2
                    case measure => have := HJ6.out; have := HK2.out; omega
                    case rel => exact ⟨(wrap64 (x9_2 + 1)), (by first | rfl | (simp; done) | (simp [*]; done) | (simp; rw [Bool.eq_iff_iff]; simp; done)), H', ⟨by have := HJ6.out; have := HK2.out; omega⟩, ⟨by repeat (first | (with_reducible first | exact HB.out | apply below_alloc | apply pw_below_drewN | apply below_drew1) | exact HB.out)⟩⟩
                · rw [if_neg c14] at H
                  exact absurd H (by simp)
              · rw [if_neg c13] at H
                have c13b0 : decide (x9_2 < (l1.length : Int)) = false := decide_eq_false c13
                clear c13
                replace H := Option.bind_eq_some_iff.mp H
                obtain ⟨⟨t107, t108⟩, A160, H⟩ := H
                replace H : ((headgateref04_Rows.f k2 l0).bind fun bt111 => ((headgatelaw04_told.f t107 t108 bt111.1 bt111.2).bind fun t113 => (if t113 = true then ((code_Cols.f k2 l1).bind fun bt114 => ((headgateref04_Cols.f k2 l1).bind fun bt118 => ((headgatelaw04_told.f bt114.1 bt114.2 bt118.1 bt118.2).bind fun t120 => (if t120 = true then ((code_Pairs.f k2 l2).bind fun bt121 => ((headgateref04_Pairs.f k2 l2).bind fun bt125 => ((headgatelaw04_told.f bt121.1 bt121.2 bt125.1 bt125.2).bind fun t127 => (if t127 = true then ((code_Nums.f k2 l3).bind fun bt128 => ((headgateref04_Nums.f k2 l3).bind fun bt132 => ((headgatelaw04_told.f bt128.1 bt128.2 bt132.1 bt132.2).bind fun t134 => (some t134)))) else (some false))))) else (some false))))) else (some false)))) = some r := H
                have A16 := Aside0.mk A160
                clear A160
                replace H := Option.bind_eq_some_iff.mp H
                obtain ⟨⟨t111, t112⟩, A170, H⟩ := H
                replace H : ((headgatelaw04_told.f t107 t108 t111 t112).bind fun t113 => (if t113 = true then ((code_Cols.f k2 l1).bind fun bt114 => ((headgateref04_Cols.f k2 l1).bind fun bt118 => ((headgatelaw04_told.f bt114.1 bt114.2 bt118.1 bt118.2).bind fun t120 => (if t120 = true then ((code_Pairs.f k2 l2).bind fun bt121 => ((headgateref04_Pairs.f k2 l2).bind fun bt125 => ((headgatelaw04_told.f bt121.1 bt121.2 bt125.1 bt125.2).bind fun t127 => (if t127 = true then ((code_Nums.f k2 l3).bind fun bt128 => ((headgateref04_Nums.f k2 l3).bind fun bt132 => ((headgatelaw04_told.f bt128.1 bt128.2 bt132.1 bt132.2).bind fun t134 => (some t134)))) else (some false))))) else (some false))))) else (some false))) = some r := H
                have A17 := Aside0.mk A170
                clear A170
                replace H := Option.bind_eq_some_iff.mp H
                obtain ⟨t113, A180, H⟩ := H
                replace H : (if t113 = true then ((code_Cols.f k2 l1).bind fun bt114 => ((headgateref04_Cols.f k2 l1).bind fun bt118 => ((headgatelaw04_told.f bt114.1 bt114.2 bt118.1 bt118.2).bind fun t120 => (if t120 = true then ((code_Pairs.f k2 l2).bind fun bt121 => ((headgateref04_Pairs.f k2 l2).bind fun bt125 => ((headgatelaw04_told.f bt121.1 bt121.2 bt125.1 bt125.2).bind fun t127 => (if t127 = true then ((code_Nums.f k2 l3).bind fun bt128 => ((headgateref04_Nums.f k2 l3).bind fun bt132 => ((headgatelaw04_told.f bt128.1 bt128.2 bt132.1 bt132.2).bind fun t134 => (some t134)))) else (some false))))) else (some false))))) else (some false)) = some r := H
                have A18 := Aside0.mk A180
                clear A180
                by_cases c19 : t113 = true
                · subst c19
                  have H1 : ((code_Cols.f k2 l1).bind fun bt114 => ((headgateref04_Cols.f k2 l1).bind fun bt118 => ((headgatelaw04_told.f bt114.1 bt114.2 bt118.1 bt118.2).bind fun t120 => (if t120 = true then ((code_Pairs.f k2 l2).bind fun bt121 => ((headgateref04_Pairs.f k2 l2).bind fun bt125 => ((headgatelaw04_told.f bt121.1 bt121.2 bt125.1 bt125.2).bind fun t127 => (if t127 = true then ((code_Nums.f k2 l3).bind fun bt128 => ((headgateref04_Nums.f k2 l3).bind fun bt132 => ((headgatelaw04_told.f bt128.1 bt128.2 bt132.1 bt132.2).bind fun t134 => (some t134)))) else (some false))))) else (some false))))) = some r := by rw [if_pos rfl] at H; exact H
                  clear H
                  have H := H1
                  clear H1
                  replace H := Option.bind_eq_some_iff.mp H
                  obtain ⟨⟨t114, t115⟩, A200, H⟩ := H
                  replace H : ((headgateref04_Cols.f k2 l1).bind fun bt118 => ((headgatelaw04_told.f t114 t115 bt118.1 bt118.2).bind fun t120 => (if t120 = true then ((code_Pairs.f k2 l2).bind fun bt121 => ((headgateref04_Pairs.f k2 l2).bind fun bt125 => ((headgatelaw04_told.f bt121.1 bt121.2 bt125.1 bt125.2).bind fun t127 => (if t127 = true then ((code_Nums.f k2 l3).bind fun bt128 => ((headgateref04_Nums.f k2 l3).bind fun bt132 => ((headgatelaw04_told.f bt128.1 bt128.2 bt132.1 bt132.2).bind fun t134 => (some t134)))) else (some false))))) else (some false)))) = some r := H
                  have A20 := Aside0.mk A200
                  clear A200
                  replace H := Option.bind_eq_some_iff.mp H
                  obtain ⟨⟨t118, t119⟩, A210, H⟩ := H
                  replace H : ((headgatelaw04_told.f t114 t115 t118 t119).bind fun t120 => (if t120 = true then ((code_Pairs.f k2 l2).bind fun bt121 => ((headgateref04_Pairs.f k2 l2).bind fun bt125 => ((headgatelaw04_told.f bt121.1 bt121.2 bt125.1 bt125.2).bind fun t127 => (if t127 = true then ((code_Nums.f k2 l3).bind fun bt128 => ((headgateref04_Nums.f k2 l3).bind fun bt132 => ((headgatelaw04_told.f bt128.1 bt128.2 bt132.1 bt132.2).bind fun t134 => (some t134)))) else (some false))))) else (some false))) = some r := H
                  have A21 := Aside0.mk A210
                  clear A210
                  replace H := Option.bind_eq_some_iff.mp H
                  obtain ⟨t120, A220, H⟩ := H
                  replace H : (if t120 = true then ((code_Pairs.f k2 l2).bind fun bt121 => ((headgateref04_Pairs.f k2 l2).bind fun bt125 => ((headgatelaw04_told.f bt121.1 bt121.2 bt125.1 bt125.2).bind fun t127 => (if t127 = true then ((code_Nums.f k2 l3).bind fun bt128 => ((headgateref04_Nums.f k2 l3).bind fun bt132 => ((headgatelaw04_told.f bt128.1 bt128.2 bt132.1 bt132.2).bind fun t134 => (some t134)))) else (some false))))) else (some false)) = some r := H
                  have A22 := Aside0.mk A220
                  clear A220
                  by_cases c23 : t120 = true
                  · subst c23
                    have H1 : ((code_Pairs.f k2 l2).bind fun bt121 => ((headgateref04_Pairs.f k2 l2).bind fun bt125 => ((headgatelaw04_told.f bt121.1 bt121.2 bt125.1 bt125.2).bind fun t127 => (if t127 = true then ((code_Nums.f k2 l3).bind fun bt128 => ((headgateref04_Nums.f k2 l3).bind fun bt132 => ((headgatelaw04_told.f bt128.1 bt128.2 bt132.1 bt132.2).bind fun t134 => (some t134)))) else (some false))))) = some r := by rw [if_pos rfl] at H; exact H
                    clear H
                    have H := H1
                    clear H1
                    replace H := Option.bind_eq_some_iff.mp H
                    obtain ⟨⟨t121, t122⟩, A240, H⟩ := H
                    replace H : ((headgateref04_Pairs.f k2 l2).bind fun bt125 => ((headgatelaw04_told.f t121 t122 bt125.1 bt125.2).bind fun t127 => (if t127 = true then ((code_Nums.f k2 l3).bind fun bt128 => ((headgateref04_Nums.f k2 l3).bind fun bt132 => ((headgatelaw04_told.f bt128.1 bt128.2 bt132.1 bt132.2).bind fun t134 => (some t134)))) else (some false)))) = some r := H
                    have A24 := Aside0.mk A240
                    clear A240
                    replace H := Option.bind_eq_some_iff.mp H
                    obtain ⟨⟨t125, t126⟩, A250, H⟩ := H
                    replace H : ((headgatelaw04_told.f t121 t122 t125 t126).bind fun t127 => (if t127 = true then ((code_Nums.f k2 l3).bind fun bt128 => ((headgateref04_Nums.f k2 l3).bind fun bt132 => ((headgatelaw04_told.f bt128.1 bt128.2 bt132.1 bt132.2).bind fun t134 => (some t134)))) else (some false))) = some r := H
                    have A25 := Aside0.mk A250
                    clear A250
                    replace H := Option.bind_eq_some_iff.mp H
                    obtain ⟨t127, A260, H⟩ := H
                    replace H : (if t127 = true then ((code_Nums.f k2 l3).bind fun bt128 => ((headgateref04_Nums.f k2 l3).bind fun bt132 => ((headgatelaw04_told.f bt128.1 bt128.2 bt132.1 bt132.2).bind fun t134 => (some t134)))) else (some false)) = some r := H
                    have A26 := Aside0.mk A260
                    clear A260
                    by_cases c27 : t127 = true
                    · subst c27
                      have H1 : ((code_Nums.f k2 l3).bind fun bt128 => ((headgateref04_Nums.f k2 l3).bind fun bt132 => ((headgatelaw04_told.f bt128.1 bt128.2 bt132.1 bt132.2).bind fun t134 => (some t134)))) = some r := by rw [if_pos rfl] at H; exact H
                      clear H
                      have H := H1
                      clear H1
                      replace H := Option.bind_eq_some_iff.mp H
                      obtain ⟨⟨t128, t129⟩, A280, H⟩ := H
                      replace H : ((headgateref04_Nums.f k2 l3).bind fun bt132 => ((headgatelaw04_told.f t128 t129 bt132.1 bt132.2).bind fun t134 => (some t134))) = some r := H
                      have A28 := Aside0.mk A280
                      clear A280
                      replace H := Option.bind_eq_some_iff.mp H
                      obtain ⟨⟨t132, t133⟩, A290, H⟩ := H
                      replace H : ((headgatelaw04_told.f t128 t129 t132 t133).bind fun t134 => (some t134)) = some r := H
                      have A29 := Aside0.mk A290
                      clear A290
                      replace H := Option.bind_eq_some_iff.mp H
                      obtain ⟨t134, A300, H⟩ := H
                      replace H : (some t134) = some r := H
                      have A30 := Aside0.mk A300
                      clear A300
                      obtain rfl := Option.some.inj H
                      go_wp2_with (first | ((with_reducible refine gate_callee (f := 20) rfl ?_); refine goesL_ (some 44) rfl rfl Try.func20 (by kernel_rfl) rfl #[.slice A0 l0.length c0] rfl (by (try simp only [List.map_toArray, List.map_cons, List.map_nil]); first | done | rfl | (simp only [List.length_drop, List.length_take]; rfl) | exact congrArg (fun x_ : Int => #[Value.int .u64 x_]) (show _ = _ % (18446744073709551616 : Int) by omega)) ?_; (with_reducible refine (code_Rows.calls k2 _ _ l0 t107 t108 _ ?side1 ?side2 A16.out).mono ?_); (case side1 => repeat (first | exact (Kd.C_below HR0.out HB.out) | (with_reducible refine Kd.C_alloc ?_ _) | (with_reducible refine Kd.C_drewN ?_ _) | (with_reducible refine Kd.C_drew ?_))); (case side2 => exact HC0.out); rintro e w31 ⟨v109, rfl, ho0, hb⟩; refine ⟨_, rfl, ?_⟩; have n0_ := Aside0.mk (Kd.R_lower ho0 (below_size (by repeat (first | (with_reducible first | exact HB.out | apply below_alloc | apply pw_below_drewN | apply below_drew1) | exact HB.out)))); have n1_ := Aside0.mk (below_step (by repeat (first | (with_reducible first | exact HB.out | apply below_alloc | apply pw_below_drewN | apply below_drew1) | exact HB.out)) hb); clear HB; have HO110 := n0_; have HB := n1_; clear n0_ n1_; (try clear hb); (try clear hb2); (try clear hk); (try clear hi); (try clear ho0)) | ((with_reducible refine gate_callee (f := 21) rfl ?_); refine goesL_ (some 49) rfl rfl Try.func21 (by kernel_rfl) rfl #[.slice A0 l0.length c0] rfl (by (try simp only [List.map_toArray, List.map_cons, List.map_nil]); first | done | rfl | (simp only [List.length_drop, List.length_take]; rfl) | exact congrArg (fun x_ : Int => #[Value.int .u64 x_]) (show _ = _ % (18446744073709551616 : Int) by omega)) ?_; (with_reducible refine (headgateref04_Rows.calls k2 _ _ l0 t111 t112 _ ?side1 ?side2 A17.out).mono ?_); (case side1 => repeat (first | exact (Kd.C_below HR0.out HB.out) | (with_reducible refine Kd.C_alloc ?_ _) | (with_reducible refine Kd.C_drewN ?_ _) | (with_reducible refine Kd.C_drew ?_))); (case side2 => exact HC0.out); rintro e w32 ⟨rfl, hb⟩; refine ⟨_, rfl, ?_⟩; have n0_ := Aside0.mk (Kd.R_below (by (with_reducible repeat (first | apply Kd.R_alloc | apply Kd.R_drewN | apply Kd.R_drew)); exact HO110.out) hb); have n1_ := Aside0.mk (below_step (by repeat (first | (with_reducible first | exact HB.out | apply below_alloc | apply pw_below_drewN | apply below_drew1) | exact HB.out)) hb); clear HO110; clear HB; have HO110 := n0_; have HB := n1_; clear n0_ n1_; (try clear hb); (try clear hb2); (try clear hk); (try clear hi); obtain ⟨Ao33, co33, eo33⟩ := Kd.R_slice HO110.out; subst eo33) | ((with_reducible refine gate_callee (f := 22) rfl ?_); refine goesL_ (some 56) rfl rfl Try.func22 (by kernel_rfl) rfl #[.slice Ao33 t107.length co33, .int .i64 t108, .string t111, .int .i64 t112] rfl (by (try simp only [List.map_toArray, List.map_cons, List.map_nil]); first | done | rfl | (simp only [List.length_drop, List.length_take]; rfl) | exact congrArg (fun x_ : Int => #[Value.int .u64 x_]) (show _ = _ % (18446744073709551616 : Int) by omega)) ?_; (with_reducible refine (headgatelaw04_told.calls _ _ t107 t108 t111 t112 true _ ?side1 ?side2 A18.out).mono ?_); (case side1 => repeat (first | exact (Kd.R_reads' HO110.out).2.2 | (with_reducible refine Kd.C_alloc ?_ _) | (with_reducible refine Kd.C_drewN ?_ _) | (with_reducible refine Kd.C_drew ?_))); (case side2 => exact (Kd.R_reads' HO110.out).2.1); rintro e w' ⟨rfl, ⟨nd, rfl⟩⟩; refine ⟨_, rfl, ?_⟩) | ((with_reducible refine gate_callee (f := 23) rfl ?_); refine goesL_ (some 60) rfl rfl Try.func23 (by kernel_rfl) rfl #[.slice A1 l1.length c1] rfl (by (try simp only [List.map_toArray, List.map_cons, List.map_nil]); first | done | rfl | (simp only [List.length_drop, List.length_take]; rfl) | exact congrArg (fun x_ : Int => #[Value.int .u64 x_]) (show _ = _ % (18446744073709551616 : Int) by omega)) ?_; (with_reducible refine (code_Cols.calls k2 _ _ l1 t114 t115 _ ?side1 ?side2 A20.out).mono ?_); (case side1 => repeat (first | exact (Kd.C_below HR1.out (by repeat (first | (with_reducible first | exact HB.out | apply below_alloc | apply pw_below_drewN | apply below_drew1) | exact HB.out))) | (with_reducible refine Kd.C_alloc ?_ _) | (with_reducible refine Kd.C_drewN ?_ _) | (with_reducible refine Kd.C_drew ?_))); (case side2 => exact HC1.out); rintro e w34 ⟨v116, rfl, ho0, hb⟩; refine ⟨_, rfl, ?_⟩; have n0_ := Aside0.mk (Kd.R_elder' (by (with_reducible repeat (first | apply Kd.R_alloc | apply Kd.R_drewN | apply Kd.R_drew)); exact HO110.out) (Kd.R_base ho0) hb); have n1_ := Aside0.mk (Kd.R_lower (Kd.R_new' ho0 (Kd.R_lt (by (with_reducible repeat (first | apply Kd.R_alloc | apply Kd.R_drewN | apply Kd.R_drew)); exact HO110.out))) (below_size (by repeat (first | (with_reducible first | exact HB.out | apply below_alloc | apply pw_below_drewN | apply below_drew1) | exact HB.out)))); have n2_ := Aside0.mk (below_step (by repeat (first | (with_reducible first | exact HB.out | apply below_alloc | apply pw_below_drewN | apply below_drew1) | exact HB.out)) hb); clear HO110; clear HB; have HO110 := n0_; have HO117 := n1_; have HB := n2_; clear n0_ n1_ n2_; (try clear hb); (try clear hb2); (try clear hk); (try clear hi); (try clear ho0)) | ((with_reducible refine gate_callee (f := 24) rfl ?_); refine goesL_ (some 65) rfl rfl Try.func24 (by kernel_rfl) rfl #[.slice A1 l1.length c1] rfl (by (try simp only [List.map_toArray, List.map_cons, List.map_nil]); first | done | rfl | (simp only [List.length_drop, List.length_take]; rfl) | exact congrArg (fun x_ : Int => #[Value.int .u64 x_]) (show _ = _ % (18446744073709551616 : Int) by omega)) ?_; (with_reducible refine (headgateref04_Cols.calls k2 _ _ l1 t118 t119 _ ?side1 ?side2 A21.out).mono ?_); (case side1 => repeat (first | exact (Kd.C_below HR1.out HB.out) | (with_reducible refine Kd.C_alloc ?_ _) | (with_reducible refine Kd.C_drewN ?_ _) | (with_reducible refine Kd.C_drew ?_))); (case side2 => exact HC1.out); rintro e w35 ⟨rfl, hb⟩; refine ⟨_, rfl, ?_⟩; have n0_ := Aside0.mk (Kd.R_below (by (with_reducible repeat (first | apply Kd.R_alloc | apply Kd.R_drewN | apply Kd.R_drew)); exact HO110.out) hb); have n1_ := Aside0.mk (Kd.R_below (by (with_reducible repeat (first | apply Kd.R_alloc | apply Kd.R_drewN | apply Kd.R_drew)); exact HO117.out) hb); have n2_ := Aside0.mk (below_step (by repeat (first | (with_reducible first | exact HB.out | apply below_alloc | apply pw_below_drewN | apply below_drew1) | exact HB.out)) hb); clear HO110; clear HO117; clear HB; have HO110 := n0_; have HO117 := n1_; have HB := n2_; clear n0_ n1_ n2_; (try clear hb); (try clear hb2); (try clear hk); (try clear hi); obtain ⟨Ao36, co36, eo36⟩ := Kd.R_slice HO117.out; subst eo36) | ((with_reducible refine gate_callee (f := 22) rfl ?_); refine goesL_ (some 72) rfl rfl Try.func22 (by kernel_rfl) rfl #[.slice Ao36 t114.length co36, .int .i64 t115, .string t118, .int .i64 t119] rfl (by (try simp only [List.map_toArray, List.map_cons, List.map_nil]); first | done | rfl | (simp only [List.length_drop, List.length_take]; rfl) | exact congrArg (fun x_ : Int => #[Value.int .u64 x_]) (show _ = _ % (18446744073709551616 : Int) by omega)) ?_; (with_reducible refine (headgatelaw04_told.calls _ _ t114 t115 t118 t119 true _ ?side1 ?side2 A22.out).mono ?_); (case side1 => repeat (first | exact (Kd.R_reads' HO117.out).2.2 | (with_reducible refine Kd.C_alloc ?_ _) | (with_reducible refine Kd.C_drewN ?_ _) | (with_reducible refine Kd.C_drew ?_))); (case side2 => exact (Kd.R_reads' HO117.out).2.1); rintro e w' ⟨rfl, ⟨nd, rfl⟩⟩; refine ⟨_, rfl, ?_⟩) | ((with_reducible refine gate_callee (f := 25) rfl ?_); refine goesL_ (some 76) rfl rfl Try.func25 (by kernel_rfl) rfl #[.slice A2 l2.length c2] rfl (by (try simp only [List.map_toArray, List.map_cons, List.map_nil]); first | done | rfl | (simp only [List.length_drop, List.length_take]; rfl) | exact congrArg (fun x_ : Int => #[Value.int .u64 x_]) (show _ = _ % (18446744073709551616 : Int) by omega)) ?_; (with_reducible refine (code_Pairs.calls k2 _ _ l2 t121 t122 _ ?side1 ?side2 A24.out).mono ?_); (case side1 => repeat (first | exact (Kd.C_below HR2.out (by repeat (first | (with_reducible first | exact HB.out | apply below_alloc | apply pw_below_drewN | apply below_drew1) | exact HB.out))) | (with_reducible refine Kd.C_alloc ?_ _) | (with_reducible refine Kd.C_drewN ?_ _) | (with_reducible refine Kd.C_drew ?_))); (case side2 => exact HC2.out); rintro e w37 ⟨v123, rfl, ho0, hb⟩; refine ⟨_, rfl, ?_⟩; have n0_ := Aside0.mk (Kd.R_elder' (by (with_reducible repeat (first | apply Kd.R_alloc | apply Kd.R_drewN | apply Kd.R_drew)); exact HO110.out) (Kd.R_base ho0) hb); have n1_ := Aside0.mk (Kd.R_elder' (by (with_reducible repeat (first | apply Kd.R_alloc | apply Kd.R_drewN | apply Kd.R_drew)); exact HO117.out) (Kd.R_base ho0) hb); have n2_ := Aside0.mk (Kd.R_lower (Kd.R_new' (Kd.R_new' ho0 (Kd.R_lt (by (with_reducible repeat (first | apply Kd.R_alloc | apply Kd.R_drewN | apply Kd.R_drew)); exact HO110.out))) (Kd.R_lt (by (with_reducible repeat (first | apply Kd.R_alloc | apply Kd.R_drewN | apply Kd.R_drew)); exact HO117.out))) (below_size (by repeat (first | (with_reducible first | exact HB.out | apply below_alloc | apply pw_below_drewN | apply below_drew1) | exact HB.out)))); have n3_ := Aside0.mk (below_step (by repeat (first | (with_reducible first | exact HB.out | apply below_alloc | apply pw_below_drewN | apply below_drew1) | exact HB.out)) hb); clear HO110; clear HO117; clear HB; have HO110 := n0_; have HO117 := n1_; have HO124 := n2_; have HB := n3_; clear n0_ n1_ n2_ n3_; (try clear hb); (try clear hb2); (try clear hk); (try clear hi); (try clear ho0)) | ((with_reducible refine gate_callee (f := 26) rfl ?_); refine goesL_ (some 81) rfl rfl Try.func26 (by kernel_rfl) rfl #[.slice A2 l2.length c2] rfl (by (try simp only [List.map_toArray, List.map_cons, List.map_nil]); first | done | rfl | (simp only [List.length_drop, List.length_take]; rfl) | exact congrArg (fun x_ : Int => #[Value.int .u64 x_]) (show _ = _ % (18446744073709551616 : Int) by omega)) ?_; (with_reducible refine (headgateref04_Pairs.calls k2 _ _ l2 t125 t126 _ ?side1 ?side2 A25.out).mono ?_); (case side1 => repeat (first | exact (Kd.C_below HR2.out HB.out) | (with_reducible refine Kd.C_alloc ?_ _) | (with_reducible refine Kd.C_drewN ?_ _) | (with_reducible refine Kd.C_drew ?_))); (case side2 => exact HC2.out); rintro e w38 ⟨rfl, hb⟩; refine ⟨_, rfl, ?_⟩; have n0_ := Aside0.mk (Kd.R_below (by (with_reducible repeat (first | apply Kd.R_alloc | apply Kd.R_drewN | apply Kd.R_drew)); exact HO110.out) hb); have n1_ := Aside0.mk (Kd.R_below (by (with_reducible repeat (first | apply Kd.R_alloc | apply Kd.R_drewN | apply Kd.R_drew)); exact HO117.out) hb); have n2_ := Aside0.mk (Kd.R_below (by (with_reducible repeat (first | apply Kd.R_alloc | apply Kd.R_drewN | apply Kd.R_drew)); exact HO124.out) hb); have n3_ := Aside0.mk (below_step (by repeat (first | (with_reducible first | exact HB.out | apply below_alloc | apply pw_below_drewN | apply below_drew1) | exact HB.out)) hb); clear HO110; clear HO117; clear HO124; clear HB; have HO110 := n0_; have HO117 := n1_; have HO124 := n2_; have HB := n3_; clear n0_ n1_ n2_ n3_; (try clear hb); (try clear hb2); (try clear hk); (try clear hi); obtain ⟨Ao39, co39, eo39⟩ := Kd.R_slice HO124.out; subst eo39) | ((with_reducible refine gate_callee (f := 22) rfl ?_); refine goesL_ (some 88) rfl rfl Try.func22 (by kernel_rfl) rfl #[.slice Ao39 t121.length co39, .int .i64 t122, .string t125, .int .i64 t126] rfl (by (try simp only [List.map_toArray, List.map_cons, List.map_nil]); first | done | rfl | (simp only [List.length_drop, List.length_take]; rfl) | exact congrArg (fun x_ : Int => #[Value.int .u64 x_]) (show _ = _ % (18446744073709551616 : Int) by omega)) ?_; (with_reducible refine (headgatelaw04_told.calls _ _ t121 t122 t125 t126 true _ ?side1 ?side2 A26.out).mono ?_); (case side1 => repeat (first | exact (Kd.R_reads' HO124.out).2.2 | (with_reducible refine Kd.C_alloc ?_ _) | (with_reducible refine Kd.C_drewN ?_ _) | (with_reducible refine Kd.C_drew ?_))); (case side2 => exact (Kd.R_reads' HO124.out).2.1); rintro e w' ⟨rfl, ⟨nd, rfl⟩⟩; refine ⟨_, rfl, ?_⟩) | ((with_reducible refine gate_callee (f := 27) rfl ?_); refine goesL_ (some 92) rfl rfl Try.func27 (by kernel_rfl) rfl #[.slice A3 l3.length c3] rfl (by (try simp only [List.map_toArray, List.map_cons, List.map_nil]); first | done | rfl | (simp only [List.length_drop, List.length_take]; rfl) | exact congrArg (fun x_ : Int => #[Value.int .u64 x_]) (show _ = _ % (18446744073709551616 : Int) by omega)) ?_; (with_reducible refine (code_Nums.calls k2 _ _ l3 t128 t129 _ ?side1 ?side2 A28.out).mono ?_); (case side1 => repeat (first | exact (Kd.C_below HR3.out (by repeat (first | (with_reducible first | exact HB.out | apply below_alloc | apply pw_below_drewN | apply below_drew1) | exact HB.out))) | (with_reducible refine Kd.C_alloc ?_ _) | (with_reducible refine Kd.C_drewN ?_ _) | (with_reducible refine Kd.C_drew ?_))); (case side2 => exact HC3.out); rintro e w40 ⟨v130, rfl, ho0, hb⟩; refine ⟨_, rfl, ?_⟩; have n0_ := Aside0.mk (Kd.R_elder' (by (with_reducible repeat (first | apply Kd.R_alloc | apply Kd.R_drewN | apply Kd.R_drew)); exact HO110.out) (Kd.R_base ho0) hb); have n1_ := Aside0.mk (Kd.R_elder' (by (with_reducible repeat (first | apply Kd.R_alloc | apply Kd.R_drewN | apply Kd.R_drew)); exact HO117.out) (Kd.R_base ho0) hb); have n2_ := Aside0.mk (Kd.R_elder' (by (with_reducible repeat (first | apply Kd.R_alloc | apply Kd.R_drewN | apply Kd.R_drew)); exact HO124.out) (Kd.R_base ho0) hb); have n3_ := Aside0.mk (Kd.R_lower (Kd.R_new' (Kd.R_new' (Kd.R_new' ho0 (Kd.R_lt (by (with_reducible repeat (first | apply Kd.R_alloc | apply Kd.R_drewN | apply Kd.R_drew)); exact HO110.out))) (Kd.R_lt (by (with_reducible repeat (first | apply Kd.R_alloc | apply Kd.R_drewN | apply Kd.R_drew)); exact HO117.out))) (Kd.R_lt (by (with_reducible repeat (first | apply Kd.R_alloc | apply Kd.R_drewN | apply Kd.R_drew)); exact HO124.out))) (below_size (by repeat (first | (with_reducible first | exact HB.out | apply below_alloc | apply pw_below_drewN | apply below_drew1) | exact HB.out)))); have n4_ := Aside0.mk (below_step (by repeat (first | (with_reducible first | exact HB.out | apply below_alloc | apply pw_below_drewN | apply below_drew1) | exact HB.out)) hb); clear HO110; clear HO117; clear HO124; clear HB; have HO110 := n0_; have HO117 := n1_; have HO124 := n2_; have HO131 := n3_; have HB := n4_; clear n0_ n1_ n2_ n3_ n4_; (try clear hb); (try clear hb2); (try clear hk); (try clear hi); (try clear ho0)) | ((with_reducible refine gate_callee (f := 28) rfl ?_); refine goesL_ (some 97) rfl rfl Try.func28 (by kernel_rfl) rfl #[.slice A3 l3.length c3] rfl (by (try simp only [List.map_toArray, List.map_cons, List.map_nil]); first | done | rfl | (simp only [List.length_drop, List.length_take]; rfl) | exact congrArg (fun x_ : Int => #[Value.int .u64 x_]) (show _ = _ % (18446744073709551616 : Int) by omega)) ?_; (with_reducible refine (headgateref04_Nums.calls k2 _ _ l3 t132 t133 _ ?side1 ?side2 A29.out).mono ?_); (case side1 => repeat (first | exact (Kd.C_below HR3.out HB.out) | (with_reducible refine Kd.C_alloc ?_ _) | (with_reducible refine Kd.C_drewN ?_ _) | (with_reducible refine Kd.C_drew ?_))); (case side2 => exact HC3.out); rintro e w41 ⟨rfl, hb⟩; refine ⟨_, rfl, ?_⟩; have n0_ := Aside0.mk (Kd.R_below (by (with_reducible repeat (first | apply Kd.R_alloc | apply Kd.R_drewN | apply Kd.R_drew)); exact HO110.out) hb); have n1_ := Aside0.mk (Kd.R_below (by (with_reducible repeat (first | apply Kd.R_alloc | apply Kd.R_drewN | apply Kd.R_drew)); exact HO117.out) hb); have n2_ := Aside0.mk (Kd.R_below (by (with_reducible repeat (first | apply Kd.R_alloc | apply Kd.R_drewN | apply Kd.R_drew)); exact HO124.out) hb); have n3_ := Aside0.mk (Kd.R_below (by (with_reducible repeat (first | apply Kd.R_alloc | apply Kd.R_drewN | apply Kd.R_drew)); exact HO131.out) hb); have n4_ := Aside0.mk (below_step (by repeat (first | (with_reducible first | exact HB.out | apply below_alloc | apply pw_below_drewN | apply below_drew1) | exact HB.out)) hb); clear HO110; clear HO117; clear HO124; clear HO131; clear HB; have HO110 := n0_; have HO117 := n1_; have HO124 := n2_; have HO131 := n3_; have HB := n4_; clear n0_ n1_ n2_ n3_ n4_; (try clear hb); (try clear hb2); (try clear hk); (try clear hi); obtain ⟨Ao42, co42, eo42⟩ := Kd.R_slice HO131.out; subst eo42) | ((with_reducible refine gate_callee (f := 22) rfl ?_); refine goesL_ (some 104) rfl rfl Try.func22 (by kernel_rfl) rfl #[.slice Ao42 t128.length co42, .int .i64 t129, .string t132, .int .i64 t133] rfl (by (try simp only [List.map_toArray, List.map_cons, List.map_nil]); first | done | rfl | (simp only [List.length_drop, List.length_take]; rfl) | exact congrArg (fun x_ : Int => #[Value.int .u64 x_]) (show _ = _ % (18446744073709551616 : Int) by omega)) ?_; (with_reducible refine (headgatelaw04_told.calls _ _ t128 t129 t132 t133 t134 _ ?side1 ?side2 A30.out).mono ?_); (case side1 => repeat (first | exact (Kd.R_reads' HO131.out).2.2 | (with_reducible refine Kd.C_alloc ?_ _) | (with_reducible refine Kd.C_drewN ?_ _) | (with_reducible refine Kd.C_drew ?_))); (case side2 => exact (Kd.R_reads' HO131.out).2.1); rintro e w' ⟨rfl, ⟨nd, rfl⟩⟩; refine ⟨_, rfl, ?_⟩))
                      go_ret
                      exact ⟨by first | rfl | (simp [errW_none, errW_some] <;> rfl) | (simp [*, errW_none, errW_some] <;> rfl), by repeat (first | (with_reducible first | exact HB.out | apply below_alloc | apply pw_below_drewN | apply below_drew1) | exact HB.out)⟩
                    · replace c27 := Bool.eq_false_iff.mpr c27
                      subst c27
                      have H1 : (some false) = some r := by rw [if_neg (show ¬ (false = true) by decide)] at H; exact H
                      clear H
                      have H := H1
                      clear H1
                      obtain rfl := Option.some.inj H
                      go_wp2_with (first | ((with_reducible refine gate_callee (f := 20) rfl ?_); refine goesL_ (some 44) rfl rfl Try.func20 (by kernel_rfl) rfl #[.slice A0 l0.length c0] rfl (by (try simp only [List.map_toArray, List.map_cons, List.map_nil]); first | done | rfl | (simp only [List.length_drop, List.length_take]; rfl) | exact congrArg (fun x_ : Int => #[Value.int .u64 x_]) (show _ = _ % (18446744073709551616 : Int) by omega)) ?_; (with_reducible refine (code_Rows.calls k2 _ _ l0 t107 t108 _ ?side1 ?side2 A16.out).mono ?_); (case side1 => repeat (first | exact (Kd.C_below HR0.out HB.out) | (with_reducible refine Kd.C_alloc ?_ _) | (with_reducible refine Kd.C_drewN ?_ _) | (with_reducible refine Kd.C_drew ?_))); (case side2 => exact HC0.out); rintro e w43 ⟨v109, rfl, ho0, hb⟩; refine ⟨_, rfl, ?_⟩; have n0_ := Aside0.mk (Kd.R_lower ho0 (below_size (by repeat (first | (with_reducible first | exact HB.out | apply below_alloc | apply pw_below_drewN | apply below_drew1) | exact HB.out)))); have n1_ := Aside0.mk (below_step (by repeat (first | (with_reducible first | exact HB.out | apply below_alloc | apply pw_below_drewN | apply below_drew1) | exact HB.out)) hb); clear HB; have HO110 := n0_; have HB := n1_; clear n0_ n1_; (try clear hb); (try clear hb2); (try clear hk); (try clear hi); (try clear ho0)) | ((with_reducible refine gate_callee (f := 21) rfl ?_); refine goesL_ (some 49) rfl rfl Try.func21 (by kernel_rfl) rfl #[.slice A0 l0.length c0] rfl (by (try simp only [List.map_toArray, List.map_cons, List.map_nil]); first | done | rfl | (simp only [List.length_drop, List.length_take]; rfl) | exact congrArg (fun x_ : Int => #[Value.int .u64 x_]) (show _ = _ % (18446744073709551616 : Int) by omega)) ?_; (with_reducible refine (headgateref04_Rows.calls k2 _ _ l0 t111 t112 _ ?side1 ?side2 A17.out).mono ?_); (case side1 => repeat (first | exact (Kd.C_below HR0.out HB.out) | (with_reducible refine Kd.C_alloc ?_ _) | (with_reducible refine Kd.C_drewN ?_ _) | (with_reducible refine Kd.C_drew ?_))); (case side2 => exact HC0.out); rintro e w44 ⟨rfl, hb⟩; refine ⟨_, rfl, ?_⟩; have n0_ := Aside0.mk (Kd.R_below (by (with_reducible repeat (first | apply Kd.R_alloc | apply Kd.R_drewN | apply Kd.R_drew)); exact HO110.out) hb); have n1_ := Aside0.mk (below_step (by repeat (first | (with_reducible first | exact HB.out | apply below_alloc | apply pw_below_drewN | apply below_drew1) | exact HB.out)) hb); clear HO110; clear HB; have HO110 := n0_; have HB := n1_; clear n0_ n1_; (try clear hb); (try clear hb2); (try clear hk); (try clear hi); obtain ⟨Ao45, co45, eo45⟩ := Kd.R_slice HO110.out; subst eo45) | ((with_reducible refine gate_callee (f := 22) rfl ?_); refine goesL_ (some 56) rfl rfl Try.func22 (by kernel_rfl) rfl #[.slice Ao45 t107.length co45, .int .i64 t108, .string t111, .int .i64 t112] rfl (by (try simp only [List.map_toArray, List.map_cons, List.map_nil]); first | done | rfl | (simp only [List.length_drop, List.length_take]; rfl) | exact congrArg (fun x_ : Int => #[Value.int .u64 x_]) (show _ = _ % (18446744073709551616 : Int) by omega)) ?_; (with_reducible refine (headgatelaw04_told.calls _ _ t107 t108 t111 t112 true _ ?side1 ?side2 A18.out).mono ?_); (case side1 => repeat (first | exact (Kd.R_reads' HO110.out).2.2 | (with_reducible refine Kd.C_alloc ?_ _) | (with_reducible refine Kd.C_drewN ?_ _) | (with_reducible refine Kd.C_drew ?_))); (case side2 => exact (Kd.R_reads' HO110.out).2.1); rintro e w' ⟨rfl, ⟨nd, rfl⟩⟩; refine ⟨_, rfl, ?_⟩) | ((with_reducible refine gate_callee (f := 23) rfl ?_); refine goesL_ (some 60) rfl rfl Try.func23 (by kernel_rfl) rfl #[.slice A1 l1.length c1] rfl (by (try simp only [List.map_toArray, List.map_cons, List.map_nil]); first | done | rfl | (simp only [List.length_drop, List.length_take]; rfl) | exact congrArg (fun x_ : Int => #[Value.int .u64 x_]) (show _ = _ % (18446744073709551616 : Int) by omega)) ?_; (with_reducible refine (code_Cols.calls k2 _ _ l1 t114 t115 _ ?side1 ?side2 A20.out).mono ?_); (case side1 => repeat (first | exact (Kd.C_below HR1.out (by repeat (first | (with_reducible first | exact HB.out | apply below_alloc | apply pw_below_drewN | apply below_drew1) | exact HB.out))) | (with_reducible refine Kd.C_alloc ?_ _) | (with_reducible refine Kd.C_drewN ?_ _) | (with_reducible refine Kd.C_drew ?_))); (case side2 => exact HC1.out); rintro e w46 ⟨v116, rfl, ho0, hb⟩; refine ⟨_, rfl, ?_⟩; have n0_ := Aside0.mk (Kd.R_elder' (by (with_reducible repeat (first | apply Kd.R_alloc | apply Kd.R_drewN | apply Kd.R_drew)); exact HO110.out) (Kd.R_base ho0) hb); have n1_ := Aside0.mk (Kd.R_lower (Kd.R_new' ho0 (Kd.R_lt (by (with_reducible repeat (first | apply Kd.R_alloc | apply Kd.R_drewN | apply Kd.R_drew)); exact HO110.out))) (below_size (by repeat (first | (with_reducible first | exact HB.out | apply below_alloc | apply pw_below_drewN | apply below_drew1) | exact HB.out)))); have n2_ := Aside0.mk (below_step (by repeat (first | (with_reducible first | exact HB.out | apply below_alloc | apply pw_below_drewN | apply below_drew1) | exact HB.out)) hb); clear HO110; clear HB; have HO110 := n0_; have HO117 := n1_; have HB := n2_; clear n0_ n1_ n2_; (try clear hb); (try clear hb2); (try clear hk); (try clear hi); (try clear ho0)) | ((with_reducible refine gate_callee (f := 24) rfl ?_); refine goesL_ (some 65) rfl rfl Try.func24 (by kernel_rfl) rfl #[.slice A1 l1.length c1] rfl (by (try simp only [List.map_toArray, List.map_cons, List.map_nil]); first | done | rfl | (simp only [List.length_drop, List.length_take]; rfl) | exact congrArg (fun x_ : Int => #[Value.int .u64 x_]) (show _ = _ % (18446744073709551616 : Int) by omega)) ?_; (with_reducible refine (headgateref04_Cols.calls k2 _ _ l1 t118 t119 _ ?side1 ?side2 A21.out).mono ?_); (case side1 => repeat (first | exact (Kd.C_below HR1.out HB.out) | (with_reducible refine Kd.C_alloc ?_ _) | (with_reducible refine Kd.C_drewN ?_ _) | (with_reducible refine Kd.C_drew ?_))); (case side2 => exact HC1.out); rintro e w47 ⟨rfl, hb⟩; refine ⟨_, rfl, ?_⟩; have n0_ := Aside0.mk (Kd.R_below (by (with_reducible repeat (first | apply Kd.R_alloc | apply Kd.R_drewN | apply Kd.R_drew)); exact HO110.out) hb); have n1_ := Aside0.mk (Kd.R_below (by (with_reducible repeat (first | apply Kd.R_alloc | apply Kd.R_drewN | apply Kd.R_drew)); exact HO117.out) hb); have n2_ := Aside0.mk (below_step (by repeat (first | (with_reducible first | exact HB.out | apply below_alloc | apply pw_below_drewN | apply below_drew1) | exact HB.out)) hb); clear HO110; clear HO117; clear HB; have HO110 := n0_; have HO117 := n1_; have HB := n2_; clear n0_ n1_ n2_; (try clear hb); (try clear hb2); (try clear hk); (try clear hi); obtain ⟨Ao48, co48, eo48⟩ := Kd.R_slice HO117.out; subst eo48) | ((with_reducible refine gate_callee (f := 22) rfl ?_); refine goesL_ (some 72) rfl rfl Try.func22 (by kernel_rfl) rfl #[.slice Ao48 t114.length co48, .int .i64 t115, .string t118, .int .i64 t119] rfl (by (try simp only [List.map_toArray, List.map_cons, List.map_nil]); first | done | rfl | (simp only [List.length_drop, List.length_take]; rfl) | exact congrArg (fun x_ : Int => #[Value.int .u64 x_]) (show _ = _ % (18446744073709551616 : Int) by omega)) ?_; (with_reducible refine (headgatelaw04_told.calls _ _ t114 t115 t118 t119 true _ ?side1 ?side2 A22.out).mono ?_); (case side1 => repeat (first | exact (Kd.R_reads' HO117.out).2.2 | (with_reducible refine Kd.C_alloc ?_ _) | (with_reducible refine Kd.C_drewN ?_ _) | (with_reducible refine Kd.C_drew ?_))); (case side2 => exact (Kd.R_reads' HO117.out).2.1); rintro e w' ⟨rfl, ⟨nd, rfl⟩⟩; refine ⟨_, rfl, ?_⟩) | ((with_reducible refine gate_callee (f := 25) rfl ?_); refine goesL_ (some 76) rfl rfl Try.func25 (by kernel_rfl) rfl #[.slice A2 l2.length c2] rfl (by (try simp only [List.map_toArray, List.map_cons, List.map_nil]); first | done | rfl | (simp only [List.length_drop, List.length_take]; rfl) | exact congrArg (fun x_ : Int => #[Value.int .u64 x_]) (show _ = _ % (18446744073709551616 : Int) by omega)) ?_; (with_reducible refine (code_Pairs.calls k2 _ _ l2 t121 t122 _ ?side1 ?side2 A24.out).mono ?_); (case side1 => repeat (first | exact (Kd.C_below HR2.out (by repeat (first | (with_reducible first | exact HB.out | apply below_alloc | apply pw_below_drewN | apply below_drew1) | exact HB.out))) | (with_reducible refine Kd.C_alloc ?_ _) | (with_reducible refine Kd.C_drewN ?_ _) | (with_reducible refine Kd.C_drew ?_))); (case side2 => exact HC2.out); rintro e w49 ⟨v123, rfl, ho0, hb⟩; refine ⟨_, rfl, ?_⟩; have n0_ := Aside0.mk (Kd.R_elder' (by (with_reducible repeat (first | apply Kd.R_alloc | apply Kd.R_drewN | apply Kd.R_drew)); exact HO110.out) (Kd.R_base ho0) hb); have n1_ := Aside0.mk (Kd.R_elder' (by (with_reducible repeat (first | apply Kd.R_alloc | apply Kd.R_drewN | apply Kd.R_drew)); exact HO117.out) (Kd.R_base ho0) hb); have n2_ := Aside0.mk (Kd.R_lower (Kd.R_new' (Kd.R_new' ho0 (Kd.R_lt (by (with_reducible repeat (first | apply Kd.R_alloc | apply Kd.R_drewN | apply Kd.R_drew)); exact HO110.out))) (Kd.R_lt (by (with_reducible repeat (first | apply Kd.R_alloc | apply Kd.R_drewN | apply Kd.R_drew)); exact HO117.out))) (below_size (by repeat (first | (with_reducible first | exact HB.out | apply below_alloc | apply pw_below_drewN | apply below_drew1) | exact HB.out)))); have n3_ := Aside0.mk (below_step (by repeat (first | (with_reducible first | exact HB.out | apply below_alloc | apply pw_below_drewN | apply below_drew1) | exact HB.out)) hb); clear HO110; clear HO117; clear HB; have HO110 := n0_; have HO117 := n1_; have HO124 := n2_; have HB := n3_; clear n0_ n1_ n2_ n3_; (try clear hb); (try clear hb2); (try clear hk); (try clear hi); (try clear ho0)) | ((with_reducible refine gate_callee (f := 26) rfl ?_); refine goesL_ (some 81) rfl rfl Try.func26 (by kernel_rfl) rfl #[.slice A2 l2.length c2] rfl (by (try simp only [List.map_toArray, List.map_cons, List.map_nil]); first | done | rfl | (simp only [List.length_drop, List.length_take]; rfl) | exact congrArg (fun x_ : Int => #[Value.int .u64 x_]) (show _ = _ % (18446744073709551616 : Int) by omega)) ?_; (with_reducible refine (headgateref04_Pairs.calls k2 _ _ l2 t125 t126 _ ?side1 ?side2 A25.out).mono ?_); (case side1 => repeat (first | exact (Kd.C_below HR2.out HB.out) | (with_reducible refine Kd.C_alloc ?_ _) | (with_reducible refine Kd.C_drewN ?_ _) | (with_reducible refine Kd.C_drew ?_))); (case side2 => exact HC2.out); rintro e w50 ⟨rfl, hb⟩; refine ⟨_, rfl, ?_⟩; have n0_ := Aside0.mk (Kd.R_below (by (with_reducible repeat (first | apply Kd.R_alloc | apply Kd.R_drewN | apply Kd.R_drew)); exact HO110.out) hb); have n1_ := Aside0.mk (Kd.R_below (by (with_reducible repeat (first | apply Kd.R_alloc | apply Kd.R_drewN | apply Kd.R_drew)); exact HO117.out) hb); have n2_ := Aside0.mk (Kd.R_below (by (with_reducible repeat (first | apply Kd.R_alloc | apply Kd.R_drewN | apply Kd.R_drew)); exact HO124.out) hb); have n3_ := Aside0.mk (below_step (by repeat (first | (with_reducible first | exact HB.out | apply below_alloc | apply pw_below_drewN | apply below_drew1) | exact HB.out)) hb); clear HO110; clear HO117; clear HO124; clear HB; have HO110 := n0_; have HO117 := n1_; have HO124 := n2_; have HB := n3_; clear n0_ n1_ n2_ n3_; (try clear hb); (try clear hb2); (try clear hk); (try clear hi); obtain ⟨Ao51, co51, eo51⟩ := Kd.R_slice HO124.out; subst eo51) | ((with_reducible refine gate_callee (f := 22) rfl ?_); refine goesL_ (some 88) rfl rfl Try.func22 (by kernel_rfl) rfl #[.slice Ao51 t121.length co51, .int .i64 t122, .string t125, .int .i64 t126] rfl (by (try simp only [List.map_toArray, List.map_cons, List.map_nil]); first | done | rfl | (simp only [List.length_drop, List.length_take]; rfl) | exact congrArg (fun x_ : Int => #[Value.int .u64 x_]) (show _ = _ % (18446744073709551616 : Int) by omega)) ?_; (with_reducible refine (headgatelaw04_told.calls _ _ t121 t122 t125 t126 false _ ?side1 ?side2 A26.out).mono ?_); (case side1 => repeat (first | exact (Kd.R_reads' HO124.out).2.2 | (with_reducible refine Kd.C_alloc ?_ _) | (with_reducible refine Kd.C_drewN ?_ _) | (with_reducible refine Kd.C_drew ?_))); (case side2 => exact (Kd.R_reads' HO124.out).2.1); rintro e w' ⟨rfl, ⟨nd, rfl⟩⟩; refine ⟨_, rfl, ?_⟩))
                      go_ret
                      exact ⟨by first | rfl | (simp [errW_none, errW_some] <;> rfl) | (simp [*, errW_none, errW_some] <;> rfl), by repeat (first | (with_reducible first | exact HB.out | apply below_alloc | apply pw_below_drewN | apply below_drew1) | exact HB.out)⟩
                  · replace c23 := Bool.eq_false_iff.mpr c23
                    subst c23
                    have H1 : (some false) = some r := by rw [if_neg (show ¬ (false = true) by decide)] at H; exact H
                    clear H
                    have H := H1
                    clear H1
                    obtain rfl := Option.some.inj H
                    go_wp2_with (first | ((with_reducible refine gate_callee (f := 20) rfl ?_); refine goesL_ (some 44) rfl rfl Try.func20 (by kernel_rfl) rfl #[.slice A0 l0.length c0] rfl (by (try simp only [List.map_toArray, List.map_cons, List.map_nil]); first | done | rfl | (simp only [List.length_drop, List.length_take]; rfl) | exact congrArg (fun x_ : Int => #[Value.int .u64 x_]) (show _ = _ % (18446744073709551616 : Int) by omega)) ?_; (with_reducible refine (code_Rows.calls k2 _ _ l0 t107 t108 _ ?side1 ?side2 A16.out).mono ?_); (case side1 => repeat (first | exact (Kd.C_below HR0.out HB.out) | (with_reducible refine Kd.C_alloc ?_ _) | (with_reducible refine Kd.C_drewN ?_ _) | (with_reducible refine Kd.C_drew ?_))); (case side2 => exact HC0.out); rintro e w52 ⟨v109, rfl, ho0, hb⟩; refine ⟨_, rfl, ?_⟩; have n0_ := Aside0.mk (Kd.R_lower ho0 (below_size (by repeat (first | (with_reducible first | exact HB.out | apply below_alloc | apply pw_below_drewN | apply below_drew1) | exact HB.out)))); have n1_ := Aside0.mk (below_step (by repeat (first | (with_reducible first | exact HB.out | apply below_alloc | apply pw_below_drewN | apply below_drew1) | exact HB.out)) hb); clear HB; have HO110 := n0_; have HB := n1_; clear n0_ n1_; (try clear hb); (try clear hb2); (try clear hk); (try clear hi); (try clear ho0)) | ((with_reducible refine gate_callee (f := 21) rfl ?_); refine goesL_ (some 49) rfl rfl Try.func21 (by kernel_rfl) rfl #[.slice A0 l0.length c0] rfl (by (try simp only [List.map_toArray, List.map_cons, List.map_nil]); first | done | rfl | (simp only [List.length_drop, List.length_take]; rfl) | exact congrArg (fun x_ : Int => #[Value.int .u64 x_]) (show _ = _ % (18446744073709551616 : Int) by omega)) ?_; (with_reducible refine (headgateref04_Rows.calls k2 _ _ l0 t111 t112 _ ?side1 ?side2 A17.out).mono ?_); (case side1 => repeat (first | exact (Kd.C_below HR0.out HB.out) | (with_reducible refine Kd.C_alloc ?_ _) | (with_reducible refine Kd.C_drewN ?_ _) | (with_reducible refine Kd.C_drew ?_))); (case side2 => exact HC0.out); rintro e w53 ⟨rfl, hb⟩; refine ⟨_, rfl, ?_⟩; have n0_ := Aside0.mk (Kd.R_below (by (with_reducible repeat (first | apply Kd.R_alloc | apply Kd.R_drewN | apply Kd.R_drew)); exact HO110.out) hb); have n1_ := Aside0.mk (below_step (by repeat (first | (with_reducible first | exact HB.out | apply below_alloc | apply pw_below_drewN | apply below_drew1) | exact HB.out)) hb); clear HO110; clear HB; have HO110 := n0_; have HB := n1_; clear n0_ n1_; (try clear hb); (try clear hb2); (try clear hk); (try clear hi); obtain ⟨Ao54, co54, eo54⟩ := Kd.R_slice HO110.out; subst eo54) | ((with_reducible refine gate_callee (f := 22) rfl ?_); refine goesL_ (some 56) rfl rfl Try.func22 (by kernel_rfl) rfl #[.slice Ao54 t107.length co54, .int .i64 t108, .string t111, .int .i64 t112] rfl (by (try simp only [List.map_toArray, List.map_cons, List.map_nil]); first | done | rfl | (simp only [List.length_drop, List.length_take]; rfl) | exact congrArg (fun x_ : Int => #[Value.int .u64 x_]) (show _ = _ % (18446744073709551616 : Int) by omega)) ?_; (with_reducible refine (headgatelaw04_told.calls _ _ t107 t108 t111 t112 true _ ?side1 ?side2 A18.out).mono ?_); (case side1 => repeat (first | exact (Kd.R_reads' HO110.out).2.2 | (with_reducible refine Kd.C_alloc ?_ _) | (with_reducible refine Kd.C_drewN ?_ _) | (with_reducible refine Kd.C_drew ?_))); (case side2 => exact (Kd.R_reads' HO110.out).2.1); rintro e w' ⟨rfl, ⟨nd, rfl⟩⟩; refine ⟨_, rfl, ?_⟩) | ((with_reducible refine gate_callee (f := 23) rfl ?_); refine goesL_ (some 60) rfl rfl Try.func23 (by kernel_rfl) rfl #[.slice A1 l1.length c1] rfl (by (try simp only [List.map_toArray, List.map_cons, List.map_nil]); first | done | rfl | (simp only [List.length_drop, List.length_take]; rfl) | exact congrArg (fun x_ : Int => #[Value.int .u64 x_]) (show _ = _ % (18446744073709551616 : Int) by omega)) ?_; (with_reducible refine (code_Cols.calls k2 _ _ l1 t114 t115 _ ?side1 ?side2 A20.out).mono ?_); (case side1 => repeat (first | exact (Kd.C_below HR1.out (by repeat (first | (with_reducible first | exact HB.out | apply below_alloc | apply pw_below_drewN | apply below_drew1) | exact HB.out))) | (with_reducible refine Kd.C_alloc ?_ _) | (with_reducible refine Kd.C_drewN ?_ _) | (with_reducible refine Kd.C_drew ?_))); (case side2 => exact HC1.out); rintro e w55 ⟨v116, rfl, ho0, hb⟩; refine ⟨_, rfl, ?_⟩; have n0_ := Aside0.mk (Kd.R_elder' (by (with_reducible repeat (first | apply Kd.R_alloc | apply Kd.R_drewN | apply Kd.R_drew)); exact HO110.out) (Kd.R_base ho0) hb); have n1_ := Aside0.mk (Kd.R_lower (Kd.R_new' ho0 (Kd.R_lt (by (with_reducible repeat (first | apply Kd.R_alloc | apply Kd.R_drewN | apply Kd.R_drew)); exact HO110.out))) (below_size (by repeat (first | (with_reducible first | exact HB.out | apply below_alloc | apply pw_below_drewN | apply below_drew1) | exact HB.out)))); have n2_ := Aside0.mk (below_step (by repeat (first | (with_reducible first | exact HB.out | apply below_alloc | apply pw_below_drewN | apply below_drew1) | exact HB.out)) hb); clear HO110; clear HB; have HO110 := n0_; have HO117 := n1_; have HB := n2_; clear n0_ n1_ n2_; (try clear hb); (try clear hb2); (try clear hk); (try clear hi); (try clear ho0)) | ((with_reducible refine gate_callee (f := 24) rfl ?_); refine goesL_ (some 65) rfl rfl Try.func24 (by kernel_rfl) rfl #[.slice A1 l1.length c1] rfl (by (try simp only [List.map_toArray, List.map_cons, List.map_nil]); first | done | rfl | (simp only [List.length_drop, List.length_take]; rfl) | exact congrArg (fun x_ : Int => #[Value.int .u64 x_]) (show _ = _ % (18446744073709551616 : Int) by omega)) ?_; (with_reducible refine (headgateref04_Cols.calls k2 _ _ l1 t118 t119 _ ?side1 ?side2 A21.out).mono ?_); (case side1 => repeat (first | exact (Kd.C_below HR1.out HB.out) | (with_reducible refine Kd.C_alloc ?_ _) | (with_reducible refine Kd.C_drewN ?_ _) | (with_reducible refine Kd.C_drew ?_))); (case side2 => exact HC1.out); rintro e w56 ⟨rfl, hb⟩; refine ⟨_, rfl, ?_⟩; have n0_ := Aside0.mk (Kd.R_below (by (with_reducible repeat (first | apply Kd.R_alloc | apply Kd.R_drewN | apply Kd.R_drew)); exact HO110.out) hb); have n1_ := Aside0.mk (Kd.R_below (by (with_reducible repeat (first | apply Kd.R_alloc | apply Kd.R_drewN | apply Kd.R_drew)); exact HO117.out) hb); have n2_ := Aside0.mk (below_step (by repeat (first | (with_reducible first | exact HB.out | apply below_alloc | apply pw_below_drewN | apply below_drew1) | exact HB.out)) hb); clear HO110; clear HO117; clear HB; have HO110 := n0_; have HO117 := n1_; have HB := n2_; clear n0_ n1_ n2_; (try clear hb); (try clear hb2); (try clear hk); (try clear hi); obtain ⟨Ao57, co57, eo57⟩ := Kd.R_slice HO117.out; subst eo57) | ((with_reducible refine gate_callee (f := 22) rfl ?_); refine goesL_ (some 72) rfl rfl Try.func22 (by kernel_rfl) rfl #[.slice Ao57 t114.length co57, .int .i64 t115, .string t118, .int .i64 t119] rfl (by (try simp only [List.map_toArray, List.map_cons, List.map_nil]); first | done | rfl | (simp only [List.length_drop, List.length_take]; rfl) | exact congrArg (fun x_ : Int => #[Value.int .u64 x_]) (show _ = _ % (18446744073709551616 : Int) by omega)) ?_; (with_reducible refine (headgatelaw04_told.calls _ _ t114 t115 t118 t119 false _ ?side1 ?side2 A22.out).mono ?_); (case side1 => repeat (first | exact (Kd.R_reads' HO117.out).2.2 | (with_reducible refine Kd.C_alloc ?_ _) | (with_reducible refine Kd.C_drewN ?_ _) | (with_reducible refine Kd.C_drew ?_))); (case side2 => exact (Kd.R_reads' HO117.out).2.1); rintro e w' ⟨rfl, ⟨nd, rfl⟩⟩; refine ⟨_, rfl, ?_⟩))
                    go_ret
                    exact ⟨by first | rfl | (simp [errW_none, errW_some] <;> rfl) | (simp [*, errW_none, errW_some] <;> rfl), by repeat (first | (with_reducible first | exact HB.out | apply below_alloc | apply pw_below_drewN | apply below_drew1) | exact HB.out)⟩
                · replace c19 := Bool.eq_false_iff.mpr c19
                  subst c19
                  have H1 : (some false) = some r := by rw [if_neg (show ¬ (false = true) by decide)] at H; exact H
                  clear H
                  have H := H1
                  clear H1
                  obtain rfl := Option.some.inj H
                  go_wp2_with (first | ((with_reducible refine gate_callee (f := 20) rfl ?_); refine goesL_ (some 44) rfl rfl Try.func20 (by kernel_rfl) rfl #[.slice A0 l0.length c0] rfl (by (try simp only [List.map_toArray, List.map_cons, List.map_nil]); first | done | rfl | (simp only [List.length_drop, List.length_take]; rfl) | exact congrArg (fun x_ : Int => #[Value.int .u64 x_]) (show _ = _ % (18446744073709551616 : Int) by omega)) ?_; (with_reducible refine (code_Rows.calls k2 _ _ l0 t107 t108 _ ?side1 ?side2 A16.out).mono ?_); (case side1 => repeat (first | exact (Kd.C_below HR0.out HB.out) | (with_reducible refine Kd.C_alloc ?_ _) | (with_reducible refine Kd.C_drewN ?_ _) | (with_reducible refine Kd.C_drew ?_))); (case side2 => exact HC0.out); rintro e w58 ⟨v109, rfl, ho0, hb⟩; refine ⟨_, rfl, ?_⟩; have n0_ := Aside0.mk (Kd.R_lower ho0 (below_size (by repeat (first | (with_reducible first | exact HB.out | apply below_alloc | apply pw_below_drewN | apply below_drew1) | exact HB.out)))); have n1_ := Aside0.mk (below_step (by repeat (first | (with_reducible first | exact HB.out | apply below_alloc | apply pw_below_drewN | apply below_drew1) | exact HB.out)) hb); clear HB; have HO110 := n0_; have HB := n1_; clear n0_ n1_; (try clear hb); (try clear hb2); (try clear hk); (try clear hi); (try clear ho0)) | ((with_reducible refine gate_callee (f := 21) rfl ?_); refine goesL_ (some 49) rfl rfl Try.func21 (by kernel_rfl) rfl #[.slice A0 l0.length c0] rfl (by (try simp only [List.map_toArray, List.map_cons, List.map_nil]); first | done | rfl | (simp only [List.length_drop, List.length_take]; rfl) | exact congrArg (fun x_ : Int => #[Value.int .u64 x_]) (show _ = _ % (18446744073709551616 : Int) by omega)) ?_; (with_reducible refine (headgateref04_Rows.calls k2 _ _ l0 t111 t112 _ ?side1 ?side2 A17.out).mono ?_); (case side1 => repeat (first | exact (Kd.C_below HR0.out HB.out) | (with_reducible refine Kd.C_alloc ?_ _) | (with_reducible refine Kd.C_drewN ?_ _) | (with_reducible refine Kd.C_drew ?_))); (case side2 => exact HC0.out); rintro e w59 ⟨rfl, hb⟩; refine ⟨_, rfl, ?_⟩; have n0_ := Aside0.mk (Kd.R_below (by (with_reducible repeat (first | apply Kd.R_alloc | apply Kd.R_drewN | apply Kd.R_drew)); exact HO110.out) hb); have n1_ := Aside0.mk (below_step (by repeat (first | (with_reducible first | exact HB.out | apply below_alloc | apply pw_below_drewN | apply below_drew1) | exact HB.out)) hb); clear HO110; clear HB; have HO110 := n0_; have HB := n1_; clear n0_ n1_; (try clear hb); (try clear hb2); (try clear hk); (try clear hi); obtain ⟨Ao60, co60, eo60⟩ := Kd.R_slice HO110.out; subst eo60) | ((with_reducible refine gate_callee (f := 22) rfl ?_); refine goesL_ (some 56) rfl rfl Try.func22 (by kernel_rfl) rfl #[.slice Ao60 t107.length co60, .int .i64 t108, .string t111, .int .i64 t112] rfl (by (try simp only [List.map_toArray, List.map_cons, List.map_nil]); first | done | rfl | (simp only [List.length_drop, List.length_take]; rfl) | exact congrArg (fun x_ : Int => #[Value.int .u64 x_]) (show _ = _ % (18446744073709551616 : Int) by omega)) ?_; (with_reducible refine (headgatelaw04_told.calls _ _ t107 t108 t111 t112 false _ ?side1 ?side2 A18.out).mono ?_); (case side1 => repeat (first | exact (Kd.R_reads' HO110.out).2.2 | (with_reducible refine Kd.C_alloc ?_ _) | (with_reducible refine Kd.C_drewN ?_ _) | (with_reducible refine Kd.C_drew ?_))); (case side2 => exact (Kd.R_reads' HO110.out).2.1); rintro e w' ⟨rfl, ⟨nd, rfl⟩⟩; refine ⟨_, rfl, ?_⟩))
                  go_ret
                  exact ⟨by first | rfl | (simp [errW_none, errW_some] <;> rfl) | (simp [*, errW_none, errW_some] <;> rfl), by repeat (first | (with_reducible first | exact HB.out | apply below_alloc | apply pw_below_drewN | apply below_drew1) | exact HB.out)⟩
  · replace c6 := Bool.eq_false_iff.mpr c6
    subst c6
    have H1 : (some false) = some r := by rw [if_neg (show ¬ (false = true) by decide)] at H; exact H
    clear H
    have H := H1
    clear H1
    obtain rfl := Option.some.inj H
    go_enter Try.func5, Try.ntmps5
    go_wp2_with (first | ((with_reducible refine gate_callee (f := 12) rfl ?_); refine goesL_ (some 14) rfl rfl Try.func12 (by kernel_rfl) rfl #[] rfl (by (try simp only [List.map_toArray, List.map_cons, List.map_nil]); first | done | rfl | (simp only [List.length_drop, List.length_take]; rfl) | exact congrArg (fun x_ : Int => #[Value.int .u64 x_]) (show _ = _ % (18446744073709551616 : Int) by omega)) ?_; (with_reducible refine (headgatelaw04_alive.calls k  false _ A5.out).mono ?_); rintro e w61 ⟨rfl, hb⟩; refine ⟨_, rfl, ?_⟩; have n0_ := Aside0.mk (below_step (by repeat (first | (with_reducible first | exact HB.out | apply below_alloc | apply pw_below_drewN | apply below_drew1) | exact HB.out)) hb); clear HB; have HB := n0_; clear n0_; (try clear hb); (try clear hb2); (try clear hk); (try clear hi)))
    go_ret
    exact ⟨by first | rfl | (simp [errW_none, errW_some] <;> rfl) | (simp [*, errW_none, errW_some] <;> rfl), by repeat (first | (with_reducible first | exact HB.out | apply below_alloc | apply pw_below_drewN | apply below_drew1) | exact HB.out)⟩

end Go.Proofs.Ytgihecpobichbaa.Q
/- What the laws of package code share: lists read of a text's bytes; rows that are the same as themselves. -/
namespace Go.Proofs.Ytgihecpobichbaa.Q
open Go.RowKit Go.Proofs.YtgihecpobichbaaW.PrintWords Go.Proofs.YtgihecpobichbaaW.PrintLast Go.Proofs.YtgihecpobichbaaW.PrintMore
set_option linter.unusedVariables false
set_option linter.unusedSimpArgs false
theorem alive04 : headgatelaw04_alive.f 30 = some true := by kernel_rfl
theorem big_some (r : List Va) (hr : r.length ≤ 9223372036854775806) : ∃ b, Ev (fun k => headgateref03_Big.f k r) b := by
  unfold headgateref03_Big.f
  by_cases h : (r.length : Int) > 40
  · exact ⟨true, Ev.congr (fun k => if_pos h) (Ev.now _)⟩
  · have loop : ∀ (d : Nat) (i : Int), 0 ≤ i → i + d = r.length → ∃ b, Ev (fun k => headgateref03_Big.l0 k r i) b := by
      intro d
      induction d with
      | zero =>
        intro i h0 hi
        exact ⟨false, Ev.step (f := fun _ => some false) (fun k => by simp only [headgateref03_Big.l0]; rw [if_neg (by omega)]) (Ev.now _)⟩
      | succ d ih =>
        intro i h0 hi
        have e2 : wrap64 (i + 1) = i + 1 := wrap_in (by unfold in64; omega)
        by_cases hs : ((rd_T116 r i).f2.size : Int) > 600
        · exact ⟨true, Ev.step (f := fun _ => some true) (fun k => by simp only [headgateref03_Big.l0]; rw [if_pos (by omega), if_pos h0, if_pos hs]) (Ev.now _)⟩
        · obtain ⟨b, hb⟩ := ih (i + 1) (by omega) (by omega)
          exact ⟨b, Ev.step (fun k => by simp only [headgateref03_Big.l0]; rw [if_pos (by omega), if_pos h0, if_neg hs, e2]) hb⟩
    obtain ⟨b, hb⟩ := loop r.length 0 (by omega) (by omega)
    exact ⟨b, Ev.congr (fun k => if_neg h) hb⟩
theorem long_some (l : List (List Va)) (p : List Pa) (hl : l.length ≤ 9223372036854775806) (hp : p.length ≤ 9223372036854775806) (hr : ∀ r ∈ l, r.length ≤ 9223372036854775806) :
    ∃ b, Ev (fun k => headgatelaw04_long.f k l p) b ∧ (b = false → l.length ≤ 300 ∧ p.length ≤ 300 ∧ ∀ x ∈ p, x.f0.size ≤ 2000 ∧ x.f1.size ≤ 2000) := by
  have l1 : ∀ (d : Nat) (i : Int), 0 ≤ i → i + d = p.length → (∀ x ∈ p.take i.toNat, x.f0.size ≤ 2000 ∧ x.f1.size ≤ 2000) → ∃ b, Ev (fun k => headgatelaw04_long.l1 k p i) b ∧ (b = false → ∀ x ∈ p, x.f0.size ≤ 2000 ∧ x.f1.size ≤ 2000) := by
    intro d
    induction d with
    | zero =>
      intro i h0 hi hx
      rw [List.take_of_length_le (by omega)] at hx
      exact ⟨false, Ev.step (f := fun _ => some false) (fun k => by simp only [headgatelaw04_long.l1]; rw [if_neg (by omega)]) (Ev.now _), fun _ => hx⟩
    | succ d ih =>
      intro i h0 hi hx
      have e2 : wrap64 (i + 1) = i + 1 := wrap_in (by unfold in64; omega)
      have hd := rdP_drop p i h0 (by omega)
      by_cases hs : ((rd_T74 p i).f0.size : Int) > 2000
      · exact ⟨true, Ev.step (f := fun _ => some true) (fun k => by simp only [headgatelaw04_long.l1]; rw [if_pos (by omega), if_pos h0, if_pos hs]) (Ev.now _), fun z => by cases z⟩
      · by_cases hs2 : ((rd_T74 p i).f1.size : Int) > 2000
        · exact ⟨true, Ev.step (f := fun _ => some true) (fun k => by simp only [headgatelaw04_long.l1]; rw [if_pos (by omega), if_pos h0, if_neg hs, if_pos hs2]) (Ev.now _), fun z => by cases z⟩
        · obtain ⟨b, hb, hb2⟩ := ih (i + 1) (by omega) (by omega) (by
            have hlt : i.toNat < p.length := by omega
            have h3 : p[i.toNat] = rd_T74 p i := by
              unfold rd_T74
              rw [List.getD_eq_getElem?_getD, List.getElem?_eq_getElem hlt]
              rfl
            have e : p.take (i + 1).toNat = p.take i.toNat ++ [rd_T74 p i] := by
              rw [show (i + 1).toNat = i.toNat + 1 by omega, List.take_add_one, List.getElem?_eq_getElem hlt, h3]
              rfl
            rw [e]
            intro x hx'
            rcases List.mem_append.1 hx' with h | h
            · exact hx x h
            · rw [List.mem_singleton.1 h]
              omega)
          exact ⟨b, Ev.step (fun k => by simp only [headgatelaw04_long.l1]; rw [if_pos (by omega), if_pos h0, if_neg hs, if_neg hs2, e2]) hb, hb2⟩
  have l0 : ∀ (d : Nat) (i : Int), 0 ≤ i → i + d = l.length → ∃ b, Ev (fun k => headgatelaw04_long.l0 k l p i) b ∧ (b = false → ∀ x ∈ p, x.f0.size ≤ 2000 ∧ x.f1.size ≤ 2000) := by
    intro d
    induction d with
    | zero =>
      intro i h0 hi
      obtain ⟨b, hb, hb2⟩ := l1 p.length 0 (by omega) (by omega) (by simp)
      exact ⟨b, Ev.step (fun k => by simp only [headgatelaw04_long.l0]; rw [if_neg (by omega)]) hb, hb2⟩
    | succ d ih =>
      intro i h0 hi
      have e2 : wrap64 (i + 1) = i + 1 := wrap_in (by unfold in64; omega)
      have hd := rdR_drop l i h0 (by omega)
      have hm : rd_L12 l i ∈ l := by
        have : rd_L12 l i ∈ l.drop i.toNat := by rw [hd]; simp
        exact List.mem_of_mem_drop this
      obtain ⟨bb, hbb⟩ := big_some (rd_L12 l i) (hr _ hm)
      cases bb with
      | true =>
        refine ⟨true, Ev.step (fun k => ?_) (Ev.bind (f := fun k t102 => (if t102 = true then (some true) else (headgatelaw04_long.l0 k l p (wrap64 (i + 1))))) hbb (Ev.congr (fun k => if_pos rfl) (Ev.now _))), fun z => by cases z⟩
        simp only [headgatelaw04_long.l0]
        rw [if_pos (by omega), if_pos h0]
      | false =>
        obtain ⟨b, hb, hb2⟩ := ih (i + 1) (by omega) (by omega)
        refine ⟨b, Ev.step (fun k => ?_) (Ev.bind (f := fun k t102 => (if t102 = true then (some true) else (headgatelaw04_long.l0 k l p (wrap64 (i + 1))))) hbb (Ev.congr (fun k => if_neg (by simp)) (by rw [e2]; exact hb))), hb2⟩
        simp only [headgatelaw04_long.l0]
        rw [if_pos (by omega), if_pos h0]
  unfold headgatelaw04_long.f
  have j1 : Ev (fun k => headgatelaw04_long.j0 k l p true) true := Ev.step (f := fun _ => some true) (fun k => by simp only [headgatelaw04_long.j0]; rw [if_pos trivial]) (Ev.now _)
  by_cases h1 : (l.length : Int) > 300
  · exact ⟨true, Ev.congr (fun k => if_pos h1) j1, fun z => by cases z⟩
  · by_cases h2 : (p.length : Int) > 300
    · refine ⟨true, Ev.congr (fun k => if_neg h1) ?_, fun z => by cases z⟩
      rw [decide_eq_true h2]
      exact j1
    · obtain ⟨b, hb, hb2⟩ := l0 l.length 0 (by omega) (by omega)
      refine ⟨b, Ev.congr (fun k => if_neg h1) ?_, fun z => ⟨by omega, by omega, hb2 z⟩⟩
      rw [decide_eq_false h2]
      exact Ev.step (fun k => by simp only [headgatelaw04_long.j0]; rw [if_neg (by simp)]) hb
end Go.Proofs.Ytgihecpobichbaa.Q
/- The law CodeTells in plain Lean: what the package writes is what the document writes. -/
namespace Go.Proofs.Ytgihecpobichbaa.Q
open Go.RowKit Go.Proofs.YtgihecpobichbaaW.PrintWords Go.Proofs.YtgihecpobichbaaW.PrintLast Go.Proofs.YtgihecpobichbaaW.PrintMore
set_option linter.unusedVariables false
set_option linter.unusedSimpArgs false
def refColsR (l : List Co) : ByteArray × Int := if l.all okC = true then refTold (listB encC l) else (⟨#[]⟩, 41)
theorem refCols_loop (l : List Co) (hlen : l.length ≤ 300) (hs : ∀ c ∈ l, c.f0.size ≤ 2000) : ∀ (d : Nat) (i : Int), 0 ≤ i → i + d = l.length → (∀ c ∈ l.take i.toNat, okC c = true) →
    Ev (fun k => headgateref04_Cols.l0 k l (strOfNums (numR 9 (l.length : Int) ++ flat encC (l.take i.toNat))) i) (refColsR l) := by
  intro d
  induction d with
  | zero =>
    intro i h0 hi hok
    rw [List.take_of_length_le (by omega)] at hok ⊢
    have hall : l.all okC = true := List.all_eq_true.2 hok
    unfold refColsR
    rw [if_pos hall]
    unfold refTold
    refine Ev.step (f := fun _ => some (if (listB encC l).length > 16777216 then (⟨#[]⟩, 42) else (strOfNums (listB encC l), 0))) (fun k => ?_) (Ev.now _)
    simp only [headgateref04_Cols.l0]
    rw [if_neg (by omega), str_size]
    show (if ((listB encC l).length : Int) > 16777216 then _ else _) = _
    by_cases hb : (listB encC l).length > 16777216
    · rw [if_pos (by omega), if_pos hb]
    · rw [if_neg (by omega), if_neg hb]
      rfl
  | succ d ih =>
    intro i h0 hi hok
    have hd := rdC_drop l i h0 (by omega)
    have e2 : wrap64 (i + 1) = i + 1 := wrap_in (by unfold in64; omega)
    obtain ⟨y, hy⟩ : ∃ y, rd_T43 l i = y := ⟨_, rfl⟩
    rw [hy] at hd
    have hm : y ∈ l := by
      have : y ∈ l.drop i.toNat := by rw [hd]; simp
      exact List.mem_of_mem_drop this
    have e : l.take (i + 1).toNat = l.take i.toNat ++ [y] := by
      have h1 : (i + 1).toNat = i.toNat + 1 := by omega
      have hl : i.toNat < l.length := by omega
      have h3 : l[i.toNat] = y := by
        rw [← hy]
        unfold rd_T43
        rw [List.getD_eq_getElem?_getD, List.getElem?_eq_getElem hl]
        rfl
      rw [h1, List.take_add_one, List.getElem?_eq_getElem hl, h3]
      rfl
    by_cases hc : 0 ≤ y.f1 ∧ y.f1 ≤ 255
    · have h2 := ih (i + 1) (by omega) (by omega) (by
        rw [e]
        intro r hr'
        rcases List.mem_append.1 hr' with h | h
        · exact hok r h
        · rw [List.mem_singleton.1 h]; exact decide_eq_true hc)
      have hy0 := hs y hm
      have hW := refWord_ev y.f0 (by omega)
      have hwl := encW_len y.f0
      have hfl := flat_le encC 2020 (l.take i.toNat) (fun p hp => by have := encC_len p; have := hs p (List.mem_of_mem_take hp); omega)
      have hti : (l.take i.toNat).length ≤ l.length := by rw [List.length_take]; exact Nat.min_le_right _ _
      have hn2 := numR_len 9 (l.length : Int)
      obtain ⟨b, hb⟩ : ∃ b, b = numR 9 (l.length : Int) ++ flat encC (l.take i.toNat) := ⟨_, rfl⟩
      have hbl : b.length ≤ 700000 := by rw [hb, List.length_append]; omega
      have en : numR 9 (l.length : Int) ++ flat encC (l.take (i + 1).toNat) = b ++ encW y.f0 ++ [y.f1 % 256] := by
        rw [e, flat_snoc, hb]
        simp [encC]
      rw [en] at h2
      rw [← hb]
      refine Ev.step (f := fun k => (headgateref04_Word.f k y.f0).bind fun t105 => if (strOfNums b).size + t105.size ≤ 9223372036854775807 then ((some ([y.f1 % 256] : List Int)).bind fun y107 => (if (strOfNums b ++ t105).size + (strOfNums y107).size ≤ 9223372036854775807 then (headgateref04_Cols.l0 k l ((strOfNums b ++ t105) ++ (strOfNums y107)) (i + 1)) else none)) else none) (fun k => ?_) (Ev.bind hW ?_)
      · simp only [headgateref04_Cols.l0]
        rw [if_pos (by omega), if_pos h0, hy, if_neg (by omega), if_neg (by omega), e2]
      · refine Ev.congr (fun k => ?_) h2
        rw [if_pos (by rw [str_size, str_size]; omega), Option.bind_some, if_pos (by rw [← str_append, str_size, str_size, List.length_append]; simp only [List.length_cons, List.length_nil]; omega), ← str_append, ← str_append]
    · have hall : ¬ l.all okC = true := fun h => by
        have := of_decide_eq_true (List.all_eq_true.1 h y hm)
        exact hc this
      unfold refColsR
      rw [if_neg hall]
      refine Ev.step (f := fun _ => some (⟨#[]⟩, 41)) (fun k => ?_) (Ev.now _)
      simp only [headgateref04_Cols.l0]
      rw [if_pos (by omega), if_pos h0, hy]
      by_cases hn : y.f1 < 0
      · rw [if_pos hn]
      · rw [if_neg hn, if_pos (by omega)]
theorem refCols_ev (l : List Co) (hlen : l.length ≤ 300) (hs : ∀ c ∈ l, c.f0.size ≤ 2000) : Ev (fun k => headgateref04_Cols.f k l) (refColsR l) := by
  unfold headgateref04_Cols.f
  have hw : IntKind.u64.wrap (l.length : Int) = (l.length : Int) := wrap_u _ (by omega) (by omega)
  rw [hw]
  refine Ev.bind (Ev.of (fun k => headgateref04_Num.mono _ k) (refNum_of (n := (l.length : Int)) (by omega) (by omega))) ?_
  have h := refCols_loop l hlen hs l.length 0 (by omega) (by omega) (by simp)
  simpa [flat] using h
theorem told_yes (b : List Int) (a : Int) (s : ByteArray) (f : Int) (h1 : strOfNums b = s) (h2 : a = f) : headgatelaw04_told.f b a s f = some true := by
  unfold headgatelaw04_told.f
  rw [if_pos (by rw [h1]), h2]
  simp
theorem told_same (b : List Int) : strOfNums (toldB b).1 = (refTold b).1 ∧ (toldB b).2 = (refTold b).2 := by
  unfold toldB refTold
  by_cases h : b.length > 16777216
  · rw [if_pos h, if_pos h]; exact ⟨rfl, rfl⟩
  · rw [if_neg h, if_neg h]; exact ⟨rfl, rfl⟩
def okRowsT (l : List (List Va)) : Prop := ∀ r ∈ l, r.length ≤ 9223372036854775806 ∧ ∀ v ∈ r, in64 v.f1
theorem tells_tail (l : List (List Va)) (c : List Co) (p : List Pa) (n : List Int) (hl : l.length ≤ 300) (h3 : okRowsT l) (hc : c.length ≤ 300) (hcs : ∀ x ∈ c, x.f0.size ≤ 2000) (hp : p.length ≤ 300) (hps : ∀ x ∈ p, x.f0.size ≤ 2000 ∧ x.f1.size ≤ 2000) (hn : n.length ≤ 2000) (hin : ∀ x ∈ n, in64 x) :
    Ev (fun k => (code_Rows.f k l).bind fun bt107 => ((headgateref04_Rows.f k l).bind fun bt111 => ((headgatelaw04_told.f bt107.1 bt107.2 bt111.1 bt111.2).bind fun t113 => (if t113 = true then ((code_Cols.f k c).bind fun bt114 => ((headgateref04_Cols.f k c).bind fun bt118 => ((headgatelaw04_told.f bt114.1 bt114.2 bt118.1 bt118.2).bind fun t120 => (if t120 = true then ((code_Pairs.f k p).bind fun bt121 => ((headgateref04_Pairs.f k p).bind fun bt125 => ((headgatelaw04_told.f bt121.1 bt121.2 bt125.1 bt125.2).bind fun t127 => (if t127 = true then ((code_Nums.f k n).bind fun bt128 => ((headgateref04_Nums.f k n).bind fun bt132 => ((headgatelaw04_told.f bt128.1 bt128.2 bt132.1 bt132.2).bind fun t134 => (some t134)))) else (some false))))) else (some false))))) else (some false))))) true := by
  have hR : ∀ k, headgateref04_Rows.f k l = some (refRowsR l) := fun k => if_pos ⟨hl, fun r hr => (h3 r hr).2⟩
  have hP : ∀ k, headgateref04_Pairs.f k p = some (refTold (listB encP p)) := fun k => if_pos ⟨hp, hps⟩
  have hN : ∀ k, headgateref04_Nums.f k n = some (refNums n) := fun k => if_pos ⟨by omega, hin⟩
  have s1 : strOfNums (codeRows l).1 = (refRowsR l).1 ∧ (codeRows l).2 = (refRowsR l).2 := by
    unfold codeRows refRowsR
    by_cases h : l.all rowOk = true
    · rw [if_pos h, if_pos h]; exact told_same _
    · rw [if_neg h, if_neg h]; exact ⟨rfl, rfl⟩
  have s2 : strOfNums (codeCols c).1 = (refColsR c).1 ∧ (codeCols c).2 = (refColsR c).2 := by
    unfold codeCols refColsR
    by_cases h : c.all okC = true
    · rw [if_pos h, if_pos h]; exact told_same _
    · rw [if_neg h, if_neg h]; exact ⟨rfl, rfl⟩
  have s3 := told_same (listB encP p)
  have s4 : strOfNums (codeNums n).1 = (refNums n).1 ∧ (codeNums n).2 = (refNums n).2 := by
    unfold codeNums refNums
    by_cases h : (numsAll n).length > 16777216
    · rw [if_pos h, if_pos h]; exact ⟨rfl, rfl⟩
    · rw [if_neg h, if_neg h]; exact ⟨rfl, rfl⟩
  refine Ev.bind (codeRows_ev l (by omega) h3) ?_
  refine Ev.bind (Ev.congr hR (Ev.now _)) ?_
  refine Ev.congr (fun k => by rw [told_yes _ _ _ _ s1.1 s1.2, Option.bind_some, if_pos rfl]) ?_
  refine Ev.bind (codeCols_ev c (by omega) (fun x hx => by have := hcs x hx; omega)) ?_
  refine Ev.bind (refCols_ev c hc hcs) ?_
  refine Ev.congr (fun k => by rw [told_yes _ _ _ _ s2.1 s2.2, Option.bind_some, if_pos rfl]) ?_
  refine Ev.bind (codePairs_ev p (by omega) (fun x hx => by have := hps x hx; omega)) ?_
  refine Ev.bind (Ev.congr hP (Ev.now _)) ?_
  refine Ev.congr (fun k => by rw [told_yes _ _ _ _ s3.1 s3.2, Option.bind_some, if_pos rfl]) ?_
  refine Ev.bind (codeNums_ev n (by omega) hin) ?_
  refine Ev.bind (Ev.congr hN (Ev.now _)) ?_
  exact Ev.congr (fun k => by rw [told_yes _ _ _ _ s4.1 s4.2, Option.bind_some]) (Ev.now _)
theorem tells_loop (l : List (List Va)) (c : List Co) (p : List Pa) (n : List Int) (hl : l.length ≤ 300) (h3 : okRowsT l) (hc : c.length ≤ 300) (hp : p.length ≤ 300) (hps : ∀ x ∈ p, x.f0.size ≤ 2000 ∧ x.f1.size ≤ 2000) (hn : n.length ≤ 2000) (hin : ∀ x ∈ n, in64 x) :
    ∀ (d : Nat) (i : Int), 0 ≤ i → i + d = c.length → (∀ x ∈ c.take i.toNat, x.f0.size ≤ 2000) → Ev (fun k => headgatelaw04_CodeTells.l0 k l c p n i) true := by
  intro d
  induction d with
  | zero =>
    intro i h0 hi hok
    rw [List.take_of_length_le (by omega)] at hok
    refine Ev.step (fun k => ?_) (tells_tail l c p n hl h3 hc hok hp hps hn hin)
    simp only [headgatelaw04_CodeTells.l0]
    rw [if_neg (by omega)]
  | succ d ih =>
    intro i h0 hi hok
    have e2 : wrap64 (i + 1) = i + 1 := wrap_in (by unfold in64; omega)
    obtain ⟨y, hy⟩ : ∃ y, rd_T43 c i = y := ⟨_, rfl⟩
    have e : c.take (i + 1).toNat = c.take i.toNat ++ [y] := by
      have h1 : (i + 1).toNat = i.toNat + 1 := by omega
      have hl : i.toNat < c.length := by omega
      have h3 : c[i.toNat] = y := by
        rw [← hy]
        unfold rd_T43
        rw [List.getD_eq_getElem?_getD, List.getElem?_eq_getElem hl]
        rfl
      rw [h1, List.take_add_one, List.getElem?_eq_getElem hl, h3]
      rfl
    by_cases hs : (y.f0.size : Int) > 2000
    · refine Ev.step (f := fun _ => some true) (fun k => ?_) (Ev.now _)
      simp only [headgatelaw04_CodeTells.l0]
      rw [if_pos (by omega), if_pos h0, hy, if_pos hs]
    · have h2 := ih (i + 1) (by omega) (by omega) (by
        rw [e]
        intro r hr'
        rcases List.mem_append.1 hr' with h | h
        · exact hok r h
        · rw [List.mem_singleton.1 h]; omega)
      refine Ev.step (fun k => ?_) h2
      simp only [headgatelaw04_CodeTells.l0]
      rw [if_pos (by omega), if_pos h0, hy, if_neg hs, e2]
theorem tells_ev (l : List (List Va)) (c : List Co) (p : List Pa) (n : List Int) (hl : l.length ≤ 9223372036854775806) (h3 : okRowsT l) (hp : p.length ≤ 9223372036854775806) (hin : ∀ x ∈ n, in64 x) : Ev (fun k => headgatelaw04_CodeTells.f k l c p n) true := by
  obtain ⟨b, hb, hb2⟩ := long_some l p hl hp (fun r hr => (h3 r hr).1)
  have hA : Ev (fun k => headgatelaw04_alive.f k) true := Ev.of (fun k => headgatelaw04_alive.mono k) alive04
  have j1 : Ev (fun k => headgatelaw04_CodeTells.j0 k l c p n true) true := Ev.step (f := fun _ => some true) (fun k => by simp only [headgatelaw04_CodeTells.j0]; rw [if_pos trivial]) (Ev.now _)
  unfold headgatelaw04_CodeTells.f
  refine Ev.bind hA ?_
  refine Ev.congr (fun k => if_pos rfl) ?_
  refine Ev.bind hb ?_
  cases b with
  | true => exact Ev.congr (fun k => if_pos rfl) j1
  | false =>
    obtain ⟨q1, q2, q3⟩ := hb2 rfl
    refine Ev.congr (fun k => if_neg (by simp)) ?_
    by_cases hc : (c.length : Int) > 300
    · exact Ev.congr (fun k => if_pos hc) j1
    · refine Ev.congr (fun k => if_neg hc) ?_
      by_cases hn : (n.length : Int) > 2000
      · rw [decide_eq_true hn]
        exact j1
      · rw [decide_eq_false hn]
        refine Ev.step (fun k => ?_) (tells_loop l c p n q1 h3 (by omega) q2 q3 (by omega) hin c.length 0 (by omega) (by omega) (by simp))
        simp only [headgatelaw04_CodeTells.j0]
        rw [if_neg (by simp)]
theorem CodeTells_pure (l : List (List Va)) (c : List Co) (p : List Pa) (n : List Int) (h0 : l.length * 24 ≤ 140737488351232 ∧ ∀ y ∈ l, y.length * 32 ≤ 140737488351232 ∧ ∀ z ∈ y, (Lit.int .i64 z.f0).wf = true ∧ (Lit.int .i64 z.f1).wf = true ∧ z.f2.size ≤ 140737488351232)
    (h1 : c.length * 24 ≤ 140737488351232 ∧ ∀ z ∈ c, z.f0.size ≤ 140737488351232 ∧ (Lit.int .i64 z.f1).wf = true)
    (h2 : p.length * 32 ≤ 140737488351232 ∧ ∀ z ∈ p, z.f0.size ≤ 140737488351232 ∧ z.f1.size ≤ 140737488351232) (h3 : n.length * 8 ≤ 140737488351232 ∧ ∀ x ∈ n, (Lit.int .i64 x).wf = true) : ∃ k, headgatelaw04_CodeTells.f k l c p n = some true :=
  (tells_ev l c p n (by omega) (fun r hr => ⟨by have := (h0.2 r hr).1; omega, fun v hv => wf64 ((h0.2 r hr).2 v hv).2.1⟩) (by omega) (fun x hx => wf64 (h3.2 x hx))).rounds
end Go.Proofs.Ytgihecpobichbaa.Q
/- Of each struct type that an argument leads to: what the reader reads is a value of its kind, and good. -/
namespace Go.Proofs.Ytgihecpobichbaa.Q
open Go.RowKit Go.Proofs.YtgihecpobichbaaR Go.Proofs.YtgihecpobichbaaW.PrintWords
set_option linter.unusedVariables false
theorem opens116 (W : World) : Opens Try.prog W 116 k116 (fun x => ((Lit.int .i64 x.f0).wf = true) ∧ ((Lit.int .i64 x.f1).wf = true) ∧ (x.f2.size ≤ 140737488351232)) :=
  (opens_struct (f := fun x : S116 => (x.f0, x.f1, x.f2)) Try.underlying116 (by kernel_rfl) (fun m => (opensF_cons rfl (by kernel_rfl) ((opens_int Try.underlying3) m) (opensF_cons rfl (by kernel_rfl) ((opens_int Try.underlying2) m) (opensF_one rfl (by kernel_rfl) ((opens_string Try.underlying9) m))))) (fun p => ⟨p.1, p.2.1, p.2.2⟩) (fun _ => rfl)).imp (fun x h => by simpa only [and_true] using h)
theorem opens43 (W : World) : Opens Try.prog W 43 k43 (fun x => (x.f0.size ≤ 140737488351232) ∧ ((Lit.int .i64 x.f1).wf = true)) :=
  (opens_struct (f := fun x : S43 => (x.f0, x.f1)) Try.underlying43 (by kernel_rfl) (fun m => (opensF_cons rfl (by kernel_rfl) ((opens_string Try.underlying9) m) (opensF_one rfl (by kernel_rfl) ((opens_int Try.underlying3) m)))) (fun p => ⟨p.1, p.2⟩) (fun _ => rfl)).imp (fun x h => by simpa only [and_true] using h)
theorem opens74 (W : World) : Opens Try.prog W 74 k74 (fun x => (x.f0.size ≤ 140737488351232) ∧ (x.f1.size ≤ 140737488351232)) :=
  (opens_struct (f := fun x : S74 => (x.f0, x.f1)) Try.underlying74 (by kernel_rfl) (fun m => (opensF_cons rfl (by kernel_rfl) ((opens_string Try.underlying9) m) (opensF_one rfl (by kernel_rfl) ((opens_string Try.underlying9) m)))) (fun p => ⟨p.1, p.2⟩) (fun _ => rfl)).imp (fun x h => by simpa only [and_true] using h)
end Go.Proofs.Ytgihecpobichbaa.Q
