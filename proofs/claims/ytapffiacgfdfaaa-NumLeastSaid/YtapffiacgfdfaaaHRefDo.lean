/- headgateref01.Do: what is made of two numbers, walked: sums and differences by limbs, products, quotients, rests. -/
import Derived.Test.YtapffiacgfdfaaaHRefI
import Derived.Test.YtapffiacgfdfaaaAx1
namespace Go.Proofs.Ytapffiacgfdfaaa.Q
open Go.RowKit Go.Proofs.YtapffiacgfdfaaaW.PrintWords Go.Proofs.YtapffiacgfdfaaaW.PrintLast Go.Proofs.YtapffiacgfdfaaaW.PrintMore
set_option linter.unusedVariables false
set_option linter.unusedSimpArgs false

/-- A number, or that it is none. -/
def fit (x : Int) : Int × Int := if in64 x then (x, 0) else (0, 10)
theorem wide_calls (a : Int) (w : World) (h : in64 a) : Calls Try.prog 20 #[.int .i64 a] w fun e w' => ∃ b c : Int, e = .returned (.agg #[.int .i64 b, .int .u64 c]) ∧ (-9223372036854775808 ≤ b ∧ b ≤ 9223372036854775807 ∧ 0 ≤ c ∧ c ≤ 18446744073709551615) ∧ a = b * 18446744073709551616 + c ∧ Below w.heap.size w w' := by
  unfold in64 at h
  by_cases h0 : a < 0
  · refine (headgateref01_Wide.calls a (-1) (IntKind.u64.wrap a) w (by unfold headgateref01_Wide.f; rw [if_pos h0])).mono fun e w' hq => ⟨_, _, hq.1, ?_, ?_, ?_⟩
    · rw [u64_wrap a h.1 h.2]; omega
    · rw [u64_wrap a h.1 h.2]; omega
    · first | exact hq.2 | (obtain ⟨n, rfl⟩ := hq.2.out; exact pw_below_drewN (Below.refl _ _) n)
  · refine (headgateref01_Wide.calls a 0 (IntKind.u64.wrap a) w (by unfold headgateref01_Wide.f; rw [if_neg h0])).mono fun e w' hq => ⟨_, _, hq.1, ?_, ?_, ?_⟩
    · rw [u64_wrap a h.1 h.2]; omega
    · rw [u64_wrap a h.1 h.2]; omega
    · first | exact hq.2 | (obtain ⟨n, rfl⟩ := hq.2.out; exact pw_below_drewN (Below.refl _ _) n)
/-- A sum of two, where it is no more than a sum can hold. -/
theorem both_calls (a b c d : Int) (w : World) (hp : -9223372036854775808 ≤ a ∧ a ≤ 9223372036854775807 ∧ 0 ≤ b ∧ b ≤ 18446744073709551615) (hq : -9223372036854775808 ≤ c ∧ c ≤ 9223372036854775807 ∧ 0 ≤ d ∧ d ≤ 18446744073709551615) :
    Calls Try.prog 18 #[.agg #[.int .i64 a, .int .u64 b], .agg #[.int .i64 c, .int .u64 d]] w fun e w' => ∃ x y : Int, e = .returned (.agg #[.int .i64 x, .int .u64 y]) ∧ (-9223372036854775808 ≤ x ∧ x ≤ 9223372036854775807 ∧ 0 ≤ y ∧ y ≤ 18446744073709551615) ∧
      (x = wrap64 (a + c + (b + d) / 18446744073709551616) ∧ y = (b + d) % 18446744073709551616) ∧ Below w.heap.size w w' :=
  (both_walk a b c d w hp.1 hp.2.1 hp.2.2.1 hp.2.2.2 hq.1 hq.2.1 hq.2.2.1 hq.2.2.2).mono fun e w' h => ⟨_, _, h.1, by unfold wrap64; omega, ⟨rfl, rfl⟩, h.2⟩
theorem of_any (z0 z1 z2 z3 z4 z5 z6 z7 : Int) (w : World) (h : 0 ≤ z0 ∧ z0 ≤ 65535 ∧ 0 ≤ z1 ∧ z1 ≤ 65535 ∧ 0 ≤ z2 ∧ z2 ≤ 65535 ∧ 0 ≤ z3 ∧ z3 ≤ 65535 ∧ 0 ≤ z4 ∧ z4 ≤ 65535 ∧ 0 ≤ z5 ∧ z5 ≤ 65535 ∧ 0 ≤ z6 ∧ z6 ≤ 65535 ∧ 0 ≤ z7 ∧ z7 ≤ 65535) :
    Calls Try.prog 24 #[.agg #[.int .u32 z0, .int .u32 z1, .int .u32 z2, .int .u32 z3, .int .u32 z4, .int .u32 z5, .int .u32 z6, .int .u32 z7]] w fun e w' => ∃ x y : Int, e = .returned (.agg #[.int .i64 x, .int .u64 y]) ∧ (-9223372036854775808 ≤ x ∧ x ≤ 9223372036854775807 ∧ 0 ≤ y ∧ y ≤ 18446744073709551615) ∧
      (x = wrap64 (z7 * 281474976710656 + z6 * 4294967296 + z5 * 65536 + z4) ∧ y = z3 * 281474976710656 + z2 * 4294967296 + z1 * 65536 + z0) ∧ Below w.heap.size w w' := by
  refine (of_calls z0 z1 z2 z3 z4 z5 z6 z7 w).mono fun e w' hq => ⟨_, _, hq.1, ?_, ⟨?_, ?_⟩, hq.2⟩
  · rw [four_eq z4 z5 z6 z7 (by omega) (by omega) (by omega) (by omega), four_eq z0 z1 z2 z3 (by omega) (by omega) (by omega) (by omega)]
    unfold wrap64
    omega
  · rw [four_eq z4 z5 z6 z7 (by omega) (by omega) (by omega) (by omega)]
  · rw [four_eq z0 z1 z2 z3 (by omega) (by omega) (by omega) (by omega)]
def fitRes (x : Int) : Value := if in64 x then .tuple #[.int .i64 x, .bool true] else .tuple #[.int .i64 0, .bool false]
theorem int_calls (a b x : Int) (w : World) (hp : -9223372036854775808 ≤ a ∧ a ≤ 9223372036854775807 ∧ 0 ≤ b ∧ b ≤ 18446744073709551615) (hx : x = a * 18446744073709551616 + b) :
    Calls Try.prog 16 #[.agg #[.int .i64 a, .int .u64 b]] w fun e w' => e = .returned (fitRes x) ∧ Below w.heap.size w w' := by
  refine (int_walk a b w hp.1 hp.2.1 hp.2.2.1 hp.2.2.2).mono fun e w' h => ⟨?_, h.2⟩
  rw [h.1]
  unfold intRes fitRes signOf
  by_cases hb : 9223372036854775808 ≤ b
  · rw [if_pos hb]
    by_cases ha : a = -1
    · rw [if_pos ha, if_pos (show in64 x from ⟨by omega, by omega⟩), show wrap64 b = x by unfold wrap64; omega]
    · rw [if_neg ha, if_neg (fun h : in64 x => by unfold in64 at h; omega)]
  · rw [if_neg hb]
    by_cases ha : a = 0
    · rw [if_pos ha, if_pos (show in64 x from ⟨by omega, by omega⟩), show wrap64 b = x by unfold wrap64; omega]
    · rw [if_neg ha, if_neg (fun h : in64 x => by unfold in64 at h; omega)]
theorem fit_cases (x : Int) : (fitRes x = .tuple #[.int .i64 x, .bool true] ∧ fit x = (x, 0)) ∨ (fitRes x = .tuple #[.int .i64 0, .bool false] ∧ fit x = (0, 10)) := by
  unfold fitRes fit
  by_cases h : in64 x
  · exact .inl ⟨if_pos h, if_pos h⟩
  · exact .inr ⟨if_neg h, if_neg h⟩
set_option maxHeartbeats 4000000 in
set_option maxRecDepth 100000 in
theorem do_add (a b : Int) (w : World) (ha : in64 a) (hb : in64 b) :
    Calls Try.prog 12 #[.int .i64 4, .int .i64 a, .int .i64 b] w fun e w' => e = .returned (.tuple #[.int .i64 (fit (a + b)).1, .int .i64 (fit (a + b)).2]) ∧ Below w.heap.size w w' := by
  rcases fit_cases (a + b) with ⟨hr, hf⟩ | ⟨hr, hf⟩
  all_goals
    rw [hf]
    have HR := Aside0.mk hr
    clear hr hf
    have HA := Aside0.mk ha
    have HB := Aside0.mk hb
    clear ha hb
    go_enter Try.func12, Try.ntmps12
    go_wp2_with fail
    refine (wide_calls a _ HA.out).mono ?_
    rintro e w1 ⟨b1, c1, rfl, h1, e1, hb1⟩
    have E1 := Aside0.mk e1
    have H1 := Aside0.mk h1
    have B := Aside0.mk hb1
    clear e1 h1 hb1
    go_wp2_with fail
    refine (wide_calls b _ HB.out).mono ?_
    rintro e w2 ⟨b2, c2, rfl, h2, e2, hb2⟩
    have E2 := Aside0.mk e2
    have H2 := Aside0.mk h2
    have B2 := Aside0.mk (below_step B.out hb2)
    clear e2 h2 hb2 B
    go_wp2_with fail
    refine (both_calls b1 c1 b2 c2 _ H1.out H2.out).mono ?_
    rintro e w3 ⟨x, y, rfl, h3, e3, hb3⟩
    have HX : Aside0 (a + b = x * 18446744073709551616 + y) := Aside0.mk (by
      have z1 := E1.out; have z2 := E2.out; have z3 := H1.out; have z4 := H2.out; have z5 := HA.out; have z6 := HB.out
      unfold in64 at z5 z6
      unfold wrap64 at e3
      omega)
    have H3 := Aside0.mk h3
    have B3 := Aside0.mk (below_step B2.out hb3)
    clear e3 h3 hb3 B2
    go_wp2_with fail
    refine (int_calls x y (a + b) _ H3.out HX.out).mono ?_
    rintro e w4 ⟨rfl, hb4⟩
    have B4 := Aside0.mk (below_step B3.out hb4)
    clear hb4 B3
    rw [HR.out]
    go_wp2
    go_ret2
    exact ⟨rfl, B4.out⟩
theorem sub_eq {a b b1 c1 b2 c2 b3 c3 x y x' y' x'' y'' x0 x1 x2 x3 x4 x5 x6 x7 : Int} (z5 : in64 a) (z6 : in64 b) (f1 : b = b1 * 18446744073709551616 + c1) (f2 : a = b2 * 18446744073709551616 + c2)
    (f3 : x = wrap64 ((65535 - x7) * 281474976710656 + (65535 - x6) * 4294967296 + (65535 - x5) * 65536 + (65535 - x4)) ∧ y = (65535 - x3) * 281474976710656 + (65535 - x2) * 4294967296 + (65535 - x1) * 65536 + (65535 - x0))
    (f4 : x' = wrap64 (b2 + x + (c2 + y) / 18446744073709551616) ∧ y' = (c2 + y) % 18446744073709551616) (f5 : 1 = b3 * 18446744073709551616 + c3) (e6 : x'' = wrap64 (x' + b3 + (y' + c3) / 18446744073709551616) ∧ y'' = (y' + c3) % 18446744073709551616)
    (f0 : c1 = x0 + x1 * 65536 + x2 * 4294967296 + x3 * 281474976710656 ∧ b1 % 18446744073709551616 = x4 + x5 * 65536 + x6 * 4294967296 + x7 * 281474976710656)
    (g1 : -9223372036854775808 ≤ b1 ∧ b1 ≤ 9223372036854775807 ∧ 0 ≤ c1 ∧ c1 ≤ 18446744073709551615) (g2 : -9223372036854775808 ≤ b2 ∧ b2 ≤ 9223372036854775807 ∧ 0 ≤ c2 ∧ c2 ≤ 18446744073709551615) (g5 : -9223372036854775808 ≤ b3 ∧ b3 ≤ 9223372036854775807 ∧ 0 ≤ c3 ∧ c3 ≤ 18446744073709551615)
    (hx : 0 ≤ x0 ∧ x0 ≤ 65535 ∧ 0 ≤ x1 ∧ x1 ≤ 65535 ∧ 0 ≤ x2 ∧ x2 ≤ 65535 ∧ 0 ≤ x3 ∧ x3 ≤ 65535 ∧ 0 ≤ x4 ∧ x4 ≤ 65535 ∧ 0 ≤ x5 ∧ x5 ≤ 65535 ∧ 0 ≤ x6 ∧ x6 ≤ 65535 ∧ 0 ≤ x7 ∧ x7 ≤ 65535) : a - b = x'' * 18446744073709551616 + y'' := by
  unfold in64 at z5 z6
  have q1 : b3 = 0 ∧ c3 = 1 := by clear f0 f1 f2 f3 f4 e6 hx g1 g2 z5 z6; omega
  have q2 : y = 18446744073709551615 - c1 := by clear f1 f2 f4 e6 g1 g2 g5 z5 z6; omega
  have q3 : x = -1 - b1 := by
    rw [f3.1]
    have : (65535 - x7) * 281474976710656 + (65535 - x6) * 4294967296 + (65535 - x5) * 65536 + (65535 - x4) = 18446744073709551615 - b1 % 18446744073709551616 := by clear f1 f2 f4 e6 g1 g2 g5 z5 z6; omega
    rw [this]
    unfold wrap64
    clear f0 f1 f2 f3 f4 f5 this hx e6
    omega
  clear f0 f3 f5 hx
  obtain ⟨rfl, rfl⟩ := q1
  obtain ⟨f41, f42⟩ := f4
  obtain ⟨e61, e62⟩ := e6
  subst q2 q3
  have s1 : b1 = 0 ∨ b1 = -1 := by omega
  have s2 : b2 = 0 ∨ b2 = -1 := by omega
  have r1 : x' = -1 + b2 - b1 + (c2 + (18446744073709551615 - c1)) / 18446744073709551616 := by
    rw [f41]
    unfold wrap64
    omega
  have r2 : x'' = x' + (y' + 1) / 18446744073709551616 := by
    rw [e61]
    unfold wrap64
    omega
  omega
set_option maxHeartbeats 4000000 in
set_option maxRecDepth 100000 in
theorem do_sub (a b : Int) (w : World) (ha : in64 a) (hb : in64 b) :
    Calls Try.prog 12 #[.int .i64 5, .int .i64 a, .int .i64 b] w fun e w' => e = .returned (.tuple #[.int .i64 (fit (a - b)).1, .int .i64 (fit (a - b)).2]) ∧ Below w.heap.size w w' := by
  rcases fit_cases (a - b) with ⟨hr, hf⟩ | ⟨hr, hf⟩
  all_goals
    have HR := Aside0.mk hr
    have HF := Aside0.mk hf
    clear hr hf
    have HA := Aside0.mk ha
    have HB := Aside0.mk hb
    clear ha hb
    go_enter Try.func12, Try.ntmps12
    go_wp2_with fail
    refine (wide_calls b _ HB.out).mono ?_
    rintro e w1 ⟨b1, c1, rfl, h1, e1, hb1⟩
    have E1 := Aside0.mk e1
    have H1 := Aside0.mk h1
    have B := Aside0.mk hb1
    clear e1 h1 hb1
    go_wp2_with fail
    refine (limbs_any b1 c1 _ H1.out.1 H1.out.2.1 H1.out.2.2.1 H1.out.2.2.2).mono ?_
    rintro e w2 ⟨x0, x1, x2, x3, x4, x5, x6, x7, rfl, hx, hex, hb2⟩
    have EX := Aside0.mk hex
    have B2 := Aside0.mk (below_step B.out hb2)
    clear hex hb2 B
    obtain ⟨hx0, hx0', hx1, hx1', hx2, hx2', hx3, hx3', hx4, hx4', hx5, hx5', hx6, hx6', hx7, hx7'⟩ := hx
    go_wp2_with fail
    refine wp_loop_rounds 9 ?_
    rw [rounds_succ]
    go_wp2
    rw [rounds_succ]
    go_wp2
    rw [rounds_succ]
    go_wp2
    rw [rounds_succ]
    go_wp2
    rw [rounds_succ]
    go_wp2
    rw [rounds_succ]
    go_wp2
    rw [rounds_succ]
    go_wp2
    rw [rounds_succ]
    go_wp2
    rw [rounds_succ]
    go_wp2_with fail
    have tok1 : True := trivial
    go_region_with (first | (go_at_call_of 20 a; refine (wide_calls a _ HA.out).mono ?_; rintro e w3 ⟨b2, c2, rfl, h2, e2, hb3⟩; have E2 := Aside0.mk e2; have H2 := Aside0.mk h2; have B3 := Aside0.mk (below_step (by with_reducible repeat (first | exact B2.out | apply below_drew1 | apply below_alloc)) hb3); have k : w3.heap[w2.heap.size]? = some (.cells #[.int .u32 (65535 - x0), .int .u32 (65535 - x1), .int .u32 (65535 - x2), .int .u32 (65535 - x3), .int .u32 (65535 - x4), .int .u32 (65535 - x5), .int .u32 (65535 - x6), .int .u32 (65535 - x7)] 46) := blk_below (by with_reducible repeat (first | exact blk_new w2 _ | refine blk_drew ?_)) hb3; have hz : w2.heap.size < w3.heap.size := blk_lt k; have k0 : w3.cell? ⟨w2.heap.size, 0, none⟩ = some (.int .u32 (65535 - x0)) := (blk_cell k 0).trans rfl; have k1 : w3.cell? ⟨w2.heap.size, 1, none⟩ = some (.int .u32 (65535 - x1)) := (blk_cell k 1).trans rfl; have k2 : w3.cell? ⟨w2.heap.size, 2, none⟩ = some (.int .u32 (65535 - x2)) := (blk_cell k 2).trans rfl; have k3 : w3.cell? ⟨w2.heap.size, 3, none⟩ = some (.int .u32 (65535 - x3)) := (blk_cell k 3).trans rfl; have k4 : w3.cell? ⟨w2.heap.size, 4, none⟩ = some (.int .u32 (65535 - x4)) := (blk_cell k 4).trans rfl; have k5 : w3.cell? ⟨w2.heap.size, 5, none⟩ = some (.int .u32 (65535 - x5)) := (blk_cell k 5).trans rfl; have k6 : w3.cell? ⟨w2.heap.size, 6, none⟩ = some (.int .u32 (65535 - x6)) := (blk_cell k 6).trans rfl; have k7 : w3.cell? ⟨w2.heap.size, 7, none⟩ = some (.int .u32 (65535 - x7)) := (blk_cell k 7).trans rfl;  clear e2 h2 hb3 k) | (go_at_call 24; refine (of_any _ _ _ _ _ _ _ _ _ (by omega)).mono ?_; rintro e w4 ⟨x, y, rfl, h3, e3, hb4⟩; have E3 := Aside0.mk e3; have H3 := Aside0.mk h3; have B4 := Aside0.mk (below_step B3.out hb4); clear e3 h3 hb4) | (go_at_call 18; have _t := tok1; refine (both_calls b2 c2 x y _ H2.out H3.out).mono ?_; rintro e w5 ⟨x', y', rfl, h4, e4, hb5⟩; have E4 := Aside0.mk e4; have H4 := Aside0.mk h4; have B5 := Aside0.mk (below_step B4.out hb5); clear e4 h4 hb5 tok1) | (go_at_call 20; refine (wide_calls 1 _ (by unfold in64; omega)).mono ?_; rintro e w6 ⟨b3, c3, rfl, h5, e5, hb6⟩; have E5 := Aside0.mk e5; have H5 := Aside0.mk h5; have B6 := Aside0.mk (below_step B5.out hb6); clear e5 h5 hb6) | (go_at_call 18; refine (both_calls x' y' b3 c3 _ H4.out H5.out).mono ?_; rintro e w7 ⟨x'', y'', rfl, h6, e6, hb7⟩; have E6 := Aside0.mk e6; have H6 := Aside0.mk h6; have B7 := Aside0.mk (below_step B6.out hb7); clear e6 h6 hb7) | (go_at_call 16; have HX := Aside0.mk (sub_eq HA.out HB.out E1.out E2.out E3.out E4.out E5.out E6.out EX.out H1.out H2.out H5.out (by omega)); refine (int_calls x'' y'' (a - b) _ H6.out HX.out).mono ?_; rintro e w8 ⟨rfl, hb8⟩; have B8 := Aside0.mk (below_step B7.out hb8); clear hb8; rw [HR.out]))
    all_goals
      go_wp2
      go_ret2
      exact ⟨by rw [HF.out]; rfl, B8.out⟩
end Go.Proofs.Ytapffiacgfdfaaa.Q
