/- headgateref01: the limbs of a sum, their sum, a sum of sums by limbs, a sum as a number: walked. -/
import Derived.Test.YtphdbhneefmkcaaHNum

namespace Go.Proofs.Ytphdbhneefmkcaa.Q
open Go.RowKit Go.Proofs.YtphdbhneefmkcaaW.PrintWords Go.Proofs.YtphdbhneefmkcaaW.PrintLast Go.Proofs.YtphdbhneefmkcaaW.PrintMore
set_option linter.unusedVariables false
set_option linter.unusedSimpArgs false

theorem and16 (z : Int) (h0 : 0 ≤ z) (h1 : z < 4294967296) : bits .and .u32 z 65535 = z % 65536 := by go_bits2
/-- The limbs of a sum: of the low part, then of the high one. -/
def limbs (a b : Int) : Value := .agg #[.int .u32 (b % 65536), .int .u32 (b / 65536 % 65536), .int .u32 (b / 4294967296 % 65536), .int .u32 (b / 281474976710656 % 65536), .int .u32 (a % 65536), .int .u32 (a / 65536 % 65536), .int .u32 (a / 4294967296 % 65536), .int .u32 (a / 281474976710656 % 65536)]
theorem limbs_of (a b : Int) (p1 : -9223372036854775808 ≤ a) (p2 : a ≤ 9223372036854775807) (p3 : 0 ≤ b) (p4 : b ≤ 18446744073709551615) : Value.agg #[.int .u32 (bits .and .u32 (b % 4294967296) 65535), .int .u32 (bits .and .u32 (b / 65536 % 4294967296) 65535), .int .u32 (bits .and .u32 (b / 4294967296) 65535), .int .u32 (bits .and .u32 (b / 281474976710656) 65535),
    .int .u32 (bits .and .u32 (IntKind.u64.wrap a % 4294967296) 65535), .int .u32 (bits .and .u32 (IntKind.u64.wrap a / 65536 % 4294967296) 65535), .int .u32 (bits .and .u32 (IntKind.u64.wrap a / 4294967296 % 4294967296) 65535), .int .u32 (bits .and .u32 (IntKind.u64.wrap a / 281474976710656 % 4294967296) 65535)] = limbs a b := by
  unfold limbs
  rw [u64_wrap a p1 p2]
  simp only [and16 _ (show 0 ≤ b % 4294967296 by omega) (by omega), and16 _ (show 0 ≤ b / 65536 % 4294967296 by omega) (by omega), and16 _ (show 0 ≤ b / 4294967296 by omega) (by omega), and16 _ (show 0 ≤ b / 281474976710656 by omega) (by omega),
    and16 _ (show 0 ≤ a % 18446744073709551616 % 4294967296 by omega) (by omega), and16 _ (show 0 ≤ a % 18446744073709551616 / 65536 % 4294967296 by omega) (by omega), and16 _ (show 0 ≤ a % 18446744073709551616 / 4294967296 % 4294967296 by omega) (by omega), and16 _ (show 0 ≤ a % 18446744073709551616 / 281474976710656 % 4294967296 by omega) (by omega)]
  congr 2
  simp only [List.cons.injEq, Value.int.injEq, true_and, and_true]
  omega
set_option maxHeartbeats 1000000 in
set_option maxRecDepth 100000 in
theorem limbs_calls (a b : Int) (w : World) (p1 : -9223372036854775808 ≤ a) (p2 : a ≤ 9223372036854775807) (p3 : 0 ≤ b) (p4 : b ≤ 18446744073709551615) :
    Calls Try.prog 46 #[.agg #[.int .i64 a, .int .u64 b]] w fun e w' => e = .returned (limbs a b) ∧ Below w.heap.size w w' := by
  rw [← limbs_of a b p1 p2 p3 p4]
  go_enter Try.func46, Try.ntmps46
  go_wp2
  refine wp_loop_rounds 5 ?_
  rw [rounds_succ]
  go_wp2
  rw [rounds_succ]
  go_wp2
  rw [rounds_succ]
  go_wp2
  rw [rounds_succ]
  go_wp2
  rw [rounds_succ]
  go_wp2
  refine bodyPost_ret (v := .agg #[.int .u32 _, .int .u32 _, .int .u32 _, .int .u32 _, .int .u32 _, .int .u32 _, .int .u32 _, .int .u32 _]) (by simp [results, Try.results46, go_sem]) rfl ⟨rfl, ?_⟩
  repeat (first | exact Below.refl _ _ | apply below_alloc)

/-- A limb behind what is above it. -/
def sh (z x : Int) : Int := bits .or .u64 (IntKind.u64.wrap (z * 65536)) (IntKind.u64.wrap x)
theorem sh_eq (z x : Int) (h0 : 0 ≤ z) (h1 : z < 281474976710656) (h2 : 0 ≤ x) (h3 : x < 65536) : sh z x = z * 65536 + x := by
  unfold sh
  have e1 : IntKind.u64.wrap (z * 65536) = z * 65536 := by
    show z * 65536 % 18446744073709551616 = _
    omega
  have e2 : IntKind.u64.wrap x = x := by
    show x % 18446744073709551616 = _
    omega
  rw [e1, e2]
  obtain ⟨n, rfl⟩ := Int.eq_ofNat_of_zero_le h0
  obtain ⟨m, rfl⟩ := Int.eq_ofNat_of_zero_le h2
  rw [u64_or _ _ (by omega) (by omega) (by omega) (by omega)]
  have h4 : ((n : Int) * 65536).toNat = 2 ^ 16 * n := by omega
  have h5 : (m : Int).toNat = m := rfl
  rw [h4, h5, ← Nat.two_pow_add_eq_or_of_lt (show m < 2 ^ 16 by omega)]
  omega
def top (x : Int) : Int := bits .or .u64 0 (IntKind.u64.wrap x)
theorem top_eq (x : Int) (h2 : 0 ≤ x) (h3 : x < 65536) : top x = x := by
  have := sh_eq 0 x (by omega) (by omega) h2 h3
  unfold sh at this
  unfold top
  rw [show IntKind.u64.wrap ((0 : Int) * 65536) = 0 from rfl] at this
  omega
def four (x0 x1 x2 x3 : Int) : Int := sh (sh (sh (top x3) x2) x1) x0
theorem four_eq (x0 x1 x2 x3 : Int) (h0 : 0 ≤ x0 ∧ x0 < 65536) (h1 : 0 ≤ x1 ∧ x1 < 65536) (h2 : 0 ≤ x2 ∧ x2 < 65536) (h3 : 0 ≤ x3 ∧ x3 < 65536) : four x0 x1 x2 x3 = x3 * 281474976710656 + x2 * 4294967296 + x1 * 65536 + x0 := by
  unfold four
  rw [top_eq x3 h3.1 h3.2, sh_eq _ x2 (by omega) (by omega) h2.1 h2.2, sh_eq _ x1 (by omega) (by omega) h1.1 h1.2, sh_eq _ x0 (by omega) (by omega) h0.1 h0.2]
  omega
set_option maxHeartbeats 1000000 in
set_option maxRecDepth 100000 in
theorem of_calls (x0 x1 x2 x3 x4 x5 x6 x7 : Int) (w : World) :
    Calls Try.prog 47 #[.agg #[.int .u32 x0, .int .u32 x1, .int .u32 x2, .int .u32 x3, .int .u32 x4, .int .u32 x5, .int .u32 x6, .int .u32 x7]] w fun e w' => e = .returned (.agg #[.int .i64 (wrap64 (four x4 x5 x6 x7)), .int .u64 (four x0 x1 x2 x3)]) ∧ Below w.heap.size w w' := by
  go_enter Try.func47, Try.ntmps47
  go_wp2
  refine wp_loop_rounds 5 ?_
  rw [rounds_succ]
  go_wp2
  rw [rounds_succ]
  go_wp2
  rw [rounds_succ]
  go_wp2
  rw [rounds_succ]
  go_wp2
  rw [rounds_succ]
  go_wp2
  refine bodyPost_ret (v := .agg #[.int .i64 (wrap64 (four x4 x5 x6 x7)), .int .u64 (four x0 x1 x2 x3)]) ?_ rfl ⟨rfl, ?_⟩
  · simp [results, Try.results47, go_sem, four, sh, top]
  · repeat (first | exact Below.refl _ _ | apply below_alloc)
theorem bcell {W w1 : World} (hb : Below W.heap.size W w1) : (∀ b o, b < W.heap.size → w1.cell? ⟨b, o, none⟩ = W.cell? ⟨b, o, none⟩) ∧ (∀ b o, b < W.heap.size → w1.frozen? ⟨b, o, none⟩ = W.frozen? ⟨b, o, none⟩) :=
  ⟨fun b o h => hb.cell (p := ⟨b, o, none⟩) h, fun b o h => hb.frozen (p := ⟨b, o, none⟩) h⟩
theorem limbs_any (a b : Int) (w : World) (p1 : -9223372036854775808 ≤ a) (p2 : a ≤ 9223372036854775807) (p3 : 0 ≤ b) (p4 : b ≤ 18446744073709551615) :
    Calls Try.prog 46 #[.agg #[.int .i64 a, .int .u64 b]] w fun e w' => ∃ x0 x1 x2 x3 x4 x5 x6 x7 : Int, e = .returned (.agg #[.int .u32 x0, .int .u32 x1, .int .u32 x2, .int .u32 x3, .int .u32 x4, .int .u32 x5, .int .u32 x6, .int .u32 x7]) ∧ (0 ≤ x0 ∧ x0 ≤ 65535 ∧ 0 ≤ x1 ∧ x1 ≤ 65535 ∧ 0 ≤ x2 ∧ x2 ≤ 65535 ∧ 0 ≤ x3 ∧ x3 ≤ 65535 ∧ 0 ≤ x4 ∧ x4 ≤ 65535 ∧ 0 ≤ x5 ∧ x5 ≤ 65535 ∧ 0 ≤ x6 ∧ x6 ≤ 65535 ∧ 0 ≤ x7 ∧ x7 ≤ 65535) ∧
      (b = x0 + x1 * 65536 + x2 * 4294967296 + x3 * 281474976710656 ∧ a % 18446744073709551616 = x4 + x5 * 65536 + x6 * 4294967296 + x7 * 281474976710656) ∧ Below w.heap.size w w' :=
  (limbs_calls a b w p1 p2 p3 p4).mono fun e w' h => ⟨_, _, _, _, _, _, _, _, h.1, by omega, by omega, h.2⟩
theorem car_step {n x y c : Int} (hx : 0 ≤ x ∧ x ≤ 65535) (hy : 0 ≤ y ∧ y ≤ 65535) (hc : 0 ≤ c ∧ c ≤ 1) (e : n = x + y + c) :
    ∃ q r : Int, n / 65536 = q ∧ bits .and .u32 n 65535 = r ∧ x + y + c = 65536 * q + r ∧ (0 ≤ q ∧ q ≤ 1) ∧ (0 ≤ r ∧ r < 65536) := by
  refine ⟨n / 65536, n % 65536, rfl, and16 n (by omega) (by omega), by omega, by omega, by omega⟩
theorem four_sum {cin x0 x1 x2 x3 y0 y1 y2 y3 n0 n1 n2 n3 : Int} (hc : 0 ≤ cin ∧ cin ≤ 1) (h0 : 0 ≤ x0 ∧ x0 ≤ 65535) (h1 : 0 ≤ x1 ∧ x1 ≤ 65535) (h2 : 0 ≤ x2 ∧ x2 ≤ 65535) (h3 : 0 ≤ x3 ∧ x3 ≤ 65535)
    (g0 : 0 ≤ y0 ∧ y0 ≤ 65535) (g1 : 0 ≤ y1 ∧ y1 ≤ 65535) (g2 : 0 ≤ y2 ∧ y2 ≤ 65535) (g3 : 0 ≤ y3 ∧ y3 ≤ 65535)
    (e0 : n0 = x0 + y0 + cin) (e1 : n1 = x1 + y1 + n0 / 65536) (e2 : n2 = x2 + y2 + n1 / 65536) (e3 : n3 = x3 + y3 + n2 / 65536) :
    ∃ q : Int, n3 / 65536 = q ∧ (0 ≤ q ∧ q ≤ 1) ∧ four (bits .and .u32 n0 65535) (bits .and .u32 n1 65535) (bits .and .u32 n2 65535) (bits .and .u32 n3 65535) =
      (x0 + x1 * 65536 + x2 * 4294967296 + x3 * 281474976710656) + (y0 + y1 * 65536 + y2 * 4294967296 + y3 * 281474976710656) + cin - q * 18446744073709551616 ∧
      0 ≤ four (bits .and .u32 n0 65535) (bits .and .u32 n1 65535) (bits .and .u32 n2 65535) (bits .and .u32 n3 65535) ∧ four (bits .and .u32 n0 65535) (bits .and .u32 n1 65535) (bits .and .u32 n2 65535) (bits .and .u32 n3 65535) < 18446744073709551616 := by
  obtain ⟨q0, r0, a0, a1, a2, a3, a4⟩ := car_step h0 g0 hc e0
  rw [a0] at e1
  obtain ⟨q1, r1, b0, b1, b2, b3, b4⟩ := car_step h1 g1 a3 e1
  rw [b0] at e2
  obtain ⟨q2, r2, c0, c1, c2, c3, c4⟩ := car_step h2 g2 b3 e2
  rw [c0] at e3
  obtain ⟨q3, r3, d0, d1, d2, d3, d4⟩ := car_step h3 g3 c3 e3
  rw [a1, b1, c1, d1, four_eq r0 r1 r2 r3 a4 b4 c4 d4]
  clear e0 e1 e2 e3 a0 b0 c0 a1 b1 c1 d1 h0 h1 h2 h3 g0 g1 g2 g3
  exact ⟨q3, d0, d3, by omega, by omega, by omega⟩
theorem carries (a b c d x0 x1 x2 x3 x4 x5 x6 x7 y0 y1 y2 y3 y4 y5 y6 y7 n0 n1 n2 n3 n4 n5 n6 n7 : Int) (hx : 0 ≤ x0 ∧ x0 ≤ 65535 ∧ 0 ≤ x1 ∧ x1 ≤ 65535 ∧ 0 ≤ x2 ∧ x2 ≤ 65535 ∧ 0 ≤ x3 ∧ x3 ≤ 65535 ∧ 0 ≤ x4 ∧ x4 ≤ 65535 ∧ 0 ≤ x5 ∧ x5 ≤ 65535 ∧ 0 ≤ x6 ∧ x6 ≤ 65535 ∧ 0 ≤ x7 ∧ x7 ≤ 65535) (hy : 0 ≤ y0 ∧ y0 ≤ 65535 ∧ 0 ≤ y1 ∧ y1 ≤ 65535 ∧ 0 ≤ y2 ∧ y2 ≤ 65535 ∧ 0 ≤ y3 ∧ y3 ≤ 65535 ∧ 0 ≤ y4 ∧ y4 ≤ 65535 ∧ 0 ≤ y5 ∧ y5 ≤ 65535 ∧ 0 ≤ y6 ∧ y6 ≤ 65535 ∧ 0 ≤ y7 ∧ y7 ≤ 65535)
    (ex : b = x0 + x1 * 65536 + x2 * 4294967296 + x3 * 281474976710656 ∧ a % 18446744073709551616 = x4 + x5 * 65536 + x6 * 4294967296 + x7 * 281474976710656)
    (ey : d = y0 + y1 * 65536 + y2 * 4294967296 + y3 * 281474976710656 ∧ c % 18446744073709551616 = y4 + y5 * 65536 + y6 * 4294967296 + y7 * 281474976710656)
    (e0 : n0 = x0 + y0) (e1 : n1 = x1 + y1 + n0 / 65536) (e2 : n2 = x2 + y2 + n1 / 65536) (e3 : n3 = x3 + y3 + n2 / 65536) (e4 : n4 = x4 + y4 + n3 / 65536) (e5 : n5 = x5 + y5 + n4 / 65536) (e6 : n6 = x6 + y6 + n5 / 65536) (e7 : n7 = x7 + y7 + n6 / 65536) :
    wrap64 (four (bits .and .u32 n4 65535) (bits .and .u32 n5 65535) (bits .and .u32 n6 65535) (bits .and .u32 n7 65535)) = wrap64 (a + c + (b + d) / 18446744073709551616) ∧
    four (bits .and .u32 n0 65535) (bits .and .u32 n1 65535) (bits .and .u32 n2 65535) (bits .and .u32 n3 65535) = (b + d) % 18446744073709551616 := by
  obtain ⟨hx0, hx1, hx2, hx3, hx4, hx5, hx6, hx7, hx8, hx9, hx10, hx11, hx12, hx13, hx14, hx15⟩ := hx
  obtain ⟨hy0, hy1, hy2, hy3, hy4, hy5, hy6, hy7, hy8, hy9, hy10, hy11, hy12, hy13, hy14, hy15⟩ := hy
  obtain ⟨q, f0, f1, f2, f3, f4⟩ := four_sum (cin := 0) ⟨by decide, by decide⟩ ⟨hx0, hx1⟩ ⟨hx2, hx3⟩ ⟨hx4, hx5⟩ ⟨hx6, hx7⟩ ⟨hy0, hy1⟩ ⟨hy2, hy3⟩ ⟨hy4, hy5⟩ ⟨hy6, hy7⟩ (by rw [e0, Int.add_zero]) e1 e2 e3
  rw [f0] at e4
  obtain ⟨p, k0, k1, k2, k3, k4⟩ := four_sum f1 ⟨hx8, hx9⟩ ⟨hx10, hx11⟩ ⟨hx12, hx13⟩ ⟨hx14, hx15⟩ ⟨hy8, hy9⟩ ⟨hy10, hy11⟩ ⟨hy12, hy13⟩ ⟨hy14, hy15⟩ e4 e5 e6 e7
  rw [← ex.1, ← ey.1] at f2
  rw [← ex.2, ← ey.2] at k2
  generalize four (bits .and .u32 n0 65535) (bits .and .u32 n1 65535) (bits .and .u32 n2 65535) (bits .and .u32 n3 65535) = lo at *
  generalize four (bits .and .u32 n4 65535) (bits .and .u32 n5 65535) (bits .and .u32 n6 65535) (bits .and .u32 n7 65535) = hi at *
  clear ex ey e0 e1 e2 e3 e4 e5 e6 e7 hx0 hx1 hx2 hx3 hx4 hx5 hx6 hx7 hx8 hx9 hx10 hx11 hx12 hx13 hx14 hx15 hy0 hy1 hy2 hy3 hy4 hy5 hy6 hy7 hy8 hy9 hy10 hy11 hy12 hy13 hy14 hy15 f0 k0
  have e1 : (b + d) / 18446744073709551616 = q := by omega
  have e2 : (b + d) % 18446744073709551616 = lo := by omega
  rw [e1, e2]
  refine ⟨?_, rfl⟩
  clear e1 e2 f2 f3 f4
  rw [k2]
  unfold wrap64
  omega
set_option maxHeartbeats 4000000 in
set_option maxRecDepth 100000 in
theorem both_walk (a b c d : Int) (w : World) (p1 : -9223372036854775808 ≤ a) (p2 : a ≤ 9223372036854775807) (p3 : 0 ≤ b) (p4 : b ≤ 18446744073709551615) (p5 : -9223372036854775808 ≤ c) (p6 : c ≤ 9223372036854775807) (p7 : 0 ≤ d) (p8 : d ≤ 18446744073709551615) :
    Calls Try.prog 32 #[.agg #[.int .i64 a, .int .u64 b], .agg #[.int .i64 c, .int .u64 d]] w fun e w' => e = .returned (.agg #[.int .i64 (wrap64 (a + c + (b + d) / 18446744073709551616)), .int .u64 ((b + d) % 18446744073709551616)]) ∧ Below w.heap.size w w' := by
  go_enter Try.func32, Try.ntmps32
  go_wp2_with fail
  refine (limbs_any a b _ p1 p2 p3 p4).mono ?_
  rintro e w1 ⟨x0, x1, x2, x3, x4, x5, x6, x7, rfl, hx, hex, hb1⟩
  have HX := Aside0.mk hex
  clear hex
  have hz1 : w.heap.size + 1 + 1 < w1.heap.size := by have := hb1.size; simp at this; omega
  have hz0 : w.heap.size + 1 < w1.heap.size := by omega
  have b1 : w1.heap[w.heap.size + 1]? = some (.cells #[.int .i64 c, .int .u64 d] 24) := by
    have := blk_below (blk_alloc (blk_new (w.alloc _) _) _) hb1
    rwa [World.size_alloc] at this
  have b2 : w1.heap[w.heap.size + 1 + 1]? = some (.cells #[.int .i64 0, .int .u64 0] 24) := by
    have := blk_below (blk_new ((w.alloc _).alloc _) _) hb1
    rwa [World.size_alloc, World.size_alloc] at this
  have hB1 : Below w.heap.size w w1 := below_step (by repeat (first | exact Below.refl _ _ | apply below_alloc)) hb1
  clear hb1
  have c1 : w1.cell? ⟨w.heap.size + 1, 0, none⟩ = some (.int .i64 c) := (blk_cell b1 0).trans rfl
  have c2 : w1.cell? ⟨w.heap.size + 1, 1, none⟩ = some (.int .u64 d) := (blk_cell b1 1).trans rfl
  have B2 := Aside0.mk b2
  have HB1 := Aside0.mk hB1
  clear b1 b2 hB1
  go_wp2_with fail
  refine (limbs_any c d _ p5 p6 p7 p8).mono ?_
  rintro e w2 ⟨y0, y1, y2, y3, y4, y5, y6, y7, rfl, hy, hey, hb2⟩
  have HY := Aside0.mk hey
  clear c1 c2 hey p1 p2 p3 p4 p5 p6 p7 p8
  have b1 : w2.heap[w1.heap.size]? = some (.cells #[.int .u32 x0, .int .u32 x1, .int .u32 x2, .int .u32 x3, .int .u32 x4, .int .u32 x5, .int .u32 x6, .int .u32 x7] 78) := blk_below (blk_new w1 _) hb2
  have b2 := blk_below (blk_alloc B2.out _) hb2
  have hB2 : Below w.heap.size w w2 := below_step (by repeat (first | exact HB1.out | apply below_alloc)) hb2
  have hz2 : w1.heap.size < w2.heap.size := by have := hb2.size; simp at this; omega
  have hz3 : w.heap.size + 1 + 1 < w2.heap.size := by omega
  clear hb2 HB1 B2
  have B2 := Aside0.mk b2
  have HB2 := Aside0.mk hB2
  have B1 := Aside0.mk b1
  clear b2 hB2 b1
  have a0 : w2.cell? ⟨w1.heap.size, 0, none⟩ = some (.int .u32 x0) := (blk_cell B1.out 0).trans rfl
  have f0 : w2.frozen? ⟨w1.heap.size, 0, none⟩ = false := blk_frozen B1.out 0
  have a1 : w2.cell? ⟨w1.heap.size, 1, none⟩ = some (.int .u32 x1) := (blk_cell B1.out 1).trans rfl
  have f1 : w2.frozen? ⟨w1.heap.size, 1, none⟩ = false := blk_frozen B1.out 1
  have a2 : w2.cell? ⟨w1.heap.size, 2, none⟩ = some (.int .u32 x2) := (blk_cell B1.out 2).trans rfl
  have f2 : w2.frozen? ⟨w1.heap.size, 2, none⟩ = false := blk_frozen B1.out 2
  have a3 : w2.cell? ⟨w1.heap.size, 3, none⟩ = some (.int .u32 x3) := (blk_cell B1.out 3).trans rfl
  have f3 : w2.frozen? ⟨w1.heap.size, 3, none⟩ = false := blk_frozen B1.out 3
  have a4 : w2.cell? ⟨w1.heap.size, 4, none⟩ = some (.int .u32 x4) := (blk_cell B1.out 4).trans rfl
  have f4 : w2.frozen? ⟨w1.heap.size, 4, none⟩ = false := blk_frozen B1.out 4
  have a5 : w2.cell? ⟨w1.heap.size, 5, none⟩ = some (.int .u32 x5) := (blk_cell B1.out 5).trans rfl
  have f5 : w2.frozen? ⟨w1.heap.size, 5, none⟩ = false := blk_frozen B1.out 5
  have a6 : w2.cell? ⟨w1.heap.size, 6, none⟩ = some (.int .u32 x6) := (blk_cell B1.out 6).trans rfl
  have f6 : w2.frozen? ⟨w1.heap.size, 6, none⟩ = false := blk_frozen B1.out 6
  have a7 : w2.cell? ⟨w1.heap.size, 7, none⟩ = some (.int .u32 x7) := (blk_cell B1.out 7).trans rfl
  have f7 : w2.frozen? ⟨w1.heap.size, 7, none⟩ = false := blk_frozen B1.out 7
  obtain ⟨hx0, hx0', hx1, hx1', hx2, hx2', hx3, hx3', hx4, hx4', hx5, hx5', hx6, hx6', hx7, hx7'⟩ := hx
  obtain ⟨hy0, hy0', hy1, hy1', hy2, hy2', hy3, hy3', hy4, hy4', hy5, hy5', hy6, hy6', hy7, hy7'⟩ := hy
  go_wp2_with fail
  refine wp_loop_rounds 9 ?_
  rw [rounds_succ]
  go_wp2
  go_quiet (fail)
  go_wp2
  rw [rounds_succ]
  go_wp2
  go_quiet (fail)
  go_wp2
  rw [rounds_succ]
  go_wp2
  go_quiet (fail)
  go_wp2
  rw [rounds_succ]
  go_wp2
  go_quiet (fail)
  go_wp2
  rw [rounds_succ]
  go_wp2
  go_quiet (fail)
  go_wp2
  rw [rounds_succ]
  go_wp2
  go_quiet (fail)
  go_wp2
  rw [rounds_succ]
  go_wp2
  go_quiet (fail)
  go_wp2
  rw [rounds_succ]
  go_wp2
  go_quiet (fail)
  go_wp2
  rw [rounds_succ]
  go_wp2_with fail
  refine (of_calls _ _ _ _ _ _ _ _ _).mono ?_
  rintro e w3 ⟨rfl, hb3⟩
  have hn : w.heap.size + 1 + 1 ≠ w1.heap.size := by omega
  have hle : w.heap.size ≤ w1.heap.size := by omega
  have b2 : w3.heap[w.heap.size + 1 + 1]? = some (.cells #[.int .i64 0, .int .u64 0] 24) := blk_below (by with_reducible repeat (first | exact B2.out | refine blk_drewN ?_ _ | refine blk_far ?_ hn _ | refine blk_alloc ?_ _)) hb3
  have hB3 : Below w.heap.size w w3 := below_step (by with_reducible repeat (first | exact HB2.out | apply below_alloc | apply pw_below_drewN | refine below_set ?_ hle)) hb3
  clear hb3
  have c1 : w3.cell? ⟨w.heap.size + 1 + 1, 0, none⟩ = some (.int .i64 0) := (blk_cell b2 0).trans rfl
  have c2 : w3.cell? ⟨w.heap.size + 1 + 1, 1, none⟩ = some (.int .u64 0) := (blk_cell b2 1).trans rfl
  have f1' : w3.frozen? ⟨w.heap.size + 1 + 1, 0, none⟩ = false := blk_frozen b2 0
  have f2' : w3.frozen? ⟨w.heap.size + 1 + 1, 1, none⟩ = false := blk_frozen b2 1
  have HB3 := Aside0.mk hB3
  clear b2 hB3
  have hcar := carries a b c d x0 x1 x2 x3 x4 x5 x6 x7 y0 y1 y2 y3 y4 y5 y6 y7 _ _ _ _ _ _ _ _ ⟨hx0, hx0', hx1, hx1', hx2, hx2', hx3, hx3', hx4, hx4', hx5, hx5', hx6, hx6', hx7, hx7'⟩ ⟨hy0, hy0', hy1, hy1', hy2, hy2', hy3, hy3', hy4, hy4', hy5, hy5', hy6, hy6', hy7, hy7'⟩ HX.out HY.out rfl rfl rfl rfl rfl rfl rfl rfl
  rw [hcar.1, hcar.2]
  clear hcar a0 a1 a2 a3 a4 a5 a6 a7 f0 f1 f2 f3 f4 f5 f6 f7
  go_wp2
  refine bodyPost_ret (v := .agg #[.int .i64 _, .int .u64 _]) (by simp [results, Try.results32, go_sem, c1, c2, f1', f2']) rfl ⟨rfl, ?_⟩
  repeat (first | exact HB3.out | refine below_set ?_ (show w.heap.size ≤ w.heap.size + 1 + 1 by omega))
def headgateref01_Both.f (a0_0 : Int) (a0_1 : Int) (a1_0 : Int) (a1_1 : Int) : Option (Int × Int) := num_Both.f a0_0 a0_1 a1_0 a1_1
theorem headgateref01_Both.calls (a0_0 : Int) (a0_1 : Int) (a1_0 : Int) (a1_1 : Int) (r1 : Int) (r2 : Int) (w : World) (h : headgateref01_Both.f a0_0 a0_1 a1_0 a1_1 = some (r1, r2)) :
    Calls Try.prog 32 #[.agg #[.int .i64 a0_0, .int .u64 a0_1], .agg #[.int .i64 a1_0, .int .u64 a1_1]] w fun e w' => e = .returned (.agg #[.int .i64 r1, .int .u64 r2]) ∧ Below w.heap.size w w' := by
  unfold headgateref01_Both.f num_Both.f at h
  split at h
  · rename_i hp
    obtain ⟨⟨p1, p2, p3, p4⟩, p5, p6, p7, p8⟩ := hp
    have hr := Option.some.inj h
    unfold bothS at hr
    obtain ⟨rfl, rfl⟩ := Prod.mk.inj hr
    exact both_walk a0_0 a0_1 a1_0 a1_1 w p1 p2 p3 p4 p5 p6 p7 p8
  · cases h
end Go.Proofs.Ytphdbhneefmkcaa.Q
