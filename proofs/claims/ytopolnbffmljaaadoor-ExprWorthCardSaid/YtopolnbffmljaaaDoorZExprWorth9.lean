/- Texts of the claim, put together. -/
import Derived.Test.YtopolnbffmljaaaDoorZExprWorth6
import Derived.Laws.Externs
import Derived.Test.YtopolnbffmljaaaDoorZExprWorth4
import Derived.Test.YtopolnbffmljaaaDoorZExprWorth7
open Go.RowKit Go.Proofs.YtopolnbffmljaaaDoorW.PrintWords Go.Proofs.YtopolnbffmljaaaDoorW.PrintLast Go.Proofs.YtopolnbffmljaaaDoorW.PrintMore
set_option linter.unusedVariables false
set_option linter.unusedSimpArgs false
open List renaming setIfInBounds_toArray → zA, set_cons_zero → zB, set_cons_succ → zC
namespace Go.Proofs.YtopolnbffmljaaaDoor.Q
def Parts (a b : Int) : Prop := -9223372036854775808 ≤ a ∧ a ≤ 9223372036854775807 ∧ 0 ≤ b ∧ b ≤ 18446744073709551615
instance (a b : Int) : Decidable (Parts a b) := by unfold Parts; infer_instance
theorem u64_wrap (a : Int) (h0 : -9223372036854775808 ≤ a) (h1 : a ≤ 9223372036854775807) : IntKind.u64.wrap a = a % 18446744073709551616 := by
 rfl
end Go.Proofs.YtopolnbffmljaaaDoor.Q
namespace Go.Proofs.YtopolnbffmljaaaDoor.Q
theorem and16 (z : Int) (h0 : 0 ≤ z) (h1 : z < 4294967296) : bits .and .u32 z 65535 = z % 65536 := by go_bits2
def limbs (a b : Int) : Value := .agg #[.int .u32 (b % 65536), .int .u32 (b / 65536 % 65536), .int .u32 (b / 4294967296 % 65536), .int .u32 (b / 281474976710656 % 65536), .int .u32 (a % 65536), .int .u32 (a / 65536 % 65536), .int .u32 (a / 4294967296 % 65536), .int .u32 (a / 281474976710656 % 65536)]
theorem limbs_of (a b : Int) (p1 : -9223372036854775808 ≤ a) (p2 : a ≤ 9223372036854775807) (p3 : 0 ≤ b) (p4 : b ≤ 18446744073709551615) : Value.agg #[.int .u32 (bits .and .u32 (b % 4294967296) 65535), .int .u32 (bits .and .u32 (b / 65536 % 4294967296) 65535), .int .u32 (bits .and .u32 (b / 4294967296) 65535), .int .u32 (bits .and .u32 (b / 281474976710656) 65535),
  .int .u32 (bits .and .u32 (IntKind.u64.wrap a % 4294967296) 65535), .int .u32 (bits .and .u32 (IntKind.u64.wrap a / 65536 % 4294967296) 65535), .int .u32 (bits .and .u32 (IntKind.u64.wrap a / 4294967296 % 4294967296) 65535), .int .u32 (bits .and .u32 (IntKind.u64.wrap a / 281474976710656 % 4294967296) 65535)] = limbs a b := by
 unfold limbs
 rw [u64_wrap a p1 p2]
 simp only [and16 _ (show 0 ≤ b % 4294967296 by omega) (by omega), and16 _ (show 0 ≤ b / 65536 % 4294967296 by omega) (by omega), and16 _ (show 0 ≤ b / 4294967296 by omega) (by omega), and16 _ (show 0 ≤ b / 281474976710656 by omega) (by omega),
  and16 _ (show 0 ≤ a % 18446744073709551616 % 4294967296 by omega) (by omega), and16 _ (show 0 ≤ a % 18446744073709551616 / 65536 % 4294967296 by omega) (by omega), and16 _ (show 0 ≤ a % 18446744073709551616 / 4294967296 % 4294967296 by omega) (by omega), and16 _ (show 0 ≤ a % 18446744073709551616 / 281474976710656 % 4294967296 by omega) (by omega)]
 congr 2
 simp only [List.cons.injEq, Value.int.injEq, true_and, and_true]
 omega
set_option maxHeartbeats 1000000 in
set_option maxRecDepth 100000 in
theorem limbs_calls (a b : Int) (w : World) (p1 : -9223372036854775808 ≤ a) (p2 : a ≤ 9223372036854775807) (p3 : 0 ≤ b) (p4 : b ≤ 18446744073709551615) :
  Calls Tryd.prog 106 #[.agg #[.int .i64 a, .int .u64 b]] w fun e w' => e = .returned (limbs a b) ∧ Below w.heap.size w w' := by
 rw [← limbs_of a b p1 p2 p3 p4]
 go_enter Tryd.func106, Tryd.ntmps106
 go_wp2
 refine wp_loop_rounds 5 ?_
 rw [rounds_succ]
 go_wp2
 rw [rounds_succ]
 go_wp2
 rw [rounds_succ]
 go_wp2
 rw [rounds_succ]
 go_wp2
 rw [rounds_succ]
 go_wp2
 refine bodyPost_ret (v := .agg #[.int .u32 _, .int .u32 _, .int .u32 _, .int .u32 _, .int .u32 _, .int .u32 _, .int .u32 _, .int .u32 _]) (by simp [results, Tryd.results106, go_sem]) rfl ⟨rfl, ?_⟩
 repeat (first | exact Below.refl _ _ | apply below_alloc)
def sh (z x : Int) : Int := bits .or .u64 (IntKind.u64.wrap (z * 65536)) (IntKind.u64.wrap x)
theorem sh_eq (z x : Int) (h0 : 0 ≤ z) (h1 : z < 281474976710656) (h2 : 0 ≤ x) (h3 : x < 65536) : sh z x = z * 65536 + x := by
 unfold sh
 have e1 : IntKind.u64.wrap (z * 65536) = z * 65536 := by
  show z * 65536 % 18446744073709551616 = _
  omega
 have e2 : IntKind.u64.wrap x = x := by
  show x % 18446744073709551616 = _
  omega
 rw [e1, e2]
 obtain ⟨n, rfl⟩ := Int.eq_ofNat_of_zero_le h0
 obtain ⟨m, rfl⟩ := Int.eq_ofNat_of_zero_le h2
 rw [u64_or _ _ (by omega) (by omega) (by omega) (by omega)]
 have h4 : ((n : Int) * 65536).toNat = 2 ^ 16 * n := by omega
 have h5 : (m : Int).toNat = m := rfl
 rw [h4, h5, ← Nat.two_pow_add_eq_or_of_lt (show m < 2 ^ 16 by omega)]
 omega
def top (x : Int) : Int := bits .or .u64 0 (IntKind.u64.wrap x)
theorem top_eq (x : Int) (h2 : 0 ≤ x) (h3 : x < 65536) : top x = x := by
 have := sh_eq 0 x (by omega) (by omega) h2 h3
 unfold sh at this
 unfold top
 rw [show IntKind.u64.wrap ((0 : Int) * 65536) = 0 from rfl] at this
 omega
def four (x0 x1 x2 x3 : Int) : Int := sh (sh (sh (top x3) x2) x1) x0
theorem four_eq (x0 x1 x2 x3 : Int) (h0 : 0 ≤ x0 ∧ x0 < 65536) (h1 : 0 ≤ x1 ∧ x1 < 65536) (h2 : 0 ≤ x2 ∧ x2 < 65536) (h3 : 0 ≤ x3 ∧ x3 < 65536) : four x0 x1 x2 x3 = x3 * 281474976710656 + x2 * 4294967296 + x1 * 65536 + x0 := by
 unfold four
 rw [top_eq x3 h3.1 h3.2, sh_eq _ x2 (by omega) (by omega) h2.1 h2.2, sh_eq _ x1 (by omega) (by omega) h1.1 h1.2, sh_eq _ x0 (by omega) (by omega) h0.1 h0.2]
 omega
set_option maxHeartbeats 1000000 in
set_option maxRecDepth 100000 in
theorem of_calls (x0 x1 x2 x3 x4 x5 x6 x7 : Int) (w : World) :
  Calls Tryd.prog 107 #[.agg #[.int .u32 x0, .int .u32 x1, .int .u32 x2, .int .u32 x3, .int .u32 x4, .int .u32 x5, .int .u32 x6, .int .u32 x7]] w fun e w' => e = .returned (.agg #[.int .i64 (wrap64 (four x4 x5 x6 x7)), .int .u64 (four x0 x1 x2 x3)]) ∧ Below w.heap.size w w' := by
 go_enter Tryd.func107, Tryd.ntmps107
 go_wp2
 refine wp_loop_rounds 5 ?_
 rw [rounds_succ]
 go_wp2
 rw [rounds_succ]
 go_wp2
 rw [rounds_succ]
 go_wp2
 rw [rounds_succ]
 go_wp2
 rw [rounds_succ]
 go_wp2
 refine bodyPost_ret (v := .agg #[.int .i64 (wrap64 (four x4 x5 x6 x7)), .int .u64 (four x0 x1 x2 x3)]) ?_ rfl ⟨rfl, ?_⟩
 ·simp [results, Tryd.results107, go_sem, four, sh, top]
 ·repeat (first | exact Below.refl _ _ | apply below_alloc)
theorem limbs_any (a b : Int) (w : World) (p1 : -9223372036854775808 ≤ a) (p2 : a ≤ 9223372036854775807) (p3 : 0 ≤ b) (p4 : b ≤ 18446744073709551615) :
  Calls Tryd.prog 106 #[.agg #[.int .i64 a, .int .u64 b]] w fun e w' => ∃ x0 x1 x2 x3 x4 x5 x6 x7 : Int, e = .returned (.agg #[.int .u32 x0, .int .u32 x1, .int .u32 x2, .int .u32 x3, .int .u32 x4, .int .u32 x5, .int .u32 x6, .int .u32 x7]) ∧ (0 ≤ x0 ∧ x0 ≤ 65535 ∧ 0 ≤ x1 ∧ x1 ≤ 65535 ∧ 0 ≤ x2 ∧ x2 ≤ 65535 ∧ 0 ≤ x3 ∧ x3 ≤ 65535 ∧ 0 ≤ x4 ∧ x4 ≤ 65535 ∧ 0 ≤ x5 ∧ x5 ≤ 65535 ∧ 0 ≤ x6 ∧ x6 ≤ 65535 ∧ 0 ≤ x7 ∧ x7 ≤ 65535) ∧
   (b = x0 + x1 * 65536 + x2 * 4294967296 + x3 * 281474976710656 ∧ a % 18446744073709551616 = x4 + x5 * 65536 + x6 * 4294967296 + x7 * 281474976710656) ∧ Below w.heap.size w w' :=
 (limbs_calls a b w p1 p2 p3 p4).mono fun e w' h => ⟨_, _, _, _, _, _, _, _, h.1, by omega, by omega, h.2⟩
theorem car_step {n x y c : Int} (hx : 0 ≤ x ∧ x ≤ 65535) (hy : 0 ≤ y ∧ y ≤ 65535) (hc : 0 ≤ c ∧ c ≤ 1) (e : n = x + y + c) :
  ∃ q r : Int, n / 65536 = q ∧ bits .and .u32 n 65535 = r ∧ x + y + c = 65536 * q + r ∧ (0 ≤ q ∧ q ≤ 1) ∧ (0 ≤ r ∧ r < 65536) := by
 refine ⟨n / 65536, n % 65536, rfl, and16 n (by omega) (by omega), by omega, by omega, by omega⟩
theorem four_sum {cin x0 x1 x2 x3 y0 y1 y2 y3 n0 n1 n2 n3 : Int} (hc : 0 ≤ cin ∧ cin ≤ 1) (h0 : 0 ≤ x0 ∧ x0 ≤ 65535) (h1 : 0 ≤ x1 ∧ x1 ≤ 65535) (h2 : 0 ≤ x2 ∧ x2 ≤ 65535) (h3 : 0 ≤ x3 ∧ x3 ≤ 65535)
  (g0 : 0 ≤ y0 ∧ y0 ≤ 65535) (g1 : 0 ≤ y1 ∧ y1 ≤ 65535) (g2 : 0 ≤ y2 ∧ y2 ≤ 65535) (g3 : 0 ≤ y3 ∧ y3 ≤ 65535)
  (e0 : n0 = x0 + y0 + cin) (e1 : n1 = x1 + y1 + n0 / 65536) (e2 : n2 = x2 + y2 + n1 / 65536) (e3 : n3 = x3 + y3 + n2 / 65536) :
  ∃ q : Int, n3 / 65536 = q ∧ (0 ≤ q ∧ q ≤ 1) ∧ four (bits .and .u32 n0 65535) (bits .and .u32 n1 65535) (bits .and .u32 n2 65535) (bits .and .u32 n3 65535) =
   (x0 + x1 * 65536 + x2 * 4294967296 + x3 * 281474976710656) + (y0 + y1 * 65536 + y2 * 4294967296 + y3 * 281474976710656) + cin - q * 18446744073709551616 ∧
   0 ≤ four (bits .and .u32 n0 65535) (bits .and .u32 n1 65535) (bits .and .u32 n2 65535) (bits .and .u32 n3 65535) ∧ four (bits .and .u32 n0 65535) (bits .and .u32 n1 65535) (bits .and .u32 n2 65535) (bits .and .u32 n3 65535) < 18446744073709551616 := by
 obtain ⟨q0, r0, a0, a1, a2, a3, a4⟩ := car_step h0 g0 hc e0
 rw [a0] at e1
 obtain ⟨q1, r1, b0, b1, b2, b3, b4⟩ := car_step h1 g1 a3 e1
 rw [b0] at e2
 obtain ⟨q2, r2, c0, c1, c2, c3, c4⟩ := car_step h2 g2 b3 e2
 rw [c0] at e3
 obtain ⟨q3, r3, d0, d1, d2, d3, d4⟩ := car_step h3 g3 c3 e3
 rw [a1, b1, c1, d1, four_eq r0 r1 r2 r3 a4 b4 c4 d4]
 clear e0 e1 e2 e3 a0 b0 c0 a1 b1 c1 d1 h0 h1 h2 h3 g0 g1 g2 g3
 exact ⟨q3, d0, d3, by omega, by omega, by omega⟩
theorem carries (a b c d x0 x1 x2 x3 x4 x5 x6 x7 y0 y1 y2 y3 y4 y5 y6 y7 n0 n1 n2 n3 n4 n5 n6 n7 : Int) (hx : 0 ≤ x0 ∧ x0 ≤ 65535 ∧ 0 ≤ x1 ∧ x1 ≤ 65535 ∧ 0 ≤ x2 ∧ x2 ≤ 65535 ∧ 0 ≤ x3 ∧ x3 ≤ 65535 ∧ 0 ≤ x4 ∧ x4 ≤ 65535 ∧ 0 ≤ x5 ∧ x5 ≤ 65535 ∧ 0 ≤ x6 ∧ x6 ≤ 65535 ∧ 0 ≤ x7 ∧ x7 ≤ 65535) (hy : 0 ≤ y0 ∧ y0 ≤ 65535 ∧ 0 ≤ y1 ∧ y1 ≤ 65535 ∧ 0 ≤ y2 ∧ y2 ≤ 65535 ∧ 0 ≤ y3 ∧ y3 ≤ 65535 ∧ 0 ≤ y4 ∧ y4 ≤ 65535 ∧ 0 ≤ y5 ∧ y5 ≤ 65535 ∧ 0 ≤ y6 ∧ y6 ≤ 65535 ∧ 0 ≤ y7 ∧ y7 ≤ 65535)
  (ex : b = x0 + x1 * 65536 + x2 * 4294967296 + x3 * 281474976710656 ∧ a % 18446744073709551616 = x4 + x5 * 65536 + x6 * 4294967296 + x7 * 281474976710656)
  (ey : d = y0 + y1 * 65536 + y2 * 4294967296 + y3 * 281474976710656 ∧ c % 18446744073709551616 = y4 + y5 * 65536 + y6 * 4294967296 + y7 * 281474976710656)
  (e0 : n0 = x0 + y0) (e1 : n1 = x1 + y1 + n0 / 65536) (e2 : n2 = x2 + y2 + n1 / 65536) (e3 : n3 = x3 + y3 + n2 / 65536) (e4 : n4 = x4 + y4 + n3 / 65536) (e5 : n5 = x5 + y5 + n4 / 65536) (e6 : n6 = x6 + y6 + n5 / 65536) (e7 : n7 = x7 + y7 + n6 / 65536) :
  wrap64 (four (bits .and .u32 n4 65535) (bits .and .u32 n5 65535) (bits .and .u32 n6 65535) (bits .and .u32 n7 65535)) = wrap64 (a + c + (b + d) / 18446744073709551616) ∧
  four (bits .and .u32 n0 65535) (bits .and .u32 n1 65535) (bits .and .u32 n2 65535) (bits .and .u32 n3 65535) = (b + d) % 18446744073709551616 := by
 obtain ⟨hx0, hx1, hx2, hx3, hx4, hx5, hx6, hx7, hx8, hx9, hx10, hx11, hx12, hx13, hx14, hx15⟩ := hx
 obtain ⟨hy0, hy1, hy2, hy3, hy4, hy5, hy6, hy7, hy8, hy9, hy10, hy11, hy12, hy13, hy14, hy15⟩ := hy
 obtain ⟨q, f0, f1, f2, f3, f4⟩ := four_sum (cin := 0) ⟨by decide, by decide⟩ ⟨hx0, hx1⟩ ⟨hx2, hx3⟩ ⟨hx4, hx5⟩ ⟨hx6, hx7⟩ ⟨hy0, hy1⟩ ⟨hy2, hy3⟩ ⟨hy4, hy5⟩ ⟨hy6, hy7⟩ (by rw [e0, Int.add_zero]) e1 e2 e3
 rw [f0] at e4
 obtain ⟨p, k0, k1, k2, k3, k4⟩ := four_sum f1 ⟨hx8, hx9⟩ ⟨hx10, hx11⟩ ⟨hx12, hx13⟩ ⟨hx14, hx15⟩ ⟨hy8, hy9⟩ ⟨hy10, hy11⟩ ⟨hy12, hy13⟩ ⟨hy14, hy15⟩ e4 e5 e6 e7
 rw [← ex.1, ← ey.1] at f2
 rw [← ex.2, ← ey.2] at k2
 generalize four (bits .and .u32 n0 65535) (bits .and .u32 n1 65535) (bits .and .u32 n2 65535) (bits .and .u32 n3 65535) = lo at *
 generalize four (bits .and .u32 n4 65535) (bits .and .u32 n5 65535) (bits .and .u32 n6 65535) (bits .and .u32 n7 65535) = hi at *
 clear ex ey e0 e1 e2 e3 e4 e5 e6 e7 hx0 hx1 hx2 hx3 hx4 hx5 hx6 hx7 hx8 hx9 hx10 hx11 hx12 hx13 hx14 hx15 hy0 hy1 hy2 hy3 hy4 hy5 hy6 hy7 hy8 hy9 hy10 hy11 hy12 hy13 hy14 hy15 f0 k0
 have e1 : (b + d) / 18446744073709551616 = q := by omega
 have e2 : (b + d) % 18446744073709551616 = lo := by omega
 rw [e1, e2]
 refine ⟨?_, rfl⟩
 clear e1 e2 f2 f3 f4
 rw [k2]
 unfold wrap64
 omega
set_option maxHeartbeats 4000000 in
set_option maxRecDepth 100000 in
theorem both_walk (a b c d : Int) (w : World) (p1 : -9223372036854775808 ≤ a) (p2 : a ≤ 9223372036854775807) (p3 : 0 ≤ b) (p4 : b ≤ 18446744073709551615) (p5 : -9223372036854775808 ≤ c) (p6 : c ≤ 9223372036854775807) (p7 : 0 ≤ d) (p8 : d ≤ 18446744073709551615) :
  Calls Tryd.prog 104 #[.agg #[.int .i64 a, .int .u64 b], .agg #[.int .i64 c, .int .u64 d]] w fun e w' => e = .returned (.agg #[.int .i64 (wrap64 (a + c + (b + d) / 18446744073709551616)), .int .u64 ((b + d) % 18446744073709551616)]) ∧ Below w.heap.size w w' := by
 go_enter Tryd.func104, Tryd.ntmps104
 go_wp2_with fail
 refine (limbs_any a b _ p1 p2 p3 p4).mono ?_
 rintro e w1 ⟨x0, x1, x2, x3, x4, x5, x6, x7, rfl, hx, hex, hb1⟩
 have HX := Aside0.mk hex
 clear hex
 have hz1 : w.heap.size + 1 + 1 < w1.heap.size := by have := hb1.size; simp at this; omega
 have hz0 : w.heap.size + 1 < w1.heap.size := by omega
 have b1 : w1.heap[w.heap.size + 1]? = some (.cells #[.int .i64 c, .int .u64 d] 129) := by
  have := blk_below (blk_alloc (blk_new (w.alloc _) _) _) hb1
  rwa [World.size_alloc] at this
 have b2 : w1.heap[w.heap.size + 1 + 1]? = some (.cells #[.int .i64 0, .int .u64 0] 129) := by
  have := blk_below (blk_new ((w.alloc _).alloc _) _) hb1
  rwa [World.size_alloc, World.size_alloc] at this
 have hB1 : Below w.heap.size w w1 := below_step (by repeat (first | exact Below.refl _ _ | apply below_alloc)) hb1
 clear hb1
 have c1 : w1.cell? ⟨w.heap.size + 1, 0, none⟩ = some (.int .i64 c) := (blk_cell b1 0).trans rfl
 have c2 : w1.cell? ⟨w.heap.size + 1, 1, none⟩ = some (.int .u64 d) := (blk_cell b1 1).trans rfl
 have B2 := Aside0.mk b2
 have HB1 := Aside0.mk hB1
 clear b1 b2 hB1
 go_wp2_with fail
 refine (limbs_any c d _ p5 p6 p7 p8).mono ?_
 rintro e w2 ⟨y0, y1, y2, y3, y4, y5, y6, y7, rfl, hy, hey, hb2⟩
 have HY := Aside0.mk hey
 clear c1 c2 hey p1 p2 p3 p4 p5 p6 p7 p8
 have b1 : w2.heap[w1.heap.size]? = some (.cells #[.int .u32 x0, .int .u32 x1, .int .u32 x2, .int .u32 x3, .int .u32 x4, .int .u32 x5, .int .u32 x6, .int .u32 x7] 132) := blk_below (blk_new w1 _) hb2
 have b2 := blk_below (blk_alloc B2.out _) hb2
 have hB2 : Below w.heap.size w w2 := below_step (by repeat (first | exact HB1.out | apply below_alloc)) hb2
 have hz2 : w1.heap.size < w2.heap.size := by have := hb2.size; simp at this; omega
 have hz3 : w.heap.size + 1 + 1 < w2.heap.size := by omega
 clear hb2 HB1 B2
 have B2 := Aside0.mk b2
 have HB2 := Aside0.mk hB2
 have B1 := Aside0.mk b1
 clear b2 hB2 b1
 have a0 : w2.cell? ⟨w1.heap.size, 0, none⟩ = some (.int .u32 x0) := (blk_cell B1.out 0).trans rfl
 have f0 : w2.frozen? ⟨w1.heap.size, 0, none⟩ = false := blk_frozen B1.out 0
 have a1 : w2.cell? ⟨w1.heap.size, 1, none⟩ = some (.int .u32 x1) := (blk_cell B1.out 1).trans rfl
 have f1 : w2.frozen? ⟨w1.heap.size, 1, none⟩ = false := blk_frozen B1.out 1
 have a2 : w2.cell? ⟨w1.heap.size, 2, none⟩ = some (.int .u32 x2) := (blk_cell B1.out 2).trans rfl
 have f2 : w2.frozen? ⟨w1.heap.size, 2, none⟩ = false := blk_frozen B1.out 2
 have a3 : w2.cell? ⟨w1.heap.size, 3, none⟩ = some (.int .u32 x3) := (blk_cell B1.out 3).trans rfl
 have f3 : w2.frozen? ⟨w1.heap.size, 3, none⟩ = false := blk_frozen B1.out 3
 have a4 : w2.cell? ⟨w1.heap.size, 4, none⟩ = some (.int .u32 x4) := (blk_cell B1.out 4).trans rfl
 have f4 : w2.frozen? ⟨w1.heap.size, 4, none⟩ = false := blk_frozen B1.out 4
 have a5 : w2.cell? ⟨w1.heap.size, 5, none⟩ = some (.int .u32 x5) := (blk_cell B1.out 5).trans rfl
 have f5 : w2.frozen? ⟨w1.heap.size, 5, none⟩ = false := blk_frozen B1.out 5
 have a6 : w2.cell? ⟨w1.heap.size, 6, none⟩ = some (.int .u32 x6) := (blk_cell B1.out 6).trans rfl
 have f6 : w2.frozen? ⟨w1.heap.size, 6, none⟩ = false := blk_frozen B1.out 6
 have a7 : w2.cell? ⟨w1.heap.size, 7, none⟩ = some (.int .u32 x7) := (blk_cell B1.out 7).trans rfl
 have f7 : w2.frozen? ⟨w1.heap.size, 7, none⟩ = false := blk_frozen B1.out 7
 obtain ⟨hx0, hx0', hx1, hx1', hx2, hx2', hx3, hx3', hx4, hx4', hx5, hx5', hx6, hx6', hx7, hx7'⟩ := hx
 obtain ⟨hy0, hy0', hy1, hy1', hy2, hy2', hy3, hy3', hy4, hy4', hy5, hy5', hy6, hy6', hy7, hy7'⟩ := hy
 go_wp2_with fail
 refine wp_loop_rounds 9 ?_
 rw [rounds_succ]
 go_wp2
 go_quiet (fail)
 go_wp2
 rw [rounds_succ]
 go_wp2
 go_quiet (fail)
 go_wp2
 rw [rounds_succ]
 go_wp2
 go_quiet (fail)
 go_wp2
 rw [rounds_succ]
 go_wp2
 go_quiet (fail)
 go_wp2
 rw [rounds_succ]
 go_wp2
 go_quiet (fail)
 go_wp2
 rw [rounds_succ]
 go_wp2
 go_quiet (fail)
 go_wp2
 rw [rounds_succ]
 go_wp2
 go_quiet (fail)
 go_wp2
 rw [rounds_succ]
 go_wp2
 go_quiet (fail)
 go_wp2
 rw [rounds_succ]
 go_wp2_with fail
 refine (of_calls _ _ _ _ _ _ _ _ _).mono ?_
 rintro e w3 ⟨rfl, hb3⟩
 have hn : w.heap.size + 1 + 1 ≠ w1.heap.size := by omega
 have hle : w.heap.size ≤ w1.heap.size := by omega
 have b2 : w3.heap[w.heap.size + 1 + 1]? = some (.cells #[.int .i64 0, .int .u64 0] 129) := blk_below (by with_reducible repeat (first | exact B2.out | refine blk_drewN ?_ _ | refine blk_far ?_ hn _ | refine blk_alloc ?_ _)) hb3
 have hB3 : Below w.heap.size w w3 := below_step (by with_reducible repeat (first | exact HB2.out | apply below_alloc | apply pw_below_drewN | refine below_set ?_ hle)) hb3
 clear hb3
 have c1 : w3.cell? ⟨w.heap.size + 1 + 1, 0, none⟩ = some (.int .i64 0) := (blk_cell b2 0).trans rfl
 have c2 : w3.cell? ⟨w.heap.size + 1 + 1, 1, none⟩ = some (.int .u64 0) := (blk_cell b2 1).trans rfl
 have f1' : w3.frozen? ⟨w.heap.size + 1 + 1, 0, none⟩ = false := blk_frozen b2 0
 have f2' : w3.frozen? ⟨w.heap.size + 1 + 1, 1, none⟩ = false := blk_frozen b2 1
 have HB3 := Aside0.mk hB3
 clear b2 hB3
 have hcar := carries a b c d x0 x1 x2 x3 x4 x5 x6 x7 y0 y1 y2 y3 y4 y5 y6 y7 _ _ _ _ _ _ _ _ ⟨hx0, hx0', hx1, hx1', hx2, hx2', hx3, hx3', hx4, hx4', hx5, hx5', hx6, hx6', hx7, hx7'⟩ ⟨hy0, hy0', hy1, hy1', hy2, hy2', hy3, hy3', hy4, hy4', hy5, hy5', hy6, hy6', hy7, hy7'⟩ HX.out HY.out rfl rfl rfl rfl rfl rfl rfl rfl
 rw [hcar.1, hcar.2]
 clear hcar a0 a1 a2 a3 a4 a5 a6 a7 f0 f1 f2 f3 f4 f5 f6 f7
 go_wp2
 refine bodyPost_ret (v := .agg #[.int .i64 _, .int .u64 _]) (by simp [results, Tryd.results104, go_sem, c1, c2, f1', f2']) rfl ⟨rfl, ?_⟩
 repeat (first | exact HB3.out | refine below_set ?_ (show w.heap.size ≤ w.heap.size + 1 + 1 by omega))
end Go.Proofs.YtopolnbffmljaaaDoor.Q
namespace Go.Proofs.YtopolnbffmljaaaDoor.Q
def signOf (b : Int) : Int := if 9223372036854775808 ≤ b then -1 else 0
theorem sign_limbs {a b x0 x1 x2 x3 x4 x5 x6 x7 s : Int} (p1 : -9223372036854775808 ≤ a) (p2 : a ≤ 9223372036854775807) (h0 : 0 ≤ x0 ∧ x0 ≤ 65535) (h1 : 0 ≤ x1 ∧ x1 ≤ 65535) (h2 : 0 ≤ x2 ∧ x2 ≤ 65535) (h3 : 0 ≤ x3 ∧ x3 ≤ 65535) (h4 : 0 ≤ x4 ∧ x4 ≤ 65535) (h5 : 0 ≤ x5 ∧ x5 ≤ 65535) (h6 : 0 ≤ x6 ∧ x6 ≤ 65535) (h7 : 0 ≤ x7 ∧ x7 ≤ 65535)
  (ex : b = x0 + x1 * 65536 + x2 * 4294967296 + x3 * 281474976710656 ∧ a % 18446744073709551616 = x4 + x5 * 65536 + x6 * 4294967296 + x7 * 281474976710656) (hs : s = if 32768 ≤ x3 then 65535 else 0) :
  (a = signOf b) ↔ (x4 = s ∧ x5 = s ∧ x6 = s ∧ x7 = s) := by
 have hb : (9223372036854775808 ≤ b) ↔ 32768 ≤ x3 := by omega
 unfold signOf
 by_cases h : 32768 ≤ x3
 ·rw [if_pos (hb.2 h)]
  rw [if_pos h] at hs
  subst hs
  clear hb
  omega
 ·rw [if_neg (fun z => h (hb.1 z))]
  rw [if_neg h] at hs
  subst hs
  clear hb
  omega
def intRes (a b : Int) : Value := if a = signOf b then .tuple #[.int .i64 (wrap64 b), .bool true] else .tuple #[.int .i64 0, .bool false]
set_option maxHeartbeats 4000000 in
set_option maxRecDepth 100000 in
theorem int_walk (a b : Int) (w : World) (p1 : -9223372036854775808 ≤ a) (p2 : a ≤ 9223372036854775807) (p3 : 0 ≤ b) (p4 : b ≤ 18446744073709551615) :
  Calls Tryd.prog 103 #[.agg #[.int .i64 a, .int .u64 b]] w fun e w' => e = .returned (intRes a b) ∧ Below w.heap.size w w' := by
 have hsg := fun (x0 x1 x2 x3 x4 x5 x6 x7 : Int) (h : 0 ≤ x0 ∧ x0 ≤ 65535 ∧ 0 ≤ x1 ∧ x1 ≤ 65535 ∧ 0 ≤ x2 ∧ x2 ≤ 65535 ∧ 0 ≤ x3 ∧ x3 ≤ 65535 ∧ 0 ≤ x4 ∧ x4 ≤ 65535 ∧ 0 ≤ x5 ∧ x5 ≤ 65535 ∧ 0 ≤ x6 ∧ x6 ≤ 65535 ∧ 0 ≤ x7 ∧ x7 ≤ 65535) e => @sign_limbs a b x0 x1 x2 x3 x4 x5 x6 x7 (if 32768 ≤ x3 then 65535 else 0) p1 p2 (by omega) (by omega) (by omega) (by omega) (by omega) (by omega) (by omega) (by omega) e rfl
 have HSG := Aside0.mk hsg
 clear hsg
 go_enter Tryd.func103, Tryd.ntmps103
 go_wp2_with fail
 refine (limbs_any a b _ p1 p2 p3 p4).mono ?_
 rintro e w1 ⟨x0, x1, x2, x3, x4, x5, x6, x7, rfl, hx, hex, hb1⟩
 have hiff := HSG.out x0 x1 x2 x3 x4 x5 x6 x7 hx hex
 have HI := Aside0.mk hiff
 have hz0 : w.heap.size < w1.heap.size := by have := hb1.size; simp at this; omega
 have b0 : w1.heap[w.heap.size]? = some (.cells #[.int .i64 a, .int .u64 b] 129) := blk_below (blk_new w _) hb1
 have hB : Below w.heap.size w w1 := below_step (by repeat (first | exact Below.refl _ _ | apply below_alloc)) hb1
 have HB := Aside0.mk hB
 have c0 : w1.cell? ⟨w.heap.size, 1, none⟩ = some (.int .u64 b) := (blk_cell b0 1).trans rfl
 clear hex hb1 hiff HSG b0 hB p1 p2
 obtain ⟨hx0, hx0', hx1, hx1', hx2, hx2', hx3, hx3', hx4, hx4', hx5, hx5', hx6, hx6', hx7, hx7'⟩ := hx
 by_cases h3 : 32768 ≤ x3
 ·by_cases e4 : x4 = 65535
  ·subst e4
   by_cases e5 : x5 = 65535
   ·subst e5
    by_cases e6 : x6 = 65535
    ·subst e6
     by_cases e7 : x7 = 65535
     ·subst e7
      have hyes : a = signOf b := HI.out.2 ⟨by first | rw [if_pos h3] | rw [if_neg h3], by first | rw [if_pos h3] | rw [if_neg h3], by first | rw [if_pos h3] | rw [if_neg h3], by first | rw [if_pos h3] | rw [if_neg h3]⟩
      have HY := Aside0.mk hyes
      clear hyes
      go_wp2_with fail
      refine wp_loop_rounds 5 ?_
      rw [rounds_succ]
      go_wp2
      rw [rounds_succ]
      go_wp2
      rw [rounds_succ]
      go_wp2
      rw [rounds_succ]
      go_wp2
      rw [rounds_succ]
      go_wp2
      go_ret2
      exact ⟨by unfold intRes; rw [if_pos HY.out]; rfl, by with_reducible repeat (first | exact HB.out | apply below_alloc)⟩
     ·have hne : (x7 != 65535) = true := by rw [bne_iff_ne]; exact e7
      have hno : ¬ a = signOf b := fun h => e7 (by have z := HI.out.1 h; (first | rw [if_pos h3] at z | rw [if_neg h3] at z); exact z.2.2.2)
      have HN := Aside0.mk hno
      clear hno e7
      go_wp2_with fail
      refine wp_loop_rounds 4 ?_
      rw [rounds_succ]
      go_wp2
      rw [rounds_succ]
      go_wp2
      rw [rounds_succ]
      go_wp2
      rw [rounds_succ]
      go_wp2
      go_ret2
      exact ⟨by unfold intRes; rw [if_neg HN.out]; rfl, by with_reducible repeat (first | exact HB.out | apply below_alloc)⟩
    ·have hne : (x6 != 65535) = true := by rw [bne_iff_ne]; exact e6
     have hno : ¬ a = signOf b := fun h => e6 (by have z := HI.out.1 h; (first | rw [if_pos h3] at z | rw [if_neg h3] at z); exact z.2.2.1)
     have HN := Aside0.mk hno
     clear hno e6
     go_wp2_with fail
     refine wp_loop_rounds 3 ?_
     rw [rounds_succ]
     go_wp2
     rw [rounds_succ]
     go_wp2
     rw [rounds_succ]
     go_wp2
     go_ret2
     exact ⟨by unfold intRes; rw [if_neg HN.out]; rfl, by with_reducible repeat (first | exact HB.out | apply below_alloc)⟩
   ·have hne : (x5 != 65535) = true := by rw [bne_iff_ne]; exact e5
    have hno : ¬ a = signOf b := fun h => e5 (by have z := HI.out.1 h; (first | rw [if_pos h3] at z | rw [if_neg h3] at z); exact z.2.1)
    have HN := Aside0.mk hno
    clear hno e5
    go_wp2_with fail
    refine wp_loop_rounds 2 ?_
    rw [rounds_succ]
    go_wp2
    rw [rounds_succ]
    go_wp2
    go_ret2
    exact ⟨by unfold intRes; rw [if_neg HN.out]; rfl, by with_reducible repeat (first | exact HB.out | apply below_alloc)⟩
  ·have hne : (x4 != 65535) = true := by rw [bne_iff_ne]; exact e4
   have hno : ¬ a = signOf b := fun h => e4 (by have z := HI.out.1 h; (first | rw [if_pos h3] at z | rw [if_neg h3] at z); exact z.1)
   have HN := Aside0.mk hno
   clear hno e4
   go_wp2_with fail
   refine wp_loop_rounds 1 ?_
   rw [rounds_succ]
   go_wp2
   go_ret2
   exact ⟨by unfold intRes; rw [if_neg HN.out]; rfl, by with_reducible repeat (first | exact HB.out | apply below_alloc)⟩
 ·by_cases e4 : x4 = 0
  ·subst e4
   by_cases e5 : x5 = 0
   ·subst e5
    by_cases e6 : x6 = 0
    ·subst e6
     by_cases e7 : x7 = 0
     ·subst e7
      have hyes : a = signOf b := HI.out.2 ⟨by first | rw [if_pos h3] | rw [if_neg h3], by first | rw [if_pos h3] | rw [if_neg h3], by first | rw [if_pos h3] | rw [if_neg h3], by first | rw [if_pos h3] | rw [if_neg h3]⟩
      have HY := Aside0.mk hyes
      clear hyes
      go_wp2_with fail
      refine wp_loop_rounds 5 ?_
      rw [rounds_succ]
      go_wp2
      rw [rounds_succ]
      go_wp2
      rw [rounds_succ]
      go_wp2
      rw [rounds_succ]
      go_wp2
      rw [rounds_succ]
      go_wp2
      go_ret2
      exact ⟨by unfold intRes; rw [if_pos HY.out]; rfl, by with_reducible repeat (first | exact HB.out | apply below_alloc)⟩
     ·have hne : (x7 != 0) = true := by rw [bne_iff_ne]; exact e7
      have hno : ¬ a = signOf b := fun h => e7 (by have z := HI.out.1 h; (first | rw [if_pos h3] at z | rw [if_neg h3] at z); exact z.2.2.2)
      have HN := Aside0.mk hno
      clear hno e7
      go_wp2_with fail
      refine wp_loop_rounds 4 ?_
      rw [rounds_succ]
      go_wp2
      rw [rounds_succ]
      go_wp2
      rw [rounds_succ]
      go_wp2
      rw [rounds_succ]
      go_wp2
      go_ret2
      exact ⟨by unfold intRes; rw [if_neg HN.out]; rfl, by with_reducible repeat (first | exact HB.out | apply below_alloc)⟩
    ·have hne : (x6 != 0) = true := by rw [bne_iff_ne]; exact e6
     have hno : ¬ a = signOf b := fun h => e6 (by have z := HI.out.1 h; (first | rw [if_pos h3] at z | rw [if_neg h3] at z); exact z.2.2.1)
     have HN := Aside0.mk hno
     clear hno e6
     go_wp2_with fail
     refine wp_loop_rounds 3 ?_
     rw [rounds_succ]
     go_wp2
     rw [rounds_succ]
     go_wp2
     rw [rounds_succ]
     go_wp2
     go_ret2
     exact ⟨by unfold intRes; rw [if_neg HN.out]; rfl, by with_reducible repeat (first | exact HB.out | apply below_alloc)⟩
   ·have hne : (x5 != 0) = true := by rw [bne_iff_ne]; exact e5
    have hno : ¬ a = signOf b := fun h => e5 (by have z := HI.out.1 h; (first | rw [if_pos h3] at z | rw [if_neg h3] at z); exact z.2.1)
    have HN := Aside0.mk hno
    clear hno e5
    go_wp2_with fail
    refine wp_loop_rounds 2 ?_
    rw [rounds_succ]
    go_wp2
    rw [rounds_succ]
    go_wp2
    go_ret2
    exact ⟨by unfold intRes; rw [if_neg HN.out]; rfl, by with_reducible repeat (first | exact HB.out | apply below_alloc)⟩
  ·have hne : (x4 != 0) = true := by rw [bne_iff_ne]; exact e4
   have hno : ¬ a = signOf b := fun h => e4 (by have z := HI.out.1 h; (first | rw [if_pos h3] at z | rw [if_neg h3] at z); exact z.1)
   have HN := Aside0.mk hno
   clear hno e4
   go_wp2_with fail
   refine wp_loop_rounds 1 ?_
   rw [rounds_succ]
   go_wp2
   go_ret2
   exact ⟨by unfold intRes; rw [if_neg HN.out]; rfl, by with_reducible repeat (first | exact HB.out | apply below_alloc)⟩
end Go.Proofs.YtopolnbffmljaaaDoor.Q
namespace Go.Proofs.YtopolnbffmljaaaDoor.Q
def fit (x : Int) : Int × Int := if in64 x then (x, 0) else (0, 10)
theorem wide_calls (a : Int) (w : World) (h : in64 a) : Calls Tryd.prog 105 #[.int .i64 a] w fun e w' => ∃ b c : Int, e = .returned (.agg #[.int .i64 b, .int .u64 c]) ∧ (-9223372036854775808 ≤ b ∧ b ≤ 9223372036854775807 ∧ 0 ≤ c ∧ c ≤ 18446744073709551615) ∧ a = b * 18446744073709551616 + c ∧ Below w.heap.size w w' := by
 unfold in64 at h
 by_cases h0 : a < 0
 ·refine (headgateref01_Wide.calls a (-1) (IntKind.u64.wrap a) w (by unfold headgateref01_Wide.f; rw [if_pos h0])).mono fun e w' hq => ⟨_, _, hq.1, ?_, ?_, ?_⟩
  ·rw [u64_wrap a h.1 h.2]; omega
  ·rw [u64_wrap a h.1 h.2]; omega
  ·first | exact hq.2 | (obtain ⟨n, rfl⟩ := hq.2.out; exact pw_below_drewN (Below.refl _ _) n)
 ·refine (headgateref01_Wide.calls a 0 (IntKind.u64.wrap a) w (by unfold headgateref01_Wide.f; rw [if_neg h0])).mono fun e w' hq => ⟨_, _, hq.1, ?_, ?_, ?_⟩
  ·rw [u64_wrap a h.1 h.2]; omega
  ·rw [u64_wrap a h.1 h.2]; omega
  ·first | exact hq.2 | (obtain ⟨n, rfl⟩ := hq.2.out; exact pw_below_drewN (Below.refl _ _) n)
theorem both_calls (a b c d : Int) (w : World) (hp : -9223372036854775808 ≤ a ∧ a ≤ 9223372036854775807 ∧ 0 ≤ b ∧ b ≤ 18446744073709551615) (hq : -9223372036854775808 ≤ c ∧ c ≤ 9223372036854775807 ∧ 0 ≤ d ∧ d ≤ 18446744073709551615) :
  Calls Tryd.prog 104 #[.agg #[.int .i64 a, .int .u64 b], .agg #[.int .i64 c, .int .u64 d]] w fun e w' => ∃ x y : Int, e = .returned (.agg #[.int .i64 x, .int .u64 y]) ∧ (-9223372036854775808 ≤ x ∧ x ≤ 9223372036854775807 ∧ 0 ≤ y ∧ y ≤ 18446744073709551615) ∧
   (x = wrap64 (a + c + (b + d) / 18446744073709551616) ∧ y = (b + d) % 18446744073709551616) ∧ Below w.heap.size w w' :=
 (both_walk a b c d w hp.1 hp.2.1 hp.2.2.1 hp.2.2.2 hq.1 hq.2.1 hq.2.2.1 hq.2.2.2).mono fun e w' h => ⟨_, _, h.1, by unfold wrap64; omega, ⟨rfl, rfl⟩, h.2⟩
theorem of_any (z0 z1 z2 z3 z4 z5 z6 z7 : Int) (w : World) (h : 0 ≤ z0 ∧ z0 ≤ 65535 ∧ 0 ≤ z1 ∧ z1 ≤ 65535 ∧ 0 ≤ z2 ∧ z2 ≤ 65535 ∧ 0 ≤ z3 ∧ z3 ≤ 65535 ∧ 0 ≤ z4 ∧ z4 ≤ 65535 ∧ 0 ≤ z5 ∧ z5 ≤ 65535 ∧ 0 ≤ z6 ∧ z6 ≤ 65535 ∧ 0 ≤ z7 ∧ z7 ≤ 65535) :
  Calls Tryd.prog 107 #[.agg #[.int .u32 z0, .int .u32 z1, .int .u32 z2, .int .u32 z3, .int .u32 z4, .int .u32 z5, .int .u32 z6, .int .u32 z7]] w fun e w' => ∃ x y : Int, e = .returned (.agg #[.int .i64 x, .int .u64 y]) ∧ (-9223372036854775808 ≤ x ∧ x ≤ 9223372036854775807 ∧ 0 ≤ y ∧ y ≤ 18446744073709551615) ∧
   (x = wrap64 (z7 * 281474976710656 + z6 * 4294967296 + z5 * 65536 + z4) ∧ y = z3 * 281474976710656 + z2 * 4294967296 + z1 * 65536 + z0) ∧ Below w.heap.size w w' := by
 refine (of_calls z0 z1 z2 z3 z4 z5 z6 z7 w).mono fun e w' hq => ⟨_, _, hq.1, ?_, ⟨?_, ?_⟩, hq.2⟩
 ·rw [four_eq z4 z5 z6 z7 (by omega) (by omega) (by omega) (by omega), four_eq z0 z1 z2 z3 (by omega) (by omega) (by omega) (by omega)]
  unfold wrap64
  omega
 ·rw [four_eq z4 z5 z6 z7 (by omega) (by omega) (by omega) (by omega)]
 ·rw [four_eq z0 z1 z2 z3 (by omega) (by omega) (by omega) (by omega)]
def fitRes (x : Int) : Value := if in64 x then .tuple #[.int .i64 x, .bool true] else .tuple #[.int .i64 0, .bool false]
theorem int_calls (a b x : Int) (w : World) (hp : -9223372036854775808 ≤ a ∧ a ≤ 9223372036854775807 ∧ 0 ≤ b ∧ b ≤ 18446744073709551615) (hx : x = a * 18446744073709551616 + b) :
  Calls Tryd.prog 103 #[.agg #[.int .i64 a, .int .u64 b]] w fun e w' => e = .returned (fitRes x) ∧ Below w.heap.size w w' := by
 refine (int_walk a b w hp.1 hp.2.1 hp.2.2.1 hp.2.2.2).mono fun e w' h => ⟨?_, h.2⟩
 rw [h.1]
 unfold intRes fitRes signOf
 by_cases hb : 9223372036854775808 ≤ b
 ·rw [if_pos hb]
  by_cases ha : a = -1
  ·rw [if_pos ha, if_pos (show in64 x from ⟨by omega, by omega⟩), show wrap64 b = x by unfold wrap64; omega]
  ·rw [if_neg ha, if_neg (fun h : in64 x => by unfold in64 at h; omega)]
 ·rw [if_neg hb]
  by_cases ha : a = 0
  ·rw [if_pos ha, if_pos (show in64 x from ⟨by omega, by omega⟩), show wrap64 b = x by unfold wrap64; omega]
  ·rw [if_neg ha, if_neg (fun h : in64 x => by unfold in64 at h; omega)]
theorem fit_cases (x : Int) : (fitRes x = .tuple #[.int .i64 x, .bool true] ∧ fit x = (x, 0)) ∨ (fitRes x = .tuple #[.int .i64 0, .bool false] ∧ fit x = (0, 10)) := by
 unfold fitRes fit
 by_cases h : in64 x
 ·exact .inl ⟨if_pos h, if_pos h⟩
 ·exact .inr ⟨if_neg h, if_neg h⟩
set_option maxHeartbeats 4000000 in
set_option maxRecDepth 100000 in
theorem do_add (a b : Int) (w : World) (ha : in64 a) (hb : in64 b) :
  Calls Tryd.prog 84 #[.int .i64 4, .int .i64 a, .int .i64 b] w fun e w' => e = .returned (.tuple #[.int .i64 (fit (a + b)).1, .int .i64 (fit (a + b)).2]) ∧ Below w.heap.size w w' := by
 rcases fit_cases (a + b) with ⟨hr, hf⟩ | ⟨hr, hf⟩
 all_goals
  rw [hf]
  have HR := Aside0.mk hr
  clear hr hf
  have HA := Aside0.mk ha
  have HB := Aside0.mk hb
  clear ha hb
  go_enter Tryd.func84, Tryd.ntmps84
  go_wp2_with fail
  refine (wide_calls a _ HA.out).mono ?_
  rintro e w1 ⟨b1, c1, rfl, h1, e1, hb1⟩
  have E1 := Aside0.mk e1
  have H1 := Aside0.mk h1
  have B := Aside0.mk hb1
  clear e1 h1 hb1
  go_wp2_with fail
  refine (wide_calls b _ HB.out).mono ?_
  rintro e w2 ⟨b2, c2, rfl, h2, e2, hb2⟩
  have E2 := Aside0.mk e2
  have H2 := Aside0.mk h2
  have B2 := Aside0.mk (below_step B.out hb2)
  clear e2 h2 hb2 B
  go_wp2_with fail
  refine (both_calls b1 c1 b2 c2 _ H1.out H2.out).mono ?_
  rintro e w3 ⟨x, y, rfl, h3, e3, hb3⟩
  have HX : Aside0 (a + b = x * 18446744073709551616 + y) := Aside0.mk (by
   have z1 := E1.out; have z2 := E2.out; have z3 := H1.out; have z4 := H2.out; have z5 := HA.out; have z6 := HB.out
   unfold in64 at z5 z6
   unfold wrap64 at e3
   omega)
  have H3 := Aside0.mk h3
  have B3 := Aside0.mk (below_step B2.out hb3)
  clear e3 h3 hb3 B2
  go_wp2_with fail
  refine (int_calls x y (a + b) _ H3.out HX.out).mono ?_
  rintro e w4 ⟨rfl, hb4⟩
  have B4 := Aside0.mk (below_step B3.out hb4)
  clear hb4 B3
  rw [HR.out]
  go_wp2
  go_ret2
  exact ⟨rfl, B4.out⟩
theorem sub_eq {a b b1 c1 b2 c2 b3 c3 x y x' y' x'' y'' x0 x1 x2 x3 x4 x5 x6 x7 : Int} (z5 : in64 a) (z6 : in64 b) (f1 : b = b1 * 18446744073709551616 + c1) (f2 : a = b2 * 18446744073709551616 + c2)
  (f3 : x = wrap64 ((65535 - x7) * 281474976710656 + (65535 - x6) * 4294967296 + (65535 - x5) * 65536 + (65535 - x4)) ∧ y = (65535 - x3) * 281474976710656 + (65535 - x2) * 4294967296 + (65535 - x1) * 65536 + (65535 - x0))
  (f4 : x' = wrap64 (b2 + x + (c2 + y) / 18446744073709551616) ∧ y' = (c2 + y) % 18446744073709551616) (f5 : 1 = b3 * 18446744073709551616 + c3) (e6 : x'' = wrap64 (x' + b3 + (y' + c3) / 18446744073709551616) ∧ y'' = (y' + c3) % 18446744073709551616)
  (f0 : c1 = x0 + x1 * 65536 + x2 * 4294967296 + x3 * 281474976710656 ∧ b1 % 18446744073709551616 = x4 + x5 * 65536 + x6 * 4294967296 + x7 * 281474976710656)
  (g1 : -9223372036854775808 ≤ b1 ∧ b1 ≤ 9223372036854775807 ∧ 0 ≤ c1 ∧ c1 ≤ 18446744073709551615) (g2 : -9223372036854775808 ≤ b2 ∧ b2 ≤ 9223372036854775807 ∧ 0 ≤ c2 ∧ c2 ≤ 18446744073709551615) (g5 : -9223372036854775808 ≤ b3 ∧ b3 ≤ 9223372036854775807 ∧ 0 ≤ c3 ∧ c3 ≤ 18446744073709551615)
  (hx : 0 ≤ x0 ∧ x0 ≤ 65535 ∧ 0 ≤ x1 ∧ x1 ≤ 65535 ∧ 0 ≤ x2 ∧ x2 ≤ 65535 ∧ 0 ≤ x3 ∧ x3 ≤ 65535 ∧ 0 ≤ x4 ∧ x4 ≤ 65535 ∧ 0 ≤ x5 ∧ x5 ≤ 65535 ∧ 0 ≤ x6 ∧ x6 ≤ 65535 ∧ 0 ≤ x7 ∧ x7 ≤ 65535) : a - b = x'' * 18446744073709551616 + y'' := by
 unfold in64 at z5 z6
 have q1 : b3 = 0 ∧ c3 = 1 := by clear f0 f1 f2 f3 f4 e6 hx g1 g2 z5 z6; omega
 have q2 : y = 18446744073709551615 - c1 := by clear f1 f2 f4 e6 g1 g2 g5 z5 z6; omega
 have q3 : x = -1 - b1 := by
  rw [f3.1]
  have : (65535 - x7) * 281474976710656 + (65535 - x6) * 4294967296 + (65535 - x5) * 65536 + (65535 - x4) = 18446744073709551615 - b1 % 18446744073709551616 := by clear f1 f2 f4 e6 g1 g2 g5 z5 z6; omega
  rw [this]
  unfold wrap64
  clear f0 f1 f2 f3 f4 f5 this hx e6
  omega
 clear f0 f3 f5 hx
 obtain ⟨rfl, rfl⟩ := q1
 obtain ⟨f41, f42⟩ := f4
 obtain ⟨e61, e62⟩ := e6
 subst q2 q3
 have s1 : b1 = 0 ∨ b1 = -1 := by omega
 have s2 : b2 = 0 ∨ b2 = -1 := by omega
 have r1 : x' = -1 + b2 - b1 + (c2 + (18446744073709551615 - c1)) / 18446744073709551616 := by
  rw [f41]
  unfold wrap64
  omega
 have r2 : x'' = x' + (y' + 1) / 18446744073709551616 := by
  rw [e61]
  unfold wrap64
  omega
 omega
set_option maxHeartbeats 4000000 in
set_option maxRecDepth 100000 in
theorem do_sub (a b : Int) (w : World) (ha : in64 a) (hb : in64 b) :
  Calls Tryd.prog 84 #[.int .i64 5, .int .i64 a, .int .i64 b] w fun e w' => e = .returned (.tuple #[.int .i64 (fit (a - b)).1, .int .i64 (fit (a - b)).2]) ∧ Below w.heap.size w w' := by
 rcases fit_cases (a - b) with ⟨hr, hf⟩ | ⟨hr, hf⟩
 all_goals
  have HR := Aside0.mk hr
  have HF := Aside0.mk hf
  clear hr hf
  have HA := Aside0.mk ha
  have HB := Aside0.mk hb
  clear ha hb
  go_enter Tryd.func84, Tryd.ntmps84
  go_wp2_with fail
  refine (wide_calls b _ HB.out).mono ?_
  rintro e w1 ⟨b1, c1, rfl, h1, e1, hb1⟩
  have E1 := Aside0.mk e1
  have H1 := Aside0.mk h1
  have B := Aside0.mk hb1
  clear e1 h1 hb1
  go_wp2_with fail
  refine (limbs_any b1 c1 _ H1.out.1 H1.out.2.1 H1.out.2.2.1 H1.out.2.2.2).mono ?_
  rintro e w2 ⟨x0, x1, x2, x3, x4, x5, x6, x7, rfl, hx, hex, hb2⟩
  have EX := Aside0.mk hex
  have B2 := Aside0.mk (below_step B.out hb2)
  clear hex hb2 B
  obtain ⟨hx0, hx0', hx1, hx1', hx2, hx2', hx3, hx3', hx4, hx4', hx5, hx5', hx6, hx6', hx7, hx7'⟩ := hx
  go_wp2_with fail
  refine wp_loop_rounds 9 ?_
  rw [rounds_succ]
  go_wp2
  rw [rounds_succ]
  go_wp2
  rw [rounds_succ]
  go_wp2
  rw [rounds_succ]
  go_wp2
  rw [rounds_succ]
  go_wp2
  rw [rounds_succ]
  go_wp2
  rw [rounds_succ]
  go_wp2
  rw [rounds_succ]
  go_wp2
  rw [rounds_succ]
  go_wp2_with fail
  have tok1 : True := trivial
  go_region_with (first | (go_at_call_of 105 a; refine (wide_calls a _ HA.out).mono ?_; rintro e w3 ⟨b2, c2, rfl, h2, e2, hb3⟩; have E2 := Aside0.mk e2; have H2 := Aside0.mk h2; have B3 := Aside0.mk (below_step (by with_reducible repeat (first | exact B2.out | apply below_drew1 | apply below_alloc)) hb3); have k : w3.heap[w2.heap.size]? = some (.cells #[.int .u32 (65535 - x0), .int .u32 (65535 - x1), .int .u32 (65535 - x2), .int .u32 (65535 - x3), .int .u32 (65535 - x4), .int .u32 (65535 - x5), .int .u32 (65535 - x6), .int .u32 (65535 - x7)] 132) := blk_below (by with_reducible repeat (first | exact blk_new w2 _ | refine blk_drew ?_)) hb3; have hz : w2.heap.size < w3.heap.size := blk_lt k; have k0 : w3.cell? ⟨w2.heap.size, 0, none⟩ = some (.int .u32 (65535 - x0)) := (blk_cell k 0).trans rfl; have k1 : w3.cell? ⟨w2.heap.size, 1, none⟩ = some (.int .u32 (65535 - x1)) := (blk_cell k 1).trans rfl; have k2 : w3.cell? ⟨w2.heap.size, 2, none⟩ = some (.int .u32 (65535 - x2)) := (blk_cell k 2).trans rfl; have k3 : w3.cell? ⟨w2.heap.size, 3, none⟩ = some (.int .u32 (65535 - x3)) := (blk_cell k 3).trans rfl; have k4 : w3.cell? ⟨w2.heap.size, 4, none⟩ = some (.int .u32 (65535 - x4)) := (blk_cell k 4).trans rfl; have k5 : w3.cell? ⟨w2.heap.size, 5, none⟩ = some (.int .u32 (65535 - x5)) := (blk_cell k 5).trans rfl; have k6 : w3.cell? ⟨w2.heap.size, 6, none⟩ = some (.int .u32 (65535 - x6)) := (blk_cell k 6).trans rfl; have k7 : w3.cell? ⟨w2.heap.size, 7, none⟩ = some (.int .u32 (65535 - x7)) := (blk_cell k 7).trans rfl;  clear e2 h2 hb3 k) | (go_at_call 107; refine (of_any _ _ _ _ _ _ _ _ _ (by omega)).mono ?_; rintro e w4 ⟨x, y, rfl, h3, e3, hb4⟩; have E3 := Aside0.mk e3; have H3 := Aside0.mk h3; have B4 := Aside0.mk (below_step B3.out hb4); clear e3 h3 hb4) | (go_at_call 104; have _t := tok1; refine (both_calls b2 c2 x y _ H2.out H3.out).mono ?_; rintro e w5 ⟨x', y', rfl, h4, e4, hb5⟩; have E4 := Aside0.mk e4; have H4 := Aside0.mk h4; have B5 := Aside0.mk (below_step B4.out hb5); clear e4 h4 hb5 tok1) | (go_at_call 105; refine (wide_calls 1 _ (by unfold in64; omega)).mono ?_; rintro e w6 ⟨b3, c3, rfl, h5, e5, hb6⟩; have E5 := Aside0.mk e5; have H5 := Aside0.mk h5; have B6 := Aside0.mk (below_step B5.out hb6); clear e5 h5 hb6) | (go_at_call 104; refine (both_calls x' y' b3 c3 _ H4.out H5.out).mono ?_; rintro e w7 ⟨x'', y'', rfl, h6, e6, hb7⟩; have E6 := Aside0.mk e6; have H6 := Aside0.mk h6; have B7 := Aside0.mk (below_step B6.out hb7); clear e6 h6 hb7) | (go_at_call 103; have HX := Aside0.mk (sub_eq HA.out HB.out E1.out E2.out E3.out E4.out E5.out E6.out EX.out H1.out H2.out H5.out (by omega)); refine (int_calls x'' y'' (a - b) _ H6.out HX.out).mono ?_; rintro e w8 ⟨rfl, hb8⟩; have B8 := Aside0.mk (below_step B7.out hb8); clear hb8; rw [HR.out]))
  all_goals
   go_wp2
   go_ret2
   exact ⟨by rw [HF.out]; rfl, B8.out⟩
end Go.Proofs.YtopolnbffmljaaaDoor.Q
namespace Go.Proofs.YtopolnbffmljaaaDoor.Q
def divS (op a b : Int) : Int × Int :=
  if b = 0 then (0, 11) else if b = -1 then (if op = 8 then (0, 0) else if a = -9223372036854775808 then (0, 10) else (wrap64 (-a), 0))
  else if op = 7 then (wrap64 (Int.tdiv a b), 0) else (wrap64 (a - wrap64 (wrap64 (Int.tdiv a b) * b)), 0)
def headgateref01_Do.f (a0 : Int) (a1 : Int) (a2 : Int) : Option (Int × Int) :=
  if in64 a1 ∧ in64 a2 then
    (if a0 = 4 then some (fit (a1 + a2)) else if a0 = 5 then some (fit (a1 - a2)) else if a0 = 6 then (headgateref01_product.f 9 a1 a2).bind (fun t => some (if t.2 = true then (t.1, 0) else (0, 10)))
     else if a0 = 7 ∨ a0 = 8 then some (divS a0 a1 a2) else some (0, 2))
  else none
set_option maxHeartbeats 4000000 in
set_option maxRecDepth 100000 in
theorem do_mul (a b r1 : Int) (r2 : Bool) (w : World) (h : headgateref01_product.f 9 a b = some (r1, r2)) :
    Calls Tryd.prog 84 #[.int .i64 6, .int .i64 a, .int .i64 b] w fun e w' => e = .returned (.tuple #[.int .i64 (if r2 = true then (r1, (0 : Int)) else (0, 10)).1, .int .i64 (if r2 = true then (r1, (0 : Int)) else (0, 10)).2]) ∧ Below w.heap.size w w' := by
  have HP := Aside0.mk h
  clear h
  cases r2
  all_goals
    simp only [if_true, if_false, Bool.false_eq_true]
    go_enter Tryd.func84, Tryd.ntmps84
    go_wp2_with fail
    refine (headgateref01_product.calls 9 a b r1 _ _ HP.out).mono ?_
    rintro e w1 ⟨rfl, hd⟩
    have hb : Below w.heap.size w w1 := by first | exact hd | (obtain ⟨n, rfl⟩ := hd.out; exact pw_below_drewN (Below.refl _ _) n)
    have B := Aside0.mk hb
    clear hb hd
    go_wp2
    go_ret2
    exact ⟨rfl, B.out⟩
set_option maxHeartbeats 4000000 in
set_option maxRecDepth 100000 in
theorem do_div (op a b : Int) (w : World) (hop : op = 7 ∨ op = 8) (ha : in64 a) (hb : in64 b) :
    Calls Tryd.prog 84 #[.int .i64 op, .int .i64 a, .int .i64 b] w fun e w' => e = .returned (.tuple #[.int .i64 (divS op a b).1, .int .i64 (divS op a b).2]) ∧ Below w.heap.size w w' := by
  unfold in64 at ha hb
  by_cases h0 : b = 0
  · subst h0
    clear hb
    have e0 : divS op a 0 = (0, 11) := by unfold divS; rw [if_pos rfl]
    rw [e0]
    clear e0 ha
    rcases hop with rfl | rfl
    all_goals
      go_enter Tryd.func84, Tryd.ntmps84
      go_wp2
      go_ret2
      exact ⟨rfl, Below.refl _ _⟩
  by_cases h1 : b = -1
  · subst h1
    clear h0 hb
    rcases hop with rfl | rfl
    · by_cases hm : a = -9223372036854775808
      · subst hm
        have e0 : divS 7 (-9223372036854775808) (-1) = (0, 10) := by unfold divS; rw [if_neg (by decide), if_pos rfl, if_neg (by decide), if_pos rfl]
        rw [e0]
        clear e0 ha
        go_enter Tryd.func84, Tryd.ntmps84
        go_wp2
        go_ret2
        exact ⟨rfl, Below.refl _ _⟩
      · have e0 : divS 7 a (-1) = (wrap64 (-a), 0) := by unfold divS; rw [if_neg (by decide), if_pos rfl, if_neg (by decide), if_neg hm]
        have hw : (IntKind.u64.wrap a == 9223372036854775808) = false := by rw [beq_eq_false_iff_ne, u64_wrap a ha.1 ha.2]; omega
        rw [e0]
        clear e0 ha hm
        go_enter Tryd.func84, Tryd.ntmps84
        go_wp2
        go_ret2
        exact ⟨rfl, Below.refl _ _⟩
    · have e0 : divS 8 a (-1) = (0, 0) := by unfold divS; rw [if_neg (by decide), if_pos rfl, if_pos rfl]
      rw [e0]
      clear e0 ha
      go_enter Tryd.func84, Tryd.ntmps84
      go_wp2
      go_ret2
      exact ⟨rfl, Below.refl _ _⟩
  · have b0 : (b == 0) = false := beq_eq_false_iff_ne.2 h0
    have b1 : (b == -1) = false := beq_eq_false_iff_ne.2 h1
    clear ha hb
    rcases hop with rfl | rfl
    · have e0 : divS 7 a b = (wrap64 (Int.tdiv a b), 0) := by unfold divS; rw [if_neg h0, if_neg h1, if_pos rfl]
      rw [e0]
      clear e0 h1
      go_enter Tryd.func84, Tryd.ntmps84
      go_wp2
      go_ret2
      exact ⟨rfl, Below.refl _ _⟩
    · have e0 : divS 8 a b = (wrap64 (a - wrap64 (wrap64 (Int.tdiv a b) * b)), 0) := by unfold divS; rw [if_neg h0, if_neg h1, if_neg (by decide)]
      rw [e0]
      clear e0 h1
      go_enter Tryd.func84, Tryd.ntmps84
      go_wp2
      go_ret2
      exact ⟨rfl, Below.refl _ _⟩
set_option maxHeartbeats 4000000 in
set_option maxRecDepth 100000 in
theorem do_none (op a b : Int) (w : World) (h4 : ¬ op = 4) (h5 : ¬ op = 5) (h6 : ¬ op = 6) (h7 : ¬ op = 7) (h8 : ¬ op = 8) :
    Calls Tryd.prog 84 #[.int .i64 op, .int .i64 a, .int .i64 b] w fun e w' => e = .returned (.tuple #[.int .i64 0, .int .i64 2]) ∧ Below w.heap.size w w' := by
  have b4 : (op == 4) = false := beq_eq_false_iff_ne.2 h4
  have b5 : (op == 5) = false := beq_eq_false_iff_ne.2 h5
  have b6 : (op == 6) = false := beq_eq_false_iff_ne.2 h6
  have b7 : (op == 7) = false := beq_eq_false_iff_ne.2 h7
  have b8 : (op == 8) = false := beq_eq_false_iff_ne.2 h8
  clear h4 h5 h6 h7 h8
  go_enter Tryd.func84, Tryd.ntmps84
  go_wp2
  go_ret2
  exact ⟨rfl, Below.refl _ _⟩
theorem headgateref01_Do.calls (a0 : Int) (a1 : Int) (a2 : Int) (r1 : Int) (r2 : Int) (w : World) (h : headgateref01_Do.f a0 a1 a2 = some (r1, r2)) :
    Calls Tryd.prog 84 #[.int .i64 a0, .int .i64 a1, .int .i64 a2] w fun e w' => e = .returned (.tuple #[.int .i64 r1, .int .i64 r2]) ∧ Below w.heap.size w w' := by
  unfold headgateref01_Do.f at h
  split at h
  · rename_i hin
    by_cases h4 : a0 = 4
    · subst h4
      rw [if_pos rfl] at h
      have q := do_add a1 a2 w hin.1 hin.2
      rw [Option.some.inj h] at q
      exact q
    rw [if_neg h4] at h
    by_cases h5 : a0 = 5
    · subst h5
      rw [if_pos rfl] at h
      have q := do_sub a1 a2 w hin.1 hin.2
      rw [Option.some.inj h] at q
      exact q
    rw [if_neg h5] at h
    by_cases h6 : a0 = 6
    · subst h6
      rw [if_pos rfl] at h
      obtain ⟨t, ht, h⟩ := Option.bind_eq_some_iff.1 h
      have q := do_mul a1 a2 t.1 t.2 w ht
      rw [Option.some.inj h] at q
      exact q
    rw [if_neg h6] at h
    by_cases h7 : a0 = 7 ∨ a0 = 8
    · rw [if_pos h7] at h
      have q := do_div a0 a1 a2 w h7 hin.1 hin.2
      rw [Option.some.inj h] at q
      exact q
    · rw [if_neg h7] at h
      obtain ⟨rfl, rfl⟩ := Prod.mk.inj (Option.some.inj h)
      exact do_none a0 a1 a2 w h4 h5 h6 (fun z => h7 (.inl z)) (fun z => h7 (.inr z))
  · cases h
end Go.Proofs.YtopolnbffmljaaaDoor.Q
namespace Go.Proofs.YtopolnbffmljaaaDoor.Q
def doS (op a b : Int) : Int × Int :=
 if op = 4 then fit (a + b) else if op = 5 then fit (a - b) else if op = 6 then fit (a * b)
 else if op = 7 then (if b = 0 then (0, 11) else if a = -9223372036854775808 ∧ b = -1 then (0, 10) else (Int.tdiv a b, 0))
 else if op = 8 then (if b = 0 then (0, 11) else (Int.tmod a b, 0)) else (0, 2)
theorem num_product_eq (k : Nat) (a b : Int) (ha : in64 a) (hb : in64 b) : num_product.f (k + 1) a b = some (fit (a * b)) := by
 unfold num_product.f
 simp only [num_product.j0]
 by_cases h0 : a = 0
 ·subst h0
  rw [if_pos rfl, if_neg (by simp)]
  have e : (0 : Int) * b = 0 := Int.zero_mul b
  rw [e, show wrap64 0 = 0 from wrap_in (by unfold in64; omega), show fit 0 = (0, 0) from by decide]
 rw [if_neg h0]
 by_cases hin : in64 (a * b)
 ·have e1 : wrap64 (a * b) = a * b := wrap_in hin
  have e2 : Int.tdiv (a * b) a = b := Int.mul_tdiv_cancel_left b h0
  rw [e1, e2, wrap_in hb, if_pos rfl]
  have hx : ¬ (a = -1 ∧ b = -9223372036854775808) := by
   rintro ⟨rfl, rfl⟩
   exact absurd hin (by decide)
  have ef : fit (a * b) = (a * b, 0) := by unfold fit; rw [if_pos hin]
  rw [ef]
  by_cases h1 : a = -1
  ·have h2 : ¬ b = -9223372036854775808 := fun z => hx ⟨h1, z⟩
   rw [if_pos h1, if_neg (by simpa using h2)]
  ·rw [if_neg h1, if_neg (by simp)]
 ·have ef : fit (a * b) = (0, 10) := by unfold fit; rw [if_neg hin]
  rw [ef]
  by_cases h1 : wrap64 (Int.tdiv (wrap64 (a * b)) a) = b
  ·rw [if_pos h1]
   have hc := wrap_is (a * b)
   have key : a = -1 ∧ b = -9223372036854775808 := by
    by_cases hm : wrap64 (a * b) = -9223372036854775808 ∧ a = -1
    ·rw [hm.1, hm.2] at h1
     exact ⟨hm.2, by rw [← h1]; kernel_rfl⟩
    ·exfalso
     have hq := tdiv_in hc h0 hm
     rw [wrap_in hq] at h1
     have e := Int.mul_tdiv_add_tmod (wrap64 (a * b)) a
     have hr := tmod_abs (a := wrap64 (a * b)) h0
     rw [h1] at e
     generalize a * b = p at *
     generalize Int.tmod (wrap64 p) a = r at *
     unfold in64 at *
     unfold wrap64 at *
     omega
   rw [if_pos key.1, key.2, if_pos (by decide)]
  ·rw [if_neg h1, if_pos (by simp)]
theorem num_Do_eq (k : Nat) (op a b : Int) (ha : in64 a) (hb : in64 b) : num_Do.f (k + 2) op a b = some (doS op a b) := by
 unfold num_Do.f doS
 by_cases h4 : op = 4
 ·rw [if_pos h4, if_pos h4]
  have e : ((decide (wrap64 (a + b) > a)) == decide (b > 0)) = decide (in64 (a + b)) := by
   rw [Bool.eq_iff_iff]
   simp only [beq_iff_eq, decide_eq_decide, decide_eq_true_eq]
   unfold in64 wrap64 at *
   omega
  rw [e]
  unfold fit
  by_cases hi : in64 (a + b)
  ·rw [if_pos (decide_eq_true hi), if_pos hi, wrap_in hi]
  ·rw [if_neg (by simpa using hi), if_neg hi]
 rw [if_neg h4, if_neg h4]
 by_cases h5 : op = 5
 ·rw [if_pos h5, if_pos h5]
  have e : ((decide (wrap64 (a - b) < a)) == decide (b > 0)) = decide (in64 (a - b)) := by
   rw [Bool.eq_iff_iff]
   simp only [beq_iff_eq, decide_eq_decide, decide_eq_true_eq]
   unfold in64 wrap64 at *
   omega
  rw [e]
  unfold fit
  by_cases hi : in64 (a - b)
  ·rw [if_pos (decide_eq_true hi), if_pos hi, wrap_in hi]
  ·rw [if_neg (by simpa using hi), if_neg hi]
 rw [if_neg h5, if_neg h5]
 by_cases h6 : op = 6
 ·rw [if_pos h6, if_pos h6, num_product_eq (k + 1) a b ha hb]
  rfl
 rw [if_neg h6, if_neg h6]
 by_cases h7 : op = 7
 ·subst h7
  rw [if_pos rfl, if_pos rfl]
  simp only [num_Do.j0, num_Do.j1]
  rw [if_pos (by decide)]
  by_cases b0 : b = 0
  ·simp only [if_pos b0]
  have c8 : ¬ (7 : Int) = 8 := by decide
  by_cases am : a = -9223372036854775808
  ·by_cases b1 : b = -1
   ·simp only [if_neg b0, if_neg c8, if_pos am, if_pos b1, if_pos (And.intro am b1), Bool.false_eq_true, if_false]
   ·simp only [if_neg b0, if_neg c8, if_pos am, if_neg b1, if_neg (fun z : a = -9223372036854775808 ∧ b = -1 => b1 z.2), Bool.false_eq_true, if_false, wrap_in (tdiv_in ha b0 (fun z => b1 z.2))]
  ·simp only [if_neg b0, if_neg c8, if_neg am, if_neg (fun z : a = -9223372036854775808 ∧ b = -1 => am z.1), Bool.false_eq_true, if_false, wrap_in (tdiv_in ha b0 (fun z => am z.1))]
 rw [if_neg h7, if_neg h7]
 by_cases h8 : op = 8
 ·subst h8
  rw [if_pos rfl]
  simp only [num_Do.j0, num_Do.j1]
  rw [if_pos (by decide)]
  by_cases b0 : b = 0
  ·simp only [if_pos b0]
  by_cases b1 : b = -1
  ·subst b1
   rw [Int.tmod_neg, Int.tmod_one]
   simp
  ·have b1' : (b == -1) = false := by simpa using b1
   simp only [if_neg b0, b1', if_true, Bool.false_eq_true, if_false]
 ·rw [if_neg h8]
  simp only [num_Do.j0]
  rw [if_neg (by simpa using h8)]
theorem ref_product_eq (a b : Int) (ha : in64 a) (hb : in64 b) : (headgateref01_product.f 9 a b).bind (fun t => some (if t.2 = true then (t.1, (0 : Int)) else (0, 10))) = some (fit (a * b)) := by
 unfold headgateref01_product.f
 simp only [headgateref01_product.j0, headgateref01_product.j1, headgateref01_product.j2]
 by_cases h0 : a = 0
 ·subst h0
  simp only [if_true, Option.bind_some]
  rw [Int.zero_mul, show fit 0 = (0, 0) from by decide]
 rw [if_neg h0]
 by_cases b0 : b = 0
 ·subst b0
  rw [if_pos (by decide), Int.mul_zero, show fit 0 = (0, 0) from by decide]
  rfl
 rw [if_neg (by simpa using b0)]
 -- of their sizes
 have go : ∀ x y : Int, 0 < x → x ≤ 9223372036854775808 → 0 < y → y ≤ 9223372036854775808 → ∀ neg : Bool, (if neg = true then a * b = -(x * y) else a * b = x * y) →
   (if x = 0 then none else if y > IntKind.u64.wrap (Int.tdiv (18446744073709551615 : Int) x) then some ((0 : Int), false) else if neg = true then some (wrap64 (-(wrap64 (IntKind.u64.wrap (x * y)))), decide (IntKind.u64.wrap (x * y) ≤ 9223372036854775808)) else some (wrap64 (IntKind.u64.wrap (x * y)), decide (IntKind.u64.wrap (x * y) < 9223372036854775808))).bind (fun t => some (if t.2 = true then (t.1, (0 : Int)) else (0, 10))) = some (fit (a * b)) := by
  intro x y x0 x1 y0 y1 neg hp
  rw [if_neg (by omega)]
  have ed : Int.tdiv 18446744073709551615 x = 18446744073709551615 / x := Int.tdiv_eq_ediv_of_nonneg (by decide)
  have hd0 : 0 ≤ 18446744073709551615 / x := Int.ediv_nonneg (by decide) (by omega)
  have hd1 : 18446744073709551615 / x ≤ 18446744073709551615 := Int.ediv_le_self _ (by decide)
  rw [ed, wrapu (18446744073709551615 / x), Int.emod_eq_of_lt hd0 (by omega)]
  have hpos : 0 < x * y := Int.mul_pos x0 y0
  have hle : y ≤ 18446744073709551615 / x ↔ x * y ≤ 18446744073709551615 := by
   rw [Int.le_ediv_iff_mul_le x0, Int.mul_comm]
  by_cases hy : y > 18446744073709551615 / x
  ·rw [if_pos hy]
   have : ¬ x * y ≤ 18446744073709551615 := fun z => by have := hle.2 z; omega
   have hn : ¬ in64 (a * b) := by
    unfold in64
    cases neg <;> simp at hp <;> omega
   unfold fit
   rw [if_neg hn]
   rfl
  ·rw [if_neg hy]
   have hxy := hle.1 (by omega)
   rw [wrapu (x * y), Int.emod_eq_of_lt (by omega) (by omega)]
   generalize x * y = p at *
   unfold fit
   cases neg
   ·simp only [Bool.false_eq_true, if_false] at hp ⊢
    rw [hp]
    simp only [Option.bind_some]
    by_cases hq : p < 9223372036854775808
    ·have hi : in64 p := ⟨by omega, by omega⟩
     rw [if_pos (decide_eq_true hq), if_pos hi, wrap_in hi]
    ·rw [if_neg (by simpa using hq), if_neg (fun z : in64 p => by unfold in64 at z; omega)]
   ·simp only [if_true] at hp ⊢
    rw [hp]
    simp only [Option.bind_some]
    by_cases hq : p ≤ 9223372036854775808
    ·have hi : in64 (-p) := ⟨by omega, by omega⟩
     have e : wrap64 (-(wrap64 p)) = -p := by unfold wrap64; omega
     rw [if_pos (decide_eq_true hq), if_pos hi, e]
    ·rw [if_neg (by simpa using hq), if_neg (fun z : in64 (-p) => by unfold in64 at z; omega)]
 unfold in64 at ha hb
 by_cases an : a < 0
 ·rw [if_pos an]
  have ex : IntKind.u64.wrap (-(IntKind.u64.wrap a)) = -a := by rw [wrapu, wrapu]; omega
  rw [ex]
  by_cases bn : b < 0
  ·rw [if_pos bn]
   have ey : IntKind.u64.wrap (-(IntKind.u64.wrap b)) = -b := by rw [wrapu, wrapu]; omega
   rw [ey]
   have := go (-a) (-b) (by omega) (by omega) (by omega) (by omega) false (by simp [Int.neg_mul_neg])
   simp only [decide_eq_true an, decide_eq_true bn, bne_self_eq_false]
   exact this
  ·rw [if_neg bn]
   have ey : IntKind.u64.wrap b = b := by rw [wrapu]; omega
   rw [ey]
   have := go (-a) b (by omega) (by omega) (by omega) (by omega) true (by simp [Int.neg_mul])
   simp only [decide_eq_true an, decide_eq_false bn]
   exact this
 ·rw [if_neg an]
  have ex : IntKind.u64.wrap a = a := by rw [wrapu]; omega
  rw [ex]
  by_cases bn : b < 0
  ·rw [if_pos bn]
   have ey : IntKind.u64.wrap (-(IntKind.u64.wrap b)) = -b := by rw [wrapu, wrapu]; omega
   rw [ey]
   have := go a (-b) (by omega) (by omega) (by omega) (by omega) true (by simp [Int.mul_neg])
   simp only [decide_eq_false an, decide_eq_true bn]
   exact this
  ·rw [if_neg bn]
   have ey : IntKind.u64.wrap b = b := by rw [wrapu]; omega
   rw [ey]
   have := go a b (by omega) (by omega) (by omega) (by omega) false (by simp)
   simp only [decide_eq_false an, decide_eq_false bn, bne_self_eq_false]
   exact this
theorem ref_Do_eq (op a b : Int) (ha : in64 a) (hb : in64 b) : headgateref01_Do.f op a b = some (doS op a b) := by
 unfold headgateref01_Do.f doS
 rw [if_pos ⟨ha, hb⟩]
 by_cases h4 : op = 4
 ·rw [if_pos h4, if_pos h4]
 rw [if_neg h4, if_neg h4]
 by_cases h5 : op = 5
 ·rw [if_pos h5, if_pos h5]
 rw [if_neg h5, if_neg h5]
 by_cases h6 : op = 6
 ·rw [if_pos h6, if_pos h6]
  exact ref_product_eq a b ha hb
 rw [if_neg h6, if_neg h6]
 by_cases h7 : op = 7
 ·subst h7
  rw [if_pos (.inl rfl), if_pos rfl]
  unfold divS
  by_cases b0 : b = 0
  ·rw [if_pos b0, if_pos b0]
  rw [if_neg b0, if_neg b0]
  by_cases b1 : b = -1
  ·rw [if_pos b1, if_neg (by decide)]
   by_cases am : a = -9223372036854775808
   ·rw [if_pos am, if_pos ⟨am, b1⟩]
   ·subst b1
    rw [if_neg am, if_neg (fun z => am z.1), Int.tdiv_neg, Int.tdiv_one, wrap_in (show in64 (-a) by unfold in64 at *; omega)]
  ·rw [if_neg b1, if_pos rfl, if_neg (fun z => b1 z.2), wrap_in (tdiv_in ha b0 (fun z => b1 z.2))]
 rw [if_neg h7]
 by_cases h8 : op = 8
 ·subst h8
  rw [if_pos (.inr rfl), if_pos rfl]
  unfold divS
  by_cases b0 : b = 0
  ·rw [if_pos b0, if_pos b0]
  rw [if_neg b0, if_neg b0]
  by_cases b1 : b = -1
  ·subst b1
   rw [if_pos rfl, if_pos rfl, Int.tmod_neg, Int.tmod_one]
  ·obtain ⟨m, em, ea, h1, h2⟩ := quo_rem (a := a) b0
   have er : wrap64 (a - wrap64 (wrap64 (Int.tdiv a b) * b)) = Int.tmod a b := by
    rw [wrap_in (tdiv_in ha b0 (fun z => b1 z.2)), em]
    unfold in64 at ha
    rw [wrap_in (show in64 m by unfold in64; omega)]
    generalize Int.tmod a b = r at *
    have hs := h1
    unfold wrap64
    omega
   rw [if_neg b1, if_neg (by decide), er]
 ·rw [if_neg h8, if_neg (fun z => z.elim h7 h8)]
end Go.Proofs.YtopolnbffmljaaaDoor.Q
namespace Go.Proofs.YtopolnbffmljaaaDoor.Q
attribute [local go_sem] max2_int min2_int max_two min_two max_three min_three max_four min_four   -- for this text's walks alone
attribute [local go_sem high] eqA23
def headgateref13_reckon.j0 : Nat → Int → Bool → Int → Int → ByteArray → Int → Int → ByteArray → Option (Int × Int × ByteArray × Int)
 | 0, _, _, _, _, _, _, _, _ => none
 | k + 1, x0, x17, x102000, x102001, x102002, x103000, x103001, x103002 => if x17 = true then (some (0, 0, (⟨#[]⟩ : ByteArray), 0)) else ((headgateref01_Do.f x0 x102001 x103001).bind fun bt104 => (if bt104.2 = 0 then (some (1, bt104.1, (⟨#[]⟩ : ByteArray), 0)) else (some (0, 0, (⟨#[]⟩ : ByteArray), bt104.2))))
def headgateref13_reckon.f (k : Nat) (a0 : Int) (a1_0 : Int) (a1_1 : Int) (a1_2 : ByteArray) (a2_0 : Int) (a2_1 : Int) (a2_2 : ByteArray) : Option (Int × Int × ByteArray × Int) := if a1_0 = 0 then (headgateref13_reckon.j0 k a0 true a1_0 a1_1 a1_2 a2_0 a2_1 a2_2) else (headgateref13_reckon.j0 k a0 (a2_0 == 0) a1_0 a1_1 a1_2 a2_0 a2_1 a2_2)
set_option maxHeartbeats 8000000 in
set_option maxRecDepth 100000 in
theorem headgateref13_reckon.calls (k : Nat) (a0 : Int) (a1_0 : Int) (a1_1 : Int) (a1_2 : ByteArray) (a2_0 : Int) (a2_1 : Int) (a2_2 : ByteArray) (r1 : Int) (r2 : Int) (r3 : ByteArray) (r4 : Int) (w : World) (h : headgateref13_reckon.f k a0 a1_0 a1_1 a1_2 a2_0 a2_1 a2_2 = some (r1, r2, r3, r4)) :
  Calls Tryd.prog 72 #[.int .i64 a0, .agg #[.int .i64 a1_0, .int .i64 a1_1, .string a1_2], .agg #[.int .i64 a2_0, .int .i64 a2_1, .string a2_2]] w fun e w' => e = .returned (.tuple #[.agg #[.int .i64 r1, .int .i64 r2, .string r3], .int .i64 r4]) ∧ Below w.heap.size w w' := by
 have hu23 := Tryd.underlying23
 have HB := Aside0.mk (Below.refl w.heap.size w)
 have H : (if a1_0 = 0 then (headgateref13_reckon.j0 k a0 true a1_0 a1_1 a1_2 a2_0 a2_1 a2_2) else (headgateref13_reckon.j0 k a0 (a2_0 == 0) a1_0 a1_1 a1_2 a2_0 a2_1 a2_2)) = some (r1, r2, r3, r4) := h
 clear h
 have HC4 := Aside0.mk H
 clear H
 go_enter Tryd.func72, Tryd.ntmps72
 go_upto_region 1 with (first | ((with_reducible refine gate_dst (N := 4) rfl ?_); refine box_event ?hg (N := 4) ?hd (cs := #[.int .i64 a1_0, .int .i64 a1_1, .string a1_2]) (t := 23) ?hr ?_; (case hd => rfl); (case hg => rfl); (case hr => first | (go_simp; done) | (go_simp; rfl)); intro gb101 hg w5 hbox hb; have n0_ := Aside0.mk (below_step (by repeat (first | (with_reducible first | exact HB.out | apply below_alloc | apply pw_below_drewN | apply below_drew1) | exact HB.out)) hb); have n1_ := Aside0.mk (hbox); have n2_ := Aside0.mk ((by rw [hg]; exact (below_size (by repeat (first | (with_reducible first | exact HB.out | apply below_alloc | apply pw_below_drewN | apply below_drew1) | exact HB.out))) : w.heap.size ≤ gb101)); have n3_ := Aside0.mk ((by rw [hg]; exact (below_size (by repeat (first | (with_reducible first | exact HB.out | apply below_alloc | apply pw_below_drewN | apply below_drew1) | exact HB.out))) : w.heap.size ≤ gb101)); clear HB; have HB := n0_; have BK101 := n1_; have GW101 := n2_; have GE101 := n3_; clear n0_ n1_ n2_ n3_; clear hb hbox hg) | ((with_reducible refine gate_dst (N := 5) rfl ?_); refine box_event ?hg (N := 5) ?hd (cs := #[.int .i64 a2_0, .int .i64 a2_1, .string a2_2]) (t := 23) ?hr ?_; (case hd => rfl); (case hg => rfl); (case hr => first | (go_simp; done) | (go_simp; rfl)); intro gb102 hg w6 hbox hb; have n0_ := Aside0.mk (blk_below (g := gb101) (o := .cells #[.int .i64 a1_0, .int .i64 a1_1, .string a1_2] 23 (0, 0)) (by (with_reducible repeat (first | refine blk_drewN ?_ _ | refine blk_drew ?_ | refine blk_alloc ?_ _)); exact BK101.out) hb); have n1_ := Aside0.mk (below_step (by repeat (first | (with_reducible first | exact HB.out | apply below_alloc | apply pw_below_drewN | apply below_drew1 | refine below_set ?_ GE101.out) | exact HB.out)) hb); have n2_ := Aside0.mk (hbox); have n3_ := Aside0.mk ((by rw [hg]; exact (below_size (by repeat (first | (with_reducible first | exact HB.out | apply below_alloc | apply pw_below_drewN | apply below_drew1 | refine below_set ?_ GE101.out) | exact HB.out))) : w.heap.size ≤ gb102)); have n4_ := Aside0.mk ((by rw [hg]; exact (below_size (by repeat (first | (with_reducible first | exact HB.out | apply below_alloc | apply pw_below_drewN | apply below_drew1 | refine below_set ?_ GE101.out) | exact HB.out))) : w.heap.size ≤ gb102)); have n5_ := Aside0.mk ((by rw [hg]; exact Nat.ne_of_lt (blk_lt (g := gb101) (o := .cells #[.int .i64 a1_0, .int .i64 a1_1, .string a1_2] 23 (0, 0)) (by (with_reducible repeat (first | refine blk_drewN ?_ _ | refine blk_drew ?_ | refine blk_alloc ?_ _)); exact BK101.out)) : gb101 ≠ gb102)); have n6_ := Aside0.mk ((by rw [hg]; exact Nat.ne_of_gt (blk_lt (g := gb101) (o := .cells #[.int .i64 a1_0, .int .i64 a1_1, .string a1_2] 23 (0, 0)) (by (with_reducible repeat (first | refine blk_drewN ?_ _ | refine blk_drew ?_ | refine blk_alloc ?_ _)); exact BK101.out)) : gb102 ≠ gb101)); clear BK101; clear HB; have BK101 := n0_; have HB := n1_; have BK102 := n2_; have GW102 := n3_; have GE102 := n4_; have NB101_102 := n5_; have NB102_101 := n6_; clear n0_ n1_ n2_ n3_ n4_ n5_ n6_; clear hb hbox hg) | ((with_reducible refine gate_dst (N := 6) rfl ?_); refine box_event ?hg (N := 6) ?hd (cs := #[.int .i64 0, .int .i64 0, .string (⟨#[]⟩ : ByteArray)]) (t := 23) ?hr ?_; (case hd => rfl); (case hg => rfl); (case hr => first | (go_simp; done) | (go_simp; rfl)); intro gb103 hg w7 hbox hb; have n0_ := Aside0.mk (blk_below (g := gb101) (o := .cells #[.int .i64 a1_0, .int .i64 a1_1, .string a1_2] 23 (0, 0)) (by (with_reducible repeat (first | refine blk_drewN ?_ _ | refine blk_drew ?_ | refine blk_alloc ?_ _)); exact BK101.out) hb); have n1_ := Aside0.mk (blk_below (g := gb102) (o := .cells #[.int .i64 a2_0, .int .i64 a2_1, .string a2_2] 23 (0, 0)) (by (with_reducible repeat (first | refine blk_drewN ?_ _ | refine blk_drew ?_ | refine blk_alloc ?_ _)); exact BK102.out) hb); have n2_ := Aside0.mk (below_step (by repeat (first | (with_reducible first | exact HB.out | apply below_alloc | apply pw_below_drewN | apply below_drew1 | refine below_set ?_ GE101.out | refine below_set ?_ GE102.out) | exact HB.out)) hb); have n3_ := Aside0.mk (hbox); have n4_ := Aside0.mk ((by rw [hg]; exact (below_size (by repeat (first | (with_reducible first | exact HB.out | apply below_alloc | apply pw_below_drewN | apply below_drew1 | refine below_set ?_ GE101.out | refine below_set ?_ GE102.out) | exact HB.out))) : w.heap.size ≤ gb103)); have n5_ := Aside0.mk ((by rw [hg]; exact (below_size (by repeat (first | (with_reducible first | exact HB.out | apply below_alloc | apply pw_below_drewN | apply below_drew1 | refine below_set ?_ GE101.out | refine below_set ?_ GE102.out) | exact HB.out))) : w.heap.size ≤ gb103)); have n6_ := Aside0.mk ((by rw [hg]; exact Nat.ne_of_lt (blk_lt (g := gb101) (o := .cells #[.int .i64 a1_0, .int .i64 a1_1, .string a1_2] 23 (0, 0)) (by (with_reducible repeat (first | refine blk_drewN ?_ _ | refine blk_drew ?_ | refine blk_alloc ?_ _)); exact BK101.out)) : gb101 ≠ gb103)); have n7_ := Aside0.mk ((by rw [hg]; exact Nat.ne_of_gt (blk_lt (g := gb101) (o := .cells #[.int .i64 a1_0, .int .i64 a1_1, .string a1_2] 23 (0, 0)) (by (with_reducible repeat (first | refine blk_drewN ?_ _ | refine blk_drew ?_ | refine blk_alloc ?_ _)); exact BK101.out)) : gb103 ≠ gb101)); have n8_ := Aside0.mk ((by rw [hg]; exact Nat.ne_of_lt (blk_lt (g := gb102) (o := .cells #[.int .i64 a2_0, .int .i64 a2_1, .string a2_2] 23 (0, 0)) (by (with_reducible repeat (first | refine blk_drewN ?_ _ | refine blk_drew ?_ | refine blk_alloc ?_ _)); exact BK102.out)) : gb102 ≠ gb103)); have n9_ := Aside0.mk ((by rw [hg]; exact Nat.ne_of_gt (blk_lt (g := gb102) (o := .cells #[.int .i64 a2_0, .int .i64 a2_1, .string a2_2] 23 (0, 0)) (by (with_reducible repeat (first | refine blk_drewN ?_ _ | refine blk_drew ?_ | refine blk_alloc ?_ _)); exact BK102.out)) : gb103 ≠ gb102)); clear BK101; clear BK102; clear HB; have BK101 := n0_; have BK102 := n1_; have HB := n2_; have BK103 := n3_; have GW103 := n4_; have GE103 := n5_; have NB101_103 := n6_; have NB103_101 := n7_; have NB102_103 := n8_; have NB103_102 := n9_; clear n0_ n1_ n2_ n3_ n4_ n5_ n6_ n7_ n8_ n9_; clear hb hbox hg))
 (try simp only [Act.put, zA, zB, zC])
 go_cut [17] (fun v17 wc => ∃ (kq : Nat) (x17_3 : Bool), v17 = .bool x17_3 ∧ Aside0 (headgateref13_reckon.j0 kq a0 x17_3 a1_0 a1_1 a1_2 a2_0 a2_1 a2_2 = some (r1, r2, r3, r4)) ∧ Aside0 (kq ≤ k) ∧ Aside0 (wc.heap[gb101]? = some (.cells #[.int .i64 a1_0, .int .i64 a1_1, .string a1_2] 23 (0, 0))) ∧ Aside0 (wc.heap[gb102]? = some (.cells #[.int .i64 a2_0, .int .i64 a2_1, .string a2_2] 23 (0, 0))) ∧ Aside0 (wc.heap[gb103]? = some (.cells #[.int .i64 0, .int .i64 0, .string (⟨#[]⟩ : ByteArray)] 23 (0, 0))) ∧ Aside0 (Below w.heap.size w wc))
 case first =>
  have H := HC4.out
  clear HC4
  by_cases c8 : a1_0 = 0
  ·rw [if_pos c8] at H
   have c8b0 : (a1_0 == 0) = true := beq_iff_eq.mpr c8
   have c8b1 : (a1_0 != 0) = false := bne_eq_false_iff_eq.mpr c8
   clear c8
   (first | rw [c8b0] | (simp only [i64_w, i32_w]; rw [c8b0]) | skip)
   have H' := Aside0.mk H
   clear H
   have hnb9 := NB101_102.out
   have hnc9 := NB102_101.out
   have hnb10 := NB101_103.out
   have hnc10 := NB103_101.out
   obtain ⟨hcz11_0, hcz11_1, hcz11_2, hfz11_0, hfz11_1, hfz11_2⟩ := bf3 BK101.out
   go_wp2
   go_meet
   case rel => exact ⟨_, (true), (by first | rfl | (simp; done) | (simp [*]; done) | (simp; rw [Bool.eq_iff_iff]; simp; done)), H', ⟨by first | omega | exact Nat.le_refl _⟩, ⟨by (with_reducible repeat (first | refine blk_drewN ?_ _ | refine blk_drew ?_ | refine blk_alloc ?_ _)); exact BK101.out⟩, ⟨by (with_reducible repeat (first | refine blk_drewN ?_ _ | refine blk_drew ?_ | refine blk_alloc ?_ _)); exact BK102.out⟩, ⟨by (with_reducible repeat (first | refine blk_drewN ?_ _ | refine blk_drew ?_ | refine blk_alloc ?_ _)); exact BK103.out⟩, ⟨by repeat (first | (with_reducible first | exact HB.out | apply below_alloc | apply pw_below_drewN | apply below_drew1 | refine below_set ?_ GE101.out | refine below_set ?_ GE102.out | refine below_set ?_ GE103.out) | exact HB.out)⟩⟩
  ·rw [if_neg c8] at H
   have c8b0 : (a1_0 == 0) = false := beq_eq_false_iff_ne.mpr c8
   have c8b1 : (a1_0 != 0) = true := bne_iff_ne.mpr c8
   (first | rw [c8b0] | (simp only [i64_w, i32_w]; rw [c8b0]) | skip)
   have H' := Aside0.mk H
   clear H
   have hnb12 := NB101_102.out
   have hnc12 := NB102_101.out
   have hnb13 := NB101_103.out
   have hnc13 := NB103_101.out
   obtain ⟨hcz14_0, hcz14_1, hcz14_2, hfz14_0, hfz14_1, hfz14_2⟩ := bf3 BK101.out
   have hnb15 := NB102_103.out
   have hnc15 := NB103_102.out
   obtain ⟨hcz16_0, hcz16_1, hcz16_2, hfz16_0, hfz16_1, hfz16_2⟩ := bf3 BK102.out
   go_wp2
   go_meet
   case rel => exact ⟨_, ((a2_0 == 0)), (by first | rfl | (simp; done) | (simp [*]; done) | (simp; rw [Bool.eq_iff_iff]; simp; done)), H', ⟨by first | omega | exact Nat.le_refl _⟩, ⟨by (with_reducible repeat (first | refine blk_drewN ?_ _ | refine blk_drew ?_ | refine blk_alloc ?_ _)); exact BK101.out⟩, ⟨by (with_reducible repeat (first | refine blk_drewN ?_ _ | refine blk_drew ?_ | refine blk_alloc ?_ _)); exact BK102.out⟩, ⟨by (with_reducible repeat (first | refine blk_drewN ?_ _ | refine blk_drew ?_ | refine blk_alloc ?_ _)); exact BK103.out⟩, ⟨by repeat (first | (with_reducible first | exact HB.out | apply below_alloc | apply pw_below_drewN | apply below_drew1 | refine below_set ?_ GE101.out | refine below_set ?_ GE102.out | refine below_set ?_ GE103.out) | exact HB.out)⟩⟩
 case rest =>
  clear HC4
  try clear c1
  try clear p2
  try clear c7
  try clear c8
  try clear c8b0
  try clear c8b1
  try clear c9
  try clear c10
  try clear c12
  try clear c13
  try clear c15
  try clear hcz11_0
  try clear hcz11_1
  try clear hcz11_2
  try clear hcz14_0
  try clear hcz14_1
  try clear hcz14_2
  try clear hcz16_0
  try clear hcz16_1
  try clear hcz16_2
  try clear hfz11_0
  try clear hfz11_1
  try clear hfz11_2
  try clear hfz14_0
  try clear hfz14_1
  try clear hfz14_2
  try clear hfz16_0
  try clear hfz16_1
  try clear hfz16_2
  obtain ⟨kq, x17_3, rfl, HA, HJ3, BK101, BK102, BK103, HB⟩ := hcut
  cases kq with
  | zero => exact absurd HA.out (by simp [headgateref13_reckon.j0])
  | succ kj3 =>
   have H := HA.out
   clear HA
   simp only [headgateref13_reckon.j0] at H
   by_cases c17 : x17_3 = true
   ·subst c17
    have H1 : (some (0, 0, (⟨#[]⟩ : ByteArray), 0)) = some (r1, r2, r3, r4) := by rw [if_pos rfl] at H; exact H
    clear H
    have H := H1
    clear H1
    simp only [Option.some.injEq, Prod.mk.injEq] at H
    obtain ⟨rfl, rfl, rfl, rfl⟩ := H
    have hnb18 := NB103_101.out
    have hnc18 := NB101_103.out
    have hnb19 := NB103_102.out
    have hnc19 := NB102_103.out
    obtain ⟨hcz20_0, hcz20_1, hcz20_2, hfz20_0, hfz20_1, hfz20_2⟩ := bf3 BK103.out
    go_wp2
    refine bodyPost_ret (results_ct rfl _ _ gb103 23 #[.int .i64 0, .int .i64 0, .string (⟨#[]⟩ : ByteArray)] (0, 0) _ rfl (by (with_reducible repeat (first | refine blk_drewN ?_ _ | refine blk_drew ?_ | refine blk_alloc ?_ _)); refine blk_put (cs := #[.int .i64 0, .int .i64 0, .string (⟨#[]⟩ : ByteArray)]) ?_ 2 _ rfl; (with_reducible repeat (first | refine blk_drewN ?_ _ | refine blk_drew ?_ | refine blk_alloc ?_ _)); refine blk_put (cs := #[.int .i64 0, .int .i64 0, .string (⟨#[]⟩ : ByteArray)]) ?_ 1 _ rfl; (with_reducible repeat (first | refine blk_drewN ?_ _ | refine blk_drew ?_ | refine blk_alloc ?_ _)); refine blk_put (cs := #[.int .i64 0, .int .i64 0, .string (⟨#[]⟩ : ByteArray)]) ?_ 0 _ rfl; (with_reducible repeat (first | refine blk_drewN ?_ _ | refine blk_drew ?_ | refine blk_alloc ?_ _)); exact BK103.out) Tryd.underlying23 rfl (by kernel_rfl)) rfl ?_
    exact ⟨by first | rfl | (simp [errW_none, errW_some] <;> rfl) | (simp [*, errW_none, errW_some] <;> rfl), by repeat (first | (with_reducible first | exact HB.out | apply below_alloc | apply pw_below_drewN | apply below_drew1 | refine below_set ?_ GE101.out | refine below_set ?_ GE102.out | refine below_set ?_ GE103.out) | exact HB.out)⟩
   ·replace c17 := Bool.eq_false_iff.mpr c17
    subst c17
    have H1 : ((headgateref01_Do.f a0 a1_1 a2_1).bind fun bt104 => (if bt104.2 = 0 then (some (1, bt104.1, (⟨#[]⟩ : ByteArray), 0)) else (some (0, 0, (⟨#[]⟩ : ByteArray), bt104.2)))) = some (r1, r2, r3, r4) := by rw [if_neg (show ¬ (false = true) by decide)] at H; exact H
    clear H
    have H := H1
    clear H1
    replace H := Option.bind_eq_some_iff.mp H
    obtain ⟨⟨t104, t105⟩, A210, H⟩ := H
    replace H : (if t105 = 0 then (some (1, t104, (⟨#[]⟩ : ByteArray), 0)) else (some (0, 0, (⟨#[]⟩ : ByteArray), t105))) = some (r1, r2, r3, r4) := H
    have A21 := Aside0.mk A210
    clear A210
    by_cases c22 : t105 = 0
    ·rw [if_pos c22] at H
     have c22b0 : (t105 == 0) = true := beq_iff_eq.mpr c22
     have c22b1 : (t105 != 0) = false := bne_eq_false_iff_eq.mpr c22
     clear c22
     simp only [Option.some.injEq, Prod.mk.injEq] at H
     obtain ⟨rfl, rfl, rfl, rfl⟩ := H
     have hnb23 := NB101_102.out
     have hnc23 := NB102_101.out
     have hnb24 := NB101_103.out
     have hnc24 := NB103_101.out
     obtain ⟨hcz25_0, hcz25_1, hcz25_2, hfz25_0, hfz25_1, hfz25_2⟩ := bf3 BK101.out
     have hnb26 := NB102_103.out
     have hnc26 := NB103_102.out
     obtain ⟨hcz27_0, hcz27_1, hcz27_2, hfz27_0, hfz27_1, hfz27_2⟩ := bf3 BK102.out
     go_wp2_with (first | ((with_reducible refine gate_callee (f := 84) rfl ?_); refine goesL_ (some 25) rfl rfl Tryd.func84 (by kernel_rfl) rfl #[.int .i64 a0, .int .i64 a1_1, .int .i64 a2_1] rfl (by (try simp only [List.map_toArray, List.map_cons, List.map_nil]); first | done | rfl | (simp only [List.length_drop, List.length_take]; rfl) | exact congrArg (fun x_ : Int => #[Value.int .u64 x_]) (show _ = _ % (18446744073709551616 : Int) by omega)) ?_; (with_reducible refine (headgateref01_Do.calls a0 a1_1 a2_1 t104 t105 _ A21.out).mono ?_); rintro e w28 ⟨rfl, hb⟩; refine ⟨_, rfl, ?_⟩; have n0_ := Aside0.mk (blk_below (g := gb101) (o := .cells #[.int .i64 a1_0, .int .i64 a1_1, .string a1_2] 23 (0, 0)) (by (with_reducible repeat (first | refine blk_drewN ?_ _ | refine blk_drew ?_ | refine blk_alloc ?_ _)); exact BK101.out) hb); have n1_ := Aside0.mk (blk_below (g := gb102) (o := .cells #[.int .i64 a2_0, .int .i64 a2_1, .string a2_2] 23 (0, 0)) (by (with_reducible repeat (first | refine blk_drewN ?_ _ | refine blk_drew ?_ | refine blk_alloc ?_ _)); exact BK102.out) hb); have n2_ := Aside0.mk (blk_below (g := gb103) (o := .cells #[.int .i64 0, .int .i64 0, .string (⟨#[]⟩ : ByteArray)] 23 (0, 0)) (by (with_reducible repeat (first | refine blk_drewN ?_ _ | refine blk_drew ?_ | refine blk_alloc ?_ _)); exact BK103.out) hb); have n3_ := Aside0.mk (below_step (by repeat (first | (with_reducible first | exact HB.out | apply below_alloc | apply pw_below_drewN | apply below_drew1 | refine below_set ?_ GE101.out | refine below_set ?_ GE102.out | refine below_set ?_ GE103.out) | exact HB.out)) hb); clear BK101; clear BK102; clear BK103; clear HB; have BK101 := n0_; have BK102 := n1_; have BK103 := n2_; have HB := n3_; clear n0_ n1_ n2_ n3_; (try clear hb); (try clear hb2); (try clear hk); (try clear hi); obtain ⟨hcz29_0, hcz29_1, hcz29_2, hfz29_0, hfz29_1, hfz29_2⟩ := bf3 BK103.out))
     refine bodyPost_ret (results_ct rfl _ _ gb103 23 #[.int .i64 1, .int .i64 t104, .string (⟨#[]⟩ : ByteArray)] (0, 0) _ rfl (by (with_reducible repeat (first | refine blk_drewN ?_ _ | refine blk_drew ?_ | refine blk_alloc ?_ _)); refine blk_put (cs := #[.int .i64 1, .int .i64 t104, .string (⟨#[]⟩ : ByteArray)]) ?_ 2 _ rfl; (with_reducible repeat (first | refine blk_drewN ?_ _ | refine blk_drew ?_ | refine blk_alloc ?_ _)); refine blk_put (cs := #[.int .i64 1, .int .i64 0, .string (⟨#[]⟩ : ByteArray)]) ?_ 1 _ rfl; (with_reducible repeat (first | refine blk_drewN ?_ _ | refine blk_drew ?_ | refine blk_alloc ?_ _)); refine blk_put (cs := #[.int .i64 0, .int .i64 0, .string (⟨#[]⟩ : ByteArray)]) ?_ 0 _ rfl; (with_reducible repeat (first | refine blk_drewN ?_ _ | refine blk_drew ?_ | refine blk_alloc ?_ _)); exact BK103.out) Tryd.underlying23 rfl (by kernel_rfl)) rfl ?_
     exact ⟨by first | rfl | (simp [errW_none, errW_some] <;> rfl) | (simp [*, errW_none, errW_some] <;> rfl), by repeat (first | (with_reducible first | exact HB.out | apply below_alloc | apply pw_below_drewN | apply below_drew1 | refine below_set ?_ GE101.out | refine below_set ?_ GE102.out | refine below_set ?_ GE103.out) | exact HB.out)⟩
    ·rw [if_neg c22] at H
     have c22b0 : (t105 == 0) = false := beq_eq_false_iff_ne.mpr c22
     have c22b1 : (t105 != 0) = true := bne_iff_ne.mpr c22
     simp only [Option.some.injEq, Prod.mk.injEq] at H
     obtain ⟨rfl, rfl, rfl, rfl⟩ := H
     have hnb30 := NB101_102.out
     have hnc30 := NB102_101.out
     have hnb31 := NB101_103.out
     have hnc31 := NB103_101.out
     obtain ⟨hcz32_0, hcz32_1, hcz32_2, hfz32_0, hfz32_1, hfz32_2⟩ := bf3 BK101.out
     have hnb33 := NB102_103.out
     have hnc33 := NB103_102.out
     obtain ⟨hcz34_0, hcz34_1, hcz34_2, hfz34_0, hfz34_1, hfz34_2⟩ := bf3 BK102.out
     go_wp2_with (first | ((with_reducible refine gate_callee (f := 84) rfl ?_); refine goesL_ (some 25) rfl rfl Tryd.func84 (by kernel_rfl) rfl #[.int .i64 a0, .int .i64 a1_1, .int .i64 a2_1] rfl (by (try simp only [List.map_toArray, List.map_cons, List.map_nil]); first | done | rfl | (simp only [List.length_drop, List.length_take]; rfl) | exact congrArg (fun x_ : Int => #[Value.int .u64 x_]) (show _ = _ % (18446744073709551616 : Int) by omega)) ?_; (with_reducible refine (headgateref01_Do.calls a0 a1_1 a2_1 t104 t105 _ A21.out).mono ?_); rintro e w35 ⟨rfl, hb⟩; refine ⟨_, rfl, ?_⟩; have n0_ := Aside0.mk (blk_below (g := gb101) (o := .cells #[.int .i64 a1_0, .int .i64 a1_1, .string a1_2] 23 (0, 0)) (by (with_reducible repeat (first | refine blk_drewN ?_ _ | refine blk_drew ?_ | refine blk_alloc ?_ _)); exact BK101.out) hb); have n1_ := Aside0.mk (blk_below (g := gb102) (o := .cells #[.int .i64 a2_0, .int .i64 a2_1, .string a2_2] 23 (0, 0)) (by (with_reducible repeat (first | refine blk_drewN ?_ _ | refine blk_drew ?_ | refine blk_alloc ?_ _)); exact BK102.out) hb); have n2_ := Aside0.mk (blk_below (g := gb103) (o := .cells #[.int .i64 0, .int .i64 0, .string (⟨#[]⟩ : ByteArray)] 23 (0, 0)) (by (with_reducible repeat (first | refine blk_drewN ?_ _ | refine blk_drew ?_ | refine blk_alloc ?_ _)); exact BK103.out) hb); have n3_ := Aside0.mk (below_step (by repeat (first | (with_reducible first | exact HB.out | apply below_alloc | apply pw_below_drewN | apply below_drew1 | refine below_set ?_ GE101.out | refine below_set ?_ GE102.out | refine below_set ?_ GE103.out) | exact HB.out)) hb); clear BK101; clear BK102; clear BK103; clear HB; have BK101 := n0_; have BK102 := n1_; have BK103 := n2_; have HB := n3_; clear n0_ n1_ n2_ n3_; (try clear hb); (try clear hb2); (try clear hk); (try clear hi); obtain ⟨hcz36_0, hcz36_1, hcz36_2, hfz36_0, hfz36_1, hfz36_2⟩ := bf3 BK103.out))
     refine bodyPost_ret (results_ct rfl _ _ gb103 23 #[.int .i64 0, .int .i64 0, .string (⟨#[]⟩ : ByteArray)] (0, 0) _ rfl (by (with_reducible repeat (first | refine blk_drewN ?_ _ | refine blk_drew ?_ | refine blk_alloc ?_ _)); refine blk_put (cs := #[.int .i64 0, .int .i64 0, .string (⟨#[]⟩ : ByteArray)]) ?_ 2 _ rfl; (with_reducible repeat (first | refine blk_drewN ?_ _ | refine blk_drew ?_ | refine blk_alloc ?_ _)); refine blk_put (cs := #[.int .i64 0, .int .i64 0, .string (⟨#[]⟩ : ByteArray)]) ?_ 1 _ rfl; (with_reducible repeat (first | refine blk_drewN ?_ _ | refine blk_drew ?_ | refine blk_alloc ?_ _)); refine blk_put (cs := #[.int .i64 0, .int .i64 0, .string (⟨#[]⟩ : ByteArray)]) ?_ 0 _ rfl; (with_reducible repeat (first | refine blk_drewN ?_ _ | refine blk_drew ?_ | refine blk_alloc ?_ _)); exact BK103.out) Tryd.underlying23 rfl (by kernel_rfl)) rfl ?_
     exact ⟨by first | rfl | (simp [errW_none, errW_some] <;> rfl) | (simp [*, errW_none, errW_some] <;> rfl), by repeat (first | (with_reducible first | exact HB.out | apply below_alloc | apply pw_below_drewN | apply below_drew1 | refine below_set ?_ GE101.out | refine below_set ?_ GE102.out | refine below_set ?_ GE103.out) | exact HB.out)⟩
def headgateref13_truth.f (a0 : Bool) : Option (Int × Int × ByteArray) := if a0 = true then (some (2, 1, (⟨#[]⟩ : ByteArray))) else (some (2, 0, (⟨#[]⟩ : ByteArray)))
set_option maxHeartbeats 8000000 in
set_option maxRecDepth 100000 in
theorem headgateref13_truth.calls (a0 : Bool) (r1 : Int) (r2 : Int) (r3 : ByteArray) (w : World) (h : headgateref13_truth.f a0 = some (r1, r2, r3)) :
  Calls Tryd.prog 73 #[.bool a0] w fun e w' => e = .returned (.agg #[.int .i64 r1, .int .i64 r2, .string r3]) ∧ Below w.heap.size w w' := by
 have hu23 := Tryd.underlying23
 have HB := Aside0.mk (Below.refl w.heap.size w)
 have H : (if a0 = true then (some (2, 1, (⟨#[]⟩ : ByteArray))) else (some (2, 0, (⟨#[]⟩ : ByteArray)))) = some (r1, r2, r3) := h
 clear h
 by_cases c2 : a0 = true
 ·subst c2
  have H1 : (some (2, 1, (⟨#[]⟩ : ByteArray))) = some (r1, r2, r3) := by rw [if_pos rfl] at H; exact H
  clear H
  have H := H1
  clear H1
  simp only [Option.some.injEq, Prod.mk.injEq] at H
  obtain ⟨rfl, rfl, rfl⟩ := H
  go_enter Tryd.func73, Tryd.ntmps73
  go_wp2_with (first | ((with_reducible refine gate_dst (N := 2) rfl ?_); refine box_event ?hg (N := 2) ?hd (cs := #[.int .i64 0, .int .i64 0, .string (⟨#[]⟩ : ByteArray)]) (t := 23) ?hr ?_; (case hd => rfl); (case hg => rfl); (case hr => first | (go_simp; done) | (go_simp; rfl)); intro gb106 hg w3 hbox hb; have n0_ := Aside0.mk (below_step (by repeat (first | (with_reducible first | exact HB.out | apply below_alloc | apply pw_below_drewN | apply below_drew1) | exact HB.out)) hb); have n1_ := Aside0.mk (hbox); have n2_ := Aside0.mk ((by rw [hg]; exact (below_size (by repeat (first | (with_reducible first | exact HB.out | apply below_alloc | apply pw_below_drewN | apply below_drew1) | exact HB.out))) : w.heap.size ≤ gb106)); have n3_ := Aside0.mk ((by rw [hg]; exact (below_size (by repeat (first | (with_reducible first | exact HB.out | apply below_alloc | apply pw_below_drewN | apply below_drew1) | exact HB.out))) : w.heap.size ≤ gb106)); clear HB; have HB := n0_; have BK106 := n1_; have GW106 := n2_; have GE106 := n3_; clear n0_ n1_ n2_ n3_; clear hb hbox hg; obtain ⟨hcz4_0, hcz4_1, hcz4_2, hfz4_0, hfz4_1, hfz4_2⟩ := bf3 BK106.out))
  refine bodyPost_ret (results_cell_row rfl _ _ gb106 23 #[.int .i64 2, .int .i64 1, .string (⟨#[]⟩ : ByteArray)] (0, 0) _ rfl (by (with_reducible repeat (first | refine blk_drewN ?_ _ | refine blk_drew ?_ | refine blk_alloc ?_ _)); refine blk_put (cs := #[.int .i64 2, .int .i64 1, .string (⟨#[]⟩ : ByteArray)]) ?_ 2 _ rfl; (with_reducible repeat (first | refine blk_drewN ?_ _ | refine blk_drew ?_ | refine blk_alloc ?_ _)); refine blk_put (cs := #[.int .i64 2, .int .i64 0, .string (⟨#[]⟩ : ByteArray)]) ?_ 1 _ rfl; (with_reducible repeat (first | refine blk_drewN ?_ _ | refine blk_drew ?_ | refine blk_alloc ?_ _)); refine blk_put (cs := #[.int .i64 0, .int .i64 0, .string (⟨#[]⟩ : ByteArray)]) ?_ 0 _ rfl; (with_reducible repeat (first | refine blk_drewN ?_ _ | refine blk_drew ?_ | refine blk_alloc ?_ _)); exact BK106.out) Tryd.underlying23 rfl (by kernel_rfl)) rfl ?_
  exact ⟨by first | rfl | (simp [errW_none, errW_some] <;> rfl) | (simp [*, errW_none, errW_some] <;> rfl), by repeat (first | (with_reducible first | exact HB.out | apply below_alloc | apply pw_below_drewN | apply below_drew1 | refine below_set ?_ GE106.out) | exact HB.out)⟩
 ·replace c2 := Bool.eq_false_iff.mpr c2
  subst c2
  have H1 : (some (2, 0, (⟨#[]⟩ : ByteArray))) = some (r1, r2, r3) := by rw [if_neg (show ¬ (false = true) by decide)] at H; exact H
  clear H
  have H := H1
  clear H1
  simp only [Option.some.injEq, Prod.mk.injEq] at H
  obtain ⟨rfl, rfl, rfl⟩ := H
  go_enter Tryd.func73, Tryd.ntmps73
  go_wp2_with (first | ((with_reducible refine gate_dst (N := 2) rfl ?_); refine box_event ?hg (N := 2) ?hd (cs := #[.int .i64 0, .int .i64 0, .string (⟨#[]⟩ : ByteArray)]) (t := 23) ?hr ?_; (case hd => rfl); (case hg => rfl); (case hr => first | (go_simp; done) | (go_simp; rfl)); intro gb106 hg w5 hbox hb; have n0_ := Aside0.mk (below_step (by repeat (first | (with_reducible first | exact HB.out | apply below_alloc | apply pw_below_drewN | apply below_drew1) | exact HB.out)) hb); have n1_ := Aside0.mk (hbox); have n2_ := Aside0.mk ((by rw [hg]; exact (below_size (by repeat (first | (with_reducible first | exact HB.out | apply below_alloc | apply pw_below_drewN | apply below_drew1) | exact HB.out))) : w.heap.size ≤ gb106)); have n3_ := Aside0.mk ((by rw [hg]; exact (below_size (by repeat (first | (with_reducible first | exact HB.out | apply below_alloc | apply pw_below_drewN | apply below_drew1) | exact HB.out))) : w.heap.size ≤ gb106)); clear HB; have HB := n0_; have BK106 := n1_; have GW106 := n2_; have GE106 := n3_; clear n0_ n1_ n2_ n3_; clear hb hbox hg; obtain ⟨hcz6_0, hcz6_1, hcz6_2, hfz6_0, hfz6_1, hfz6_2⟩ := bf3 BK106.out))
  refine bodyPost_ret (results_cell_row rfl _ _ gb106 23 #[.int .i64 2, .int .i64 0, .string (⟨#[]⟩ : ByteArray)] (0, 0) _ rfl (by (with_reducible repeat (first | refine blk_drewN ?_ _ | refine blk_drew ?_ | refine blk_alloc ?_ _)); refine blk_put (cs := #[.int .i64 2, .int .i64 0, .string (⟨#[]⟩ : ByteArray)]) ?_ 2 _ rfl; (with_reducible repeat (first | refine blk_drewN ?_ _ | refine blk_drew ?_ | refine blk_alloc ?_ _)); refine blk_put (cs := #[.int .i64 2, .int .i64 0, .string (⟨#[]⟩ : ByteArray)]) ?_ 1 _ rfl; (with_reducible repeat (first | refine blk_drewN ?_ _ | refine blk_drew ?_ | refine blk_alloc ?_ _)); refine blk_put (cs := #[.int .i64 0, .int .i64 0, .string (⟨#[]⟩ : ByteArray)]) ?_ 0 _ rfl; (with_reducible repeat (first | refine blk_drewN ?_ _ | refine blk_drew ?_ | refine blk_alloc ?_ _)); exact BK106.out) Tryd.underlying23 rfl (by kernel_rfl)) rfl ?_
  exact ⟨by first | rfl | (simp [errW_none, errW_some] <;> rfl) | (simp [*, errW_none, errW_some] <;> rfl), by repeat (first | (with_reducible first | exact HB.out | apply below_alloc | apply pw_below_drewN | apply below_drew1 | refine below_set ?_ GE106.out) | exact HB.out)⟩
def headgateref03_Cmp.j0 : Nat → Bool → Int → Int → ByteArray → Int → Int → ByteArray → Option (Int)
 | 0, _, _, _, _, _, _, _ => none
 | k + 1, x37, x108000, x108001, x108002, x109000, x109001, x109002 => if x37 = true then (some (-1)) else (if (x108000 == x109000 && (x108001 == x109001 && (x108002.toList == x109002.toList))) = true then (some 0) else (some 1))
def headgateref03_Cmp.f (k : Nat) (a0_0 : Int) (a0_1 : Int) (a0_2 : ByteArray) (a1_0 : Int) (a1_1 : Int) (a1_2 : ByteArray) : Option (Int) := if a0_0 < a1_0 then (headgateref03_Cmp.j0 k true a0_0 a0_1 a0_2 a1_0 a1_1 a1_2) else (if a0_0 = a1_0 then (if a0_1 < a1_1 then (headgateref03_Cmp.j0 k true a0_0 a0_1 a0_2 a1_0 a1_1 a1_2) else (if a0_1 = a1_1 then (headgateref03_Cmp.j0 k (Op.bytesLess a0_2.toList a1_2.toList) a0_0 a0_1 a0_2 a1_0 a1_1 a1_2) else (headgateref03_Cmp.j0 k false a0_0 a0_1 a0_2 a1_0 a1_1 a1_2))) else (headgateref03_Cmp.j0 k false a0_0 a0_1 a0_2 a1_0 a1_1 a1_2))
set_option maxHeartbeats 8000000 in
set_option maxRecDepth 100000 in
theorem headgateref03_Cmp.calls (k : Nat) (a0_0 : Int) (a0_1 : Int) (a0_2 : ByteArray) (a1_0 : Int) (a1_1 : Int) (a1_2 : ByteArray) (r : Int) (w : World) (h : headgateref03_Cmp.f k a0_0 a0_1 a0_2 a1_0 a1_1 a1_2 = some r) :
  Calls Tryd.prog 74 #[.agg #[.int .i64 a0_0, .int .i64 a0_1, .string a0_2], .agg #[.int .i64 a1_0, .int .i64 a1_1, .string a1_2]] w fun e w' => e = .returned (.int .i64 r) ∧ Below w.heap.size w w' := by
 have hu23 := Tryd.underlying23
 have HB := Aside0.mk (Below.refl w.heap.size w)
 have H : (if a0_0 < a1_0 then (headgateref03_Cmp.j0 k true a0_0 a0_1 a0_2 a1_0 a1_1 a1_2) else (if a0_0 = a1_0 then (if a0_1 < a1_1 then (headgateref03_Cmp.j0 k true a0_0 a0_1 a0_2 a1_0 a1_1 a1_2) else (if a0_1 = a1_1 then (headgateref03_Cmp.j0 k (Op.bytesLess a0_2.toList a1_2.toList) a0_0 a0_1 a0_2 a1_0 a1_1 a1_2) else (headgateref03_Cmp.j0 k false a0_0 a0_1 a0_2 a1_0 a1_1 a1_2))) else (headgateref03_Cmp.j0 k false a0_0 a0_1 a0_2 a1_0 a1_1 a1_2))) = some r := h
 clear h
 have HC3 := Aside0.mk H
 clear H
 go_enter Tryd.func74, Tryd.ntmps74
 go_upto_region 1 with (first | ((with_reducible refine gate_dst (N := 2) rfl ?_); refine box_event ?hg (N := 2) ?hd (cs := #[.int .i64 a0_0, .int .i64 a0_1, .string a0_2]) (t := 23) ?hr ?_; (case hd => rfl); (case hg => rfl); (case hr => first | (go_simp; done) | (go_simp; rfl)); intro gb107 hg w4 hbox hb; have n0_ := Aside0.mk (below_step (by repeat (first | (with_reducible first | exact HB.out | apply below_alloc | apply pw_below_drewN | apply below_drew1) | exact HB.out)) hb); have n1_ := Aside0.mk (hbox); have n2_ := Aside0.mk ((by rw [hg]; exact (below_size (by repeat (first | (with_reducible first | exact HB.out | apply below_alloc | apply pw_below_drewN | apply below_drew1) | exact HB.out))) : w.heap.size ≤ gb107)); have n3_ := Aside0.mk ((by rw [hg]; exact (below_size (by repeat (first | (with_reducible first | exact HB.out | apply below_alloc | apply pw_below_drewN | apply below_drew1) | exact HB.out))) : w.heap.size ≤ gb107)); clear HB; have HB := n0_; have BK107 := n1_; have GW107 := n2_; have GE107 := n3_; clear n0_ n1_ n2_ n3_; clear hb hbox hg) | ((with_reducible refine gate_dst (N := 3) rfl ?_); refine box_event ?hg (N := 3) ?hd (cs := #[.int .i64 a1_0, .int .i64 a1_1, .string a1_2]) (t := 23) ?hr ?_; (case hd => rfl); (case hg => rfl); (case hr => first | (go_simp; done) | (go_simp; rfl)); intro gb108 hg w5 hbox hb; have n0_ := Aside0.mk (blk_below (g := gb107) (o := .cells #[.int .i64 a0_0, .int .i64 a0_1, .string a0_2] 23 (0, 0)) (by (with_reducible repeat (first | refine blk_drewN ?_ _ | refine blk_drew ?_ | refine blk_alloc ?_ _)); exact BK107.out) hb); have n1_ := Aside0.mk (below_step (by repeat (first | (with_reducible first | exact HB.out | apply below_alloc | apply pw_below_drewN | apply below_drew1 | refine below_set ?_ GE107.out) | exact HB.out)) hb); have n2_ := Aside0.mk (hbox); have n3_ := Aside0.mk ((by rw [hg]; exact (below_size (by repeat (first | (with_reducible first | exact HB.out | apply below_alloc | apply pw_below_drewN | apply below_drew1 | refine below_set ?_ GE107.out) | exact HB.out))) : w.heap.size ≤ gb108)); have n4_ := Aside0.mk ((by rw [hg]; exact (below_size (by repeat (first | (with_reducible first | exact HB.out | apply below_alloc | apply pw_below_drewN | apply below_drew1 | refine below_set ?_ GE107.out) | exact HB.out))) : w.heap.size ≤ gb108)); have n5_ := Aside0.mk ((by rw [hg]; exact Nat.ne_of_lt (blk_lt (g := gb107) (o := .cells #[.int .i64 a0_0, .int .i64 a0_1, .string a0_2] 23 (0, 0)) (by (with_reducible repeat (first | refine blk_drewN ?_ _ | refine blk_drew ?_ | refine blk_alloc ?_ _)); exact BK107.out)) : gb107 ≠ gb108)); have n6_ := Aside0.mk ((by rw [hg]; exact Nat.ne_of_gt (blk_lt (g := gb107) (o := .cells #[.int .i64 a0_0, .int .i64 a0_1, .string a0_2] 23 (0, 0)) (by (with_reducible repeat (first | refine blk_drewN ?_ _ | refine blk_drew ?_ | refine blk_alloc ?_ _)); exact BK107.out)) : gb108 ≠ gb107)); clear BK107; clear HB; have BK107 := n0_; have HB := n1_; have BK108 := n2_; have GW108 := n3_; have GE108 := n4_; have NB107_108 := n5_; have NB108_107 := n6_; clear n0_ n1_ n2_ n3_ n4_ n5_ n6_; clear hb hbox hg))
 (try simp only [Act.put, zA, zB, zC])
 go_cut [37] (fun v37 wc => ∃ (kq : Nat) (x37_2 : Bool), v37 = .bool x37_2 ∧ Aside0 (headgateref03_Cmp.j0 kq x37_2 a0_0 a0_1 a0_2 a1_0 a1_1 a1_2 = some r) ∧ Aside0 (kq ≤ k) ∧ Aside0 (wc.heap[gb107]? = some (.cells #[.int .i64 a0_0, .int .i64 a0_1, .string a0_2] 23 (0, 0))) ∧ Aside0 (wc.heap[gb108]? = some (.cells #[.int .i64 a1_0, .int .i64 a1_1, .string a1_2] 23 (0, 0))) ∧ Aside0 (Below w.heap.size w wc))
 case first =>
  have H := HC3.out
  clear HC3
  by_cases c6 : a0_0 < a1_0
  ·rw [if_pos c6] at H
   have c6b0 : decide (a0_0 < a1_0) = true := decide_eq_true c6
   clear c6
   (first | rw [c6b0] | (simp only [i64_w, i32_w]; rw [c6b0]) | skip)
   have H' := Aside0.mk H
   clear H
   have hnb7 := NB107_108.out
   have hnc7 := NB108_107.out
   obtain ⟨hcz8_0, hcz8_1, hcz8_2, hfz8_0, hfz8_1, hfz8_2⟩ := bf3 BK107.out
   obtain ⟨hcz9_0, hcz9_1, hcz9_2, hfz9_0, hfz9_1, hfz9_2⟩ := bf3 BK108.out
   go_wp2
   go_meet
   case rel => exact ⟨_, (true), (by first | rfl | (simp; done) | (simp [*]; done) | (simp; rw [Bool.eq_iff_iff]; simp; done)), H', ⟨by first | omega | exact Nat.le_refl _⟩, ⟨by (with_reducible repeat (first | refine blk_drewN ?_ _ | refine blk_drew ?_ | refine blk_alloc ?_ _)); exact BK107.out⟩, ⟨by (with_reducible repeat (first | refine blk_drewN ?_ _ | refine blk_drew ?_ | refine blk_alloc ?_ _)); exact BK108.out⟩, ⟨by repeat (first | (with_reducible first | exact HB.out | apply below_alloc | apply pw_below_drewN | apply below_drew1 | refine below_set ?_ GE107.out | refine below_set ?_ GE108.out) | exact HB.out)⟩⟩
  ·rw [if_neg c6] at H
   have c6b0 : decide (a0_0 < a1_0) = false := decide_eq_false c6
   clear c6
   (first | rw [c6b0] | (simp only [i64_w, i32_w]; rw [c6b0]) | skip)
   by_cases c10 : a0_0 = a1_0
   ·rw [if_pos c10] at H
    have c10b0 : (a0_0 == a1_0) = true := beq_iff_eq.mpr c10
    have c10b1 : (a0_0 != a1_0) = false := bne_eq_false_iff_eq.mpr c10
    clear c10
    by_cases c11 : a0_1 < a1_1
    ·rw [if_pos c11] at H
     have c11b0 : decide (a0_1 < a1_1) = true := decide_eq_true c11
     clear c11
     have H' := Aside0.mk H
     clear H
     have hnb12 := NB107_108.out
     have hnc12 := NB108_107.out
     obtain ⟨hcz13_0, hcz13_1, hcz13_2, hfz13_0, hfz13_1, hfz13_2⟩ := bf3 BK107.out
     obtain ⟨hcz14_0, hcz14_1, hcz14_2, hfz14_0, hfz14_1, hfz14_2⟩ := bf3 BK108.out
     go_wp2
     go_meet
     case rel => exact ⟨_, (true), (by first | rfl | (simp; done) | (simp [*]; done) | (simp; rw [Bool.eq_iff_iff]; simp; done)), H', ⟨by first | omega | exact Nat.le_refl _⟩, ⟨by (with_reducible repeat (first | refine blk_drewN ?_ _ | refine blk_drew ?_ | refine blk_alloc ?_ _)); exact BK107.out⟩, ⟨by (with_reducible repeat (first | refine blk_drewN ?_ _ | refine blk_drew ?_ | refine blk_alloc ?_ _)); exact BK108.out⟩, ⟨by repeat (first | (with_reducible first | exact HB.out | apply below_alloc | apply pw_below_drewN | apply below_drew1 | refine below_set ?_ GE107.out | refine below_set ?_ GE108.out) | exact HB.out)⟩⟩
    ·rw [if_neg c11] at H
     have c11b0 : decide (a0_1 < a1_1) = false := decide_eq_false c11
     clear c11
     by_cases c15 : a0_1 = a1_1
     ·rw [if_pos c15] at H
      have c15b0 : (a0_1 == a1_1) = true := beq_iff_eq.mpr c15
      have c15b1 : (a0_1 != a1_1) = false := bne_eq_false_iff_eq.mpr c15
      clear c15
      have H' := Aside0.mk H
      clear H
      have hnb16 := NB107_108.out
      have hnc16 := NB108_107.out
      obtain ⟨hcz17_0, hcz17_1, hcz17_2, hfz17_0, hfz17_1, hfz17_2⟩ := bf3 BK107.out
      obtain ⟨hcz18_0, hcz18_1, hcz18_2, hfz18_0, hfz18_1, hfz18_2⟩ := bf3 BK108.out
      go_wp2
      go_meet
      case rel => exact ⟨_, ((Op.bytesLess a0_2.toList a1_2.toList)), (by first | rfl | (simp; done) | (simp [*]; done) | (simp; rw [Bool.eq_iff_iff]; simp; done)), H', ⟨by first | omega | exact Nat.le_refl _⟩, ⟨by (with_reducible repeat (first | refine blk_drewN ?_ _ | refine blk_drew ?_ | refine blk_alloc ?_ _)); exact BK107.out⟩, ⟨by (with_reducible repeat (first | refine blk_drewN ?_ _ | refine blk_drew ?_ | refine blk_alloc ?_ _)); exact BK108.out⟩, ⟨by repeat (first | (with_reducible first | exact HB.out | apply below_alloc | apply pw_below_drewN | apply below_drew1 | refine below_set ?_ GE107.out | refine below_set ?_ GE108.out) | exact HB.out)⟩⟩
     ·rw [if_neg c15] at H
      have c15b0 : (a0_1 == a1_1) = false := beq_eq_false_iff_ne.mpr c15
      have c15b1 : (a0_1 != a1_1) = true := bne_iff_ne.mpr c15
      have H' := Aside0.mk H
      clear H
      have hnb19 := NB107_108.out
      have hnc19 := NB108_107.out
      obtain ⟨hcz20_0, hcz20_1, hcz20_2, hfz20_0, hfz20_1, hfz20_2⟩ := bf3 BK107.out
      obtain ⟨hcz21_0, hcz21_1, hcz21_2, hfz21_0, hfz21_1, hfz21_2⟩ := bf3 BK108.out
      go_wp2
      go_meet
      case rel => exact ⟨_, (false), (by first | rfl | (simp; done) | (simp [*]; done) | (simp; rw [Bool.eq_iff_iff]; simp; done)), H', ⟨by first | omega | exact Nat.le_refl _⟩, ⟨by (with_reducible repeat (first | refine blk_drewN ?_ _ | refine blk_drew ?_ | refine blk_alloc ?_ _)); exact BK107.out⟩, ⟨by (with_reducible repeat (first | refine blk_drewN ?_ _ | refine blk_drew ?_ | refine blk_alloc ?_ _)); exact BK108.out⟩, ⟨by repeat (first | (with_reducible first | exact HB.out | apply below_alloc | apply pw_below_drewN | apply below_drew1 | refine below_set ?_ GE107.out | refine below_set ?_ GE108.out) | exact HB.out)⟩⟩
   ·rw [if_neg c10] at H
    have c10b0 : (a0_0 == a1_0) = false := beq_eq_false_iff_ne.mpr c10
    have c10b1 : (a0_0 != a1_0) = true := bne_iff_ne.mpr c10
    have H' := Aside0.mk H
    clear H
    have hnb22 := NB107_108.out
    have hnc22 := NB108_107.out
    obtain ⟨hcz23_0, hcz23_1, hcz23_2, hfz23_0, hfz23_1, hfz23_2⟩ := bf3 BK107.out
    obtain ⟨hcz24_0, hcz24_1, hcz24_2, hfz24_0, hfz24_1, hfz24_2⟩ := bf3 BK108.out
    go_wp2
    go_meet
    case rel => exact ⟨_, (false), (by first | rfl | (simp; done) | (simp [*]; done) | (simp; rw [Bool.eq_iff_iff]; simp; done)), H', ⟨by first | omega | exact Nat.le_refl _⟩, ⟨by (with_reducible repeat (first | refine blk_drewN ?_ _ | refine blk_drew ?_ | refine blk_alloc ?_ _)); exact BK107.out⟩, ⟨by (with_reducible repeat (first | refine blk_drewN ?_ _ | refine blk_drew ?_ | refine blk_alloc ?_ _)); exact BK108.out⟩, ⟨by repeat (first | (with_reducible first | exact HB.out | apply below_alloc | apply pw_below_drewN | apply below_drew1 | refine below_set ?_ GE107.out | refine below_set ?_ GE108.out) | exact HB.out)⟩⟩
 case rest =>
  clear HC3
  try clear c1
  try clear c2
  try clear p2
  try clear c6
  try clear c6b0
  try clear c7
  try clear c10
  try clear c10b0
  try clear c10b1
  try clear c11
  try clear c11b0
  try clear c12
  try clear c15
  try clear c15b0
  try clear c15b1
  try clear c16
  try clear c19
  try clear c22
  try clear hcz13_0
  try clear hcz13_1
  try clear hcz13_2
  try clear hcz14_0
  try clear hcz14_1
  try clear hcz14_2
  try clear hcz17_0
  try clear hcz17_1
  try clear hcz17_2
  try clear hcz18_0
  try clear hcz18_1
  try clear hcz18_2
  try clear hcz20_0
  try clear hcz20_1
  try clear hcz20_2
  try clear hcz21_0
  try clear hcz21_1
  try clear hcz21_2
  try clear hcz23_0
  try clear hcz23_1
  try clear hcz23_2
  try clear hcz24_0
  try clear hcz24_1
  try clear hcz24_2
  try clear hcz8_0
  try clear hcz8_1
  try clear hcz8_2
  try clear hcz9_0
  try clear hcz9_1
  try clear hcz9_2
  try clear hfz13_0
  try clear hfz13_1
  try clear hfz13_2
  try clear hfz14_0
  try clear hfz14_1
  try clear hfz14_2
  try clear hfz17_0
  try clear hfz17_1
  try clear hfz17_2
  try clear hfz18_0
  try clear hfz18_1
  try clear hfz18_2
  try clear hfz20_0
  try clear hfz20_1
  try clear hfz20_2
  try clear hfz21_0
  try clear hfz21_1
  try clear hfz21_2
  try clear hfz23_0
  try clear hfz23_1
  try clear hfz23_2
  try clear hfz24_0
  try clear hfz24_1
  try clear hfz24_2
  try clear hfz8_0
  try clear hfz8_1
  try clear hfz8_2
  try clear hfz9_0
  try clear hfz9_1
  try clear hfz9_2
  obtain ⟨kq, x37_2, rfl, HA, HJ2, BK107, BK108, HB⟩ := hcut
  cases kq with
  | zero => exact absurd HA.out (by simp [headgateref03_Cmp.j0])
  | succ kj2 =>
   have H := HA.out
   clear HA
   simp only [headgateref03_Cmp.j0] at H
   by_cases c25 : x37_2 = true
   ·subst c25
    have H1 : (some (-1)) = some r := by rw [if_pos rfl] at H; exact H
    clear H
    have H := H1
    clear H1
    obtain rfl := Option.some.inj H
    go_wp2
    go_ret
    exact ⟨by first | rfl | (simp [errW_none, errW_some] <;> rfl) | (simp [*, errW_none, errW_some] <;> rfl), by repeat (first | (with_reducible first | exact HB.out | apply below_alloc | apply pw_below_drewN | apply below_drew1 | refine below_set ?_ GE107.out | refine below_set ?_ GE108.out) | exact HB.out)⟩
   ·replace c25 := Bool.eq_false_iff.mpr c25
    subst c25
    have H1 : (if (a0_0 == a1_0 && (a0_1 == a1_1 && (a0_2.toList == a1_2.toList))) = true then (some 0) else (some 1)) = some r := by rw [if_neg (show ¬ (false = true) by decide)] at H; exact H
    clear H
    have H := H1
    clear H1
    by_cases c26 : (a0_0 == a1_0 && (a0_1 == a1_1 && (a0_2.toList == a1_2.toList))) = true
    ·rw [if_pos c26] at H
     have c26b0 : (a0_0 == a1_0 && (a0_1 == a1_1 && (a0_2.toList == a1_2.toList))) = true := c26
     (try (have c26b1 : decide (a0_0 = a1_0 && (a0_1 == a1_1 && (a0_2.toList == a1_2.toList))) = true := by simpa using c26))
     (try (have c26b2 : (a0_0 == a1_0 && (a0_1 == a1_1 && (a0_2.toList == a1_2.toList))) = true := by simpa using c26))
     clear c26
     obtain rfl := Option.some.inj H
     have hnb27 := NB107_108.out
     have hnc27 := NB108_107.out
     obtain ⟨hcz28_0, hcz28_1, hcz28_2, hfz28_0, hfz28_1, hfz28_2⟩ := bf3 BK107.out
     obtain ⟨hcz29_0, hcz29_1, hcz29_2, hfz29_0, hfz29_1, hfz29_2⟩ := bf3 BK108.out
     go_wp2
     go_ret
     exact ⟨by first | rfl | (simp [errW_none, errW_some] <;> rfl) | (simp [*, errW_none, errW_some] <;> rfl), by repeat (first | (with_reducible first | exact HB.out | apply below_alloc | apply pw_below_drewN | apply below_drew1 | refine below_set ?_ GE107.out | refine below_set ?_ GE108.out) | exact HB.out)⟩
    ·rw [if_neg c26] at H
     have c26b0 : (a0_0 == a1_0 && (a0_1 == a1_1 && (a0_2.toList == a1_2.toList))) = false := by simpa using c26
     (try (have c26b1 : decide (a0_0 = a1_0 && (a0_1 == a1_1 && (a0_2.toList == a1_2.toList))) = false := by simpa using c26))
     (try (have c26b2 : (a0_0 == a1_0 && (a0_1 == a1_1 && (a0_2.toList == a1_2.toList))) = false := by simpa using c26))
     (try (have c26b3 : ¬ (a0_0 = a1_0 && (a0_1 == a1_1 && (a0_2.toList == a1_2.toList))) := by simpa using c26))
     clear c26
     obtain rfl := Option.some.inj H
     have hnb30 := NB107_108.out
     have hnc30 := NB108_107.out
     obtain ⟨hcz31_0, hcz31_1, hcz31_2, hfz31_0, hfz31_1, hfz31_2⟩ := bf3 BK107.out
     obtain ⟨hcz32_0, hcz32_1, hcz32_2, hfz32_0, hfz32_1, hfz32_2⟩ := bf3 BK108.out
     go_wp2
     go_ret
     exact ⟨by first | rfl | (simp [errW_none, errW_some] <;> rfl) | (simp [*, errW_none, errW_some] <;> rfl), by repeat (first | (with_reducible first | exact HB.out | apply below_alloc | apply pw_below_drewN | apply below_drew1 | refine below_set ?_ GE107.out | refine below_set ?_ GE108.out) | exact HB.out)⟩
end Go.Proofs.YtopolnbffmljaaaDoor.Q
