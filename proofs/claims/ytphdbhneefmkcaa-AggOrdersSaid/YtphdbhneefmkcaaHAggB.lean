/- The functions that agg.merges hands out: walked. -/
import Derived.Test.YtphdbhneefmkcaaHAggA
import Derived.Test.YtphdbhneefmkcaaHAggC
namespace Go.Proofs.Ytphdbhneefmkcaa.Q
open Go.RowKit Go.Proofs.YtphdbhneefmkcaaW.PrintWords Go.Proofs.YtphdbhneefmkcaaW.PrintLast Go.Proofs.YtphdbhneefmkcaaW.PrintMore
set_option linter.unusedVariables false
set_option linter.unusedSimpArgs false

set_option maxHeartbeats 4000000 in
set_option maxRecDepth 100000 in
theorem same_calls (a0 a1 a2 a3 a4 : Int) (a5 : ByteArray) (b0 b1 b2 b3 b4 : Int) (b5 : ByteArray) (w : World) : Calls Try.prog 42 #[.agg #[.int .i64 a0, .int .i64 a1, .int .u64 a2, .int .i64 a3, .int .i64 a4, .string a5], .agg #[.int .i64 b0, .int .i64 b1, .int .u64 b2, .int .i64 b3, .int .i64 b4, .string b5]] w fun e w' => e = .returned (.agg #[.int .i64 a0, .int .i64 a1, .int .u64 a2, .int .i64 a3, .int .i64 a4, .string a5]) ∧ Below w.heap.size w w' := by
  go_enter Try.func42, Try.ntmps42
  go_wp2
  have hR := blk_new ((w.alloc (.cells #[.int .i64 a0, .int .i64 a1, .int .u64 a2, .int .i64 a3, .int .i64 a4, .string a5] 28)).alloc (.cells #[.int .i64 b0, .int .i64 b1, .int .u64 b2, .int .i64 b3, .int .i64 b4, .string b5] 28)) (.cells #[.int .i64 a0, .int .i64 a1, .int .u64 a2, .int .i64 a3, .int .i64 a4, .string a5] 28)
  rw [World.size_alloc, World.size_alloc] at hR
  refine bodyPost_ret (results_single rfl (.cell _ _ _ _ _ rfl hR Try.underlying28 rfl (by kernel_rfl) .nil)) rfl ⟨rfl, ?_⟩
  with_reducible repeat (first | exact Below.refl _ _ | apply below_alloc | apply pw_below_drewN | refine below_set ?_ (by omega))

set_option maxHeartbeats 4000000 in
set_option maxRecDepth 100000 in
theorem sum_calls (a0 a1 a2 a3 a4 : Int) (a5 : ByteArray) (b0 b1 b2 b3 b4 : Int) (b5 : ByteArray) (s1 s2 : Int) (hs : num_Both.f a1 a2 b1 b2 = some (s1, s2)) (w : World) : Calls Try.prog 43 #[.agg #[.int .i64 a0, .int .i64 a1, .int .u64 a2, .int .i64 a3, .int .i64 a4, .string a5], .agg #[.int .i64 b0, .int .i64 b1, .int .u64 b2, .int .i64 b3, .int .i64 b4, .string b5]] w fun e w' => e = .returned (.agg #[.int .i64 a0, .int .i64 s1, .int .u64 s2, .int .i64 a3, .int .i64 a4, .string a5]) ∧ Below w.heap.size w w' := by
  go_enter Try.func43, Try.ntmps43
  go_wp2_with fail
  refine (num_Both.calls a1 a2 b1 b2 s1 s2 _ hs).mono ?_
  rintro e w1 ⟨rfl, hb1⟩
  obtain ⟨bA, bB, bR, hB, hz⟩ := blk3 hb1
  have cA0 : w1.cell? ⟨w.heap.size, 0, none⟩ = some (.int .i64 a0) := (blk_cell bA 0).trans rfl
  have fA0 : w1.frozen? ⟨w.heap.size, 0, none⟩ = false := blk_frozen bA 0
  have cA1 : w1.cell? ⟨w.heap.size, 1, none⟩ = some (.int .i64 a1) := (blk_cell bA 1).trans rfl
  have fA1 : w1.frozen? ⟨w.heap.size, 1, none⟩ = false := blk_frozen bA 1
  have cA2 : w1.cell? ⟨w.heap.size, 2, none⟩ = some (.int .u64 a2) := (blk_cell bA 2).trans rfl
  have fA2 : w1.frozen? ⟨w.heap.size, 2, none⟩ = false := blk_frozen bA 2
  have cA3 : w1.cell? ⟨w.heap.size, 3, none⟩ = some (.int .i64 a3) := (blk_cell bA 3).trans rfl
  have fA3 : w1.frozen? ⟨w.heap.size, 3, none⟩ = false := blk_frozen bA 3
  have cA4 : w1.cell? ⟨w.heap.size, 4, none⟩ = some (.int .i64 a4) := (blk_cell bA 4).trans rfl
  have fA4 : w1.frozen? ⟨w.heap.size, 4, none⟩ = false := blk_frozen bA 4
  have cA5 : w1.cell? ⟨w.heap.size, 5, none⟩ = some (.string a5) := (blk_cell bA 5).trans rfl
  have fA5 : w1.frozen? ⟨w.heap.size, 5, none⟩ = false := blk_frozen bA 5
  have cR0 : w1.cell? ⟨w.heap.size + 1 + 1, 0, none⟩ = some (.int .i64 0) := (blk_cell bR 0).trans rfl
  have fR0 : w1.frozen? ⟨w.heap.size + 1 + 1, 0, none⟩ = false := blk_frozen bR 0
  have cR1 : w1.cell? ⟨w.heap.size + 1 + 1, 1, none⟩ = some (.int .i64 0) := (blk_cell bR 1).trans rfl
  have fR1 : w1.frozen? ⟨w.heap.size + 1 + 1, 1, none⟩ = false := blk_frozen bR 1
  have cR2 : w1.cell? ⟨w.heap.size + 1 + 1, 2, none⟩ = some (.int .u64 0) := (blk_cell bR 2).trans rfl
  have fR2 : w1.frozen? ⟨w.heap.size + 1 + 1, 2, none⟩ = false := blk_frozen bR 2
  have cR3 : w1.cell? ⟨w.heap.size + 1 + 1, 3, none⟩ = some (.int .i64 0) := (blk_cell bR 3).trans rfl
  have fR3 : w1.frozen? ⟨w.heap.size + 1 + 1, 3, none⟩ = false := blk_frozen bR 3
  have cR4 : w1.cell? ⟨w.heap.size + 1 + 1, 4, none⟩ = some (.int .i64 0) := (blk_cell bR 4).trans rfl
  have fR4 : w1.frozen? ⟨w.heap.size + 1 + 1, 4, none⟩ = false := blk_frozen bR 4
  have cR5 : w1.cell? ⟨w.heap.size + 1 + 1, 5, none⟩ = some (.string ⟨#[]⟩) := (blk_cell bR 5).trans rfl
  have fR5 : w1.frozen? ⟨w.heap.size + 1 + 1, 5, none⟩ = false := blk_frozen bR 5
  have HB := Aside0.mk hB
  have BR := Aside0.mk bR
  clear bA bB bR hB hb1 hs
  go_wp2
  have hR := blk_put6 (blk_far (blk_far BR.out (p := ⟨w.heap.size, 1, none⟩) (show w.heap.size + 1 + 1 ≠ w.heap.size by omega) (.int .i64 s1)) (p := ⟨w.heap.size, 2, none⟩) (show w.heap.size + 1 + 1 ≠ w.heap.size by omega) (.int .u64 s2)) (.int .i64 a0) (.int .i64 s1) (.int .u64 s2) (.int .i64 a3) (.int .i64 a4) (.string a5)
  refine bodyPost_ret (results_single rfl (.cell _ _ _ _ _ rfl hR Try.underlying28 rfl (by kernel_rfl) .nil)) rfl ⟨rfl, ?_⟩
  clear cA0 fA0 cA1 fA1 cA2 fA2 cA3 fA3 cA4 fA4 cA5 fA5
  clear cR0 fR0 cR1 fR1 cR2 fR2 cR3 fR3 cR4 fR4 cR5 fR5
  with_reducible repeat (first | exact HB.out | apply below_alloc | apply pw_below_drewN | refine below_set ?_ (by omega))

/-- Does b's best take a's place? -/
def takes (s a0 b0 c : Int) : Bool := b0 != 0 && (a0 == 0 || decide (wrap64 (s * c) < 0))
set_option maxHeartbeats 4000000 in
set_option maxRecDepth 100000 in
theorem best_no0 (a0 a1 a2 a3 a4 : Int) (a5 : ByteArray) (b0 b1 b2 b3 b4 : Int) (b5 : ByteArray) (h0 : b0 = 0) (g : Nat) (s : Int) (w : World) (hg : w.heap[g]? = some (.cells #[.int .i64 s] 3 (0, 0))) : Calls Try.prog 40 #[.agg #[.int .i64 a0, .int .i64 a1, .int .u64 a2, .int .i64 a3, .int .i64 a4, .string a5], .agg #[.int .i64 b0, .int .i64 b1, .int .u64 b2, .int .i64 b3, .int .i64 b4, .string b5], .pointer (some ⟨g, 0, none⟩)] w fun e w' => e = .returned (.agg #[.int .i64 a0, .int .i64 a1, .int .u64 a2, .int .i64 a3, .int .i64 a4, .string a5]) ∧ Below w.heap.size w w' := by
  subst h0
  have hgl : g < w.heap.size := blk_lt hg
  go_enter Try.func40, Try.ntmps40
  go_wp2
  have h3 := blk3 (Below.refl (((w.alloc (.cells #[.int .i64 a0, .int .i64 a1, .int .u64 a2, .int .i64 a3, .int .i64 a4, .string a5] 28)).alloc (.cells #[.int .i64 0, .int .i64 b1, .int .u64 b2, .int .i64 b3, .int .i64 b4, .string b5] 28)).alloc (.cells #[.int .i64 0, .int .i64 0, .int .u64 0, .int .i64 0, .int .i64 0, .string ⟨#[]⟩] 28)).heap.size (((w.alloc (.cells #[.int .i64 a0, .int .i64 a1, .int .u64 a2, .int .i64 a3, .int .i64 a4, .string a5] 28)).alloc (.cells #[.int .i64 0, .int .i64 b1, .int .u64 b2, .int .i64 b3, .int .i64 b4, .string b5] 28)).alloc (.cells #[.int .i64 0, .int .i64 0, .int .u64 0, .int .i64 0, .int .i64 0, .string ⟨#[]⟩] 28)))
  generalize (((w.alloc (.cells #[.int .i64 a0, .int .i64 a1, .int .u64 a2, .int .i64 a3, .int .i64 a4, .string a5] 28)).alloc (.cells #[.int .i64 0, .int .i64 b1, .int .u64 b2, .int .i64 b3, .int .i64 b4, .string b5] 28)).alloc (.cells #[.int .i64 0, .int .i64 0, .int .u64 0, .int .i64 0, .int .i64 0, .string ⟨#[]⟩] 28)) = W at h3 ⊢
  obtain ⟨bA, bB, bR, hB, hz⟩ := h3
  have bG := (hB.block g hgl).trans hg
  have cA0 : W.cell? ⟨w.heap.size, 0, none⟩ = some (.int .i64 a0) := (blk_cell bA 0).trans rfl
  have fA0 : W.frozen? ⟨w.heap.size, 0, none⟩ = false := blk_frozen bA 0
  have cA1 : W.cell? ⟨w.heap.size, 1, none⟩ = some (.int .i64 a1) := (blk_cell bA 1).trans rfl
  have fA1 : W.frozen? ⟨w.heap.size, 1, none⟩ = false := blk_frozen bA 1
  have cA2 : W.cell? ⟨w.heap.size, 2, none⟩ = some (.int .u64 a2) := (blk_cell bA 2).trans rfl
  have fA2 : W.frozen? ⟨w.heap.size, 2, none⟩ = false := blk_frozen bA 2
  have cA3 : W.cell? ⟨w.heap.size, 3, none⟩ = some (.int .i64 a3) := (blk_cell bA 3).trans rfl
  have fA3 : W.frozen? ⟨w.heap.size, 3, none⟩ = false := blk_frozen bA 3
  have cA4 : W.cell? ⟨w.heap.size, 4, none⟩ = some (.int .i64 a4) := (blk_cell bA 4).trans rfl
  have fA4 : W.frozen? ⟨w.heap.size, 4, none⟩ = false := blk_frozen bA 4
  have cA5 : W.cell? ⟨w.heap.size, 5, none⟩ = some (.string a5) := (blk_cell bA 5).trans rfl
  have fA5 : W.frozen? ⟨w.heap.size, 5, none⟩ = false := blk_frozen bA 5
  have cB0 : W.cell? ⟨w.heap.size + 1, 0, none⟩ = some (.int .i64 0) := (blk_cell bB 0).trans rfl
  have fB0 : W.frozen? ⟨w.heap.size + 1, 0, none⟩ = false := blk_frozen bB 0
  have cB1 : W.cell? ⟨w.heap.size + 1, 1, none⟩ = some (.int .i64 b1) := (blk_cell bB 1).trans rfl
  have fB1 : W.frozen? ⟨w.heap.size + 1, 1, none⟩ = false := blk_frozen bB 1
  have cB2 : W.cell? ⟨w.heap.size + 1, 2, none⟩ = some (.int .u64 b2) := (blk_cell bB 2).trans rfl
  have fB2 : W.frozen? ⟨w.heap.size + 1, 2, none⟩ = false := blk_frozen bB 2
  have cB3 : W.cell? ⟨w.heap.size + 1, 3, none⟩ = some (.int .i64 b3) := (blk_cell bB 3).trans rfl
  have fB3 : W.frozen? ⟨w.heap.size + 1, 3, none⟩ = false := blk_frozen bB 3
  have cB4 : W.cell? ⟨w.heap.size + 1, 4, none⟩ = some (.int .i64 b4) := (blk_cell bB 4).trans rfl
  have fB4 : W.frozen? ⟨w.heap.size + 1, 4, none⟩ = false := blk_frozen bB 4
  have cB5 : W.cell? ⟨w.heap.size + 1, 5, none⟩ = some (.string b5) := (blk_cell bB 5).trans rfl
  have fB5 : W.frozen? ⟨w.heap.size + 1, 5, none⟩ = false := blk_frozen bB 5
  have cR0 : W.cell? ⟨w.heap.size + 1 + 1, 0, none⟩ = some (.int .i64 0) := (blk_cell bR 0).trans rfl
  have fR0 : W.frozen? ⟨w.heap.size + 1 + 1, 0, none⟩ = false := blk_frozen bR 0
  have cR1 : W.cell? ⟨w.heap.size + 1 + 1, 1, none⟩ = some (.int .i64 0) := (blk_cell bR 1).trans rfl
  have fR1 : W.frozen? ⟨w.heap.size + 1 + 1, 1, none⟩ = false := blk_frozen bR 1
  have cR2 : W.cell? ⟨w.heap.size + 1 + 1, 2, none⟩ = some (.int .u64 0) := (blk_cell bR 2).trans rfl
  have fR2 : W.frozen? ⟨w.heap.size + 1 + 1, 2, none⟩ = false := blk_frozen bR 2
  have cR3 : W.cell? ⟨w.heap.size + 1 + 1, 3, none⟩ = some (.int .i64 0) := (blk_cell bR 3).trans rfl
  have fR3 : W.frozen? ⟨w.heap.size + 1 + 1, 3, none⟩ = false := blk_frozen bR 3
  have cR4 : W.cell? ⟨w.heap.size + 1 + 1, 4, none⟩ = some (.int .i64 0) := (blk_cell bR 4).trans rfl
  have fR4 : W.frozen? ⟨w.heap.size + 1 + 1, 4, none⟩ = false := blk_frozen bR 4
  have cR5 : W.cell? ⟨w.heap.size + 1 + 1, 5, none⟩ = some (.string ⟨#[]⟩) := (blk_cell bR 5).trans rfl
  have fR5 : W.frozen? ⟨w.heap.size + 1 + 1, 5, none⟩ = false := blk_frozen bR 5
  have cg : W.cell? ⟨g, 0, none⟩ = some (.int .i64 s) := (blk_cell bG 0).trans rfl
  have HB := Aside0.mk hB
  have BA := Aside0.mk bA
  have BB := Aside0.mk bB
  have BR := Aside0.mk bR
  have BG := Aside0.mk bG
  clear hB bA bB bR bG hg
  go_quiet (fail)
  go_wp2
  have hR := blk_put6 (blk_drewN BR.out nq) (.int .i64 a0) (.int .i64 a1) (.int .u64 a2) (.int .i64 a3) (.int .i64 a4) (.string a5)
  refine bodyPost_ret (results_single rfl (.cell _ _ _ _ _ rfl hR Try.underlying28 rfl (by kernel_rfl) .nil)) rfl ⟨rfl, ?_⟩
  clear cA0 fA0 cA1 fA1 cA2 fA2 cA3 fA3 cA4 fA4 cA5 fA5
  clear cB0 fB0 cB1 fB1 cB2 fB2 cB3 fB3 cB4 fB4 cB5 fB5
  clear cR0 fR0 cR1 fR1 cR2 fR2 cR3 fR3 cR4 fR4 cR5 fR5
  with_reducible repeat (first | exact HB.out | apply below_alloc | apply pw_below_drewN | refine below_set ?_ (by omega))

set_option maxHeartbeats 4000000 in
set_option maxRecDepth 100000 in
theorem best_first (a0 a1 a2 a3 a4 : Int) (a5 : ByteArray) (b0 b1 b2 b3 b4 : Int) (b5 : ByteArray) (h0 : a0 = 0) (h1 : b0 ≠ 0) (g : Nat) (s : Int) (w : World) (hg : w.heap[g]? = some (.cells #[.int .i64 s] 3 (0, 0))) : Calls Try.prog 40 #[.agg #[.int .i64 a0, .int .i64 a1, .int .u64 a2, .int .i64 a3, .int .i64 a4, .string a5], .agg #[.int .i64 b0, .int .i64 b1, .int .u64 b2, .int .i64 b3, .int .i64 b4, .string b5], .pointer (some ⟨g, 0, none⟩)] w fun e w' => e = .returned (.agg #[.int .i64 a0, .int .i64 a1, .int .u64 a2, .int .i64 b3, .int .i64 b4, .string b5]) ∧ Below w.heap.size w w' := by
  subst h0
  have h1b : (b0 != 0) = true := bne_iff_ne.2 h1
  have hgl : g < w.heap.size := blk_lt hg
  go_enter Try.func40, Try.ntmps40
  go_wp2
  have h3 := blk3 (Below.refl (((w.alloc (.cells #[.int .i64 0, .int .i64 a1, .int .u64 a2, .int .i64 a3, .int .i64 a4, .string a5] 28)).alloc (.cells #[.int .i64 b0, .int .i64 b1, .int .u64 b2, .int .i64 b3, .int .i64 b4, .string b5] 28)).alloc (.cells #[.int .i64 0, .int .i64 0, .int .u64 0, .int .i64 0, .int .i64 0, .string ⟨#[]⟩] 28)).heap.size (((w.alloc (.cells #[.int .i64 0, .int .i64 a1, .int .u64 a2, .int .i64 a3, .int .i64 a4, .string a5] 28)).alloc (.cells #[.int .i64 b0, .int .i64 b1, .int .u64 b2, .int .i64 b3, .int .i64 b4, .string b5] 28)).alloc (.cells #[.int .i64 0, .int .i64 0, .int .u64 0, .int .i64 0, .int .i64 0, .string ⟨#[]⟩] 28)))
  generalize (((w.alloc (.cells #[.int .i64 0, .int .i64 a1, .int .u64 a2, .int .i64 a3, .int .i64 a4, .string a5] 28)).alloc (.cells #[.int .i64 b0, .int .i64 b1, .int .u64 b2, .int .i64 b3, .int .i64 b4, .string b5] 28)).alloc (.cells #[.int .i64 0, .int .i64 0, .int .u64 0, .int .i64 0, .int .i64 0, .string ⟨#[]⟩] 28)) = W at h3 ⊢
  obtain ⟨bA, bB, bR, hB, hz⟩ := h3
  have bG := (hB.block g hgl).trans hg
  have cA0 : W.cell? ⟨w.heap.size, 0, none⟩ = some (.int .i64 0) := (blk_cell bA 0).trans rfl
  have fA0 : W.frozen? ⟨w.heap.size, 0, none⟩ = false := blk_frozen bA 0
  have cA1 : W.cell? ⟨w.heap.size, 1, none⟩ = some (.int .i64 a1) := (blk_cell bA 1).trans rfl
  have fA1 : W.frozen? ⟨w.heap.size, 1, none⟩ = false := blk_frozen bA 1
  have cA2 : W.cell? ⟨w.heap.size, 2, none⟩ = some (.int .u64 a2) := (blk_cell bA 2).trans rfl
  have fA2 : W.frozen? ⟨w.heap.size, 2, none⟩ = false := blk_frozen bA 2
  have cA3 : W.cell? ⟨w.heap.size, 3, none⟩ = some (.int .i64 a3) := (blk_cell bA 3).trans rfl
  have fA3 : W.frozen? ⟨w.heap.size, 3, none⟩ = false := blk_frozen bA 3
  have cA4 : W.cell? ⟨w.heap.size, 4, none⟩ = some (.int .i64 a4) := (blk_cell bA 4).trans rfl
  have fA4 : W.frozen? ⟨w.heap.size, 4, none⟩ = false := blk_frozen bA 4
  have cA5 : W.cell? ⟨w.heap.size, 5, none⟩ = some (.string a5) := (blk_cell bA 5).trans rfl
  have fA5 : W.frozen? ⟨w.heap.size, 5, none⟩ = false := blk_frozen bA 5
  have cB0 : W.cell? ⟨w.heap.size + 1, 0, none⟩ = some (.int .i64 b0) := (blk_cell bB 0).trans rfl
  have fB0 : W.frozen? ⟨w.heap.size + 1, 0, none⟩ = false := blk_frozen bB 0
  have cB1 : W.cell? ⟨w.heap.size + 1, 1, none⟩ = some (.int .i64 b1) := (blk_cell bB 1).trans rfl
  have fB1 : W.frozen? ⟨w.heap.size + 1, 1, none⟩ = false := blk_frozen bB 1
  have cB2 : W.cell? ⟨w.heap.size + 1, 2, none⟩ = some (.int .u64 b2) := (blk_cell bB 2).trans rfl
  have fB2 : W.frozen? ⟨w.heap.size + 1, 2, none⟩ = false := blk_frozen bB 2
  have cB3 : W.cell? ⟨w.heap.size + 1, 3, none⟩ = some (.int .i64 b3) := (blk_cell bB 3).trans rfl
  have fB3 : W.frozen? ⟨w.heap.size + 1, 3, none⟩ = false := blk_frozen bB 3
  have cB4 : W.cell? ⟨w.heap.size + 1, 4, none⟩ = some (.int .i64 b4) := (blk_cell bB 4).trans rfl
  have fB4 : W.frozen? ⟨w.heap.size + 1, 4, none⟩ = false := blk_frozen bB 4
  have cB5 : W.cell? ⟨w.heap.size + 1, 5, none⟩ = some (.string b5) := (blk_cell bB 5).trans rfl
  have fB5 : W.frozen? ⟨w.heap.size + 1, 5, none⟩ = false := blk_frozen bB 5
  have cR0 : W.cell? ⟨w.heap.size + 1 + 1, 0, none⟩ = some (.int .i64 0) := (blk_cell bR 0).trans rfl
  have fR0 : W.frozen? ⟨w.heap.size + 1 + 1, 0, none⟩ = false := blk_frozen bR 0
  have cR1 : W.cell? ⟨w.heap.size + 1 + 1, 1, none⟩ = some (.int .i64 0) := (blk_cell bR 1).trans rfl
  have fR1 : W.frozen? ⟨w.heap.size + 1 + 1, 1, none⟩ = false := blk_frozen bR 1
  have cR2 : W.cell? ⟨w.heap.size + 1 + 1, 2, none⟩ = some (.int .u64 0) := (blk_cell bR 2).trans rfl
  have fR2 : W.frozen? ⟨w.heap.size + 1 + 1, 2, none⟩ = false := blk_frozen bR 2
  have cR3 : W.cell? ⟨w.heap.size + 1 + 1, 3, none⟩ = some (.int .i64 0) := (blk_cell bR 3).trans rfl
  have fR3 : W.frozen? ⟨w.heap.size + 1 + 1, 3, none⟩ = false := blk_frozen bR 3
  have cR4 : W.cell? ⟨w.heap.size + 1 + 1, 4, none⟩ = some (.int .i64 0) := (blk_cell bR 4).trans rfl
  have fR4 : W.frozen? ⟨w.heap.size + 1 + 1, 4, none⟩ = false := blk_frozen bR 4
  have cR5 : W.cell? ⟨w.heap.size + 1 + 1, 5, none⟩ = some (.string ⟨#[]⟩) := (blk_cell bR 5).trans rfl
  have fR5 : W.frozen? ⟨w.heap.size + 1 + 1, 5, none⟩ = false := blk_frozen bR 5
  have cg : W.cell? ⟨g, 0, none⟩ = some (.int .i64 s) := (blk_cell bG 0).trans rfl
  have HB := Aside0.mk hB
  have BA := Aside0.mk bA
  have BB := Aside0.mk bB
  have BR := Aside0.mk bR
  have BG := Aside0.mk bG
  clear hB bA bB bR bG hg
  go_quiet (fail)
  go_wp2
  have hR := blk_put6 (blk_far (blk_far (blk_far (blk_drewN BR.out nq) (p := ⟨w.heap.size, 3, none⟩) (show w.heap.size + 1 + 1 ≠ w.heap.size by omega) (.int .i64 b3)) (p := ⟨w.heap.size, 4, none⟩) (show w.heap.size + 1 + 1 ≠ w.heap.size by omega) (.int .i64 b4)) (p := ⟨w.heap.size, 5, none⟩) (show w.heap.size + 1 + 1 ≠ w.heap.size by omega) (.string b5)) (.int .i64 0) (.int .i64 a1) (.int .u64 a2) (.int .i64 b3) (.int .i64 b4) (.string b5)
  refine bodyPost_ret (results_single rfl (.cell _ _ _ _ _ rfl hR Try.underlying28 rfl (by kernel_rfl) .nil)) rfl ⟨rfl, ?_⟩
  clear cA0 fA0 cA1 fA1 cA2 fA2 cA3 fA3 cA4 fA4 cA5 fA5
  clear cB0 fB0 cB1 fB1 cB2 fB2 cB3 fB3 cB4 fB4 cB5 fB5
  clear cR0 fR0 cR1 fR1 cR2 fR2 cR3 fR3 cR4 fR4 cR5 fR5
  with_reducible repeat (first | exact HB.out | apply below_alloc | apply pw_below_drewN | refine below_set ?_ (by omega))

set_option maxHeartbeats 4000000 in
set_option maxRecDepth 100000 in
theorem best_not (a0 a1 a2 a3 a4 : Int) (a5 : ByteArray) (b0 b1 b2 b3 b4 : Int) (b5 : ByteArray) (h0 : a0 ≠ 0) (h1 : b0 ≠ 0) (g : Nat) (s : Int) (w : World) (hg : w.heap[g]? = some (.cells #[.int .i64 s] 3 (0, 0))) (c : Int) (hcmp : ∀ W : World, Calls Try.prog 41 #[.agg #[.int .i64 b3, .int .i64 b4, .string b5], .agg #[.int .i64 a3, .int .i64 a4, .string a5]] W fun e w' => e = .returned (.int .i64 c) ∧ Below W.heap.size W w') (hs : ¬ wrap64 (s * c) < 0) : Calls Try.prog 40 #[.agg #[.int .i64 a0, .int .i64 a1, .int .u64 a2, .int .i64 a3, .int .i64 a4, .string a5], .agg #[.int .i64 b0, .int .i64 b1, .int .u64 b2, .int .i64 b3, .int .i64 b4, .string b5], .pointer (some ⟨g, 0, none⟩)] w fun e w' => e = .returned (.agg #[.int .i64 a0, .int .i64 a1, .int .u64 a2, .int .i64 a3, .int .i64 a4, .string a5]) ∧ Below w.heap.size w w' := by
  have hgl : g < w.heap.size := blk_lt hg
  have h1b : (b0 != 0) = true := bne_iff_ne.2 h1
  have h0b : (a0 == 0) = false := beq_eq_false_iff_ne.2 h0
  have hsb : decide (IntKind.i64.wrap (s * c) < 0) = false := by rw [i64_w]; simpa using hs
  go_enter Try.func40, Try.ntmps40
  go_wp2
  have h3 := blk3 (Below.refl (((w.alloc (.cells #[.int .i64 a0, .int .i64 a1, .int .u64 a2, .int .i64 a3, .int .i64 a4, .string a5] 28)).alloc (.cells #[.int .i64 b0, .int .i64 b1, .int .u64 b2, .int .i64 b3, .int .i64 b4, .string b5] 28)).alloc (.cells #[.int .i64 0, .int .i64 0, .int .u64 0, .int .i64 0, .int .i64 0, .string ⟨#[]⟩] 28)).heap.size (((w.alloc (.cells #[.int .i64 a0, .int .i64 a1, .int .u64 a2, .int .i64 a3, .int .i64 a4, .string a5] 28)).alloc (.cells #[.int .i64 b0, .int .i64 b1, .int .u64 b2, .int .i64 b3, .int .i64 b4, .string b5] 28)).alloc (.cells #[.int .i64 0, .int .i64 0, .int .u64 0, .int .i64 0, .int .i64 0, .string ⟨#[]⟩] 28)))
  generalize (((w.alloc (.cells #[.int .i64 a0, .int .i64 a1, .int .u64 a2, .int .i64 a3, .int .i64 a4, .string a5] 28)).alloc (.cells #[.int .i64 b0, .int .i64 b1, .int .u64 b2, .int .i64 b3, .int .i64 b4, .string b5] 28)).alloc (.cells #[.int .i64 0, .int .i64 0, .int .u64 0, .int .i64 0, .int .i64 0, .string ⟨#[]⟩] 28)) = W at h3 ⊢
  obtain ⟨bA, bB, bR, hB, hz⟩ := h3
  have bG := (hB.block g hgl).trans hg
  have cA0 : W.cell? ⟨w.heap.size, 0, none⟩ = some (.int .i64 a0) := (blk_cell bA 0).trans rfl
  have cA1 : W.cell? ⟨w.heap.size, 1, none⟩ = some (.int .i64 a1) := (blk_cell bA 1).trans rfl
  have cA2 : W.cell? ⟨w.heap.size, 2, none⟩ = some (.int .u64 a2) := (blk_cell bA 2).trans rfl
  have cA3 : W.cell? ⟨w.heap.size, 3, none⟩ = some (.int .i64 a3) := (blk_cell bA 3).trans rfl
  have cA4 : W.cell? ⟨w.heap.size, 4, none⟩ = some (.int .i64 a4) := (blk_cell bA 4).trans rfl
  have cA5 : W.cell? ⟨w.heap.size, 5, none⟩ = some (.string a5) := (blk_cell bA 5).trans rfl
  have cB0 : W.cell? ⟨w.heap.size + 1, 0, none⟩ = some (.int .i64 b0) := (blk_cell bB 0).trans rfl
  have cB1 : W.cell? ⟨w.heap.size + 1, 1, none⟩ = some (.int .i64 b1) := (blk_cell bB 1).trans rfl
  have cB2 : W.cell? ⟨w.heap.size + 1, 2, none⟩ = some (.int .u64 b2) := (blk_cell bB 2).trans rfl
  have cB3 : W.cell? ⟨w.heap.size + 1, 3, none⟩ = some (.int .i64 b3) := (blk_cell bB 3).trans rfl
  have cB4 : W.cell? ⟨w.heap.size + 1, 4, none⟩ = some (.int .i64 b4) := (blk_cell bB 4).trans rfl
  have cB5 : W.cell? ⟨w.heap.size + 1, 5, none⟩ = some (.string b5) := (blk_cell bB 5).trans rfl
  have cg : W.cell? ⟨g, 0, none⟩ = some (.int .i64 s) := (blk_cell bG 0).trans rfl
  have HB := Aside0.mk hB
  have BA := Aside0.mk bA
  have BB := Aside0.mk bB
  have BR := Aside0.mk bR
  have BG := Aside0.mk bG
  clear hB bA bB bR bG hg
  go_upto_region 1 with (fail)
  go_cut [23] (fun v wc => v = .bool false ∧ Aside0 (wc.heap[w.heap.size]? = some (.cells #[.int .i64 a0, .int .i64 a1, .int .u64 a2, .int .i64 a3, .int .i64 a4, .string a5] 28 (0, 0))) ∧ Aside0 (wc.heap[w.heap.size + 1]? = some (.cells #[.int .i64 b0, .int .i64 b1, .int .u64 b2, .int .i64 b3, .int .i64 b4, .string b5] 28 (0, 0))) ∧ Aside0 (wc.heap[w.heap.size + 1 + 1]? = some (.cells #[.int .i64 0, .int .i64 0, .int .u64 0, .int .i64 0, .int .i64 0, .string ⟨#[]⟩] 28 (0, 0))) ∧ Aside0 (Below w.heap.size w wc))
  case first =>
    go_region_with (first | (go_at_call 41; refine (hcmp _).mono ?_; rintro e w1 ⟨rfl, hb1⟩; have BA1 : Aside0 (w1.heap[w.heap.size]? = some (.cells #[.int .i64 a0, .int .i64 a1, .int .u64 a2, .int .i64 a3, .int .i64 a4, .string a5] 28 (0, 0))) := ⟨blk_below (by with_reducible repeat (first | exact BA.out | refine blk_drewN ?_ _ | refine blk_drew ?_)) hb1⟩; have BB1 : Aside0 (w1.heap[w.heap.size + 1]? = some (.cells #[.int .i64 b0, .int .i64 b1, .int .u64 b2, .int .i64 b3, .int .i64 b4, .string b5] 28 (0, 0))) := ⟨blk_below (by with_reducible repeat (first | exact BB.out | refine blk_drewN ?_ _ | refine blk_drew ?_)) hb1⟩; have BR1 : Aside0 (w1.heap[w.heap.size + 1 + 1]? = some (.cells #[.int .i64 0, .int .i64 0, .int .u64 0, .int .i64 0, .int .i64 0, .string ⟨#[]⟩] 28 (0, 0))) := ⟨blk_below (by with_reducible repeat (first | exact BR.out | refine blk_drewN ?_ _ | refine blk_drew ?_)) hb1⟩; have bg1 : w1.heap[g]? = some (.cells #[.int .i64 s] 3 (0, 0)) := blk_below (by with_reducible repeat (first | exact BG.out | refine blk_drewN ?_ _ | refine blk_drew ?_)) hb1; have cg1 : w1.cell? ⟨g, 0, none⟩ = some (.int .i64 s) := (blk_cell bg1 0).trans rfl; have HB1 : Aside0 (Below w.heap.size w w1) := ⟨below_step (by with_reducible repeat (first | exact HB.out | apply below_drew1 | apply pw_below_drewN)) hb1⟩; clear hb1 bg1))
    all_goals (go_wp2; go_meet; case rel => exact ⟨by first | rfl | (simp only [hsb]; done) | (simp [hsb]; done), BA1, BB1, BR1, HB1⟩)
  case rest =>
    clear cg cA0 cA1 cA2 cA3 cA4 cA5 cB0 cB1 cB2 cB3 cB4 cB5 HB BA BB BR BG hsb
    obtain ⟨rfl, BA, BB, BR, HB⟩ := hcut
    have cA0 : wc.cell? ⟨w.heap.size, 0, none⟩ = some (.int .i64 a0) := (blk_cell BA.out 0).trans rfl
    have fA0 : wc.frozen? ⟨w.heap.size, 0, none⟩ = false := blk_frozen BA.out 0
    have cA1 : wc.cell? ⟨w.heap.size, 1, none⟩ = some (.int .i64 a1) := (blk_cell BA.out 1).trans rfl
    have fA1 : wc.frozen? ⟨w.heap.size, 1, none⟩ = false := blk_frozen BA.out 1
    have cA2 : wc.cell? ⟨w.heap.size, 2, none⟩ = some (.int .u64 a2) := (blk_cell BA.out 2).trans rfl
    have fA2 : wc.frozen? ⟨w.heap.size, 2, none⟩ = false := blk_frozen BA.out 2
    have cA3 : wc.cell? ⟨w.heap.size, 3, none⟩ = some (.int .i64 a3) := (blk_cell BA.out 3).trans rfl
    have fA3 : wc.frozen? ⟨w.heap.size, 3, none⟩ = false := blk_frozen BA.out 3
    have cA4 : wc.cell? ⟨w.heap.size, 4, none⟩ = some (.int .i64 a4) := (blk_cell BA.out 4).trans rfl
    have fA4 : wc.frozen? ⟨w.heap.size, 4, none⟩ = false := blk_frozen BA.out 4
    have cA5 : wc.cell? ⟨w.heap.size, 5, none⟩ = some (.string a5) := (blk_cell BA.out 5).trans rfl
    have fA5 : wc.frozen? ⟨w.heap.size, 5, none⟩ = false := blk_frozen BA.out 5
    have cR0 : wc.cell? ⟨w.heap.size + 1 + 1, 0, none⟩ = some (.int .i64 0) := (blk_cell BR.out 0).trans rfl
    have fR0 : wc.frozen? ⟨w.heap.size + 1 + 1, 0, none⟩ = false := blk_frozen BR.out 0
    have cR1 : wc.cell? ⟨w.heap.size + 1 + 1, 1, none⟩ = some (.int .i64 0) := (blk_cell BR.out 1).trans rfl
    have fR1 : wc.frozen? ⟨w.heap.size + 1 + 1, 1, none⟩ = false := blk_frozen BR.out 1
    have cR2 : wc.cell? ⟨w.heap.size + 1 + 1, 2, none⟩ = some (.int .u64 0) := (blk_cell BR.out 2).trans rfl
    have fR2 : wc.frozen? ⟨w.heap.size + 1 + 1, 2, none⟩ = false := blk_frozen BR.out 2
    have cR3 : wc.cell? ⟨w.heap.size + 1 + 1, 3, none⟩ = some (.int .i64 0) := (blk_cell BR.out 3).trans rfl
    have fR3 : wc.frozen? ⟨w.heap.size + 1 + 1, 3, none⟩ = false := blk_frozen BR.out 3
    have cR4 : wc.cell? ⟨w.heap.size + 1 + 1, 4, none⟩ = some (.int .i64 0) := (blk_cell BR.out 4).trans rfl
    have fR4 : wc.frozen? ⟨w.heap.size + 1 + 1, 4, none⟩ = false := blk_frozen BR.out 4
    have cR5 : wc.cell? ⟨w.heap.size + 1 + 1, 5, none⟩ = some (.string ⟨#[]⟩) := (blk_cell BR.out 5).trans rfl
    have fR5 : wc.frozen? ⟨w.heap.size + 1 + 1, 5, none⟩ = false := blk_frozen BR.out 5
    go_wp2
    have hR := blk_put6 (BR.out) (.int .i64 a0) (.int .i64 a1) (.int .u64 a2) (.int .i64 a3) (.int .i64 a4) (.string a5)
    refine bodyPost_ret (results_single rfl (.cell _ _ _ _ _ rfl hR Try.underlying28 rfl (by kernel_rfl) .nil)) rfl ⟨rfl, ?_⟩
    clear cA0 fA0 cA1 fA1 cA2 fA2 cA3 fA3 cA4 fA4 cA5 fA5
    clear cR0 fR0 cR1 fR1 cR2 fR2 cR3 fR3 cR4 fR4 cR5 fR5
    with_reducible repeat (first | exact HB.out | apply below_alloc | apply pw_below_drewN | refine below_set ?_ (by omega))

set_option maxHeartbeats 4000000 in
set_option maxRecDepth 100000 in
theorem best_then (a0 a1 a2 a3 a4 : Int) (a5 : ByteArray) (b0 b1 b2 b3 b4 : Int) (b5 : ByteArray) (h0 : a0 ≠ 0) (h1 : b0 ≠ 0) (g : Nat) (s : Int) (w : World) (hg : w.heap[g]? = some (.cells #[.int .i64 s] 3 (0, 0))) (c : Int) (hcmp : ∀ W : World, Calls Try.prog 41 #[.agg #[.int .i64 b3, .int .i64 b4, .string b5], .agg #[.int .i64 a3, .int .i64 a4, .string a5]] W fun e w' => e = .returned (.int .i64 c) ∧ Below W.heap.size W w') (hs : wrap64 (s * c) < 0) : Calls Try.prog 40 #[.agg #[.int .i64 a0, .int .i64 a1, .int .u64 a2, .int .i64 a3, .int .i64 a4, .string a5], .agg #[.int .i64 b0, .int .i64 b1, .int .u64 b2, .int .i64 b3, .int .i64 b4, .string b5], .pointer (some ⟨g, 0, none⟩)] w fun e w' => e = .returned (.agg #[.int .i64 a0, .int .i64 a1, .int .u64 a2, .int .i64 b3, .int .i64 b4, .string b5]) ∧ Below w.heap.size w w' := by
  have hgl : g < w.heap.size := blk_lt hg
  have h1b : (b0 != 0) = true := bne_iff_ne.2 h1
  have h0b : (a0 == 0) = false := beq_eq_false_iff_ne.2 h0
  have hsb : decide (IntKind.i64.wrap (s * c) < 0) = true := by rw [i64_w]; simpa using hs
  go_enter Try.func40, Try.ntmps40
  go_wp2
  have h3 := blk3 (Below.refl (((w.alloc (.cells #[.int .i64 a0, .int .i64 a1, .int .u64 a2, .int .i64 a3, .int .i64 a4, .string a5] 28)).alloc (.cells #[.int .i64 b0, .int .i64 b1, .int .u64 b2, .int .i64 b3, .int .i64 b4, .string b5] 28)).alloc (.cells #[.int .i64 0, .int .i64 0, .int .u64 0, .int .i64 0, .int .i64 0, .string ⟨#[]⟩] 28)).heap.size (((w.alloc (.cells #[.int .i64 a0, .int .i64 a1, .int .u64 a2, .int .i64 a3, .int .i64 a4, .string a5] 28)).alloc (.cells #[.int .i64 b0, .int .i64 b1, .int .u64 b2, .int .i64 b3, .int .i64 b4, .string b5] 28)).alloc (.cells #[.int .i64 0, .int .i64 0, .int .u64 0, .int .i64 0, .int .i64 0, .string ⟨#[]⟩] 28)))
  generalize (((w.alloc (.cells #[.int .i64 a0, .int .i64 a1, .int .u64 a2, .int .i64 a3, .int .i64 a4, .string a5] 28)).alloc (.cells #[.int .i64 b0, .int .i64 b1, .int .u64 b2, .int .i64 b3, .int .i64 b4, .string b5] 28)).alloc (.cells #[.int .i64 0, .int .i64 0, .int .u64 0, .int .i64 0, .int .i64 0, .string ⟨#[]⟩] 28)) = W at h3 ⊢
  obtain ⟨bA, bB, bR, hB, hz⟩ := h3
  have bG := (hB.block g hgl).trans hg
  have cA0 : W.cell? ⟨w.heap.size, 0, none⟩ = some (.int .i64 a0) := (blk_cell bA 0).trans rfl
  have cA1 : W.cell? ⟨w.heap.size, 1, none⟩ = some (.int .i64 a1) := (blk_cell bA 1).trans rfl
  have cA2 : W.cell? ⟨w.heap.size, 2, none⟩ = some (.int .u64 a2) := (blk_cell bA 2).trans rfl
  have cA3 : W.cell? ⟨w.heap.size, 3, none⟩ = some (.int .i64 a3) := (blk_cell bA 3).trans rfl
  have cA4 : W.cell? ⟨w.heap.size, 4, none⟩ = some (.int .i64 a4) := (blk_cell bA 4).trans rfl
  have cA5 : W.cell? ⟨w.heap.size, 5, none⟩ = some (.string a5) := (blk_cell bA 5).trans rfl
  have cB0 : W.cell? ⟨w.heap.size + 1, 0, none⟩ = some (.int .i64 b0) := (blk_cell bB 0).trans rfl
  have cB1 : W.cell? ⟨w.heap.size + 1, 1, none⟩ = some (.int .i64 b1) := (blk_cell bB 1).trans rfl
  have cB2 : W.cell? ⟨w.heap.size + 1, 2, none⟩ = some (.int .u64 b2) := (blk_cell bB 2).trans rfl
  have cB3 : W.cell? ⟨w.heap.size + 1, 3, none⟩ = some (.int .i64 b3) := (blk_cell bB 3).trans rfl
  have cB4 : W.cell? ⟨w.heap.size + 1, 4, none⟩ = some (.int .i64 b4) := (blk_cell bB 4).trans rfl
  have cB5 : W.cell? ⟨w.heap.size + 1, 5, none⟩ = some (.string b5) := (blk_cell bB 5).trans rfl
  have cg : W.cell? ⟨g, 0, none⟩ = some (.int .i64 s) := (blk_cell bG 0).trans rfl
  have HB := Aside0.mk hB
  have BA := Aside0.mk bA
  have BB := Aside0.mk bB
  have BR := Aside0.mk bR
  have BG := Aside0.mk bG
  clear hB bA bB bR bG hg
  go_upto_region 1 with (fail)
  go_cut [23] (fun v wc => v = .bool true ∧ Aside0 (wc.heap[w.heap.size]? = some (.cells #[.int .i64 a0, .int .i64 a1, .int .u64 a2, .int .i64 a3, .int .i64 a4, .string a5] 28 (0, 0))) ∧ Aside0 (wc.heap[w.heap.size + 1]? = some (.cells #[.int .i64 b0, .int .i64 b1, .int .u64 b2, .int .i64 b3, .int .i64 b4, .string b5] 28 (0, 0))) ∧ Aside0 (wc.heap[w.heap.size + 1 + 1]? = some (.cells #[.int .i64 0, .int .i64 0, .int .u64 0, .int .i64 0, .int .i64 0, .string ⟨#[]⟩] 28 (0, 0))) ∧ Aside0 (Below w.heap.size w wc))
  case first =>
    go_region_with (first | (go_at_call 41; refine (hcmp _).mono ?_; rintro e w1 ⟨rfl, hb1⟩; have BA1 : Aside0 (w1.heap[w.heap.size]? = some (.cells #[.int .i64 a0, .int .i64 a1, .int .u64 a2, .int .i64 a3, .int .i64 a4, .string a5] 28 (0, 0))) := ⟨blk_below (by with_reducible repeat (first | exact BA.out | refine blk_drewN ?_ _ | refine blk_drew ?_)) hb1⟩; have BB1 : Aside0 (w1.heap[w.heap.size + 1]? = some (.cells #[.int .i64 b0, .int .i64 b1, .int .u64 b2, .int .i64 b3, .int .i64 b4, .string b5] 28 (0, 0))) := ⟨blk_below (by with_reducible repeat (first | exact BB.out | refine blk_drewN ?_ _ | refine blk_drew ?_)) hb1⟩; have BR1 : Aside0 (w1.heap[w.heap.size + 1 + 1]? = some (.cells #[.int .i64 0, .int .i64 0, .int .u64 0, .int .i64 0, .int .i64 0, .string ⟨#[]⟩] 28 (0, 0))) := ⟨blk_below (by with_reducible repeat (first | exact BR.out | refine blk_drewN ?_ _ | refine blk_drew ?_)) hb1⟩; have bg1 : w1.heap[g]? = some (.cells #[.int .i64 s] 3 (0, 0)) := blk_below (by with_reducible repeat (first | exact BG.out | refine blk_drewN ?_ _ | refine blk_drew ?_)) hb1; have cg1 : w1.cell? ⟨g, 0, none⟩ = some (.int .i64 s) := (blk_cell bg1 0).trans rfl; have HB1 : Aside0 (Below w.heap.size w w1) := ⟨below_step (by with_reducible repeat (first | exact HB.out | apply below_drew1 | apply pw_below_drewN)) hb1⟩; clear hb1 bg1))
    all_goals (go_wp2; go_meet; case rel => exact ⟨by first | rfl | (simp only [hsb]; done) | (simp [hsb]; done), BA1, BB1, BR1, HB1⟩)
  case rest =>
    clear cg cA0 cA1 cA2 cA3 cA4 cA5 cB0 cB1 cB2 cB3 cB4 cB5 HB BA BB BR BG hsb
    obtain ⟨rfl, BA, BB, BR, HB⟩ := hcut
    have cA0 : wc.cell? ⟨w.heap.size, 0, none⟩ = some (.int .i64 a0) := (blk_cell BA.out 0).trans rfl
    have fA0 : wc.frozen? ⟨w.heap.size, 0, none⟩ = false := blk_frozen BA.out 0
    have cA1 : wc.cell? ⟨w.heap.size, 1, none⟩ = some (.int .i64 a1) := (blk_cell BA.out 1).trans rfl
    have fA1 : wc.frozen? ⟨w.heap.size, 1, none⟩ = false := blk_frozen BA.out 1
    have cA2 : wc.cell? ⟨w.heap.size, 2, none⟩ = some (.int .u64 a2) := (blk_cell BA.out 2).trans rfl
    have fA2 : wc.frozen? ⟨w.heap.size, 2, none⟩ = false := blk_frozen BA.out 2
    have cA3 : wc.cell? ⟨w.heap.size, 3, none⟩ = some (.int .i64 a3) := (blk_cell BA.out 3).trans rfl
    have fA3 : wc.frozen? ⟨w.heap.size, 3, none⟩ = false := blk_frozen BA.out 3
    have cA4 : wc.cell? ⟨w.heap.size, 4, none⟩ = some (.int .i64 a4) := (blk_cell BA.out 4).trans rfl
    have fA4 : wc.frozen? ⟨w.heap.size, 4, none⟩ = false := blk_frozen BA.out 4
    have cA5 : wc.cell? ⟨w.heap.size, 5, none⟩ = some (.string a5) := (blk_cell BA.out 5).trans rfl
    have fA5 : wc.frozen? ⟨w.heap.size, 5, none⟩ = false := blk_frozen BA.out 5
    have cB0 : wc.cell? ⟨w.heap.size + 1, 0, none⟩ = some (.int .i64 b0) := (blk_cell BB.out 0).trans rfl
    have fB0 : wc.frozen? ⟨w.heap.size + 1, 0, none⟩ = false := blk_frozen BB.out 0
    have cB1 : wc.cell? ⟨w.heap.size + 1, 1, none⟩ = some (.int .i64 b1) := (blk_cell BB.out 1).trans rfl
    have fB1 : wc.frozen? ⟨w.heap.size + 1, 1, none⟩ = false := blk_frozen BB.out 1
    have cB2 : wc.cell? ⟨w.heap.size + 1, 2, none⟩ = some (.int .u64 b2) := (blk_cell BB.out 2).trans rfl
    have fB2 : wc.frozen? ⟨w.heap.size + 1, 2, none⟩ = false := blk_frozen BB.out 2
    have cB3 : wc.cell? ⟨w.heap.size + 1, 3, none⟩ = some (.int .i64 b3) := (blk_cell BB.out 3).trans rfl
    have fB3 : wc.frozen? ⟨w.heap.size + 1, 3, none⟩ = false := blk_frozen BB.out 3
    have cB4 : wc.cell? ⟨w.heap.size + 1, 4, none⟩ = some (.int .i64 b4) := (blk_cell BB.out 4).trans rfl
    have fB4 : wc.frozen? ⟨w.heap.size + 1, 4, none⟩ = false := blk_frozen BB.out 4
    have cB5 : wc.cell? ⟨w.heap.size + 1, 5, none⟩ = some (.string b5) := (blk_cell BB.out 5).trans rfl
    have fB5 : wc.frozen? ⟨w.heap.size + 1, 5, none⟩ = false := blk_frozen BB.out 5
    have cR0 : wc.cell? ⟨w.heap.size + 1 + 1, 0, none⟩ = some (.int .i64 0) := (blk_cell BR.out 0).trans rfl
    have fR0 : wc.frozen? ⟨w.heap.size + 1 + 1, 0, none⟩ = false := blk_frozen BR.out 0
    have cR1 : wc.cell? ⟨w.heap.size + 1 + 1, 1, none⟩ = some (.int .i64 0) := (blk_cell BR.out 1).trans rfl
    have fR1 : wc.frozen? ⟨w.heap.size + 1 + 1, 1, none⟩ = false := blk_frozen BR.out 1
    have cR2 : wc.cell? ⟨w.heap.size + 1 + 1, 2, none⟩ = some (.int .u64 0) := (blk_cell BR.out 2).trans rfl
    have fR2 : wc.frozen? ⟨w.heap.size + 1 + 1, 2, none⟩ = false := blk_frozen BR.out 2
    have cR3 : wc.cell? ⟨w.heap.size + 1 + 1, 3, none⟩ = some (.int .i64 0) := (blk_cell BR.out 3).trans rfl
    have fR3 : wc.frozen? ⟨w.heap.size + 1 + 1, 3, none⟩ = false := blk_frozen BR.out 3
    have cR4 : wc.cell? ⟨w.heap.size + 1 + 1, 4, none⟩ = some (.int .i64 0) := (blk_cell BR.out 4).trans rfl
    have fR4 : wc.frozen? ⟨w.heap.size + 1 + 1, 4, none⟩ = false := blk_frozen BR.out 4
    have cR5 : wc.cell? ⟨w.heap.size + 1 + 1, 5, none⟩ = some (.string ⟨#[]⟩) := (blk_cell BR.out 5).trans rfl
    have fR5 : wc.frozen? ⟨w.heap.size + 1 + 1, 5, none⟩ = false := blk_frozen BR.out 5
    go_wp2
    have hR := blk_put6 (blk_far (blk_far (blk_far BR.out (p := ⟨w.heap.size, 3, none⟩) (show w.heap.size + 1 + 1 ≠ w.heap.size by omega) (.int .i64 b3)) (p := ⟨w.heap.size, 4, none⟩) (show w.heap.size + 1 + 1 ≠ w.heap.size by omega) (.int .i64 b4)) (p := ⟨w.heap.size, 5, none⟩) (show w.heap.size + 1 + 1 ≠ w.heap.size by omega) (.string b5)) (.int .i64 a0) (.int .i64 a1) (.int .u64 a2) (.int .i64 b3) (.int .i64 b4) (.string b5)
    refine bodyPost_ret (results_single rfl (.cell _ _ _ _ _ rfl hR Try.underlying28 rfl (by kernel_rfl) .nil)) rfl ⟨rfl, ?_⟩
    clear cA0 fA0 cA1 fA1 cA2 fA2 cA3 fA3 cA4 fA4 cA5 fA5
    clear cB0 fB0 cB1 fB1 cB2 fB2 cB3 fB3 cB4 fB4 cB5 fB5
    clear cR0 fR0 cR1 fR1 cR2 fR2 cR3 fR3 cR4 fR4 cR5 fR5
    with_reducible repeat (first | exact HB.out | apply below_alloc | apply pw_below_drewN | refine below_set ?_ (by omega))

def bestOf (s : Int) (a0 a1 a2 a3 a4 : Int) (a5 : ByteArray) (b0 b1 b2 b3 b4 : Int) (b5 : ByteArray) : Value := if takes s a0 b0 (cmpV b3 b4 b5 a3 a4 a5) = true then .agg #[.int .i64 a0, .int .i64 a1, .int .u64 a2, .int .i64 b3, .int .i64 b4, .string b5] else .agg #[.int .i64 a0, .int .i64 a1, .int .u64 a2, .int .i64 a3, .int .i64 a4, .string a5]
theorem best_calls (a0 a1 a2 a3 a4 : Int) (a5 : ByteArray) (b0 b1 b2 b3 b4 : Int) (b5 : ByteArray) (g : Nat) (s : Int) (w : World) (hg : w.heap[g]? = some (.cells #[.int .i64 s] 3 (0, 0))) : Calls Try.prog 40 #[.agg #[.int .i64 a0, .int .i64 a1, .int .u64 a2, .int .i64 a3, .int .i64 a4, .string a5], .agg #[.int .i64 b0, .int .i64 b1, .int .u64 b2, .int .i64 b3, .int .i64 b4, .string b5], .pointer (some ⟨g, 0, none⟩)] w fun e w' => e = .returned (bestOf s a0 a1 a2 a3 a4 a5 b0 b1 b2 b3 b4 b5) ∧ Below w.heap.size w w' := by
  obtain ⟨c, hc⟩ : ∃ c, cmpV b3 b4 b5 a3 a4 a5 = c := ⟨_, rfl⟩
  have hcmp : ∀ W : World, Calls Try.prog 41 #[.agg #[.int .i64 b3, .int .i64 b4, .string b5], .agg #[.int .i64 a3, .int .i64 a4, .string a5]] W fun e w' => e = .returned (.int .i64 c) ∧ Below W.heap.size W w' := fun W => hc ▸ cmp_calls b3 b4 b5 a3 a4 a5 W
  unfold bestOf takes
  rw [hc]
  by_cases h1 : b0 = 0
  · rw [if_neg (by simp [h1])]
    exact best_no0 _ _ _ _ _ _ _ _ _ _ _ _ h1 g s w hg
  by_cases h0 : a0 = 0
  · rw [if_pos (by simp [h1, h0])]
    exact best_first _ _ _ _ _ _ _ _ _ _ _ _ h0 h1 g s w hg
  by_cases hs : wrap64 (s * c) < 0
  · rw [if_pos (by simp [h1, hs])]
    exact best_then _ _ _ _ _ _ _ _ _ _ _ _ h0 h1 g s w hg c hcmp hs
  · rw [if_neg (by simp [h0, hs])]
    exact best_not _ _ _ _ _ _ _ _ _ _ _ _ h0 h1 g s w hg c hcmp hs
end Go.Proofs.Ytphdbhneefmkcaa.Q
