/- agg.Both: walked. -/
import Derived.Test.YtphdbhneefmkcaaHAggB
import Derived.Test.YtphdbhneefmkcaaAx
namespace Go.Proofs.Ytphdbhneefmkcaa.Q
open Go.RowKit Go.Proofs.YtphdbhneefmkcaaW.PrintWords Go.Proofs.YtphdbhneefmkcaaW.PrintLast Go.Proofs.YtphdbhneefmkcaaW.PrintMore
set_option linter.unusedVariables false
set_option linter.unusedSimpArgs false

set_option maxHeartbeats 4000000 in
set_option maxRecDepth 100000 in
theorem both_same (kind : Int) (a0 a1 a2 a3 a4 : Int) (a5 : ByteArray) (b0 b1 b2 b3 b4 : Int) (b5 : ByteArray) (r0 r1 r2 r3 r4 : Int) (r5 : ByteArray) (hk : kind = 1 ∨ kind = 2) (hcall : ∀ W : World, Calls Try.prog 42 #[.agg #[.int .i64 a0, .int .i64 a1, .int .u64 a2, .int .i64 a3, .int .i64 a4, .string a5], .agg #[.int .i64 b0, .int .i64 b1, .int .u64 b2, .int .i64 b3, .int .i64 b4, .string b5]] W fun e w' => e = .returned (.agg #[.int .i64 r0, .int .i64 r1, .int .u64 r2, .int .i64 r3, .int .i64 r4, .string r5]) ∧ Below W.heap.size W w') (w : World) : Calls Try.prog 12 #[.int .i64 kind, .agg #[.int .i64 a0, .int .i64 a1, .int .u64 a2, .int .i64 a3, .int .i64 a4, .string a5], .agg #[.int .i64 b0, .int .i64 b1, .int .u64 b2, .int .i64 b3, .int .i64 b4, .string b5]] w fun e w' => e = .returned (.tuple #[.agg #[.int .i64 (wrap64 (a0 + b0)), .int .i64 r1, .int .u64 r2, .int .i64 r3, .int .i64 r4, .string r5], .int .i64 0]) ∧ Below w.heap.size w w' := by
  have qf := fn_eq
  go_enter Try.func12, Try.ntmps12
  go_wp2_with fail
  refine (merges_calls kind _).mono ?_
  rintro e w1 ⟨⟨v, rfl, hm⟩, hb1⟩
  obtain ⟨bA, bB, bR, hB, hz⟩ := blk3 hb1
  obtain rfl : v = .func (.func 42) #[] #[] := by
    rcases hm with ⟨_, h⟩ | ⟨_, h⟩ | ⟨_, _, h, _⟩ | ⟨h, _⟩ <;> first | exact h | (exfalso; omega)
  clear hm
  have cA0 : w1.cell? ⟨w.heap.size, 0, none⟩ = some (.int .i64 a0) := (blk_cell bA 0).trans rfl
  have cA1 : w1.cell? ⟨w.heap.size, 1, none⟩ = some (.int .i64 a1) := (blk_cell bA 1).trans rfl
  have cA2 : w1.cell? ⟨w.heap.size, 2, none⟩ = some (.int .u64 a2) := (blk_cell bA 2).trans rfl
  have cA3 : w1.cell? ⟨w.heap.size, 3, none⟩ = some (.int .i64 a3) := (blk_cell bA 3).trans rfl
  have cA4 : w1.cell? ⟨w.heap.size, 4, none⟩ = some (.int .i64 a4) := (blk_cell bA 4).trans rfl
  have cA5 : w1.cell? ⟨w.heap.size, 5, none⟩ = some (.string a5) := (blk_cell bA 5).trans rfl
  have cB0 : w1.cell? ⟨w.heap.size + 1, 0, none⟩ = some (.int .i64 b0) := (blk_cell bB 0).trans rfl
  have cB1 : w1.cell? ⟨w.heap.size + 1, 1, none⟩ = some (.int .i64 b1) := (blk_cell bB 1).trans rfl
  have cB2 : w1.cell? ⟨w.heap.size + 1, 2, none⟩ = some (.int .u64 b2) := (blk_cell bB 2).trans rfl
  have cB3 : w1.cell? ⟨w.heap.size + 1, 3, none⟩ = some (.int .i64 b3) := (blk_cell bB 3).trans rfl
  have cB4 : w1.cell? ⟨w.heap.size + 1, 4, none⟩ = some (.int .i64 b4) := (blk_cell bB 4).trans rfl
  have cB5 : w1.cell? ⟨w.heap.size + 1, 5, none⟩ = some (.string b5) := (blk_cell bB 5).trans rfl
  have HB := Aside0.mk hB
  have BA := Aside0.mk bA
  have BB := Aside0.mk bB
  have BR := Aside0.mk bR
  clear bA bB bR hB hb1
  go_wp2_with fail
  refine (hcall _ ).mono ?_
  rintro e w2 ⟨rfl, hb2⟩
  have bA := blk_below BA.out hb2
  have bB := blk_below BB.out hb2
  have bR := blk_below BR.out hb2
  have hz2 : w.heap.size + 1 + 1 < w2.heap.size := by have := hb2.size; omega
  have hz0 : w.heap.size < w2.heap.size := by omega
  have hz1 : w.heap.size + 1 < w2.heap.size := by omega
  have hB := HB.out.trans (hb2.mono (by omega))
  clear HB BA BB BR hb2 cA0 cA1 cA2 cA3 cA4 cA5 cB0 cB1 cB2 cB3 cB4 cB5
  have cA0 : w2.cell? ⟨w.heap.size, 0, none⟩ = some (.int .i64 a0) := (blk_cell bA 0).trans rfl
  have cA1 : w2.cell? ⟨w.heap.size, 1, none⟩ = some (.int .i64 a1) := (blk_cell bA 1).trans rfl
  have cA2 : w2.cell? ⟨w.heap.size, 2, none⟩ = some (.int .u64 a2) := (blk_cell bA 2).trans rfl
  have cA3 : w2.cell? ⟨w.heap.size, 3, none⟩ = some (.int .i64 a3) := (blk_cell bA 3).trans rfl
  have cA4 : w2.cell? ⟨w.heap.size, 4, none⟩ = some (.int .i64 a4) := (blk_cell bA 4).trans rfl
  have cA5 : w2.cell? ⟨w.heap.size, 5, none⟩ = some (.string a5) := (blk_cell bA 5).trans rfl
  have cB0 : w2.cell? ⟨w.heap.size + 1, 0, none⟩ = some (.int .i64 b0) := (blk_cell bB 0).trans rfl
  have cB1 : w2.cell? ⟨w.heap.size + 1, 1, none⟩ = some (.int .i64 b1) := (blk_cell bB 1).trans rfl
  have cB2 : w2.cell? ⟨w.heap.size + 1, 2, none⟩ = some (.int .u64 b2) := (blk_cell bB 2).trans rfl
  have cB3 : w2.cell? ⟨w.heap.size + 1, 3, none⟩ = some (.int .i64 b3) := (blk_cell bB 3).trans rfl
  have cB4 : w2.cell? ⟨w.heap.size + 1, 4, none⟩ = some (.int .i64 b4) := (blk_cell bB 4).trans rfl
  have cB5 : w2.cell? ⟨w.heap.size + 1, 5, none⟩ = some (.string b5) := (blk_cell bB 5).trans rfl
  have cR0 : w2.cell? ⟨w.heap.size + 1 + 1, 0, none⟩ = some (.int .i64 0) := (blk_cell bR 0).trans rfl
  have fR0 : w2.frozen? ⟨w.heap.size + 1 + 1, 0, none⟩ = false := blk_frozen bR 0
  have cR1 : w2.cell? ⟨w.heap.size + 1 + 1, 1, none⟩ = some (.int .i64 0) := (blk_cell bR 1).trans rfl
  have fR1 : w2.frozen? ⟨w.heap.size + 1 + 1, 1, none⟩ = false := blk_frozen bR 1
  have cR2 : w2.cell? ⟨w.heap.size + 1 + 1, 2, none⟩ = some (.int .u64 0) := (blk_cell bR 2).trans rfl
  have fR2 : w2.frozen? ⟨w.heap.size + 1 + 1, 2, none⟩ = false := blk_frozen bR 2
  have cR3 : w2.cell? ⟨w.heap.size + 1 + 1, 3, none⟩ = some (.int .i64 0) := (blk_cell bR 3).trans rfl
  have fR3 : w2.frozen? ⟨w.heap.size + 1 + 1, 3, none⟩ = false := blk_frozen bR 3
  have cR4 : w2.cell? ⟨w.heap.size + 1 + 1, 4, none⟩ = some (.int .i64 0) := (blk_cell bR 4).trans rfl
  have fR4 : w2.frozen? ⟨w.heap.size + 1 + 1, 4, none⟩ = false := blk_frozen bR 4
  have cR5 : w2.cell? ⟨w.heap.size + 1 + 1, 5, none⟩ = some (.string ⟨#[]⟩) := (blk_cell bR 5).trans rfl
  have fR5 : w2.frozen? ⟨w.heap.size + 1 + 1, 5, none⟩ = false := blk_frozen bR 5
  have HB := Aside0.mk hB
  have BR := Aside0.mk bR
  clear bA bB bR hB qf hcall
  go_wp2
  have hR := blk_alloc (blk_put6 BR.out (.int .i64 (wrap64 (a0 + b0))) (.int .i64 r1) (.int .u64 r2) (.int .i64 r3) (.int .i64 r4) (.string r5)) (.cells #[.int .i64 (wrap64 (a0 + b0)), .int .i64 r1, .int .u64 r2, .int .i64 r3, .int .i64 r4, .string r5] 28)
  refine bodyPost_ret (results_list rfl (by simp) (.cell _ _ _ _ _ rfl hR Try.underlying28 rfl (by kernel_rfl) (.tmp .nil))) rfl ⟨rfl, ?_⟩
  with_reducible repeat (first | exact HB.out | apply below_alloc | apply pw_below_drewN | refine below_set ?_ (by omega))

set_option maxHeartbeats 4000000 in
set_option maxRecDepth 100000 in
theorem both_sum (kind : Int) (a0 a1 a2 a3 a4 : Int) (a5 : ByteArray) (b0 b1 b2 b3 b4 : Int) (b5 : ByteArray) (r0 r1 r2 r3 r4 : Int) (r5 : ByteArray) (hk : kind = 3) (hcall : ∀ W : World, Calls Try.prog 43 #[.agg #[.int .i64 a0, .int .i64 a1, .int .u64 a2, .int .i64 a3, .int .i64 a4, .string a5], .agg #[.int .i64 b0, .int .i64 b1, .int .u64 b2, .int .i64 b3, .int .i64 b4, .string b5]] W fun e w' => e = .returned (.agg #[.int .i64 r0, .int .i64 r1, .int .u64 r2, .int .i64 r3, .int .i64 r4, .string r5]) ∧ Below W.heap.size W w') (w : World) : Calls Try.prog 12 #[.int .i64 kind, .agg #[.int .i64 a0, .int .i64 a1, .int .u64 a2, .int .i64 a3, .int .i64 a4, .string a5], .agg #[.int .i64 b0, .int .i64 b1, .int .u64 b2, .int .i64 b3, .int .i64 b4, .string b5]] w fun e w' => e = .returned (.tuple #[.agg #[.int .i64 (wrap64 (a0 + b0)), .int .i64 r1, .int .u64 r2, .int .i64 r3, .int .i64 r4, .string r5], .int .i64 0]) ∧ Below w.heap.size w w' := by
  have qf := fn_eq
  subst hk
  go_enter Try.func12, Try.ntmps12
  go_wp2_with fail
  refine (merges_calls 3 _).mono ?_
  rintro e w1 ⟨⟨v, rfl, hm⟩, hb1⟩
  obtain ⟨bA, bB, bR, hB, hz⟩ := blk3 hb1
  obtain rfl : v = .func (.func 43) #[] #[] := by
    rcases hm with ⟨_, h⟩ | ⟨_, h⟩ | ⟨_, _, h, _⟩ | ⟨h, _⟩ <;> first | exact h | (exfalso; omega)
  clear hm
  have cA0 : w1.cell? ⟨w.heap.size, 0, none⟩ = some (.int .i64 a0) := (blk_cell bA 0).trans rfl
  have cA1 : w1.cell? ⟨w.heap.size, 1, none⟩ = some (.int .i64 a1) := (blk_cell bA 1).trans rfl
  have cA2 : w1.cell? ⟨w.heap.size, 2, none⟩ = some (.int .u64 a2) := (blk_cell bA 2).trans rfl
  have cA3 : w1.cell? ⟨w.heap.size, 3, none⟩ = some (.int .i64 a3) := (blk_cell bA 3).trans rfl
  have cA4 : w1.cell? ⟨w.heap.size, 4, none⟩ = some (.int .i64 a4) := (blk_cell bA 4).trans rfl
  have cA5 : w1.cell? ⟨w.heap.size, 5, none⟩ = some (.string a5) := (blk_cell bA 5).trans rfl
  have cB0 : w1.cell? ⟨w.heap.size + 1, 0, none⟩ = some (.int .i64 b0) := (blk_cell bB 0).trans rfl
  have cB1 : w1.cell? ⟨w.heap.size + 1, 1, none⟩ = some (.int .i64 b1) := (blk_cell bB 1).trans rfl
  have cB2 : w1.cell? ⟨w.heap.size + 1, 2, none⟩ = some (.int .u64 b2) := (blk_cell bB 2).trans rfl
  have cB3 : w1.cell? ⟨w.heap.size + 1, 3, none⟩ = some (.int .i64 b3) := (blk_cell bB 3).trans rfl
  have cB4 : w1.cell? ⟨w.heap.size + 1, 4, none⟩ = some (.int .i64 b4) := (blk_cell bB 4).trans rfl
  have cB5 : w1.cell? ⟨w.heap.size + 1, 5, none⟩ = some (.string b5) := (blk_cell bB 5).trans rfl
  have HB := Aside0.mk hB
  have BA := Aside0.mk bA
  have BB := Aside0.mk bB
  have BR := Aside0.mk bR
  clear bA bB bR hB hb1
  go_wp2_with fail
  refine (hcall _ ).mono ?_
  rintro e w2 ⟨rfl, hb2⟩
  have bA := blk_below BA.out hb2
  have bB := blk_below BB.out hb2
  have bR := blk_below BR.out hb2
  have hz2 : w.heap.size + 1 + 1 < w2.heap.size := by have := hb2.size; omega
  have hz0 : w.heap.size < w2.heap.size := by omega
  have hz1 : w.heap.size + 1 < w2.heap.size := by omega
  have hB := HB.out.trans (hb2.mono (by omega))
  clear HB BA BB BR hb2 cA0 cA1 cA2 cA3 cA4 cA5 cB0 cB1 cB2 cB3 cB4 cB5
  have cA0 : w2.cell? ⟨w.heap.size, 0, none⟩ = some (.int .i64 a0) := (blk_cell bA 0).trans rfl
  have cA1 : w2.cell? ⟨w.heap.size, 1, none⟩ = some (.int .i64 a1) := (blk_cell bA 1).trans rfl
  have cA2 : w2.cell? ⟨w.heap.size, 2, none⟩ = some (.int .u64 a2) := (blk_cell bA 2).trans rfl
  have cA3 : w2.cell? ⟨w.heap.size, 3, none⟩ = some (.int .i64 a3) := (blk_cell bA 3).trans rfl
  have cA4 : w2.cell? ⟨w.heap.size, 4, none⟩ = some (.int .i64 a4) := (blk_cell bA 4).trans rfl
  have cA5 : w2.cell? ⟨w.heap.size, 5, none⟩ = some (.string a5) := (blk_cell bA 5).trans rfl
  have cB0 : w2.cell? ⟨w.heap.size + 1, 0, none⟩ = some (.int .i64 b0) := (blk_cell bB 0).trans rfl
  have cB1 : w2.cell? ⟨w.heap.size + 1, 1, none⟩ = some (.int .i64 b1) := (blk_cell bB 1).trans rfl
  have cB2 : w2.cell? ⟨w.heap.size + 1, 2, none⟩ = some (.int .u64 b2) := (blk_cell bB 2).trans rfl
  have cB3 : w2.cell? ⟨w.heap.size + 1, 3, none⟩ = some (.int .i64 b3) := (blk_cell bB 3).trans rfl
  have cB4 : w2.cell? ⟨w.heap.size + 1, 4, none⟩ = some (.int .i64 b4) := (blk_cell bB 4).trans rfl
  have cB5 : w2.cell? ⟨w.heap.size + 1, 5, none⟩ = some (.string b5) := (blk_cell bB 5).trans rfl
  have cR0 : w2.cell? ⟨w.heap.size + 1 + 1, 0, none⟩ = some (.int .i64 0) := (blk_cell bR 0).trans rfl
  have fR0 : w2.frozen? ⟨w.heap.size + 1 + 1, 0, none⟩ = false := blk_frozen bR 0
  have cR1 : w2.cell? ⟨w.heap.size + 1 + 1, 1, none⟩ = some (.int .i64 0) := (blk_cell bR 1).trans rfl
  have fR1 : w2.frozen? ⟨w.heap.size + 1 + 1, 1, none⟩ = false := blk_frozen bR 1
  have cR2 : w2.cell? ⟨w.heap.size + 1 + 1, 2, none⟩ = some (.int .u64 0) := (blk_cell bR 2).trans rfl
  have fR2 : w2.frozen? ⟨w.heap.size + 1 + 1, 2, none⟩ = false := blk_frozen bR 2
  have cR3 : w2.cell? ⟨w.heap.size + 1 + 1, 3, none⟩ = some (.int .i64 0) := (blk_cell bR 3).trans rfl
  have fR3 : w2.frozen? ⟨w.heap.size + 1 + 1, 3, none⟩ = false := blk_frozen bR 3
  have cR4 : w2.cell? ⟨w.heap.size + 1 + 1, 4, none⟩ = some (.int .i64 0) := (blk_cell bR 4).trans rfl
  have fR4 : w2.frozen? ⟨w.heap.size + 1 + 1, 4, none⟩ = false := blk_frozen bR 4
  have cR5 : w2.cell? ⟨w.heap.size + 1 + 1, 5, none⟩ = some (.string ⟨#[]⟩) := (blk_cell bR 5).trans rfl
  have fR5 : w2.frozen? ⟨w.heap.size + 1 + 1, 5, none⟩ = false := blk_frozen bR 5
  have HB := Aside0.mk hB
  have BR := Aside0.mk bR
  clear bA bB bR hB qf hcall
  go_wp2
  have hR := blk_alloc (blk_put6 BR.out (.int .i64 (wrap64 (a0 + b0))) (.int .i64 r1) (.int .u64 r2) (.int .i64 r3) (.int .i64 r4) (.string r5)) (.cells #[.int .i64 (wrap64 (a0 + b0)), .int .i64 r1, .int .u64 r2, .int .i64 r3, .int .i64 r4, .string r5] 28)
  refine bodyPost_ret (results_list rfl (by simp) (.cell _ _ _ _ _ rfl hR Try.underlying28 rfl (by kernel_rfl) (.tmp .nil))) rfl ⟨rfl, ?_⟩
  with_reducible repeat (first | exact HB.out | apply below_alloc | apply pw_below_drewN | refine below_set ?_ (by omega))

set_option maxHeartbeats 4000000 in
set_option maxRecDepth 100000 in
theorem both_best (kind : Int) (a0 a1 a2 a3 a4 : Int) (a5 : ByteArray) (b0 b1 b2 b3 b4 : Int) (b5 : ByteArray) (r0 r1 r2 r3 r4 : Int) (r5 : ByteArray) (s : Int) (hk : (kind = 4 ∧ s = 1) ∨ (kind = 5 ∧ s = -1)) (hcall : ∀ (g : Nat) (W : World), W.heap[g]? = some (.cells #[.int .i64 s] 3 (0, 0)) → Calls Try.prog 40 #[.agg #[.int .i64 a0, .int .i64 a1, .int .u64 a2, .int .i64 a3, .int .i64 a4, .string a5], .agg #[.int .i64 b0, .int .i64 b1, .int .u64 b2, .int .i64 b3, .int .i64 b4, .string b5], .pointer (some ⟨g, 0, none⟩)] W fun e w' => e = .returned (.agg #[.int .i64 r0, .int .i64 r1, .int .u64 r2, .int .i64 r3, .int .i64 r4, .string r5]) ∧ Below W.heap.size W w') (w : World) : Calls Try.prog 12 #[.int .i64 kind, .agg #[.int .i64 a0, .int .i64 a1, .int .u64 a2, .int .i64 a3, .int .i64 a4, .string a5], .agg #[.int .i64 b0, .int .i64 b1, .int .u64 b2, .int .i64 b3, .int .i64 b4, .string b5]] w fun e w' => e = .returned (.tuple #[.agg #[.int .i64 (wrap64 (a0 + b0)), .int .i64 r1, .int .u64 r2, .int .i64 r3, .int .i64 r4, .string r5], .int .i64 0]) ∧ Below w.heap.size w w' := by
  have qf := fn_eq
  go_enter Try.func12, Try.ntmps12
  go_wp2_with fail
  refine (merges_calls kind _).mono ?_
  rintro e w1 ⟨⟨v, rfl, hm⟩, hb1⟩
  obtain ⟨bA, bB, bR, hB, hz⟩ := blk3 hb1
  obtain ⟨g, rfl, hg⟩ : ∃ g, v = .func (.func 40) #[] #[.pointer (some ⟨g, 0, none⟩)] ∧ w1.heap[g]? = some (.cells #[.int .i64 s] 3 (0, 0)) := by
    rcases hm with ⟨_, h⟩ | ⟨_, h⟩ | ⟨g, s', h, h2, _, h4⟩ | ⟨h, _⟩
    · exfalso; omega
    · exfalso; omega
    · obtain rfl : s' = s := by omega
      exact ⟨g, h2, h4⟩
    · exfalso; omega
  have hg' := Aside0.mk hg
  clear hm hg
  have cA0 : w1.cell? ⟨w.heap.size, 0, none⟩ = some (.int .i64 a0) := (blk_cell bA 0).trans rfl
  have cA1 : w1.cell? ⟨w.heap.size, 1, none⟩ = some (.int .i64 a1) := (blk_cell bA 1).trans rfl
  have cA2 : w1.cell? ⟨w.heap.size, 2, none⟩ = some (.int .u64 a2) := (blk_cell bA 2).trans rfl
  have cA3 : w1.cell? ⟨w.heap.size, 3, none⟩ = some (.int .i64 a3) := (blk_cell bA 3).trans rfl
  have cA4 : w1.cell? ⟨w.heap.size, 4, none⟩ = some (.int .i64 a4) := (blk_cell bA 4).trans rfl
  have cA5 : w1.cell? ⟨w.heap.size, 5, none⟩ = some (.string a5) := (blk_cell bA 5).trans rfl
  have cB0 : w1.cell? ⟨w.heap.size + 1, 0, none⟩ = some (.int .i64 b0) := (blk_cell bB 0).trans rfl
  have cB1 : w1.cell? ⟨w.heap.size + 1, 1, none⟩ = some (.int .i64 b1) := (blk_cell bB 1).trans rfl
  have cB2 : w1.cell? ⟨w.heap.size + 1, 2, none⟩ = some (.int .u64 b2) := (blk_cell bB 2).trans rfl
  have cB3 : w1.cell? ⟨w.heap.size + 1, 3, none⟩ = some (.int .i64 b3) := (blk_cell bB 3).trans rfl
  have cB4 : w1.cell? ⟨w.heap.size + 1, 4, none⟩ = some (.int .i64 b4) := (blk_cell bB 4).trans rfl
  have cB5 : w1.cell? ⟨w.heap.size + 1, 5, none⟩ = some (.string b5) := (blk_cell bB 5).trans rfl
  have HB := Aside0.mk hB
  have BA := Aside0.mk bA
  have BB := Aside0.mk bB
  have BR := Aside0.mk bR
  clear bA bB bR hB hb1
  go_wp2_with fail
  refine (hcall _ _ hg'.out).mono ?_
  rintro e w2 ⟨rfl, hb2⟩
  have bA := blk_below BA.out hb2
  have bB := blk_below BB.out hb2
  have bR := blk_below BR.out hb2
  have hz2 : w.heap.size + 1 + 1 < w2.heap.size := by have := hb2.size; omega
  have hz0 : w.heap.size < w2.heap.size := by omega
  have hz1 : w.heap.size + 1 < w2.heap.size := by omega
  have hB := HB.out.trans (hb2.mono (by omega))
  clear HB BA BB BR hb2 cA0 cA1 cA2 cA3 cA4 cA5 cB0 cB1 cB2 cB3 cB4 cB5
  have cA0 : w2.cell? ⟨w.heap.size, 0, none⟩ = some (.int .i64 a0) := (blk_cell bA 0).trans rfl
  have cA1 : w2.cell? ⟨w.heap.size, 1, none⟩ = some (.int .i64 a1) := (blk_cell bA 1).trans rfl
  have cA2 : w2.cell? ⟨w.heap.size, 2, none⟩ = some (.int .u64 a2) := (blk_cell bA 2).trans rfl
  have cA3 : w2.cell? ⟨w.heap.size, 3, none⟩ = some (.int .i64 a3) := (blk_cell bA 3).trans rfl
  have cA4 : w2.cell? ⟨w.heap.size, 4, none⟩ = some (.int .i64 a4) := (blk_cell bA 4).trans rfl
  have cA5 : w2.cell? ⟨w.heap.size, 5, none⟩ = some (.string a5) := (blk_cell bA 5).trans rfl
  have cB0 : w2.cell? ⟨w.heap.size + 1, 0, none⟩ = some (.int .i64 b0) := (blk_cell bB 0).trans rfl
  have cB1 : w2.cell? ⟨w.heap.size + 1, 1, none⟩ = some (.int .i64 b1) := (blk_cell bB 1).trans rfl
  have cB2 : w2.cell? ⟨w.heap.size + 1, 2, none⟩ = some (.int .u64 b2) := (blk_cell bB 2).trans rfl
  have cB3 : w2.cell? ⟨w.heap.size + 1, 3, none⟩ = some (.int .i64 b3) := (blk_cell bB 3).trans rfl
  have cB4 : w2.cell? ⟨w.heap.size + 1, 4, none⟩ = some (.int .i64 b4) := (blk_cell bB 4).trans rfl
  have cB5 : w2.cell? ⟨w.heap.size + 1, 5, none⟩ = some (.string b5) := (blk_cell bB 5).trans rfl
  have cR0 : w2.cell? ⟨w.heap.size + 1 + 1, 0, none⟩ = some (.int .i64 0) := (blk_cell bR 0).trans rfl
  have fR0 : w2.frozen? ⟨w.heap.size + 1 + 1, 0, none⟩ = false := blk_frozen bR 0
  have cR1 : w2.cell? ⟨w.heap.size + 1 + 1, 1, none⟩ = some (.int .i64 0) := (blk_cell bR 1).trans rfl
  have fR1 : w2.frozen? ⟨w.heap.size + 1 + 1, 1, none⟩ = false := blk_frozen bR 1
  have cR2 : w2.cell? ⟨w.heap.size + 1 + 1, 2, none⟩ = some (.int .u64 0) := (blk_cell bR 2).trans rfl
  have fR2 : w2.frozen? ⟨w.heap.size + 1 + 1, 2, none⟩ = false := blk_frozen bR 2
  have cR3 : w2.cell? ⟨w.heap.size + 1 + 1, 3, none⟩ = some (.int .i64 0) := (blk_cell bR 3).trans rfl
  have fR3 : w2.frozen? ⟨w.heap.size + 1 + 1, 3, none⟩ = false := blk_frozen bR 3
  have cR4 : w2.cell? ⟨w.heap.size + 1 + 1, 4, none⟩ = some (.int .i64 0) := (blk_cell bR 4).trans rfl
  have fR4 : w2.frozen? ⟨w.heap.size + 1 + 1, 4, none⟩ = false := blk_frozen bR 4
  have cR5 : w2.cell? ⟨w.heap.size + 1 + 1, 5, none⟩ = some (.string ⟨#[]⟩) := (blk_cell bR 5).trans rfl
  have fR5 : w2.frozen? ⟨w.heap.size + 1 + 1, 5, none⟩ = false := blk_frozen bR 5
  have HB := Aside0.mk hB
  have BR := Aside0.mk bR
  clear bA bB bR hB qf hcall
  go_wp2
  have hR := blk_alloc (blk_put6 BR.out (.int .i64 (wrap64 (a0 + b0))) (.int .i64 r1) (.int .u64 r2) (.int .i64 r3) (.int .i64 r4) (.string r5)) (.cells #[.int .i64 (wrap64 (a0 + b0)), .int .i64 r1, .int .u64 r2, .int .i64 r3, .int .i64 r4, .string r5] 28)
  refine bodyPost_ret (results_list rfl (by simp) (.cell _ _ _ _ _ rfl hR Try.underlying28 rfl (by kernel_rfl) (.tmp .nil))) rfl ⟨rfl, ?_⟩
  with_reducible repeat (first | exact HB.out | apply below_alloc | apply pw_below_drewN | refine below_set ?_ (by omega))

set_option maxHeartbeats 4000000 in
set_option maxRecDepth 100000 in
theorem both_none (kind : Int) (a0 a1 a2 a3 a4 : Int) (a5 : ByteArray) (b0 b1 b2 b3 b4 : Int) (b5 : ByteArray) (hk : kind < 1 ∨ kind > 5) (w : World) : Calls Try.prog 12 #[.int .i64 kind, .agg #[.int .i64 a0, .int .i64 a1, .int .u64 a2, .int .i64 a3, .int .i64 a4, .string a5], .agg #[.int .i64 b0, .int .i64 b1, .int .u64 b2, .int .i64 b3, .int .i64 b4, .string b5]] w fun e w' => e = .returned (.tuple #[.agg #[.int .i64 0, .int .i64 0, .int .u64 0, .int .i64 0, .int .i64 0, .string ⟨#[]⟩], .int .i64 150]) ∧ Below w.heap.size w w' := by
  have qf := nil_eq
  go_enter Try.func12, Try.ntmps12
  go_wp2_with fail
  refine (merges_calls kind _).mono ?_
  rintro e w1 ⟨⟨v, rfl, hm⟩, hb1⟩
  obtain ⟨bA, bB, bR, hB, hz⟩ := blk3 hb1
  obtain rfl : v = .nilFunc := by
    rcases hm with ⟨h, _⟩ | ⟨h, _⟩ | ⟨_, _, h, _⟩ | ⟨_, h⟩ <;> first | exact h | (exfalso; omega)
  clear hm
  have cR0 : w1.cell? ⟨w.heap.size + 1 + 1, 0, none⟩ = some (.int .i64 0) := (blk_cell bR 0).trans rfl
  have fR0 : w1.frozen? ⟨w.heap.size + 1 + 1, 0, none⟩ = false := blk_frozen bR 0
  have cR1 : w1.cell? ⟨w.heap.size + 1 + 1, 1, none⟩ = some (.int .i64 0) := (blk_cell bR 1).trans rfl
  have fR1 : w1.frozen? ⟨w.heap.size + 1 + 1, 1, none⟩ = false := blk_frozen bR 1
  have cR2 : w1.cell? ⟨w.heap.size + 1 + 1, 2, none⟩ = some (.int .u64 0) := (blk_cell bR 2).trans rfl
  have fR2 : w1.frozen? ⟨w.heap.size + 1 + 1, 2, none⟩ = false := blk_frozen bR 2
  have cR3 : w1.cell? ⟨w.heap.size + 1 + 1, 3, none⟩ = some (.int .i64 0) := (blk_cell bR 3).trans rfl
  have fR3 : w1.frozen? ⟨w.heap.size + 1 + 1, 3, none⟩ = false := blk_frozen bR 3
  have cR4 : w1.cell? ⟨w.heap.size + 1 + 1, 4, none⟩ = some (.int .i64 0) := (blk_cell bR 4).trans rfl
  have fR4 : w1.frozen? ⟨w.heap.size + 1 + 1, 4, none⟩ = false := blk_frozen bR 4
  have cR5 : w1.cell? ⟨w.heap.size + 1 + 1, 5, none⟩ = some (.string ⟨#[]⟩) := (blk_cell bR 5).trans rfl
  have fR5 : w1.frozen? ⟨w.heap.size + 1 + 1, 5, none⟩ = false := blk_frozen bR 5
  have HB := Aside0.mk hB
  have BR := Aside0.mk bR
  clear bA bB bR hB hb1
  go_wp2
  have hR := blk_put6 BR.out (.int .i64 0) (.int .i64 0) (.int .u64 0) (.int .i64 0) (.int .i64 0) (.string ⟨#[]⟩)
  refine bodyPost_ret (results_list rfl (by simp) (.cell _ _ _ _ _ rfl hR Try.underlying28 rfl (by kernel_rfl) (.tmp .nil))) rfl ⟨rfl, ?_⟩
  clear cR0 fR0 cR1 fR1 cR2 fR2 cR3 fR3 cR4 fR4 cR5 fR5
  with_reducible repeat (first | exact HB.out | apply below_alloc | apply pw_below_drewN | refine below_set ?_ (by omega))

def agg_Both.f (a0 : Int) (a1_0 : Int) (a1_1 : Int) (a1_2 : Int) (a1_3 : Int) (a1_4 : Int) (a1_5 : ByteArray) (a2_0 : Int) (a2_1 : Int) (a2_2 : Int) (a2_3 : Int) (a2_4 : Int) (a2_5 : ByteArray) : Option (Int × Int × Int × Int × Int × ByteArray × Int) :=
  if a0 < 1 ∨ a0 > 5 then some (0, 0, 0, 0, 0, ⟨#[]⟩, 150) else if a0 = 1 ∨ a0 = 2 then some (wrap64 (a1_0 + a2_0), a1_1, a1_2, a1_3, a1_4, a1_5, 0)
  else if a0 = 3 then (num_Both.f a1_1 a1_2 a2_1 a2_2).bind fun s => some (wrap64 (a1_0 + a2_0), s.1, s.2, a1_3, a1_4, a1_5, 0)
  else if takes (if a0 = 4 then 1 else -1) a1_0 a2_0 (cmpV a2_3 a2_4 a2_5 a1_3 a1_4 a1_5) = true then some (wrap64 (a1_0 + a2_0), a1_1, a1_2, a2_3, a2_4, a2_5, 0) else some (wrap64 (a1_0 + a2_0), a1_1, a1_2, a1_3, a1_4, a1_5, 0)
theorem agg_Both.calls (a0 : Int) (a1_0 : Int) (a1_1 : Int) (a1_2 : Int) (a1_3 : Int) (a1_4 : Int) (a1_5 : ByteArray) (a2_0 : Int) (a2_1 : Int) (a2_2 : Int) (a2_3 : Int) (a2_4 : Int) (a2_5 : ByteArray) (r1 : Int) (r2 : Int) (r3 : Int) (r4 : Int) (r5 : Int) (r6 : ByteArray) (r7 : Int) (w : World) (h : agg_Both.f a0 a1_0 a1_1 a1_2 a1_3 a1_4 a1_5 a2_0 a2_1 a2_2 a2_3 a2_4 a2_5 = some (r1, r2, r3, r4, r5, r6, r7)) :
    Calls Try.prog 12 #[.int .i64 a0, .agg #[.int .i64 a1_0, .int .i64 a1_1, .int .u64 a1_2, .int .i64 a1_3, .int .i64 a1_4, .string a1_5], .agg #[.int .i64 a2_0, .int .i64 a2_1, .int .u64 a2_2, .int .i64 a2_3, .int .i64 a2_4, .string a2_5]] w fun e w' => e = .returned (.tuple #[.agg #[.int .i64 r1, .int .i64 r2, .int .u64 r3, .int .i64 r4, .int .i64 r5, .string r6], .int .i64 r7]) ∧ Below w.heap.size w w' := by
  unfold agg_Both.f at h
  by_cases h0 : a0 < 1 ∨ a0 > 5
  · rw [if_pos h0] at h
    cases h
    exact both_none a0 _ _ _ _ _ _ _ _ _ _ _ _ h0 w
  rw [if_neg h0] at h
  by_cases h1 : a0 = 1 ∨ a0 = 2
  · rw [if_pos h1] at h
    cases h
    exact both_same a0 _ _ _ _ _ _ _ _ _ _ _ _ _ _ _ _ _ _ h1 (fun W => same_calls _ _ _ _ _ _ _ _ _ _ _ _ W) w
  rw [if_neg h1] at h
  by_cases h2 : a0 = 3
  · rw [if_pos h2] at h
    obtain ⟨⟨s1, s2⟩, hs, h⟩ := Option.bind_eq_some_iff.1 h
    cases h
    exact both_sum a0 _ _ _ _ _ _ _ _ _ _ _ _ _ _ _ _ _ _ h2 (fun W => sum_calls _ _ _ _ _ _ _ _ _ _ _ _ _ _ hs W) w
  rw [if_neg h2] at h
  have hk : (a0 = 4 ∧ (if a0 = 4 then (1 : Int) else -1) = 1) ∨ (a0 = 5 ∧ (if a0 = 4 then (1 : Int) else -1) = -1) := by
    by_cases h4 : a0 = 4
    · exact .inl ⟨h4, if_pos h4⟩
    · exact .inr ⟨by omega, if_neg h4⟩
  generalize (if a0 = 4 then (1 : Int) else -1) = s at h hk
  have hb := fun (g : Nat) (W : World) hg => best_calls a1_0 a1_1 a1_2 a1_3 a1_4 a1_5 a2_0 a2_1 a2_2 a2_3 a2_4 a2_5 g s W hg
  unfold bestOf at hb
  split at h
  · rename_i ht
    cases h
    refine both_best a0 _ _ _ _ _ _ _ _ _ _ _ _ a1_0 _ _ _ _ _ s hk (fun g W hg => ?_) w
    have := hb g W hg
    rw [if_pos ht] at this
    exact this
  · rename_i ht
    cases h
    refine both_best a0 _ _ _ _ _ _ _ _ _ _ _ _ a1_0 _ _ _ _ _ s hk (fun g W hg => ?_) w
    have := hb g W hg
    rw [if_neg ht] at this
    exact this
def checkV (k n : Int) (s : ByteArray) : Int :=
  if k < 0 ∨ k > 3 then 30 else if k = 3 then (if n = 0 ∧ s.size ≤ 200 then 0 else 31)
  else if s.toList ≠ [] ∨ (k = 0 ∧ n ≠ 0) ∨ (k = 2 ∧ n ≠ 0 ∧ n ≠ 1) then 31 else 0
theorem value_Check_eq (k n : Int) (s : ByteArray) : value_Check.f 3 k n s = some (checkV k n s) := by
  unfold value_Check.f checkV
  simp only [value_Check.j0, value_Check.j1]
  by_cases k0 : k = 0
  · subst k0
    by_cases hn : n = 0 <;> by_cases hs : s.toList = [] <;> simp [hn, hs]
  by_cases k1 : k = 1
  · subst k1
    by_cases hs : s.toList = [] <;> simp [hs]
  by_cases k2 : k = 2
  · subst k2
    by_cases hn : n = 0 <;> by_cases h1 : n = 1 <;> by_cases hs : s.toList = [] <;> simp [hn, h1, hs]
  by_cases k3 : k = 3
  · subst k3
    by_cases hn : n = 0
    · by_cases hs : (s.size : Int) ≤ 200
      · have : s.size ≤ 200 := by omega
        simp [hn, this] <;> omega
      · have : ¬ s.size ≤ 200 := by omega
        simp [hn, this] <;> omega
    · simp [hn]
  · rw [if_neg k0, if_neg k1, if_neg k2, if_neg k3, if_pos (by omega)]
theorem check_calls (k n : Int) (s : ByteArray) (w : World) : Calls Try.prog 30 #[.agg #[.int .i64 k, .int .i64 n, .string s]] w fun e w' => e = .returned (.int .i64 (checkV k n s)) ∧ Below w.heap.size w w' :=
  value_Check.calls 3 k n s _ w (value_Check_eq k n s)
end Go.Proofs.Ytphdbhneefmkcaa.Q
