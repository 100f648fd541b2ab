/- agg.Add: walked. -/
import Derived.Test.YtphdbhneefmkcaaHAggD
import Derived.Test.YtphdbhneefmkcaaAx
namespace Go.Proofs.Ytphdbhneefmkcaa.Q
open Go.RowKit Go.Proofs.YtphdbhneefmkcaaW.PrintWords Go.Proofs.YtphdbhneefmkcaaW.PrintLast Go.Proofs.YtphdbhneefmkcaaW.PrintMore
set_option linter.unusedVariables false
set_option linter.unusedSimpArgs false

set_option maxHeartbeats 4000000 in
set_option maxRecDepth 100000 in
theorem add_none (kind : Int) (a0 a1 a2 a3 a4 : Int) (a5 : ByteArray) (b0 b1 : Int) (b2 : ByteArray) (hk : kind < 1 ∨ kind > 5) (w : World) : Calls Try.prog 10 #[.int .i64 kind, .agg #[.int .i64 a0, .int .i64 a1, .int .u64 a2, .int .i64 a3, .int .i64 a4, .string a5], .agg #[.int .i64 b0, .int .i64 b1, .string b2]] w fun e w' => e = .returned (.tuple #[.agg #[.int .i64 0, .int .i64 0, .int .u64 0, .int .i64 0, .int .i64 0, .string ⟨#[]⟩], .int .i64 150]) ∧ Below w.heap.size w w' := by
  have qf := nil_eq
  go_enter Try.func10, Try.ntmps10
  go_wp2_with fail
  refine (merges_calls kind _).mono ?_
  rintro e w1 ⟨⟨v, rfl, hm⟩, hb1⟩
  obtain ⟨bA, bB, bR, hB, hz⟩ := blk3 hb1
  obtain rfl : v = .nilFunc := by
    rcases hm with ⟨h, _⟩ | ⟨h, _⟩ | ⟨_, _, h, _⟩ | ⟨_, h⟩ <;> first | exact h | (exfalso; omega)
  clear hm
  have cB0 : w1.cell? ⟨w.heap.size + 1, 0, none⟩ = some (.int .i64 b0) := (blk_cell bB 0).trans rfl
  have cB1 : w1.cell? ⟨w.heap.size + 1, 1, none⟩ = some (.int .i64 b1) := (blk_cell bB 1).trans rfl
  have cB2 : w1.cell? ⟨w.heap.size + 1, 2, none⟩ = some (.string b2) := (blk_cell bB 2).trans rfl
  have cR0 : w1.cell? ⟨w.heap.size + 1 + 1, 0, none⟩ = some (.int .i64 0) := (blk_cell bR 0).trans rfl
  have fR0 : w1.frozen? ⟨w.heap.size + 1 + 1, 0, none⟩ = false := blk_frozen bR 0
  have cR1 : w1.cell? ⟨w.heap.size + 1 + 1, 1, none⟩ = some (.int .i64 0) := (blk_cell bR 1).trans rfl
  have fR1 : w1.frozen? ⟨w.heap.size + 1 + 1, 1, none⟩ = false := blk_frozen bR 1
  have cR2 : w1.cell? ⟨w.heap.size + 1 + 1, 2, none⟩ = some (.int .u64 0) := (blk_cell bR 2).trans rfl
  have fR2 : w1.frozen? ⟨w.heap.size + 1 + 1, 2, none⟩ = false := blk_frozen bR 2
  have cR3 : w1.cell? ⟨w.heap.size + 1 + 1, 3, none⟩ = some (.int .i64 0) := (blk_cell bR 3).trans rfl
  have fR3 : w1.frozen? ⟨w.heap.size + 1 + 1, 3, none⟩ = false := blk_frozen bR 3
  have cR4 : w1.cell? ⟨w.heap.size + 1 + 1, 4, none⟩ = some (.int .i64 0) := (blk_cell bR 4).trans rfl
  have fR4 : w1.frozen? ⟨w.heap.size + 1 + 1, 4, none⟩ = false := blk_frozen bR 4
  have cR5 : w1.cell? ⟨w.heap.size + 1 + 1, 5, none⟩ = some (.string ⟨#[]⟩) := (blk_cell bR 5).trans rfl
  have fR5 : w1.frozen? ⟨w.heap.size + 1 + 1, 5, none⟩ = false := blk_frozen bR 5
  have HB := Aside0.mk hB
  have BA := Aside0.mk bA
  have BB := Aside0.mk bB
  have BR := Aside0.mk bR
  clear bA bB bR hB hb1
  go_wp2
  have hR := blk_put6 BR.out (.int .i64 0) (.int .i64 0) (.int .u64 0) (.int .i64 0) (.int .i64 0) (.string ⟨#[]⟩)
  refine bodyPost_ret (results_list rfl (by simp) (.cell _ _ _ _ _ rfl hR Try.underlying28 rfl (by kernel_rfl) (.tmp .nil))) rfl ⟨rfl, ?_⟩
  with_reducible repeat (first | exact HB.out | apply below_alloc | apply pw_below_drewN | refine below_set ?_ (by omega))

set_option maxHeartbeats 4000000 in
set_option maxRecDepth 100000 in
theorem add_form1 (kind : Int) (a0 a1 a2 a3 a4 : Int) (a5 : ByteArray) (b0 b1 : Int) (b2 : ByteArray) (c : Int) (hk : ¬ (kind < 1 ∨ kind > 5)) (hc : checkV b0 b1 b2 = c) (h0 : c ≠ 0) (w : World) : Calls Try.prog 10 #[.int .i64 kind, .agg #[.int .i64 a0, .int .i64 a1, .int .u64 a2, .int .i64 a3, .int .i64 a4, .string a5], .agg #[.int .i64 b0, .int .i64 b1, .string b2]] w fun e w' => e = .returned (.tuple #[.agg #[.int .i64 0, .int .i64 0, .int .u64 0, .int .i64 0, .int .i64 0, .string ⟨#[]⟩], .int .i64 151]) ∧ Below w.heap.size w w' := by
  have HC := Aside0.mk hc
  clear hc
  have h0b : (c != 0) = true := by simpa using h0
  clear h0
  have qf := fn_eq
  go_enter Try.func10, Try.ntmps10
  go_wp2_with fail
  refine (merges_calls kind _).mono ?_
  rintro e w1 ⟨⟨v, rfl, hm⟩, hb1⟩
  obtain ⟨bA, bB, bR, hB, hz⟩ := blk3 hb1
  obtain ⟨fn, fs, cs, rfl⟩ : ∃ fn fs cs, v = .func fn fs cs := by
    rcases hm with ⟨_, h⟩ | ⟨_, h⟩ | ⟨_, _, _, h, _⟩ | ⟨h, _⟩
    · exact ⟨_, _, _, h⟩
    · exact ⟨_, _, _, h⟩
    · exact ⟨_, _, _, h⟩
    · exfalso; omega
  clear hm
  have cB0 : w1.cell? ⟨w.heap.size + 1, 0, none⟩ = some (.int .i64 b0) := (blk_cell bB 0).trans rfl
  have cB1 : w1.cell? ⟨w.heap.size + 1, 1, none⟩ = some (.int .i64 b1) := (blk_cell bB 1).trans rfl
  have cB2 : w1.cell? ⟨w.heap.size + 1, 2, none⟩ = some (.string b2) := (blk_cell bB 2).trans rfl
  have HB := Aside0.mk hB
  have BA := Aside0.mk bA
  have BB := Aside0.mk bB
  have BR := Aside0.mk bR
  clear bA bB bR hB hb1
  go_wp2_with fail
  refine (check_calls b0 b1 b2 _).mono ?_
  rintro e w2 ⟨rfl, hbw2⟩
  rw [HC.out]
  have bA := blk_below BA.out hbw2
  have bB := blk_below BB.out hbw2
  have bR := blk_below BR.out hbw2
  have hzw2 : w.heap.size + 1 + 1 < w2.heap.size := by have := hbw2.size; omega
  have hyw2 : w.heap.size + 1 < w2.heap.size := by omega
  have hxw2 : w.heap.size < w2.heap.size := by omega
  have hB := below_step (HB.out) hbw2
  clear HB BA BB BR hbw2 cB0 cB1 cB2
  have cR0 : w2.cell? ⟨w.heap.size + 1 + 1, 0, none⟩ = some (.int .i64 0) := (blk_cell bR 0).trans rfl
  have fR0 : w2.frozen? ⟨w.heap.size + 1 + 1, 0, none⟩ = false := blk_frozen bR 0
  have cR1 : w2.cell? ⟨w.heap.size + 1 + 1, 1, none⟩ = some (.int .i64 0) := (blk_cell bR 1).trans rfl
  have fR1 : w2.frozen? ⟨w.heap.size + 1 + 1, 1, none⟩ = false := blk_frozen bR 1
  have cR2 : w2.cell? ⟨w.heap.size + 1 + 1, 2, none⟩ = some (.int .u64 0) := (blk_cell bR 2).trans rfl
  have fR2 : w2.frozen? ⟨w.heap.size + 1 + 1, 2, none⟩ = false := blk_frozen bR 2
  have cR3 : w2.cell? ⟨w.heap.size + 1 + 1, 3, none⟩ = some (.int .i64 0) := (blk_cell bR 3).trans rfl
  have fR3 : w2.frozen? ⟨w.heap.size + 1 + 1, 3, none⟩ = false := blk_frozen bR 3
  have cR4 : w2.cell? ⟨w.heap.size + 1 + 1, 4, none⟩ = some (.int .i64 0) := (blk_cell bR 4).trans rfl
  have fR4 : w2.frozen? ⟨w.heap.size + 1 + 1, 4, none⟩ = false := blk_frozen bR 4
  have cR5 : w2.cell? ⟨w.heap.size + 1 + 1, 5, none⟩ = some (.string ⟨#[]⟩) := (blk_cell bR 5).trans rfl
  have fR5 : w2.frozen? ⟨w.heap.size + 1 + 1, 5, none⟩ = false := blk_frozen bR 5
  have HB := Aside0.mk hB
  have BA := Aside0.mk bA
  have BB := Aside0.mk bB
  have BR := Aside0.mk bR
  clear hB bA bB bR
  go_wp2
  have hR := blk_put6 BR.out (.int .i64 0) (.int .i64 0) (.int .u64 0) (.int .i64 0) (.int .i64 0) (.string ⟨#[]⟩)
  refine bodyPost_ret (results_list rfl (by simp) (.cell _ _ _ _ _ rfl hR Try.underlying28 rfl (by kernel_rfl) (.tmp .nil))) rfl ⟨rfl, ?_⟩
  with_reducible repeat (first | exact HB.out | apply below_alloc | apply pw_below_drewN | refine below_set ?_ (by omega))

set_option maxHeartbeats 4000000 in
set_option maxRecDepth 100000 in
theorem add_form2 (kind : Int) (a0 a1 a2 a3 a4 : Int) (a5 : ByteArray) (b0 b1 : Int) (b2 : ByteArray) (hk : kind = 3) (hc : checkV b0 b1 b2 = 0) (h0 : b0 ≠ 0) (h1 : b0 ≠ 1) (w : World) : Calls Try.prog 10 #[.int .i64 kind, .agg #[.int .i64 a0, .int .i64 a1, .int .u64 a2, .int .i64 a3, .int .i64 a4, .string a5], .agg #[.int .i64 b0, .int .i64 b1, .string b2]] w fun e w' => e = .returned (.tuple #[.agg #[.int .i64 0, .int .i64 0, .int .u64 0, .int .i64 0, .int .i64 0, .string ⟨#[]⟩], .int .i64 151]) ∧ Below w.heap.size w w' := by
  have HC := Aside0.mk hc
  clear hc
  subst hk
  have h0b : (b0 != 0) = true := by simpa using h0
  have h1b : (b0 != 1) = true := by simpa using h1
  clear h0 h1
  have qf := fn_eq
  go_enter Try.func10, Try.ntmps10
  go_wp2_with fail
  refine (merges_calls 3 _).mono ?_
  rintro e w1 ⟨⟨v, rfl, hm⟩, hb1⟩
  obtain ⟨bA, bB, bR, hB, hz⟩ := blk3 hb1
  obtain ⟨fn, fs, cs, rfl⟩ : ∃ fn fs cs, v = .func fn fs cs := by
    rcases hm with ⟨_, h⟩ | ⟨_, h⟩ | ⟨_, _, _, h, _⟩ | ⟨h, _⟩
    · exact ⟨_, _, _, h⟩
    · exact ⟨_, _, _, h⟩
    · exact ⟨_, _, _, h⟩
    · exfalso; omega
  clear hm
  have cB0 : w1.cell? ⟨w.heap.size + 1, 0, none⟩ = some (.int .i64 b0) := (blk_cell bB 0).trans rfl
  have cB1 : w1.cell? ⟨w.heap.size + 1, 1, none⟩ = some (.int .i64 b1) := (blk_cell bB 1).trans rfl
  have cB2 : w1.cell? ⟨w.heap.size + 1, 2, none⟩ = some (.string b2) := (blk_cell bB 2).trans rfl
  have HB := Aside0.mk hB
  have BA := Aside0.mk bA
  have BB := Aside0.mk bB
  have BR := Aside0.mk bR
  clear bA bB bR hB hb1
  go_wp2_with fail
  refine (check_calls b0 b1 b2 _).mono ?_
  rintro e w2 ⟨rfl, hbw2⟩
  rw [HC.out]
  have bA := blk_below BA.out hbw2
  have bB := blk_below BB.out hbw2
  have bR := blk_below BR.out hbw2
  have hzw2 : w.heap.size + 1 + 1 < w2.heap.size := by have := hbw2.size; omega
  have hyw2 : w.heap.size + 1 < w2.heap.size := by omega
  have hxw2 : w.heap.size < w2.heap.size := by omega
  have hB := below_step (HB.out) hbw2
  clear HB BA BB BR hbw2 cB0 cB1 cB2
  have cR0 : w2.cell? ⟨w.heap.size + 1 + 1, 0, none⟩ = some (.int .i64 0) := (blk_cell bR 0).trans rfl
  have fR0 : w2.frozen? ⟨w.heap.size + 1 + 1, 0, none⟩ = false := blk_frozen bR 0
  have cR1 : w2.cell? ⟨w.heap.size + 1 + 1, 1, none⟩ = some (.int .i64 0) := (blk_cell bR 1).trans rfl
  have fR1 : w2.frozen? ⟨w.heap.size + 1 + 1, 1, none⟩ = false := blk_frozen bR 1
  have cR2 : w2.cell? ⟨w.heap.size + 1 + 1, 2, none⟩ = some (.int .u64 0) := (blk_cell bR 2).trans rfl
  have fR2 : w2.frozen? ⟨w.heap.size + 1 + 1, 2, none⟩ = false := blk_frozen bR 2
  have cR3 : w2.cell? ⟨w.heap.size + 1 + 1, 3, none⟩ = some (.int .i64 0) := (blk_cell bR 3).trans rfl
  have fR3 : w2.frozen? ⟨w.heap.size + 1 + 1, 3, none⟩ = false := blk_frozen bR 3
  have cR4 : w2.cell? ⟨w.heap.size + 1 + 1, 4, none⟩ = some (.int .i64 0) := (blk_cell bR 4).trans rfl
  have fR4 : w2.frozen? ⟨w.heap.size + 1 + 1, 4, none⟩ = false := blk_frozen bR 4
  have cR5 : w2.cell? ⟨w.heap.size + 1 + 1, 5, none⟩ = some (.string ⟨#[]⟩) := (blk_cell bR 5).trans rfl
  have fR5 : w2.frozen? ⟨w.heap.size + 1 + 1, 5, none⟩ = false := blk_frozen bR 5
  have cB0 : w2.cell? ⟨w.heap.size + 1, 0, none⟩ = some (.int .i64 b0) := (blk_cell bB 0).trans rfl
  have cB1 : w2.cell? ⟨w.heap.size + 1, 1, none⟩ = some (.int .i64 b1) := (blk_cell bB 1).trans rfl
  have cB2 : w2.cell? ⟨w.heap.size + 1, 2, none⟩ = some (.string b2) := (blk_cell bB 2).trans rfl
  have HB := Aside0.mk hB
  have BA := Aside0.mk bA
  have BB := Aside0.mk bB
  have BR := Aside0.mk bR
  clear hB bA bB bR
  go_wp2
  have hR := blk_put6 BR.out (.int .i64 0) (.int .i64 0) (.int .u64 0) (.int .i64 0) (.int .i64 0) (.string ⟨#[]⟩)
  refine bodyPost_ret (results_list rfl (by simp) (.cell _ _ _ _ _ rfl hR Try.underlying28 rfl (by kernel_rfl) (.tmp .nil))) rfl ⟨rfl, ?_⟩
  with_reducible repeat (first | exact HB.out | apply below_alloc | apply pw_below_drewN | refine below_set ?_ (by omega))

set_option maxHeartbeats 4000000 in
set_option maxRecDepth 100000 in
theorem add_null3 (kind : Int) (a0 a1 a2 a3 a4 : Int) (a5 : ByteArray) (b0 b1 : Int) (b2 : ByteArray) (hk : kind = 3) (hc : checkV b0 b1 b2 = 0) (h0 : b0 = 0) (w : World) : Calls Try.prog 10 #[.int .i64 kind, .agg #[.int .i64 a0, .int .i64 a1, .int .u64 a2, .int .i64 a3, .int .i64 a4, .string a5], .agg #[.int .i64 b0, .int .i64 b1, .string b2]] w fun e w' => e = .returned (.tuple #[.agg #[.int .i64 a0, .int .i64 a1, .int .u64 a2, .int .i64 a3, .int .i64 a4, .string a5], .int .i64 0]) ∧ Below w.heap.size w w' := by
  subst hk
  subst h0
  have HC := Aside0.mk hc
  clear hc
  have qf := fn_eq
  go_enter Try.func10, Try.ntmps10
  go_wp2_with fail
  refine (merges_calls 3 _).mono ?_
  rintro e w1 ⟨⟨v, rfl, hm⟩, hb1⟩
  obtain ⟨bA, bB, bR, hB, hz⟩ := blk3 hb1
  obtain ⟨fn, fs, cs, rfl⟩ : ∃ fn fs cs, v = .func fn fs cs := by
    rcases hm with ⟨_, h⟩ | ⟨_, h⟩ | ⟨_, _, _, h, _⟩ | ⟨h, _⟩
    · exact ⟨_, _, _, h⟩
    · exact ⟨_, _, _, h⟩
    · exact ⟨_, _, _, h⟩
    · exfalso; omega
  clear hm
  have cB0 : w1.cell? ⟨w.heap.size + 1, 0, none⟩ = some (.int .i64 0) := (blk_cell bB 0).trans rfl
  have cB1 : w1.cell? ⟨w.heap.size + 1, 1, none⟩ = some (.int .i64 b1) := (blk_cell bB 1).trans rfl
  have cB2 : w1.cell? ⟨w.heap.size + 1, 2, none⟩ = some (.string b2) := (blk_cell bB 2).trans rfl
  have HB := Aside0.mk hB
  have BA := Aside0.mk bA
  have BB := Aside0.mk bB
  have BR := Aside0.mk bR
  clear bA bB bR hB hb1
  go_wp2_with fail
  refine (check_calls 0 b1 b2 _).mono ?_
  rintro e w2 ⟨rfl, hbw2⟩
  rw [HC.out]
  have bA := blk_below BA.out hbw2
  have bB := blk_below BB.out hbw2
  have bR := blk_below BR.out hbw2
  have hzw2 : w.heap.size + 1 + 1 < w2.heap.size := by have := hbw2.size; omega
  have hyw2 : w.heap.size + 1 < w2.heap.size := by omega
  have hxw2 : w.heap.size < w2.heap.size := by omega
  have hB := below_step (HB.out) hbw2
  clear HB BA BB BR hbw2 cB0 cB1 cB2
  have cR0 : w2.cell? ⟨w.heap.size + 1 + 1, 0, none⟩ = some (.int .i64 0) := (blk_cell bR 0).trans rfl
  have fR0 : w2.frozen? ⟨w.heap.size + 1 + 1, 0, none⟩ = false := blk_frozen bR 0
  have cR1 : w2.cell? ⟨w.heap.size + 1 + 1, 1, none⟩ = some (.int .i64 0) := (blk_cell bR 1).trans rfl
  have fR1 : w2.frozen? ⟨w.heap.size + 1 + 1, 1, none⟩ = false := blk_frozen bR 1
  have cR2 : w2.cell? ⟨w.heap.size + 1 + 1, 2, none⟩ = some (.int .u64 0) := (blk_cell bR 2).trans rfl
  have fR2 : w2.frozen? ⟨w.heap.size + 1 + 1, 2, none⟩ = false := blk_frozen bR 2
  have cR3 : w2.cell? ⟨w.heap.size + 1 + 1, 3, none⟩ = some (.int .i64 0) := (blk_cell bR 3).trans rfl
  have fR3 : w2.frozen? ⟨w.heap.size + 1 + 1, 3, none⟩ = false := blk_frozen bR 3
  have cR4 : w2.cell? ⟨w.heap.size + 1 + 1, 4, none⟩ = some (.int .i64 0) := (blk_cell bR 4).trans rfl
  have fR4 : w2.frozen? ⟨w.heap.size + 1 + 1, 4, none⟩ = false := blk_frozen bR 4
  have cR5 : w2.cell? ⟨w.heap.size + 1 + 1, 5, none⟩ = some (.string ⟨#[]⟩) := (blk_cell bR 5).trans rfl
  have fR5 : w2.frozen? ⟨w.heap.size + 1 + 1, 5, none⟩ = false := blk_frozen bR 5
  have cB0 : w2.cell? ⟨w.heap.size + 1, 0, none⟩ = some (.int .i64 0) := (blk_cell bB 0).trans rfl
  have cB1 : w2.cell? ⟨w.heap.size + 1, 1, none⟩ = some (.int .i64 b1) := (blk_cell bB 1).trans rfl
  have cB2 : w2.cell? ⟨w.heap.size + 1, 2, none⟩ = some (.string b2) := (blk_cell bB 2).trans rfl
  have cA0 : w2.cell? ⟨w.heap.size, 0, none⟩ = some (.int .i64 a0) := (blk_cell bA 0).trans rfl
  have cA1 : w2.cell? ⟨w.heap.size, 1, none⟩ = some (.int .i64 a1) := (blk_cell bA 1).trans rfl
  have cA2 : w2.cell? ⟨w.heap.size, 2, none⟩ = some (.int .u64 a2) := (blk_cell bA 2).trans rfl
  have cA3 : w2.cell? ⟨w.heap.size, 3, none⟩ = some (.int .i64 a3) := (blk_cell bA 3).trans rfl
  have cA4 : w2.cell? ⟨w.heap.size, 4, none⟩ = some (.int .i64 a4) := (blk_cell bA 4).trans rfl
  have cA5 : w2.cell? ⟨w.heap.size, 5, none⟩ = some (.string a5) := (blk_cell bA 5).trans rfl
  have HB := Aside0.mk hB
  have BA := Aside0.mk bA
  have BB := Aside0.mk bB
  have BR := Aside0.mk bR
  clear hB bA bB bR
  go_wp2
  have hR := blk_put6 BR.out (.int .i64 a0) (.int .i64 a1) (.int .u64 a2) (.int .i64 a3) (.int .i64 a4) (.string a5)
  refine bodyPost_ret (results_list rfl (by simp) (.cell _ _ _ _ _ rfl hR Try.underlying28 rfl (by kernel_rfl) (.tmp .nil))) rfl ⟨rfl, ?_⟩
  with_reducible repeat (first | exact HB.out | apply below_alloc | apply pw_below_drewN | refine below_set ?_ (by omega))

set_option maxHeartbeats 4000000 in
set_option maxRecDepth 100000 in
theorem add_nullo (kind : Int) (a0 a1 a2 a3 a4 : Int) (a5 : ByteArray) (b0 b1 : Int) (b2 : ByteArray) (hk : ¬ (kind < 1 ∨ kind > 5)) (hk3 : kind ≠ 3) (h1 : kind ≠ 1) (hc : checkV b0 b1 b2 = 0) (h0 : b0 = 0) (w : World) : Calls Try.prog 10 #[.int .i64 kind, .agg #[.int .i64 a0, .int .i64 a1, .int .u64 a2, .int .i64 a3, .int .i64 a4, .string a5], .agg #[.int .i64 b0, .int .i64 b1, .string b2]] w fun e w' => e = .returned (.tuple #[.agg #[.int .i64 a0, .int .i64 a1, .int .u64 a2, .int .i64 a3, .int .i64 a4, .string a5], .int .i64 0]) ∧ Below w.heap.size w w' := by
  have h3b : (kind == 3) = false := by simpa using hk3
  have h1b : (kind != 1) = true := by simpa using h1
  clear h1 hk3
  subst h0
  have HC := Aside0.mk hc
  clear hc
  have qf := fn_eq
  go_enter Try.func10, Try.ntmps10
  go_wp2_with fail
  refine (merges_calls kind _).mono ?_
  rintro e w1 ⟨⟨v, rfl, hm⟩, hb1⟩
  obtain ⟨bA, bB, bR, hB, hz⟩ := blk3 hb1
  obtain ⟨fn, fs, cs, rfl⟩ : ∃ fn fs cs, v = .func fn fs cs := by
    rcases hm with ⟨_, h⟩ | ⟨_, h⟩ | ⟨_, _, _, h, _⟩ | ⟨h, _⟩
    · exact ⟨_, _, _, h⟩
    · exact ⟨_, _, _, h⟩
    · exact ⟨_, _, _, h⟩
    · exfalso; omega
  clear hm
  have cB0 : w1.cell? ⟨w.heap.size + 1, 0, none⟩ = some (.int .i64 0) := (blk_cell bB 0).trans rfl
  have cB1 : w1.cell? ⟨w.heap.size + 1, 1, none⟩ = some (.int .i64 b1) := (blk_cell bB 1).trans rfl
  have cB2 : w1.cell? ⟨w.heap.size + 1, 2, none⟩ = some (.string b2) := (blk_cell bB 2).trans rfl
  have HB := Aside0.mk hB
  have BA := Aside0.mk bA
  have BB := Aside0.mk bB
  have BR := Aside0.mk bR
  clear bA bB bR hB hb1
  go_wp2_with fail
  refine (check_calls 0 b1 b2 _).mono ?_
  rintro e w2 ⟨rfl, hbw2⟩
  rw [HC.out]
  have bA := blk_below BA.out hbw2
  have bB := blk_below BB.out hbw2
  have bR := blk_below BR.out hbw2
  have hzw2 : w.heap.size + 1 + 1 < w2.heap.size := by have := hbw2.size; omega
  have hyw2 : w.heap.size + 1 < w2.heap.size := by omega
  have hxw2 : w.heap.size < w2.heap.size := by omega
  have hB := below_step (HB.out) hbw2
  clear HB BA BB BR hbw2 cB0 cB1 cB2
  have cR0 : w2.cell? ⟨w.heap.size + 1 + 1, 0, none⟩ = some (.int .i64 0) := (blk_cell bR 0).trans rfl
  have fR0 : w2.frozen? ⟨w.heap.size + 1 + 1, 0, none⟩ = false := blk_frozen bR 0
  have cR1 : w2.cell? ⟨w.heap.size + 1 + 1, 1, none⟩ = some (.int .i64 0) := (blk_cell bR 1).trans rfl
  have fR1 : w2.frozen? ⟨w.heap.size + 1 + 1, 1, none⟩ = false := blk_frozen bR 1
  have cR2 : w2.cell? ⟨w.heap.size + 1 + 1, 2, none⟩ = some (.int .u64 0) := (blk_cell bR 2).trans rfl
  have fR2 : w2.frozen? ⟨w.heap.size + 1 + 1, 2, none⟩ = false := blk_frozen bR 2
  have cR3 : w2.cell? ⟨w.heap.size + 1 + 1, 3, none⟩ = some (.int .i64 0) := (blk_cell bR 3).trans rfl
  have fR3 : w2.frozen? ⟨w.heap.size + 1 + 1, 3, none⟩ = false := blk_frozen bR 3
  have cR4 : w2.cell? ⟨w.heap.size + 1 + 1, 4, none⟩ = some (.int .i64 0) := (blk_cell bR 4).trans rfl
  have fR4 : w2.frozen? ⟨w.heap.size + 1 + 1, 4, none⟩ = false := blk_frozen bR 4
  have cR5 : w2.cell? ⟨w.heap.size + 1 + 1, 5, none⟩ = some (.string ⟨#[]⟩) := (blk_cell bR 5).trans rfl
  have fR5 : w2.frozen? ⟨w.heap.size + 1 + 1, 5, none⟩ = false := blk_frozen bR 5
  have cB0 : w2.cell? ⟨w.heap.size + 1, 0, none⟩ = some (.int .i64 0) := (blk_cell bB 0).trans rfl
  have cB1 : w2.cell? ⟨w.heap.size + 1, 1, none⟩ = some (.int .i64 b1) := (blk_cell bB 1).trans rfl
  have cB2 : w2.cell? ⟨w.heap.size + 1, 2, none⟩ = some (.string b2) := (blk_cell bB 2).trans rfl
  have cA0 : w2.cell? ⟨w.heap.size, 0, none⟩ = some (.int .i64 a0) := (blk_cell bA 0).trans rfl
  have cA1 : w2.cell? ⟨w.heap.size, 1, none⟩ = some (.int .i64 a1) := (blk_cell bA 1).trans rfl
  have cA2 : w2.cell? ⟨w.heap.size, 2, none⟩ = some (.int .u64 a2) := (blk_cell bA 2).trans rfl
  have cA3 : w2.cell? ⟨w.heap.size, 3, none⟩ = some (.int .i64 a3) := (blk_cell bA 3).trans rfl
  have cA4 : w2.cell? ⟨w.heap.size, 4, none⟩ = some (.int .i64 a4) := (blk_cell bA 4).trans rfl
  have cA5 : w2.cell? ⟨w.heap.size, 5, none⟩ = some (.string a5) := (blk_cell bA 5).trans rfl
  have HB := Aside0.mk hB
  have BA := Aside0.mk bA
  have BB := Aside0.mk bB
  have BR := Aside0.mk bR
  clear hB bA bB bR
  go_wp2
  have hR := blk_put6 BR.out (.int .i64 a0) (.int .i64 a1) (.int .u64 a2) (.int .i64 a3) (.int .i64 a4) (.string a5)
  refine bodyPost_ret (results_list rfl (by simp) (.cell _ _ _ _ _ rfl hR Try.underlying28 rfl (by kernel_rfl) (.tmp .nil))) rfl ⟨rfl, ?_⟩
  with_reducible repeat (first | exact HB.out | apply below_alloc | apply pw_below_drewN | refine below_set ?_ (by omega))

set_option maxHeartbeats 4000000 in
set_option maxRecDepth 100000 in
theorem add_o1z (kind : Int) (a0 a1 a2 a3 a4 : Int) (a5 : ByteArray) (b0 b1 : Int) (b2 : ByteArray) (hk : kind = 1) (h0 : b0 = 0) (hc : checkV b0 b1 b2 = 0) (r1 r2 r3 r4 r5 : Int) (r6 : ByteArray) (r7 : Int) (hr : agg_Both.f kind a0 a1 a2 a3 a4 a5 1 0 0 b0 b1 b2 = some (r1, r2, r3, r4, r5, r6, r7)) (w : World) : Calls Try.prog 10 #[.int .i64 kind, .agg #[.int .i64 a0, .int .i64 a1, .int .u64 a2, .int .i64 a3, .int .i64 a4, .string a5], .agg #[.int .i64 b0, .int .i64 b1, .string b2]] w fun e w' => e = .returned (.tuple #[.agg #[.int .i64 r1, .int .i64 r2, .int .u64 r3, .int .i64 r4, .int .i64 r5, .string r6], .int .i64 r7]) ∧ Below w.heap.size w w' := by
  subst hk
  subst h0
  have HC := Aside0.mk hc
  clear hc
  have HR := Aside0.mk hr
  clear hr
  have qf := fn_eq
  go_enter Try.func10, Try.ntmps10
  go_wp2_with fail
  refine (merges_calls 1 _).mono ?_
  rintro e w1 ⟨⟨v, rfl, hm⟩, hb1⟩
  obtain ⟨bA, bB, bR, hB, hz⟩ := blk3 hb1
  obtain ⟨fn, fs, cs, rfl⟩ : ∃ fn fs cs, v = .func fn fs cs := by
    rcases hm with ⟨_, h⟩ | ⟨_, h⟩ | ⟨_, _, _, h, _⟩ | ⟨h, _⟩
    · exact ⟨_, _, _, h⟩
    · exact ⟨_, _, _, h⟩
    · exact ⟨_, _, _, h⟩
    · exfalso; omega
  clear hm
  have cB0 : w1.cell? ⟨w.heap.size + 1, 0, none⟩ = some (.int .i64 0) := (blk_cell bB 0).trans rfl
  have cB1 : w1.cell? ⟨w.heap.size + 1, 1, none⟩ = some (.int .i64 b1) := (blk_cell bB 1).trans rfl
  have cB2 : w1.cell? ⟨w.heap.size + 1, 2, none⟩ = some (.string b2) := (blk_cell bB 2).trans rfl
  have HB := Aside0.mk hB
  have BA := Aside0.mk bA
  have BB := Aside0.mk bB
  have BR := Aside0.mk bR
  clear bA bB bR hB hb1
  go_wp2_with fail
  refine (check_calls 0 b1 b2 _).mono ?_
  rintro e w2 ⟨rfl, hbw2⟩
  rw [HC.out]
  have bA := blk_below BA.out hbw2
  have bB := blk_below BB.out hbw2
  have bR := blk_below BR.out hbw2
  have hzw2 : w.heap.size + 1 + 1 < w2.heap.size := by have := hbw2.size; omega
  have hyw2 : w.heap.size + 1 < w2.heap.size := by omega
  have hxw2 : w.heap.size < w2.heap.size := by omega
  have hB := below_step (HB.out) hbw2
  clear HB BA BB BR hbw2 cB0 cB1 cB2
  have cB0 : w2.cell? ⟨w.heap.size + 1, 0, none⟩ = some (.int .i64 0) := (blk_cell bB 0).trans rfl
  have cB1 : w2.cell? ⟨w.heap.size + 1, 1, none⟩ = some (.int .i64 b1) := (blk_cell bB 1).trans rfl
  have cB2 : w2.cell? ⟨w.heap.size + 1, 2, none⟩ = some (.string b2) := (blk_cell bB 2).trans rfl
  have cA0 : w2.cell? ⟨w.heap.size, 0, none⟩ = some (.int .i64 a0) := (blk_cell bA 0).trans rfl
  have cA1 : w2.cell? ⟨w.heap.size, 1, none⟩ = some (.int .i64 a1) := (blk_cell bA 1).trans rfl
  have cA2 : w2.cell? ⟨w.heap.size, 2, none⟩ = some (.int .u64 a2) := (blk_cell bA 2).trans rfl
  have cA3 : w2.cell? ⟨w.heap.size, 3, none⟩ = some (.int .i64 a3) := (blk_cell bA 3).trans rfl
  have cA4 : w2.cell? ⟨w.heap.size, 4, none⟩ = some (.int .i64 a4) := (blk_cell bA 4).trans rfl
  have cA5 : w2.cell? ⟨w.heap.size, 5, none⟩ = some (.string a5) := (blk_cell bA 5).trans rfl
  have HB := Aside0.mk hB
  have BA := Aside0.mk bA
  have BB := Aside0.mk bB
  have BR := Aside0.mk bR
  clear hB bA bB bR
  go_wp2_with fail
  refine (agg_Both.calls 1 a0 a1 a2 a3 a4 a5 1 0 0 0 b1 b2 _ _ _ _ _ _ _ _ HR.out).mono ?_
  rintro e w9 ⟨rfl, hbw9⟩
  have bR := blk_below (blk_alloc BR.out _) hbw9
  have hzw9 : w.heap.size + 1 + 1 < w9.heap.size := by have := hbw9.size; simp at this; omega
  have hyw9 : w.heap.size + 1 < w9.heap.size := by omega
  have hxw9 : w.heap.size < w9.heap.size := by omega
  have hB := below_step (below_alloc HB.out _) hbw9
  clear HB BR hbw9 cA0 cA1 cA2 cA3 cA4 cA5 cB0 cB1 cB2
  have cR0 : w9.cell? ⟨w.heap.size + 1 + 1, 0, none⟩ = some (.int .i64 0) := (blk_cell bR 0).trans rfl
  have fR0 : w9.frozen? ⟨w.heap.size + 1 + 1, 0, none⟩ = false := blk_frozen bR 0
  have cR1 : w9.cell? ⟨w.heap.size + 1 + 1, 1, none⟩ = some (.int .i64 0) := (blk_cell bR 1).trans rfl
  have fR1 : w9.frozen? ⟨w.heap.size + 1 + 1, 1, none⟩ = false := blk_frozen bR 1
  have cR2 : w9.cell? ⟨w.heap.size + 1 + 1, 2, none⟩ = some (.int .u64 0) := (blk_cell bR 2).trans rfl
  have fR2 : w9.frozen? ⟨w.heap.size + 1 + 1, 2, none⟩ = false := blk_frozen bR 2
  have cR3 : w9.cell? ⟨w.heap.size + 1 + 1, 3, none⟩ = some (.int .i64 0) := (blk_cell bR 3).trans rfl
  have fR3 : w9.frozen? ⟨w.heap.size + 1 + 1, 3, none⟩ = false := blk_frozen bR 3
  have cR4 : w9.cell? ⟨w.heap.size + 1 + 1, 4, none⟩ = some (.int .i64 0) := (blk_cell bR 4).trans rfl
  have fR4 : w9.frozen? ⟨w.heap.size + 1 + 1, 4, none⟩ = false := blk_frozen bR 4
  have cR5 : w9.cell? ⟨w.heap.size + 1 + 1, 5, none⟩ = some (.string ⟨#[]⟩) := (blk_cell bR 5).trans rfl
  have fR5 : w9.frozen? ⟨w.heap.size + 1 + 1, 5, none⟩ = false := blk_frozen bR 5
  have HB := Aside0.mk hB
  have BR := Aside0.mk bR
  clear hB bR
  go_wp2
  have hR := blk_put6 BR.out (.int .i64 r1) (.int .i64 r2) (.int .u64 r3) (.int .i64 r4) (.int .i64 r5) (.string r6)
  refine bodyPost_ret (results_list rfl (by simp) (.cell _ _ _ _ _ rfl hR Try.underlying28 rfl (by kernel_rfl) (.tmp .nil))) rfl ⟨rfl, ?_⟩
  with_reducible repeat (first | exact HB.out | apply below_alloc | apply pw_below_drewN | refine below_set ?_ (by omega))

set_option maxHeartbeats 4000000 in
set_option maxRecDepth 100000 in
theorem add_o1n (kind : Int) (a0 a1 a2 a3 a4 : Int) (a5 : ByteArray) (b0 b1 : Int) (b2 : ByteArray) (hk : kind = 1) (h0 : b0 ≠ 0) (hc : checkV b0 b1 b2 = 0) (r1 r2 r3 r4 r5 : Int) (r6 : ByteArray) (r7 : Int) (hr : agg_Both.f kind a0 a1 a2 a3 a4 a5 1 0 0 b0 b1 b2 = some (r1, r2, r3, r4, r5, r6, r7)) (w : World) : Calls Try.prog 10 #[.int .i64 kind, .agg #[.int .i64 a0, .int .i64 a1, .int .u64 a2, .int .i64 a3, .int .i64 a4, .string a5], .agg #[.int .i64 b0, .int .i64 b1, .string b2]] w fun e w' => e = .returned (.tuple #[.agg #[.int .i64 r1, .int .i64 r2, .int .u64 r3, .int .i64 r4, .int .i64 r5, .string r6], .int .i64 r7]) ∧ Below w.heap.size w w' := by
  have h0b : (b0 == 0) = false := by simpa using h0
  clear h0
  subst hk
  have HC := Aside0.mk hc
  clear hc
  have HR := Aside0.mk hr
  clear hr
  have qf := fn_eq
  go_enter Try.func10, Try.ntmps10
  go_wp2_with fail
  refine (merges_calls 1 _).mono ?_
  rintro e w1 ⟨⟨v, rfl, hm⟩, hb1⟩
  obtain ⟨bA, bB, bR, hB, hz⟩ := blk3 hb1
  obtain ⟨fn, fs, cs, rfl⟩ : ∃ fn fs cs, v = .func fn fs cs := by
    rcases hm with ⟨_, h⟩ | ⟨_, h⟩ | ⟨_, _, _, h, _⟩ | ⟨h, _⟩
    · exact ⟨_, _, _, h⟩
    · exact ⟨_, _, _, h⟩
    · exact ⟨_, _, _, h⟩
    · exfalso; omega
  clear hm
  have cB0 : w1.cell? ⟨w.heap.size + 1, 0, none⟩ = some (.int .i64 b0) := (blk_cell bB 0).trans rfl
  have cB1 : w1.cell? ⟨w.heap.size + 1, 1, none⟩ = some (.int .i64 b1) := (blk_cell bB 1).trans rfl
  have cB2 : w1.cell? ⟨w.heap.size + 1, 2, none⟩ = some (.string b2) := (blk_cell bB 2).trans rfl
  have HB := Aside0.mk hB
  have BA := Aside0.mk bA
  have BB := Aside0.mk bB
  have BR := Aside0.mk bR
  clear bA bB bR hB hb1
  go_wp2_with fail
  refine (check_calls b0 b1 b2 _).mono ?_
  rintro e w2 ⟨rfl, hbw2⟩
  rw [HC.out]
  have bA := blk_below BA.out hbw2
  have bB := blk_below BB.out hbw2
  have bR := blk_below BR.out hbw2
  have hzw2 : w.heap.size + 1 + 1 < w2.heap.size := by have := hbw2.size; omega
  have hyw2 : w.heap.size + 1 < w2.heap.size := by omega
  have hxw2 : w.heap.size < w2.heap.size := by omega
  have hB := below_step (HB.out) hbw2
  clear HB BA BB BR hbw2 cB0 cB1 cB2
  have cB0 : w2.cell? ⟨w.heap.size + 1, 0, none⟩ = some (.int .i64 b0) := (blk_cell bB 0).trans rfl
  have cB1 : w2.cell? ⟨w.heap.size + 1, 1, none⟩ = some (.int .i64 b1) := (blk_cell bB 1).trans rfl
  have cB2 : w2.cell? ⟨w.heap.size + 1, 2, none⟩ = some (.string b2) := (blk_cell bB 2).trans rfl
  have cA0 : w2.cell? ⟨w.heap.size, 0, none⟩ = some (.int .i64 a0) := (blk_cell bA 0).trans rfl
  have cA1 : w2.cell? ⟨w.heap.size, 1, none⟩ = some (.int .i64 a1) := (blk_cell bA 1).trans rfl
  have cA2 : w2.cell? ⟨w.heap.size, 2, none⟩ = some (.int .u64 a2) := (blk_cell bA 2).trans rfl
  have cA3 : w2.cell? ⟨w.heap.size, 3, none⟩ = some (.int .i64 a3) := (blk_cell bA 3).trans rfl
  have cA4 : w2.cell? ⟨w.heap.size, 4, none⟩ = some (.int .i64 a4) := (blk_cell bA 4).trans rfl
  have cA5 : w2.cell? ⟨w.heap.size, 5, none⟩ = some (.string a5) := (blk_cell bA 5).trans rfl
  have HB := Aside0.mk hB
  have BA := Aside0.mk bA
  have BB := Aside0.mk bB
  have BR := Aside0.mk bR
  clear hB bA bB bR
  go_wp2_with fail
  refine (agg_Both.calls 1 a0 a1 a2 a3 a4 a5 1 0 0 b0 b1 b2 _ _ _ _ _ _ _ _ HR.out).mono ?_
  rintro e w9 ⟨rfl, hbw9⟩
  have bR := blk_below (blk_alloc BR.out _) hbw9
  have hzw9 : w.heap.size + 1 + 1 < w9.heap.size := by have := hbw9.size; simp at this; omega
  have hyw9 : w.heap.size + 1 < w9.heap.size := by omega
  have hxw9 : w.heap.size < w9.heap.size := by omega
  have hB := below_step (below_alloc HB.out _) hbw9
  clear HB BR hbw9 cA0 cA1 cA2 cA3 cA4 cA5 cB0 cB1 cB2
  have cR0 : w9.cell? ⟨w.heap.size + 1 + 1, 0, none⟩ = some (.int .i64 0) := (blk_cell bR 0).trans rfl
  have fR0 : w9.frozen? ⟨w.heap.size + 1 + 1, 0, none⟩ = false := blk_frozen bR 0
  have cR1 : w9.cell? ⟨w.heap.size + 1 + 1, 1, none⟩ = some (.int .i64 0) := (blk_cell bR 1).trans rfl
  have fR1 : w9.frozen? ⟨w.heap.size + 1 + 1, 1, none⟩ = false := blk_frozen bR 1
  have cR2 : w9.cell? ⟨w.heap.size + 1 + 1, 2, none⟩ = some (.int .u64 0) := (blk_cell bR 2).trans rfl
  have fR2 : w9.frozen? ⟨w.heap.size + 1 + 1, 2, none⟩ = false := blk_frozen bR 2
  have cR3 : w9.cell? ⟨w.heap.size + 1 + 1, 3, none⟩ = some (.int .i64 0) := (blk_cell bR 3).trans rfl
  have fR3 : w9.frozen? ⟨w.heap.size + 1 + 1, 3, none⟩ = false := blk_frozen bR 3
  have cR4 : w9.cell? ⟨w.heap.size + 1 + 1, 4, none⟩ = some (.int .i64 0) := (blk_cell bR 4).trans rfl
  have fR4 : w9.frozen? ⟨w.heap.size + 1 + 1, 4, none⟩ = false := blk_frozen bR 4
  have cR5 : w9.cell? ⟨w.heap.size + 1 + 1, 5, none⟩ = some (.string ⟨#[]⟩) := (blk_cell bR 5).trans rfl
  have fR5 : w9.frozen? ⟨w.heap.size + 1 + 1, 5, none⟩ = false := blk_frozen bR 5
  have HB := Aside0.mk hB
  have BR := Aside0.mk bR
  clear hB bR
  go_wp2
  have hR := blk_put6 BR.out (.int .i64 r1) (.int .i64 r2) (.int .u64 r3) (.int .i64 r4) (.int .i64 r5) (.string r6)
  refine bodyPost_ret (results_list rfl (by simp) (.cell _ _ _ _ _ rfl hR Try.underlying28 rfl (by kernel_rfl) (.tmp .nil))) rfl ⟨rfl, ?_⟩
  with_reducible repeat (first | exact HB.out | apply below_alloc | apply pw_below_drewN | refine below_set ?_ (by omega))

set_option maxHeartbeats 4000000 in
set_option maxRecDepth 100000 in
theorem add_o2 (kind : Int) (a0 a1 a2 a3 a4 : Int) (a5 : ByteArray) (b0 b1 : Int) (b2 : ByteArray) (hk : kind = 2 ∨ kind = 4 ∨ kind = 5) (h0 : b0 ≠ 0) (hc : checkV b0 b1 b2 = 0) (r1 r2 r3 r4 r5 : Int) (r6 : ByteArray) (r7 : Int) (hr : agg_Both.f kind a0 a1 a2 a3 a4 a5 1 0 0 b0 b1 b2 = some (r1, r2, r3, r4, r5, r6, r7)) (w : World) : Calls Try.prog 10 #[.int .i64 kind, .agg #[.int .i64 a0, .int .i64 a1, .int .u64 a2, .int .i64 a3, .int .i64 a4, .string a5], .agg #[.int .i64 b0, .int .i64 b1, .string b2]] w fun e w' => e = .returned (.tuple #[.agg #[.int .i64 r1, .int .i64 r2, .int .u64 r3, .int .i64 r4, .int .i64 r5, .string r6], .int .i64 r7]) ∧ Below w.heap.size w w' := by
  have h3b : (kind == 3) = false := by simp; omega
  have h0b : (b0 == 0) = false := by simpa using h0
  clear h0
  have HC := Aside0.mk hc
  clear hc
  have HR := Aside0.mk hr
  clear hr
  have qf := fn_eq
  go_enter Try.func10, Try.ntmps10
  go_wp2_with fail
  refine (merges_calls kind _).mono ?_
  rintro e w1 ⟨⟨v, rfl, hm⟩, hb1⟩
  obtain ⟨bA, bB, bR, hB, hz⟩ := blk3 hb1
  obtain ⟨fn, fs, cs, rfl⟩ : ∃ fn fs cs, v = .func fn fs cs := by
    rcases hm with ⟨_, h⟩ | ⟨_, h⟩ | ⟨_, _, _, h, _⟩ | ⟨h, _⟩
    · exact ⟨_, _, _, h⟩
    · exact ⟨_, _, _, h⟩
    · exact ⟨_, _, _, h⟩
    · exfalso; omega
  clear hm
  have cB0 : w1.cell? ⟨w.heap.size + 1, 0, none⟩ = some (.int .i64 b0) := (blk_cell bB 0).trans rfl
  have cB1 : w1.cell? ⟨w.heap.size + 1, 1, none⟩ = some (.int .i64 b1) := (blk_cell bB 1).trans rfl
  have cB2 : w1.cell? ⟨w.heap.size + 1, 2, none⟩ = some (.string b2) := (blk_cell bB 2).trans rfl
  have HB := Aside0.mk hB
  have BA := Aside0.mk bA
  have BB := Aside0.mk bB
  have BR := Aside0.mk bR
  clear bA bB bR hB hb1
  clear hk
  go_wp2_with fail
  refine (check_calls b0 b1 b2 _).mono ?_
  rintro e w2 ⟨rfl, hbw2⟩
  rw [HC.out]
  have bA := blk_below BA.out hbw2
  have bB := blk_below BB.out hbw2
  have bR := blk_below BR.out hbw2
  have hzw2 : w.heap.size + 1 + 1 < w2.heap.size := by have := hbw2.size; omega
  have hyw2 : w.heap.size + 1 < w2.heap.size := by omega
  have hxw2 : w.heap.size < w2.heap.size := by omega
  have hB := below_step (HB.out) hbw2
  clear HB BA BB BR hbw2 cB0 cB1 cB2
  have cB0 : w2.cell? ⟨w.heap.size + 1, 0, none⟩ = some (.int .i64 b0) := (blk_cell bB 0).trans rfl
  have cB1 : w2.cell? ⟨w.heap.size + 1, 1, none⟩ = some (.int .i64 b1) := (blk_cell bB 1).trans rfl
  have cB2 : w2.cell? ⟨w.heap.size + 1, 2, none⟩ = some (.string b2) := (blk_cell bB 2).trans rfl
  have cA0 : w2.cell? ⟨w.heap.size, 0, none⟩ = some (.int .i64 a0) := (blk_cell bA 0).trans rfl
  have cA1 : w2.cell? ⟨w.heap.size, 1, none⟩ = some (.int .i64 a1) := (blk_cell bA 1).trans rfl
  have cA2 : w2.cell? ⟨w.heap.size, 2, none⟩ = some (.int .u64 a2) := (blk_cell bA 2).trans rfl
  have cA3 : w2.cell? ⟨w.heap.size, 3, none⟩ = some (.int .i64 a3) := (blk_cell bA 3).trans rfl
  have cA4 : w2.cell? ⟨w.heap.size, 4, none⟩ = some (.int .i64 a4) := (blk_cell bA 4).trans rfl
  have cA5 : w2.cell? ⟨w.heap.size, 5, none⟩ = some (.string a5) := (blk_cell bA 5).trans rfl
  have HB := Aside0.mk hB
  have BA := Aside0.mk bA
  have BB := Aside0.mk bB
  have BR := Aside0.mk bR
  clear hB bA bB bR
  go_wp2_with fail
  refine (agg_Both.calls kind a0 a1 a2 a3 a4 a5 1 0 0 b0 b1 b2 _ _ _ _ _ _ _ _ HR.out).mono ?_
  rintro e w9 ⟨rfl, hbw9⟩
  have bR := blk_below (blk_alloc BR.out _) hbw9
  have hzw9 : w.heap.size + 1 + 1 < w9.heap.size := by have := hbw9.size; simp at this; omega
  have hyw9 : w.heap.size + 1 < w9.heap.size := by omega
  have hxw9 : w.heap.size < w9.heap.size := by omega
  have hB := below_step (below_alloc HB.out _) hbw9
  clear HB BR hbw9 cA0 cA1 cA2 cA3 cA4 cA5 cB0 cB1 cB2
  have cR0 : w9.cell? ⟨w.heap.size + 1 + 1, 0, none⟩ = some (.int .i64 0) := (blk_cell bR 0).trans rfl
  have fR0 : w9.frozen? ⟨w.heap.size + 1 + 1, 0, none⟩ = false := blk_frozen bR 0
  have cR1 : w9.cell? ⟨w.heap.size + 1 + 1, 1, none⟩ = some (.int .i64 0) := (blk_cell bR 1).trans rfl
  have fR1 : w9.frozen? ⟨w.heap.size + 1 + 1, 1, none⟩ = false := blk_frozen bR 1
  have cR2 : w9.cell? ⟨w.heap.size + 1 + 1, 2, none⟩ = some (.int .u64 0) := (blk_cell bR 2).trans rfl
  have fR2 : w9.frozen? ⟨w.heap.size + 1 + 1, 2, none⟩ = false := blk_frozen bR 2
  have cR3 : w9.cell? ⟨w.heap.size + 1 + 1, 3, none⟩ = some (.int .i64 0) := (blk_cell bR 3).trans rfl
  have fR3 : w9.frozen? ⟨w.heap.size + 1 + 1, 3, none⟩ = false := blk_frozen bR 3
  have cR4 : w9.cell? ⟨w.heap.size + 1 + 1, 4, none⟩ = some (.int .i64 0) := (blk_cell bR 4).trans rfl
  have fR4 : w9.frozen? ⟨w.heap.size + 1 + 1, 4, none⟩ = false := blk_frozen bR 4
  have cR5 : w9.cell? ⟨w.heap.size + 1 + 1, 5, none⟩ = some (.string ⟨#[]⟩) := (blk_cell bR 5).trans rfl
  have fR5 : w9.frozen? ⟨w.heap.size + 1 + 1, 5, none⟩ = false := blk_frozen bR 5
  have HB := Aside0.mk hB
  have BR := Aside0.mk bR
  clear hB bR
  go_wp2
  have hR := blk_put6 BR.out (.int .i64 r1) (.int .i64 r2) (.int .u64 r3) (.int .i64 r4) (.int .i64 r5) (.string r6)
  refine bodyPost_ret (results_list rfl (by simp) (.cell _ _ _ _ _ rfl hR Try.underlying28 rfl (by kernel_rfl) (.tmp .nil))) rfl ⟨rfl, ?_⟩
  with_reducible repeat (first | exact HB.out | apply below_alloc | apply pw_below_drewN | refine below_set ?_ (by omega))

set_option maxHeartbeats 4000000 in
set_option maxRecDepth 100000 in
theorem add_sum (kind : Int) (a0 a1 a2 a3 a4 : Int) (a5 : ByteArray) (b0 b1 : Int) (b2 : ByteArray) (s1 s2 : Int) (hk : kind = 3) (h0 : b0 = 1) (hc : checkV b0 b1 b2 = 0) (hs : num_Add.f 0 0 b1 = some (s1, s2)) (r1 r2 r3 r4 r5 : Int) (r6 : ByteArray) (r7 : Int) (hr : agg_Both.f kind a0 a1 a2 a3 a4 a5 1 s1 s2 b0 b1 b2 = some (r1, r2, r3, r4, r5, r6, r7)) (w : World) : Calls Try.prog 10 #[.int .i64 kind, .agg #[.int .i64 a0, .int .i64 a1, .int .u64 a2, .int .i64 a3, .int .i64 a4, .string a5], .agg #[.int .i64 b0, .int .i64 b1, .string b2]] w fun e w' => e = .returned (.tuple #[.agg #[.int .i64 r1, .int .i64 r2, .int .u64 r3, .int .i64 r4, .int .i64 r5, .string r6], .int .i64 r7]) ∧ Below w.heap.size w w' := by
  subst hk
  subst h0
  have HC := Aside0.mk hc
  clear hc
  have HR := Aside0.mk hr
  clear hr
  have HS := Aside0.mk hs
  clear hs
  have qf := fn_eq
  go_enter Try.func10, Try.ntmps10
  go_wp2_with fail
  refine (merges_calls 3 _).mono ?_
  rintro e w1 ⟨⟨v, rfl, hm⟩, hb1⟩
  obtain ⟨bA, bB, bR, hB, hz⟩ := blk3 hb1
  obtain ⟨fn, fs, cs, rfl⟩ : ∃ fn fs cs, v = .func fn fs cs := by
    rcases hm with ⟨_, h⟩ | ⟨_, h⟩ | ⟨_, _, _, h, _⟩ | ⟨h, _⟩
    · exact ⟨_, _, _, h⟩
    · exact ⟨_, _, _, h⟩
    · exact ⟨_, _, _, h⟩
    · exfalso; omega
  clear hm
  have cB0 : w1.cell? ⟨w.heap.size + 1, 0, none⟩ = some (.int .i64 1) := (blk_cell bB 0).trans rfl
  have cB1 : w1.cell? ⟨w.heap.size + 1, 1, none⟩ = some (.int .i64 b1) := (blk_cell bB 1).trans rfl
  have cB2 : w1.cell? ⟨w.heap.size + 1, 2, none⟩ = some (.string b2) := (blk_cell bB 2).trans rfl
  have HB := Aside0.mk hB
  have BA := Aside0.mk bA
  have BB := Aside0.mk bB
  have BR := Aside0.mk bR
  clear bA bB bR hB hb1
  go_wp2_with fail
  refine (check_calls 1 b1 b2 _).mono ?_
  rintro e w2 ⟨rfl, hbw2⟩
  rw [HC.out]
  have bA := blk_below BA.out hbw2
  have bB := blk_below BB.out hbw2
  have bR := blk_below BR.out hbw2
  have hzw2 : w.heap.size + 1 + 1 < w2.heap.size := by have := hbw2.size; omega
  have hyw2 : w.heap.size + 1 < w2.heap.size := by omega
  have hxw2 : w.heap.size < w2.heap.size := by omega
  have hB := below_step (HB.out) hbw2
  clear HB BA BB BR hbw2 cB0 cB1 cB2
  have cB0 : w2.cell? ⟨w.heap.size + 1, 0, none⟩ = some (.int .i64 1) := (blk_cell bB 0).trans rfl
  have cB1 : w2.cell? ⟨w.heap.size + 1, 1, none⟩ = some (.int .i64 b1) := (blk_cell bB 1).trans rfl
  have cB2 : w2.cell? ⟨w.heap.size + 1, 2, none⟩ = some (.string b2) := (blk_cell bB 2).trans rfl
  have cA0 : w2.cell? ⟨w.heap.size, 0, none⟩ = some (.int .i64 a0) := (blk_cell bA 0).trans rfl
  have cA1 : w2.cell? ⟨w.heap.size, 1, none⟩ = some (.int .i64 a1) := (blk_cell bA 1).trans rfl
  have cA2 : w2.cell? ⟨w.heap.size, 2, none⟩ = some (.int .u64 a2) := (blk_cell bA 2).trans rfl
  have cA3 : w2.cell? ⟨w.heap.size, 3, none⟩ = some (.int .i64 a3) := (blk_cell bA 3).trans rfl
  have cA4 : w2.cell? ⟨w.heap.size, 4, none⟩ = some (.int .i64 a4) := (blk_cell bA 4).trans rfl
  have cA5 : w2.cell? ⟨w.heap.size, 5, none⟩ = some (.string a5) := (blk_cell bA 5).trans rfl
  have HB := Aside0.mk hB
  have BA := Aside0.mk bA
  have BB := Aside0.mk bB
  have BR := Aside0.mk bR
  clear hB bA bB bR
  go_wp2_with fail
  refine (num_Add.calls 0 0 b1 s1 s2 _ HS.out).mono ?_
  rintro e w3 ⟨rfl, hb3⟩
  have bA := blk_below (blk_alloc BA.out _) hb3
  have bR := blk_below (blk_alloc BR.out _) hb3
  have bT := blk_below (blk_new w2 _) hb3
  have hz3 : w2.heap.size < w3.heap.size := by have := hb3.size; simp at this; omega
  have hy3 : w.heap.size + 1 + 1 < w3.heap.size := by omega
  have hx3 : w.heap.size < w3.heap.size := by omega
  have hn1 : w.heap.size ≠ w2.heap.size := by omega
  have hn2 : w.heap.size + 1 + 1 ≠ w2.heap.size := by omega
  have hB := below_step (below_alloc HB.out _) hb3
  clear HB BA BB BR hb3 HS cA0 cA1 cA2 cA3 cA4 cA5 cB0 cB1 cB2
  have cA0 : w3.cell? ⟨w.heap.size, 0, none⟩ = some (.int .i64 a0) := (blk_cell bA 0).trans rfl
  have cA1 : w3.cell? ⟨w.heap.size, 1, none⟩ = some (.int .i64 a1) := (blk_cell bA 1).trans rfl
  have cA2 : w3.cell? ⟨w.heap.size, 2, none⟩ = some (.int .u64 a2) := (blk_cell bA 2).trans rfl
  have cA3 : w3.cell? ⟨w.heap.size, 3, none⟩ = some (.int .i64 a3) := (blk_cell bA 3).trans rfl
  have cA4 : w3.cell? ⟨w.heap.size, 4, none⟩ = some (.int .i64 a4) := (blk_cell bA 4).trans rfl
  have cA5 : w3.cell? ⟨w.heap.size, 5, none⟩ = some (.string a5) := (blk_cell bA 5).trans rfl
  have cT0 : w3.cell? ⟨w2.heap.size, 0, none⟩ = some (.int .i64 1) := (blk_cell bT 0).trans rfl
  have fT0 : w3.frozen? ⟨w2.heap.size, 0, none⟩ = false := blk_frozen bT 0
  have cT1 : w3.cell? ⟨w2.heap.size, 1, none⟩ = some (.int .i64 0) := (blk_cell bT 1).trans rfl
  have fT1 : w3.frozen? ⟨w2.heap.size, 1, none⟩ = false := blk_frozen bT 1
  have cT2 : w3.cell? ⟨w2.heap.size, 2, none⟩ = some (.int .u64 0) := (blk_cell bT 2).trans rfl
  have fT2 : w3.frozen? ⟨w2.heap.size, 2, none⟩ = false := blk_frozen bT 2
  have cT3 : w3.cell? ⟨w2.heap.size, 3, none⟩ = some (.int .i64 1) := (blk_cell bT 3).trans rfl
  have fT3 : w3.frozen? ⟨w2.heap.size, 3, none⟩ = false := blk_frozen bT 3
  have cT4 : w3.cell? ⟨w2.heap.size, 4, none⟩ = some (.int .i64 b1) := (blk_cell bT 4).trans rfl
  have fT4 : w3.frozen? ⟨w2.heap.size, 4, none⟩ = false := blk_frozen bT 4
  have cT5 : w3.cell? ⟨w2.heap.size, 5, none⟩ = some (.string b2) := (blk_cell bT 5).trans rfl
  have fT5 : w3.frozen? ⟨w2.heap.size, 5, none⟩ = false := blk_frozen bT 5
  have HB := Aside0.mk hB
  have BR := Aside0.mk bR
  clear hB bA bR bT
  go_wp2_with fail
  refine (agg_Both.calls 3 a0 a1 a2 a3 a4 a5 1 s1 s2 1 b1 b2 _ _ _ _ _ _ _ _ HR.out).mono ?_
  rintro e w9 ⟨rfl, hb9⟩
  have bR := blk_below (blk_far (blk_far BR.out (p := ⟨w2.heap.size, 1, none⟩) hn2 (.int .i64 s1)) (p := ⟨w2.heap.size, 2, none⟩) hn2 (.int .u64 s2)) hb9
  have hB := below_step (below_set (below_set HB.out (by omega)) (by omega)) hb9
  clear HB BR hb9 cA0 cA1 cA2 cA3 cA4 cA5 cT0 fT0 cT1 fT1 cT2 fT2 cT3 fT3 cT4 fT4 cT5 fT5
  have cR0 : w9.cell? ⟨w.heap.size + 1 + 1, 0, none⟩ = some (.int .i64 0) := (blk_cell bR 0).trans rfl
  have fR0 : w9.frozen? ⟨w.heap.size + 1 + 1, 0, none⟩ = false := blk_frozen bR 0
  have cR1 : w9.cell? ⟨w.heap.size + 1 + 1, 1, none⟩ = some (.int .i64 0) := (blk_cell bR 1).trans rfl
  have fR1 : w9.frozen? ⟨w.heap.size + 1 + 1, 1, none⟩ = false := blk_frozen bR 1
  have cR2 : w9.cell? ⟨w.heap.size + 1 + 1, 2, none⟩ = some (.int .u64 0) := (blk_cell bR 2).trans rfl
  have fR2 : w9.frozen? ⟨w.heap.size + 1 + 1, 2, none⟩ = false := blk_frozen bR 2
  have cR3 : w9.cell? ⟨w.heap.size + 1 + 1, 3, none⟩ = some (.int .i64 0) := (blk_cell bR 3).trans rfl
  have fR3 : w9.frozen? ⟨w.heap.size + 1 + 1, 3, none⟩ = false := blk_frozen bR 3
  have cR4 : w9.cell? ⟨w.heap.size + 1 + 1, 4, none⟩ = some (.int .i64 0) := (blk_cell bR 4).trans rfl
  have fR4 : w9.frozen? ⟨w.heap.size + 1 + 1, 4, none⟩ = false := blk_frozen bR 4
  have cR5 : w9.cell? ⟨w.heap.size + 1 + 1, 5, none⟩ = some (.string ⟨#[]⟩) := (blk_cell bR 5).trans rfl
  have fR5 : w9.frozen? ⟨w.heap.size + 1 + 1, 5, none⟩ = false := blk_frozen bR 5
  have HB := Aside0.mk hB
  have BR := Aside0.mk bR
  clear hB bR
  go_wp2
  have hR := blk_put6 BR.out (.int .i64 r1) (.int .i64 r2) (.int .u64 r3) (.int .i64 r4) (.int .i64 r5) (.string r6)
  refine bodyPost_ret (results_list rfl (by simp) (.cell _ _ _ _ _ rfl hR Try.underlying28 rfl (by kernel_rfl) (.tmp .nil))) rfl ⟨rfl, ?_⟩
  with_reducible repeat (first | exact HB.out | apply below_alloc | apply pw_below_drewN | refine below_set ?_ (by omega))

def agg_Add.f (a0 : Int) (a1_0 : Int) (a1_1 : Int) (a1_2 : Int) (a1_3 : Int) (a1_4 : Int) (a1_5 : ByteArray) (a2_0 : Int) (a2_1 : Int) (a2_2 : ByteArray) : Option (Int × Int × Int × Int × Int × ByteArray × Int) :=
  if a0 < 1 ∨ a0 > 5 then some (0, 0, 0, 0, 0, ⟨#[]⟩, 150) else if checkV a2_0 a2_1 a2_2 ≠ 0 ∨ (a0 = 3 ∧ a2_0 ≠ 0 ∧ a2_0 ≠ 1) then some (0, 0, 0, 0, 0, ⟨#[]⟩, 151)
  else if a2_0 = 0 ∧ a0 ≠ 1 then some (a1_0, a1_1, a1_2, a1_3, a1_4, a1_5, 0)
  else if a0 = 3 then (num_Add.f 0 0 a2_1).bind fun s => agg_Both.f a0 a1_0 a1_1 a1_2 a1_3 a1_4 a1_5 1 s.1 s.2 a2_0 a2_1 a2_2
  else agg_Both.f a0 a1_0 a1_1 a1_2 a1_3 a1_4 a1_5 1 0 0 a2_0 a2_1 a2_2
theorem agg_Add.calls (a0 : Int) (a1_0 : Int) (a1_1 : Int) (a1_2 : Int) (a1_3 : Int) (a1_4 : Int) (a1_5 : ByteArray) (a2_0 : Int) (a2_1 : Int) (a2_2 : ByteArray) (r1 : Int) (r2 : Int) (r3 : Int) (r4 : Int) (r5 : Int) (r6 : ByteArray) (r7 : Int) (w : World) (h : agg_Add.f a0 a1_0 a1_1 a1_2 a1_3 a1_4 a1_5 a2_0 a2_1 a2_2 = some (r1, r2, r3, r4, r5, r6, r7)) :
    Calls Try.prog 10 #[.int .i64 a0, .agg #[.int .i64 a1_0, .int .i64 a1_1, .int .u64 a1_2, .int .i64 a1_3, .int .i64 a1_4, .string a1_5], .agg #[.int .i64 a2_0, .int .i64 a2_1, .string a2_2]] w fun e w' => e = .returned (.tuple #[.agg #[.int .i64 r1, .int .i64 r2, .int .u64 r3, .int .i64 r4, .int .i64 r5, .string r6], .int .i64 r7]) ∧ Below w.heap.size w w' := by
  unfold agg_Add.f at h
  by_cases h0 : a0 < 1 ∨ a0 > 5
  · rw [if_pos h0] at h
    cases h
    exact add_none a0 _ _ _ _ _ _ _ _ _ h0 w
  rw [if_neg h0] at h
  by_cases hc : checkV a2_0 a2_1 a2_2 = 0
  · by_cases hf : a0 = 3 ∧ a2_0 ≠ 0 ∧ a2_0 ≠ 1
    · rw [if_pos (.inr hf)] at h
      cases h
      exact add_form2 a0 _ _ _ _ _ _ _ _ _ hf.1 hc hf.2.1 hf.2.2 w
    rw [if_neg (by simp only [hc, ne_eq, not_true_eq_false, false_or]; exact hf)] at h
    by_cases hn : a2_0 = 0 ∧ a0 ≠ 1
    · rw [if_pos hn] at h
      cases h
      by_cases h3 : a0 = 3
      · exact add_null3 a0 _ _ _ _ _ _ _ _ _ h3 hc hn.1 w
      · exact add_nullo a0 _ _ _ _ _ _ _ _ _ h0 h3 hn.2 hc hn.1 w
    rw [if_neg hn] at h
    by_cases h3 : a0 = 3
    · rw [if_pos h3] at h
      obtain ⟨⟨s1, s2⟩, hs, h⟩ := Option.bind_eq_some_iff.1 h
      exact add_sum a0 _ _ _ _ _ _ _ _ _ s1 s2 h3 (by omega) hc hs _ _ _ _ _ _ _ h w
    rw [if_neg h3] at h
    by_cases h1 : a0 = 1
    · by_cases hv : a2_0 = 0
      · exact add_o1z a0 _ _ _ _ _ _ _ _ _ h1 hv hc _ _ _ _ _ _ _ h w
      · exact add_o1n a0 _ _ _ _ _ _ _ _ _ h1 hv hc _ _ _ _ _ _ _ h w
    · exact add_o2 a0 _ _ _ _ _ _ _ _ _ (by omega) (by omega) hc _ _ _ _ _ _ _ h w
  · rw [if_pos (.inl hc)] at h
    cases h
    exact add_form1 a0 _ _ _ _ _ _ _ _ _ _ h0 rfl hc w
end Go.Proofs.Ytphdbhneefmkcaa.Q
