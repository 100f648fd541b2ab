/- agg.Kind, agg.Worth: walked. -/
import Derived.Test.YtphdbhneefmkcaaHAggA
import Derived.Test.YtphdbhneefmkcaaAx
namespace Go.Proofs.Ytphdbhneefmkcaa.Q
open Go.RowKit Go.Proofs.YtphdbhneefmkcaaW.PrintWords Go.Proofs.YtphdbhneefmkcaaW.PrintLast Go.Proofs.YtphdbhneefmkcaaW.PrintMore
set_option linter.unusedVariables false
set_option linter.unusedSimpArgs false

def kindS (kind col : Int) : Int × Int := if kind < 1 ∨ kind > 5 then (0, 150) else if col < 1 ∨ col > 3 ∨ kind = 3 ∧ col ≠ 1 then (0, 151) else if kind ≤ 3 then (1, 0) else (col, 0)
set_option maxHeartbeats 4000000 in
set_option maxRecDepth 100000 in
theorem kind_calls (kind col : Int) (w : World) : Calls Try.prog 19 #[.int .i64 kind, .int .i64 col] w fun e w' => e = .returned (.tuple #[.int .i64 (kindS kind col).1, .int .i64 (kindS kind col).2]) ∧ Below w.heap.size w w' := by
  have qf := fn_eq
  have qn := nil_eq
  obtain ⟨Q, hQ⟩ : ∃ Q : Ending → World → Prop, Q = fun e w' => e = .returned (.tuple #[.int .i64 (kindS kind col).1, .int .i64 (kindS kind col).2]) ∧ Below w.heap.size w w' := ⟨_, rfl⟩
  rw [← hQ]
  have hQ' : ∀ r1 r2 w', kindS kind col = (r1, r2) → Below w.heap.size w w' → Q (.returned (.tuple #[.int .i64 r1, .int .i64 r2])) w' := fun r1 r2 w' h1 h2 => by rw [hQ, h1]; exact ⟨rfl, h2⟩
  clear hQ
  unfold kindS at hQ'
  by_cases h0 : kind < 1 ∨ kind > 5
  · rw [if_pos h0] at hQ'
    go_enter Try.func19, Try.ntmps19
    go_wp2_with fail
    refine (merges_calls kind _).mono ?_
    rintro e w1 ⟨⟨v, rfl, hm⟩, hb1⟩
    obtain rfl : v = .nilFunc := by
      rcases hm with ⟨h, _⟩ | ⟨h, _⟩ | ⟨_, _, h, _⟩ | ⟨_, h⟩ <;> first | exact h | (exfalso; omega)
    clear hm
    go_wp2
    first | (go_ret2; exact hQ' _ _ _ rfl hb1) | exact hQ' _ _ _ rfl hb1
  rw [if_neg h0] at hQ'
  by_cases h1 : col < 1
  · rw [if_pos (by omega)] at hQ'
    go_enter Try.func19, Try.ntmps19
    go_wp2_with fail
    refine (merges_calls kind _).mono ?_
    rintro e w1 ⟨⟨v, rfl, hm⟩, hb1⟩
    obtain ⟨fn, fs, cs, rfl⟩ : ∃ fn fs cs, v = .func fn fs cs := by
      rcases hm with ⟨_, h⟩ | ⟨_, h⟩ | ⟨_, _, _, h, _⟩ | ⟨h, _⟩
      · exact ⟨_, _, _, h⟩
      · exact ⟨_, _, _, h⟩
      · exact ⟨_, _, _, h⟩
      · exfalso; omega
    clear hm
    clear h0
    go_wp2
    first | (go_ret2; exact hQ' _ _ _ rfl hb1) | exact hQ' _ _ _ rfl hb1
  by_cases h3 : col > 3
  · rw [if_pos (by omega)] at hQ'
    go_enter Try.func19, Try.ntmps19
    go_wp2_with fail
    refine (merges_calls kind _).mono ?_
    rintro e w1 ⟨⟨v, rfl, hm⟩, hb1⟩
    obtain ⟨fn, fs, cs, rfl⟩ : ∃ fn fs cs, v = .func fn fs cs := by
      rcases hm with ⟨_, h⟩ | ⟨_, h⟩ | ⟨_, _, _, h, _⟩ | ⟨h, _⟩
      · exact ⟨_, _, _, h⟩
      · exact ⟨_, _, _, h⟩
      · exact ⟨_, _, _, h⟩
      · exfalso; omega
    clear hm
    clear h0
    go_wp2
    first | (go_ret2; exact hQ' _ _ _ rfl hb1) | exact hQ' _ _ _ rfl hb1
  by_cases hk : kind = 3
  · by_cases hc : col = 1
    · rw [if_neg (by omega), if_pos (by omega)] at hQ'
      subst hk
      subst hc
      go_enter Try.func19, Try.ntmps19
      go_wp2_with fail
      refine (merges_calls 3 _).mono ?_
      rintro e w1 ⟨⟨v, rfl, hm⟩, hb1⟩
      obtain ⟨fn, fs, cs, rfl⟩ : ∃ fn fs cs, v = .func fn fs cs := by
        rcases hm with ⟨_, h⟩ | ⟨_, h⟩ | ⟨_, _, _, h, _⟩ | ⟨h, _⟩
        · exact ⟨_, _, _, h⟩
        · exact ⟨_, _, _, h⟩
        · exact ⟨_, _, _, h⟩
        · exfalso; omega
      clear hm
      clear h0
      go_wp2
      first | (go_ret2; exact hQ' _ _ _ rfl hb1) | exact hQ' _ _ _ rfl hb1
    · rw [if_pos (by omega)] at hQ'
      have hcb : (col != 1) = true := by simpa using hc
      clear hc
      subst hk
      go_enter Try.func19, Try.ntmps19
      go_wp2_with fail
      refine (merges_calls 3 _).mono ?_
      rintro e w1 ⟨⟨v, rfl, hm⟩, hb1⟩
      obtain ⟨fn, fs, cs, rfl⟩ : ∃ fn fs cs, v = .func fn fs cs := by
        rcases hm with ⟨_, h⟩ | ⟨_, h⟩ | ⟨_, _, _, h, _⟩ | ⟨h, _⟩
        · exact ⟨_, _, _, h⟩
        · exact ⟨_, _, _, h⟩
        · exact ⟨_, _, _, h⟩
        · exfalso; omega
      clear hm
      clear h0
      go_wp2
      first | (go_ret2; exact hQ' _ _ _ rfl hb1) | exact hQ' _ _ _ rfl hb1
  · have hkb : (kind == 3) = false := by simpa using hk
    rw [if_neg (by omega)] at hQ'
    clear hk
    by_cases h4 : kind ≤ 3
    · rw [if_pos h4] at hQ'
      go_enter Try.func19, Try.ntmps19
      go_wp2_with fail
      refine (merges_calls kind _).mono ?_
      rintro e w1 ⟨⟨v, rfl, hm⟩, hb1⟩
      obtain ⟨fn, fs, cs, rfl⟩ : ∃ fn fs cs, v = .func fn fs cs := by
        rcases hm with ⟨_, h⟩ | ⟨_, h⟩ | ⟨_, _, _, h, _⟩ | ⟨h, _⟩
        · exact ⟨_, _, _, h⟩
        · exact ⟨_, _, _, h⟩
        · exact ⟨_, _, _, h⟩
        · exfalso; omega
      clear hm
      clear h0
      go_wp2
      first | (go_ret2; exact hQ' _ _ _ rfl hb1) | exact hQ' _ _ _ rfl hb1
    · rw [if_neg h4] at hQ'
      go_enter Try.func19, Try.ntmps19
      go_wp2_with fail
      refine (merges_calls kind _).mono ?_
      rintro e w1 ⟨⟨v, rfl, hm⟩, hb1⟩
      obtain ⟨fn, fs, cs, rfl⟩ : ∃ fn fs cs, v = .func fn fs cs := by
        rcases hm with ⟨_, h⟩ | ⟨_, h⟩ | ⟨_, _, _, h, _⟩ | ⟨h, _⟩
        · exact ⟨_, _, _, h⟩
        · exact ⟨_, _, _, h⟩
        · exact ⟨_, _, _, h⟩
        · exfalso; omega
      clear hm
      clear h0
      go_wp2
      first | (go_ret2; exact hQ' _ _ _ rfl hb1) | exact hQ' _ _ _ rfl hb1

def agg_Kind.f (a0 a1 : Int) : Option (Int × Int) := some (kindS a0 a1)
theorem agg_Kind.calls (a0 : Int) (a1 : Int) (r1 : Int) (r2 : Int) (w : World) (h : agg_Kind.f a0 a1 = some (r1, r2)) :
    Calls Try.prog 19 #[.int .i64 a0, .int .i64 a1] w fun e w' => e = .returned (.tuple #[.int .i64 r1, .int .i64 r2]) ∧ Below w.heap.size w w' := by
  have h' := Option.some.inj h
  have := kind_calls a0 a1 w
  rw [h'] at this
  exact this
set_option maxHeartbeats 4000000 in
set_option maxRecDepth 100000 in
theorem worth_none (kind : Int) (a0 a1 a2 a3 a4 : Int) (a5 : ByteArray) (hk : kind < 1 ∨ kind > 5) (w : World) : Calls Try.prog 14 #[.int .i64 kind, .agg #[.int .i64 a0, .int .i64 a1, .int .u64 a2, .int .i64 a3, .int .i64 a4, .string a5]] w fun e w' => e = .returned (.tuple #[.agg #[.int .i64 0, .int .i64 0, .string ⟨#[]⟩], .int .i64 150]) ∧ Below w.heap.size w w' := by
  have qf := nil_eq
  go_enter Try.func14, Try.ntmps14
  go_wp2_with fail
  refine (merges_calls kind _).mono ?_
  rintro e w1 ⟨⟨v, rfl, hm⟩, hb1⟩
  obtain ⟨bA, bR, hB, hz⟩ := blk2 hb1
  obtain rfl : v = .nilFunc := by
    rcases hm with ⟨h, _⟩ | ⟨h, _⟩ | ⟨_, _, h, _⟩ | ⟨_, h⟩ <;> first | exact h | (exfalso; omega)
  clear hm
  have cA0 : w1.cell? ⟨w.heap.size, 0, none⟩ = some (.int .i64 a0) := (blk_cell bA 0).trans rfl
  have cA1 : w1.cell? ⟨w.heap.size, 1, none⟩ = some (.int .i64 a1) := (blk_cell bA 1).trans rfl
  have cA2 : w1.cell? ⟨w.heap.size, 2, none⟩ = some (.int .u64 a2) := (blk_cell bA 2).trans rfl
  have cA3 : w1.cell? ⟨w.heap.size, 3, none⟩ = some (.int .i64 a3) := (blk_cell bA 3).trans rfl
  have cA4 : w1.cell? ⟨w.heap.size, 4, none⟩ = some (.int .i64 a4) := (blk_cell bA 4).trans rfl
  have cA5 : w1.cell? ⟨w.heap.size, 5, none⟩ = some (.string a5) := (blk_cell bA 5).trans rfl
  have cR0 : w1.cell? ⟨w.heap.size + 1, 0, none⟩ = some (.int .i64 0) := (blk_cell bR 0).trans rfl
  have fR0 : w1.frozen? ⟨w.heap.size + 1, 0, none⟩ = false := blk_frozen bR 0
  have cR1 : w1.cell? ⟨w.heap.size + 1, 1, none⟩ = some (.int .i64 0) := (blk_cell bR 1).trans rfl
  have fR1 : w1.frozen? ⟨w.heap.size + 1, 1, none⟩ = false := blk_frozen bR 1
  have cR2 : w1.cell? ⟨w.heap.size + 1, 2, none⟩ = some (.string ⟨#[]⟩) := (blk_cell bR 2).trans rfl
  have fR2 : w1.frozen? ⟨w.heap.size + 1, 2, none⟩ = false := blk_frozen bR 2
  have HB := Aside0.mk hB
  have BA := Aside0.mk bA
  have BR := Aside0.mk bR
  clear bA bR hB hb1
  go_wp2
  have hR := blk_put3 BR.out (.int .i64 0) (.int .i64 0) (.string ⟨#[]⟩)
  refine bodyPost_ret (results_list rfl (by simp) (.cell _ _ _ _ _ rfl hR Try.underlying26 rfl (by kernel_rfl) (.tmp .nil))) rfl ⟨rfl, ?_⟩
  with_reducible repeat (first | exact HB.out | apply below_alloc | apply pw_below_drewN | refine below_set ?_ (by omega))

set_option maxHeartbeats 4000000 in
set_option maxRecDepth 100000 in
theorem worth_count (kind : Int) (a0 a1 a2 a3 a4 : Int) (a5 : ByteArray) (hk : kind = 1 ∨ kind = 2) (w : World) : Calls Try.prog 14 #[.int .i64 kind, .agg #[.int .i64 a0, .int .i64 a1, .int .u64 a2, .int .i64 a3, .int .i64 a4, .string a5]] w fun e w' => e = .returned (.tuple #[.agg #[.int .i64 1, .int .i64 a0, .string ⟨#[]⟩], .int .i64 0]) ∧ Below w.heap.size w w' := by
  have qf := fn_eq
  go_enter Try.func14, Try.ntmps14
  go_wp2_with fail
  refine (merges_calls kind _).mono ?_
  rintro e w1 ⟨⟨v, rfl, hm⟩, hb1⟩
  obtain ⟨bA, bR, hB, hz⟩ := blk2 hb1
  obtain ⟨fn, fs, cs, rfl⟩ : ∃ fn fs cs, v = .func fn fs cs := by
    rcases hm with ⟨_, h⟩ | ⟨_, h⟩ | ⟨_, _, _, h, _⟩ | ⟨h, _⟩
    · exact ⟨_, _, _, h⟩
    · exact ⟨_, _, _, h⟩
    · exact ⟨_, _, _, h⟩
    · exfalso; omega
  clear hm
  have cA0 : w1.cell? ⟨w.heap.size, 0, none⟩ = some (.int .i64 a0) := (blk_cell bA 0).trans rfl
  have cA1 : w1.cell? ⟨w.heap.size, 1, none⟩ = some (.int .i64 a1) := (blk_cell bA 1).trans rfl
  have cA2 : w1.cell? ⟨w.heap.size, 2, none⟩ = some (.int .u64 a2) := (blk_cell bA 2).trans rfl
  have cA3 : w1.cell? ⟨w.heap.size, 3, none⟩ = some (.int .i64 a3) := (blk_cell bA 3).trans rfl
  have cA4 : w1.cell? ⟨w.heap.size, 4, none⟩ = some (.int .i64 a4) := (blk_cell bA 4).trans rfl
  have cA5 : w1.cell? ⟨w.heap.size, 5, none⟩ = some (.string a5) := (blk_cell bA 5).trans rfl
  have cR0 : w1.cell? ⟨w.heap.size + 1, 0, none⟩ = some (.int .i64 0) := (blk_cell bR 0).trans rfl
  have fR0 : w1.frozen? ⟨w.heap.size + 1, 0, none⟩ = false := blk_frozen bR 0
  have cR1 : w1.cell? ⟨w.heap.size + 1, 1, none⟩ = some (.int .i64 0) := (blk_cell bR 1).trans rfl
  have fR1 : w1.frozen? ⟨w.heap.size + 1, 1, none⟩ = false := blk_frozen bR 1
  have cR2 : w1.cell? ⟨w.heap.size + 1, 2, none⟩ = some (.string ⟨#[]⟩) := (blk_cell bR 2).trans rfl
  have fR2 : w1.frozen? ⟨w.heap.size + 1, 2, none⟩ = false := blk_frozen bR 2
  have HB := Aside0.mk hB
  have BA := Aside0.mk bA
  have BR := Aside0.mk bR
  clear bA bR hB hb1
  have hk2 : kind ≤ 2 := by omega
  clear hk
  go_wp2_with fail
  refine (value_Int.calls a0 1 a0 ⟨#[]⟩ _ rfl).mono ?_
  rintro e w2 ⟨rfl, hbw2⟩
  have bA := blk_below BA.out hbw2
  have bR := blk_below BR.out hbw2
  have hzw2 : w.heap.size + 1 < w2.heap.size := by have := hbw2.size; omega
  have hB := HB.out.trans (hbw2.mono (by omega))
  clear HB BA BR hbw2 cA0 cA1 cA2 cA3 cA4 cA5 cR0 fR0 cR1 fR1 cR2 fR2
  have cR0 : w2.cell? ⟨w.heap.size + 1, 0, none⟩ = some (.int .i64 0) := (blk_cell bR 0).trans rfl
  have fR0 : w2.frozen? ⟨w.heap.size + 1, 0, none⟩ = false := blk_frozen bR 0
  have cR1 : w2.cell? ⟨w.heap.size + 1, 1, none⟩ = some (.int .i64 0) := (blk_cell bR 1).trans rfl
  have fR1 : w2.frozen? ⟨w.heap.size + 1, 1, none⟩ = false := blk_frozen bR 1
  have cR2 : w2.cell? ⟨w.heap.size + 1, 2, none⟩ = some (.string ⟨#[]⟩) := (blk_cell bR 2).trans rfl
  have fR2 : w2.frozen? ⟨w.heap.size + 1, 2, none⟩ = false := blk_frozen bR 2
  have HB := Aside0.mk hB
  have BA := Aside0.mk bA
  have BR := Aside0.mk bR
  clear hB bA bR
  go_wp2
  have hR := blk_put3 BR.out (.int .i64 1) (.int .i64 a0) (.string ⟨#[]⟩)
  refine bodyPost_ret (results_list rfl (by simp) (.cell _ _ _ _ _ rfl hR Try.underlying26 rfl (by kernel_rfl) (.tmp .nil))) rfl ⟨rfl, ?_⟩
  with_reducible repeat (first | exact HB.out | apply below_alloc | apply pw_below_drewN | refine below_set ?_ (by omega))

set_option maxHeartbeats 4000000 in
set_option maxRecDepth 100000 in
theorem worth_zero (kind : Int) (a0 a1 a2 a3 a4 : Int) (a5 : ByteArray) (hk : kind = 3 ∨ kind = 4 ∨ kind = 5) (h0 : a0 = 0) (w : World) : Calls Try.prog 14 #[.int .i64 kind, .agg #[.int .i64 a0, .int .i64 a1, .int .u64 a2, .int .i64 a3, .int .i64 a4, .string a5]] w fun e w' => e = .returned (.tuple #[.agg #[.int .i64 0, .int .i64 0, .string ⟨#[]⟩], .int .i64 0]) ∧ Below w.heap.size w w' := by
  have h0b : (a0 == 0) = true := by simp [h0]
  clear h0
  have qf := fn_eq
  go_enter Try.func14, Try.ntmps14
  go_wp2_with fail
  refine (merges_calls kind _).mono ?_
  rintro e w1 ⟨⟨v, rfl, hm⟩, hb1⟩
  obtain ⟨bA, bR, hB, hz⟩ := blk2 hb1
  obtain ⟨fn, fs, cs, rfl⟩ : ∃ fn fs cs, v = .func fn fs cs := by
    rcases hm with ⟨_, h⟩ | ⟨_, h⟩ | ⟨_, _, _, h, _⟩ | ⟨h, _⟩
    · exact ⟨_, _, _, h⟩
    · exact ⟨_, _, _, h⟩
    · exact ⟨_, _, _, h⟩
    · exfalso; omega
  clear hm
  have cA0 : w1.cell? ⟨w.heap.size, 0, none⟩ = some (.int .i64 a0) := (blk_cell bA 0).trans rfl
  have cA1 : w1.cell? ⟨w.heap.size, 1, none⟩ = some (.int .i64 a1) := (blk_cell bA 1).trans rfl
  have cA2 : w1.cell? ⟨w.heap.size, 2, none⟩ = some (.int .u64 a2) := (blk_cell bA 2).trans rfl
  have cA3 : w1.cell? ⟨w.heap.size, 3, none⟩ = some (.int .i64 a3) := (blk_cell bA 3).trans rfl
  have cA4 : w1.cell? ⟨w.heap.size, 4, none⟩ = some (.int .i64 a4) := (blk_cell bA 4).trans rfl
  have cA5 : w1.cell? ⟨w.heap.size, 5, none⟩ = some (.string a5) := (blk_cell bA 5).trans rfl
  have cR0 : w1.cell? ⟨w.heap.size + 1, 0, none⟩ = some (.int .i64 0) := (blk_cell bR 0).trans rfl
  have fR0 : w1.frozen? ⟨w.heap.size + 1, 0, none⟩ = false := blk_frozen bR 0
  have cR1 : w1.cell? ⟨w.heap.size + 1, 1, none⟩ = some (.int .i64 0) := (blk_cell bR 1).trans rfl
  have fR1 : w1.frozen? ⟨w.heap.size + 1, 1, none⟩ = false := blk_frozen bR 1
  have cR2 : w1.cell? ⟨w.heap.size + 1, 2, none⟩ = some (.string ⟨#[]⟩) := (blk_cell bR 2).trans rfl
  have fR2 : w1.frozen? ⟨w.heap.size + 1, 2, none⟩ = false := blk_frozen bR 2
  have HB := Aside0.mk hB
  have BA := Aside0.mk bA
  have BR := Aside0.mk bR
  clear bA bR hB hb1
  have hk2 : ¬ kind ≤ 2 := by omega
  clear hk
  go_wp2
  have hR := blk_put3 BR.out (.int .i64 0) (.int .i64 0) (.string ⟨#[]⟩)
  refine bodyPost_ret (results_list rfl (by simp) (.cell _ _ _ _ _ rfl hR Try.underlying26 rfl (by kernel_rfl) (.tmp .nil))) rfl ⟨rfl, ?_⟩
  with_reducible repeat (first | exact HB.out | apply below_alloc | apply pw_below_drewN | refine below_set ?_ (by omega))

set_option maxHeartbeats 4000000 in
set_option maxRecDepth 100000 in
theorem worth_best (kind : Int) (a0 a1 a2 a3 a4 : Int) (a5 : ByteArray) (hk : kind = 4 ∨ kind = 5) (h0 : a0 ≠ 0) (w : World) : Calls Try.prog 14 #[.int .i64 kind, .agg #[.int .i64 a0, .int .i64 a1, .int .u64 a2, .int .i64 a3, .int .i64 a4, .string a5]] w fun e w' => e = .returned (.tuple #[.agg #[.int .i64 a3, .int .i64 a4, .string a5], .int .i64 0]) ∧ Below w.heap.size w w' := by
  have qf := fn_eq
  go_enter Try.func14, Try.ntmps14
  go_wp2_with fail
  refine (merges_calls kind _).mono ?_
  rintro e w1 ⟨⟨v, rfl, hm⟩, hb1⟩
  obtain ⟨bA, bR, hB, hz⟩ := blk2 hb1
  obtain ⟨fn, fs, cs, rfl⟩ : ∃ fn fs cs, v = .func fn fs cs := by
    rcases hm with ⟨_, h⟩ | ⟨_, h⟩ | ⟨_, _, _, h, _⟩ | ⟨h, _⟩
    · exact ⟨_, _, _, h⟩
    · exact ⟨_, _, _, h⟩
    · exact ⟨_, _, _, h⟩
    · exfalso; omega
  clear hm
  have cA0 : w1.cell? ⟨w.heap.size, 0, none⟩ = some (.int .i64 a0) := (blk_cell bA 0).trans rfl
  have cA1 : w1.cell? ⟨w.heap.size, 1, none⟩ = some (.int .i64 a1) := (blk_cell bA 1).trans rfl
  have cA2 : w1.cell? ⟨w.heap.size, 2, none⟩ = some (.int .u64 a2) := (blk_cell bA 2).trans rfl
  have cA3 : w1.cell? ⟨w.heap.size, 3, none⟩ = some (.int .i64 a3) := (blk_cell bA 3).trans rfl
  have cA4 : w1.cell? ⟨w.heap.size, 4, none⟩ = some (.int .i64 a4) := (blk_cell bA 4).trans rfl
  have cA5 : w1.cell? ⟨w.heap.size, 5, none⟩ = some (.string a5) := (blk_cell bA 5).trans rfl
  have cR0 : w1.cell? ⟨w.heap.size + 1, 0, none⟩ = some (.int .i64 0) := (blk_cell bR 0).trans rfl
  have fR0 : w1.frozen? ⟨w.heap.size + 1, 0, none⟩ = false := blk_frozen bR 0
  have cR1 : w1.cell? ⟨w.heap.size + 1, 1, none⟩ = some (.int .i64 0) := (blk_cell bR 1).trans rfl
  have fR1 : w1.frozen? ⟨w.heap.size + 1, 1, none⟩ = false := blk_frozen bR 1
  have cR2 : w1.cell? ⟨w.heap.size + 1, 2, none⟩ = some (.string ⟨#[]⟩) := (blk_cell bR 2).trans rfl
  have fR2 : w1.frozen? ⟨w.heap.size + 1, 2, none⟩ = false := blk_frozen bR 2
  have HB := Aside0.mk hB
  have BA := Aside0.mk bA
  have BR := Aside0.mk bR
  clear bA bR hB hb1
  have hk2 : ¬ kind ≤ 2 := by omega
  have hk3 : (kind != 3) = true := by simp; omega
  clear hk
  have h0b : (a0 == 0) = false := by simpa using h0
  clear h0
  go_wp2
  have hR := blk_put3 BR.out (.int .i64 a3) (.int .i64 a4) (.string a5)
  refine bodyPost_ret (results_list rfl (by simp) (.cell _ _ _ _ _ rfl hR Try.underlying26 rfl (by kernel_rfl) (.tmp .nil))) rfl ⟨rfl, ?_⟩
  with_reducible repeat (first | exact HB.out | apply below_alloc | apply pw_below_drewN | refine below_set ?_ (by omega))

set_option maxHeartbeats 4000000 in
set_option maxRecDepth 100000 in
theorem worth_sum_no (kind : Int) (a0 a1 a2 a3 a4 : Int) (a5 : ByteArray) (n : Int) (hk : kind = 3) (h0 : a0 ≠ 0) (hn : num_Int.f a1 a2 = some (n, false)) (w : World) : Calls Try.prog 14 #[.int .i64 kind, .agg #[.int .i64 a0, .int .i64 a1, .int .u64 a2, .int .i64 a3, .int .i64 a4, .string a5]] w fun e w' => e = .returned (.tuple #[.agg #[.int .i64 0, .int .i64 0, .string ⟨#[]⟩], .int .i64 0]) ∧ Below w.heap.size w w' := by
  subst hk
  have h0b : (a0 == 0) = false := by simpa using h0
  have HN := Aside0.mk hn
  clear h0 hn
  have qf := fn_eq
  go_enter Try.func14, Try.ntmps14
  go_wp2_with fail
  refine (merges_calls 3 _).mono ?_
  rintro e w1 ⟨⟨v, rfl, hm⟩, hb1⟩
  obtain ⟨bA, bR, hB, hz⟩ := blk2 hb1
  obtain ⟨fn, fs, cs, rfl⟩ : ∃ fn fs cs, v = .func fn fs cs := by
    rcases hm with ⟨_, h⟩ | ⟨_, h⟩ | ⟨_, _, _, h, _⟩ | ⟨h, _⟩
    · exact ⟨_, _, _, h⟩
    · exact ⟨_, _, _, h⟩
    · exact ⟨_, _, _, h⟩
    · exfalso; omega
  clear hm
  have cA0 : w1.cell? ⟨w.heap.size, 0, none⟩ = some (.int .i64 a0) := (blk_cell bA 0).trans rfl
  have cA1 : w1.cell? ⟨w.heap.size, 1, none⟩ = some (.int .i64 a1) := (blk_cell bA 1).trans rfl
  have cA2 : w1.cell? ⟨w.heap.size, 2, none⟩ = some (.int .u64 a2) := (blk_cell bA 2).trans rfl
  have cA3 : w1.cell? ⟨w.heap.size, 3, none⟩ = some (.int .i64 a3) := (blk_cell bA 3).trans rfl
  have cA4 : w1.cell? ⟨w.heap.size, 4, none⟩ = some (.int .i64 a4) := (blk_cell bA 4).trans rfl
  have cA5 : w1.cell? ⟨w.heap.size, 5, none⟩ = some (.string a5) := (blk_cell bA 5).trans rfl
  have cR0 : w1.cell? ⟨w.heap.size + 1, 0, none⟩ = some (.int .i64 0) := (blk_cell bR 0).trans rfl
  have fR0 : w1.frozen? ⟨w.heap.size + 1, 0, none⟩ = false := blk_frozen bR 0
  have cR1 : w1.cell? ⟨w.heap.size + 1, 1, none⟩ = some (.int .i64 0) := (blk_cell bR 1).trans rfl
  have fR1 : w1.frozen? ⟨w.heap.size + 1, 1, none⟩ = false := blk_frozen bR 1
  have cR2 : w1.cell? ⟨w.heap.size + 1, 2, none⟩ = some (.string ⟨#[]⟩) := (blk_cell bR 2).trans rfl
  have fR2 : w1.frozen? ⟨w.heap.size + 1, 2, none⟩ = false := blk_frozen bR 2
  have HB := Aside0.mk hB
  have BA := Aside0.mk bA
  have BR := Aside0.mk bR
  clear bA bR hB hb1
  go_wp2_with fail
  refine (num_Int.calls a1 a2 n false _ HN.out).mono ?_
  rintro e w2 ⟨rfl, hbw2⟩
  have bA := blk_below BA.out hbw2
  have bR := blk_below BR.out hbw2
  have hzw2 : w.heap.size + 1 < w2.heap.size := by have := hbw2.size; omega
  have hB := HB.out.trans (hbw2.mono (by omega))
  clear HB BA BR hbw2 cA0 cA1 cA2 cA3 cA4 cA5 cR0 fR0 cR1 fR1 cR2 fR2
  have cR0 : w2.cell? ⟨w.heap.size + 1, 0, none⟩ = some (.int .i64 0) := (blk_cell bR 0).trans rfl
  have fR0 : w2.frozen? ⟨w.heap.size + 1, 0, none⟩ = false := blk_frozen bR 0
  have cR1 : w2.cell? ⟨w.heap.size + 1, 1, none⟩ = some (.int .i64 0) := (blk_cell bR 1).trans rfl
  have fR1 : w2.frozen? ⟨w.heap.size + 1, 1, none⟩ = false := blk_frozen bR 1
  have cR2 : w2.cell? ⟨w.heap.size + 1, 2, none⟩ = some (.string ⟨#[]⟩) := (blk_cell bR 2).trans rfl
  have fR2 : w2.frozen? ⟨w.heap.size + 1, 2, none⟩ = false := blk_frozen bR 2
  have HB := Aside0.mk hB
  have BA := Aside0.mk bA
  have BR := Aside0.mk bR
  clear hB bA bR
  go_wp2
  have hR := blk_put3 BR.out (.int .i64 0) (.int .i64 0) (.string ⟨#[]⟩)
  refine bodyPost_ret (results_list rfl (by simp) (.cell _ _ _ _ _ rfl hR Try.underlying26 rfl (by kernel_rfl) (.tmp .nil))) rfl ⟨rfl, ?_⟩
  with_reducible repeat (first | exact HB.out | apply below_alloc | apply pw_below_drewN | refine below_set ?_ (by omega))

set_option maxHeartbeats 4000000 in
set_option maxRecDepth 100000 in
theorem worth_sum_yes (kind : Int) (a0 a1 a2 a3 a4 : Int) (a5 : ByteArray) (n : Int) (hk : kind = 3) (h0 : a0 ≠ 0) (hn : num_Int.f a1 a2 = some (n, true)) (w : World) : Calls Try.prog 14 #[.int .i64 kind, .agg #[.int .i64 a0, .int .i64 a1, .int .u64 a2, .int .i64 a3, .int .i64 a4, .string a5]] w fun e w' => e = .returned (.tuple #[.agg #[.int .i64 1, .int .i64 n, .string ⟨#[]⟩], .int .i64 0]) ∧ Below w.heap.size w w' := by
  subst hk
  have h0b : (a0 == 0) = false := by simpa using h0
  have HN := Aside0.mk hn
  clear h0 hn
  have qf := fn_eq
  go_enter Try.func14, Try.ntmps14
  go_wp2_with fail
  refine (merges_calls 3 _).mono ?_
  rintro e w1 ⟨⟨v, rfl, hm⟩, hb1⟩
  obtain ⟨bA, bR, hB, hz⟩ := blk2 hb1
  obtain ⟨fn, fs, cs, rfl⟩ : ∃ fn fs cs, v = .func fn fs cs := by
    rcases hm with ⟨_, h⟩ | ⟨_, h⟩ | ⟨_, _, _, h, _⟩ | ⟨h, _⟩
    · exact ⟨_, _, _, h⟩
    · exact ⟨_, _, _, h⟩
    · exact ⟨_, _, _, h⟩
    · exfalso; omega
  clear hm
  have cA0 : w1.cell? ⟨w.heap.size, 0, none⟩ = some (.int .i64 a0) := (blk_cell bA 0).trans rfl
  have cA1 : w1.cell? ⟨w.heap.size, 1, none⟩ = some (.int .i64 a1) := (blk_cell bA 1).trans rfl
  have cA2 : w1.cell? ⟨w.heap.size, 2, none⟩ = some (.int .u64 a2) := (blk_cell bA 2).trans rfl
  have cA3 : w1.cell? ⟨w.heap.size, 3, none⟩ = some (.int .i64 a3) := (blk_cell bA 3).trans rfl
  have cA4 : w1.cell? ⟨w.heap.size, 4, none⟩ = some (.int .i64 a4) := (blk_cell bA 4).trans rfl
  have cA5 : w1.cell? ⟨w.heap.size, 5, none⟩ = some (.string a5) := (blk_cell bA 5).trans rfl
  have cR0 : w1.cell? ⟨w.heap.size + 1, 0, none⟩ = some (.int .i64 0) := (blk_cell bR 0).trans rfl
  have fR0 : w1.frozen? ⟨w.heap.size + 1, 0, none⟩ = false := blk_frozen bR 0
  have cR1 : w1.cell? ⟨w.heap.size + 1, 1, none⟩ = some (.int .i64 0) := (blk_cell bR 1).trans rfl
  have fR1 : w1.frozen? ⟨w.heap.size + 1, 1, none⟩ = false := blk_frozen bR 1
  have cR2 : w1.cell? ⟨w.heap.size + 1, 2, none⟩ = some (.string ⟨#[]⟩) := (blk_cell bR 2).trans rfl
  have fR2 : w1.frozen? ⟨w.heap.size + 1, 2, none⟩ = false := blk_frozen bR 2
  have HB := Aside0.mk hB
  have BA := Aside0.mk bA
  have BR := Aside0.mk bR
  clear bA bR hB hb1
  go_wp2_with fail
  refine (num_Int.calls a1 a2 n true _ HN.out).mono ?_
  rintro e w2 ⟨rfl, hbw2⟩
  have bA := blk_below BA.out hbw2
  have bR := blk_below BR.out hbw2
  have hzw2 : w.heap.size + 1 < w2.heap.size := by have := hbw2.size; omega
  have hB := HB.out.trans (hbw2.mono (by omega))
  clear HB BA BR hbw2 cA0 cA1 cA2 cA3 cA4 cA5 cR0 fR0 cR1 fR1 cR2 fR2
  have cR0 : w2.cell? ⟨w.heap.size + 1, 0, none⟩ = some (.int .i64 0) := (blk_cell bR 0).trans rfl
  have fR0 : w2.frozen? ⟨w.heap.size + 1, 0, none⟩ = false := blk_frozen bR 0
  have cR1 : w2.cell? ⟨w.heap.size + 1, 1, none⟩ = some (.int .i64 0) := (blk_cell bR 1).trans rfl
  have fR1 : w2.frozen? ⟨w.heap.size + 1, 1, none⟩ = false := blk_frozen bR 1
  have cR2 : w2.cell? ⟨w.heap.size + 1, 2, none⟩ = some (.string ⟨#[]⟩) := (blk_cell bR 2).trans rfl
  have fR2 : w2.frozen? ⟨w.heap.size + 1, 2, none⟩ = false := blk_frozen bR 2
  have HB := Aside0.mk hB
  have BA := Aside0.mk bA
  have BR := Aside0.mk bR
  clear hB bA bR
  go_wp2_with fail
  refine (value_Int.calls n 1 n ⟨#[]⟩ _ rfl).mono ?_
  rintro e w3 ⟨rfl, hbw3⟩
  have bA := blk_below BA.out hbw3
  have bR := blk_below BR.out hbw3
  have hzw3 : w.heap.size + 1 < w3.heap.size := by have := hbw3.size; omega
  have hB := HB.out.trans (hbw3.mono (by omega))
  clear HB BA BR hbw3 cR0 fR0 cR1 fR1 cR2 fR2
  have cR0 : w3.cell? ⟨w.heap.size + 1, 0, none⟩ = some (.int .i64 0) := (blk_cell bR 0).trans rfl
  have fR0 : w3.frozen? ⟨w.heap.size + 1, 0, none⟩ = false := blk_frozen bR 0
  have cR1 : w3.cell? ⟨w.heap.size + 1, 1, none⟩ = some (.int .i64 0) := (blk_cell bR 1).trans rfl
  have fR1 : w3.frozen? ⟨w.heap.size + 1, 1, none⟩ = false := blk_frozen bR 1
  have cR2 : w3.cell? ⟨w.heap.size + 1, 2, none⟩ = some (.string ⟨#[]⟩) := (blk_cell bR 2).trans rfl
  have fR2 : w3.frozen? ⟨w.heap.size + 1, 2, none⟩ = false := blk_frozen bR 2
  have HB := Aside0.mk hB
  have BA := Aside0.mk bA
  have BR := Aside0.mk bR
  clear hB bA bR
  go_wp2
  have hR := blk_put3 BR.out (.int .i64 1) (.int .i64 n) (.string ⟨#[]⟩)
  refine bodyPost_ret (results_list rfl (by simp) (.cell _ _ _ _ _ rfl hR Try.underlying26 rfl (by kernel_rfl) (.tmp .nil))) rfl ⟨rfl, ?_⟩
  with_reducible repeat (first | exact HB.out | apply below_alloc | apply pw_below_drewN | refine below_set ?_ (by omega))

def agg_Worth.f (a0 : Int) (a1_0 : Int) (a1_1 : Int) (a1_2 : Int) (a1_3 : Int) (a1_4 : Int) (a1_5 : ByteArray) : Option (Int × Int × ByteArray × Int) :=
  if a0 < 1 ∨ a0 > 5 then some (0, 0, ⟨#[]⟩, 150) else if a0 = 1 ∨ a0 = 2 then some (1, a1_0, ⟨#[]⟩, 0) else if a1_0 = 0 then some (0, 0, ⟨#[]⟩, 0) else if a0 = 4 ∨ a0 = 5 then some (a1_3, a1_4, a1_5, 0)
  else (num_Int.f a1_1 a1_2).bind fun p => if p.2 = true then some (1, p.1, ⟨#[]⟩, 0) else some (0, 0, ⟨#[]⟩, 0)
theorem agg_Worth.calls (a0 : Int) (a1_0 : Int) (a1_1 : Int) (a1_2 : Int) (a1_3 : Int) (a1_4 : Int) (a1_5 : ByteArray) (r1 : Int) (r2 : Int) (r3 : ByteArray) (r4 : Int) (w : World) (h : agg_Worth.f a0 a1_0 a1_1 a1_2 a1_3 a1_4 a1_5 = some (r1, r2, r3, r4)) :
    Calls Try.prog 14 #[.int .i64 a0, .agg #[.int .i64 a1_0, .int .i64 a1_1, .int .u64 a1_2, .int .i64 a1_3, .int .i64 a1_4, .string a1_5]] w fun e w' => e = .returned (.tuple #[.agg #[.int .i64 r1, .int .i64 r2, .string r3], .int .i64 r4]) ∧ Below w.heap.size w w' := by
  unfold agg_Worth.f at h
  by_cases h0 : a0 < 1 ∨ a0 > 5
  · rw [if_pos h0] at h
    cases h
    exact worth_none a0 _ _ _ _ _ _ h0 w
  rw [if_neg h0] at h
  by_cases h1 : a0 = 1 ∨ a0 = 2
  · rw [if_pos h1] at h
    cases h
    exact worth_count a0 _ _ _ _ _ _ h1 w
  rw [if_neg h1] at h
  by_cases h2 : a1_0 = 0
  · rw [if_pos h2] at h
    cases h
    exact worth_zero a0 _ _ _ _ _ _ (by omega) h2 w
  rw [if_neg h2] at h
  by_cases h3 : a0 = 4 ∨ a0 = 5
  · rw [if_pos h3] at h
    cases h
    exact worth_best a0 _ _ _ _ _ _ h3 h2 w
  rw [if_neg h3] at h
  obtain ⟨⟨n, y⟩, hn, h⟩ := Option.bind_eq_some_iff.1 h
  cases y with
  | true =>
    cases h
    exact worth_sum_yes a0 _ _ _ _ _ _ n (by omega) h2 hn w
  | false =>
    cases h
    exact worth_sum_no a0 _ _ _ _ _ _ n (by omega) h2 hn w
end Go.Proofs.Ytphdbhneefmkcaa.Q
