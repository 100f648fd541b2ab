/- The law AggFolds: walked. -/
import Derived.Test.YtphdbhneefmkcaaHAggH
import Derived.Test.YtphdbhneefmkcaaCx2
import Derived.Test.YtphdbhneefmkcaaDx1
import Derived.Test.YtphdbhneefmkcaaAggPF
namespace Go.Proofs.Ytphdbhneefmkcaa.Q
open Go.RowKit Go.Proofs.YtphdbhneefmkcaaW.PrintWords Go.Proofs.YtphdbhneefmkcaaW.PrintLast Go.Proofs.YtphdbhneefmkcaaW.PrintMore
set_option linter.unusedVariables false
set_option linter.unusedSimpArgs false
attribute [local go_sem high] eqA33

set_option maxHeartbeats 4000000 in
set_option maxRecDepth 100000 in
theorem fold_bad (kind : Int) (hk : kind < 1 ∨ kind > 5) (A : Option Addr) (c n : Nat) (f : Value) (w : World) :
    Calls Try.prog 16 #[.int .i64 kind, .slice A n c, f] w fun e w' => e = .returned (.tuple #[.agg #[.int .i64 0, .int .i64 0, .int .u64 0, .int .i64 0, .int .i64 0, .string ⟨#[]⟩], .int .i64 150]) ∧ Below w.heap.size w w' := by
  have qn := nil_eq
  go_enter Try.func16, Try.ntmps16
  go_wp2_with fail
  refine (merges_calls kind _).mono ?_
  rintro e w1 ⟨⟨v, rfl, hm⟩, hb1⟩
  obtain ⟨bZ, bA, hB, hz⟩ := blk2 hb1
  obtain rfl : v = .nilFunc := by
    rcases hm with ⟨h, _⟩ | ⟨h, _⟩ | ⟨_, _, h, _⟩ | ⟨_, h⟩ <;> first | exact h | (exfalso; omega)
  clear hm
  have cZ0 : w1.cell? ⟨w.heap.size, 0, none⟩ = some (.int .i64 0) := (blk_cell bZ 0).trans rfl
  have fZ0 : w1.frozen? ⟨w.heap.size, 0, none⟩ = false := blk_frozen bZ 0
  have cZ1 : w1.cell? ⟨w.heap.size, 1, none⟩ = some (.int .i64 0) := (blk_cell bZ 1).trans rfl
  have fZ1 : w1.frozen? ⟨w.heap.size, 1, none⟩ = false := blk_frozen bZ 1
  have cZ2 : w1.cell? ⟨w.heap.size, 2, none⟩ = some (.int .u64 0) := (blk_cell bZ 2).trans rfl
  have fZ2 : w1.frozen? ⟨w.heap.size, 2, none⟩ = false := blk_frozen bZ 2
  have cZ3 : w1.cell? ⟨w.heap.size, 3, none⟩ = some (.int .i64 0) := (blk_cell bZ 3).trans rfl
  have fZ3 : w1.frozen? ⟨w.heap.size, 3, none⟩ = false := blk_frozen bZ 3
  have cZ4 : w1.cell? ⟨w.heap.size, 4, none⟩ = some (.int .i64 0) := (blk_cell bZ 4).trans rfl
  have fZ4 : w1.frozen? ⟨w.heap.size, 4, none⟩ = false := blk_frozen bZ 4
  have cZ5 : w1.cell? ⟨w.heap.size, 5, none⟩ = some (.string ⟨#[]⟩) := (blk_cell bZ 5).trans rfl
  have fZ5 : w1.frozen? ⟨w.heap.size, 5, none⟩ = false := blk_frozen bZ 5
  have cA0 : w1.cell? ⟨w.heap.size + 1, 0, none⟩ = some (.int .i64 0) := (blk_cell bA 0).trans rfl
  have fA0 : w1.frozen? ⟨w.heap.size + 1, 0, none⟩ = false := blk_frozen bA 0
  have cA1 : w1.cell? ⟨w.heap.size + 1, 1, none⟩ = some (.int .i64 0) := (blk_cell bA 1).trans rfl
  have fA1 : w1.frozen? ⟨w.heap.size + 1, 1, none⟩ = false := blk_frozen bA 1
  have cA2 : w1.cell? ⟨w.heap.size + 1, 2, none⟩ = some (.int .u64 0) := (blk_cell bA 2).trans rfl
  have fA2 : w1.frozen? ⟨w.heap.size + 1, 2, none⟩ = false := blk_frozen bA 2
  have cA3 : w1.cell? ⟨w.heap.size + 1, 3, none⟩ = some (.int .i64 0) := (blk_cell bA 3).trans rfl
  have fA3 : w1.frozen? ⟨w.heap.size + 1, 3, none⟩ = false := blk_frozen bA 3
  have cA4 : w1.cell? ⟨w.heap.size + 1, 4, none⟩ = some (.int .i64 0) := (blk_cell bA 4).trans rfl
  have fA4 : w1.frozen? ⟨w.heap.size + 1, 4, none⟩ = false := blk_frozen bA 4
  have cA5 : w1.cell? ⟨w.heap.size + 1, 5, none⟩ = some (.string ⟨#[]⟩) := (blk_cell bA 5).trans rfl
  have fA5 : w1.frozen? ⟨w.heap.size + 1, 5, none⟩ = false := blk_frozen bA 5
  have HB := Aside0.mk hB
  have BZ := Aside0.mk bZ
  clear bZ bA hB hb1 hk
  go_wp2
  have hR := blk_put6 BZ.out (.int .i64 0) (.int .i64 0) (.int .u64 0) (.int .i64 0) (.int .i64 0) (.string ⟨#[]⟩)
  refine bodyPost_ret (results_list rfl (by simp) (.cell _ _ _ _ _ rfl hR Try.underlying28 rfl (by kernel_rfl) (.tmp .nil))) rfl ⟨rfl, ?_⟩
  with_reducible repeat (first | exact HB.out | apply below_alloc | apply pw_below_drewN | refine below_set ?_ (by omega))

set_option maxHeartbeats 4000000 in
set_option maxRecDepth 100000 in
theorem folds_long (kind : Int) (A : Option Addr) (c : Nat) (l : List S26) (w : World) (hr : Kd.C k26 w A l.length l) (hl : 2000 < l.length) :
    Calls Try.prog 5 #[.int .i64 kind, .slice A l.length c] w fun e w' => e = .returned (.bool true) ∧ Below w.heap.size w w' := by
  have hl1 : decide (2000 < (l.length : Int)) = true := decide_eq_true (by omega)
  have hl2 : decide (2000 < l.length) = true := decide_eq_true hl
  go_enter Try.func5, Try.ntmps5
  go_wp2_with fail
  refine (headgatelaw15_alive.calls true _ (by kernel_rfl)).mono ?_
  rintro e w1 ⟨rfl, hb1⟩
  go_wp2
  go_ret
  exact ⟨rfl, hb1⟩

set_option maxHeartbeats 4000000 in
set_option maxRecDepth 100000 in
theorem folds_bad (kind : Int) (hk : kind < 1 ∨ kind > 5) (A : Option Addr) (c : Nat) (l : List S26) (w : World) (hr : Kd.C k26 w A l.length l) (hl : ¬ 2000 < l.length) :
    Calls Try.prog 5 #[.int .i64 kind, .slice A l.length c] w fun e w' => e = .returned (.bool true) ∧ Below w.heap.size w w' := by
  have mf := mkf
  have hl1 : decide (2000 < (l.length : Int)) = false := decide_eq_false (by omega)
  have hl2 : decide (2000 < l.length) = false := decide_eq_false hl
  go_enter Try.func5, Try.ntmps5
  go_wp2_with fail
  refine (headgatelaw15_alive.calls true _ (by kernel_rfl)).mono ?_
  rintro e w1 ⟨rfl, hb1⟩
  go_wp2_with fail
  refine (fold_bad kind hk A c l.length _ _).mono ?_
  rintro e w2 ⟨rfl, hb2⟩
  have hc2 : w2.heap[w1.heap.size]? = some (.cells #[.int .i64 (0 : Nat)] 3 (0, 0)) := blk_below (blk_new w1 _) hb2
  have hd2 : Below w.heap.size w w2 := below_step (below_alloc hb1 _) hb2
  obtain ⟨bR, bW, hgz⟩ : ((w2.alloc (.cells #[.int .i64 0, .int .i64 0, .int .u64 0, .int .i64 0, .int .i64 0, .string ⟨#[]⟩] 28)).alloc (.cells #[.int .i64 0, .int .i64 0, .int .u64 0, .int .i64 0, .int .i64 0, .string ⟨#[]⟩] 33)).heap[w2.heap.size]? = some (.cells #[.int .i64 0, .int .i64 0, .int .u64 0, .int .i64 0, .int .i64 0, .string ⟨#[]⟩] 28) ∧ ((w2.alloc (.cells #[.int .i64 0, .int .i64 0, .int .u64 0, .int .i64 0, .int .i64 0, .string ⟨#[]⟩] 28)).alloc (.cells #[.int .i64 0, .int .i64 0, .int .u64 0, .int .i64 0, .int .i64 0, .string ⟨#[]⟩] 33)).heap[w2.heap.size + 1]? = some (.cells #[.int .i64 0, .int .i64 0, .int .u64 0, .int .i64 0, .int .i64 0, .string ⟨#[]⟩] 33) ∧ w2.heap.size + 1 < ((w2.alloc (.cells #[.int .i64 0, .int .i64 0, .int .u64 0, .int .i64 0, .int .i64 0, .string ⟨#[]⟩] 28)).alloc (.cells #[.int .i64 0, .int .i64 0, .int .u64 0, .int .i64 0, .int .i64 0, .string ⟨#[]⟩] 33)).heap.size := by
    refine ⟨blk_alloc (blk_new _ _) _, ?_, ?_⟩
    · have := blk_new (w2.alloc (.cells #[.int .i64 0, .int .i64 0, .int .u64 0, .int .i64 0, .int .i64 0, .string ⟨#[]⟩] 28)) (.cells #[.int .i64 0, .int .i64 0, .int .u64 0, .int .i64 0, .int .i64 0, .string ⟨#[]⟩] 33)
      rwa [World.size_alloc] at this
    · rw [World.size_alloc, World.size_alloc]; omega
  have bC := blk_alloc (blk_alloc hc2 (.cells #[.int .i64 0, .int .i64 0, .int .u64 0, .int .i64 0, .int .i64 0, .string ⟨#[]⟩] 28)) (.cells #[.int .i64 0, .int .i64 0, .int .u64 0, .int .i64 0, .int .i64 0, .string ⟨#[]⟩] 33)
  have hB3 : Below w.heap.size w ((w2.alloc (.cells #[.int .i64 0, .int .i64 0, .int .u64 0, .int .i64 0, .int .i64 0, .string ⟨#[]⟩] 28)).alloc (.cells #[.int .i64 0, .int .i64 0, .int .u64 0, .int .i64 0, .int .i64 0, .string ⟨#[]⟩] 33)) := below_alloc (below_alloc hd2 _) _
  have hwg : w.heap.size ≤ w2.heap.size := hd2.size
  have hg2 : w1.heap.size < w2.heap.size := blk_lt hc2
  have h1 : kind < 1 ∨ ¬ kind < 1 ∧ kind > 5 := by omega
  rcases h1 with h1 | ⟨h1, h5⟩
  all_goals
    first | have k1 : decide (kind < 1) = true := decide_eq_true h1 | have k1 : decide (kind < 1) = false := decide_eq_false h1
    try have k5 : decide (5 < kind) = true := decide_eq_true h5
    try clear h5
    clear h1 hk
    go_wp2_with fail
    generalize ((w2.alloc (.cells #[.int .i64 0, .int .i64 0, .int .u64 0, .int .i64 0, .int .i64 0, .string ⟨#[]⟩] 28)).alloc (.cells #[.int .i64 0, .int .i64 0, .int .u64 0, .int .i64 0, .int .i64 0, .string ⟨#[]⟩] 33)) = W at bR bW bC hgz hB3 ⊢
    have cR0 : W.cell? ⟨w2.heap.size, 0, none⟩ = some (.int .i64 0) := (blk_cell bR 0).trans rfl
    have cR1 : W.cell? ⟨w2.heap.size, 1, none⟩ = some (.int .i64 0) := (blk_cell bR 1).trans rfl
    have cR2 : W.cell? ⟨w2.heap.size, 2, none⟩ = some (.int .u64 0) := (blk_cell bR 2).trans rfl
    have cR3 : W.cell? ⟨w2.heap.size, 3, none⟩ = some (.int .i64 0) := (blk_cell bR 3).trans rfl
    have cR4 : W.cell? ⟨w2.heap.size, 4, none⟩ = some (.int .i64 0) := (blk_cell bR 4).trans rfl
    have cR5 : W.cell? ⟨w2.heap.size, 5, none⟩ = some (.string ⟨#[]⟩) := (blk_cell bR 5).trans rfl
    have cW0 : W.cell? ⟨w2.heap.size + 1, 0, none⟩ = some (.int .i64 0) := (blk_cell bW 0).trans rfl
    have fW0 : W.frozen? ⟨w2.heap.size + 1, 0, none⟩ = false := blk_frozen bW 0
    have cW1 : W.cell? ⟨w2.heap.size + 1, 1, none⟩ = some (.int .i64 0) := (blk_cell bW 1).trans rfl
    have fW1 : W.frozen? ⟨w2.heap.size + 1, 1, none⟩ = false := blk_frozen bW 1
    have cW2 : W.cell? ⟨w2.heap.size + 1, 2, none⟩ = some (.int .u64 0) := (blk_cell bW 2).trans rfl
    have fW2 : W.frozen? ⟨w2.heap.size + 1, 2, none⟩ = false := blk_frozen bW 2
    have cW3 : W.cell? ⟨w2.heap.size + 1, 3, none⟩ = some (.int .i64 0) := (blk_cell bW 3).trans rfl
    have fW3 : W.frozen? ⟨w2.heap.size + 1, 3, none⟩ = false := blk_frozen bW 3
    have cW4 : W.cell? ⟨w2.heap.size + 1, 4, none⟩ = some (.int .i64 0) := (blk_cell bW 4).trans rfl
    have fW4 : W.frozen? ⟨w2.heap.size + 1, 4, none⟩ = false := blk_frozen bW 4
    have cW5 : W.cell? ⟨w2.heap.size + 1, 5, none⟩ = some (.string ⟨#[]⟩) := (blk_cell bW 5).trans rfl
    have fW5 : W.frozen? ⟨w2.heap.size + 1, 5, none⟩ = false := blk_frozen bW 5
    have cC : W.cell? ⟨w1.heap.size, 0, none⟩ = some (.int .i64 (0 : Nat)) := (blk_cell bC 0).trans rfl
    have HB := Aside0.mk hB3
    clear bR hB3 bC hc2 hd2 hb2 hb1
    have hz : l.length = 0 ∨ 0 < l.length := by omega
    rcases hz with hz | hz
    all_goals
      first | have z1 : decide (0 < (l.length : Int)) = false := decide_eq_false (by omega) | have z1 : decide (0 < (l.length : Int)) = true := decide_eq_true (by omega)
      first | have z2 : decide (0 < l.length) = false := decide_eq_false (by omega) | have z2 : decide (0 < l.length) = true := decide_eq_true (by omega)
      clear hz
      refine wp_loop_rounds 1 ?_
      rw [rounds_succ]
      go_wp2
      go_ret
      exact ⟨rfl, below_set6 HB.out (by omega) _ _ _ _ _ _⟩

set_option maxHeartbeats 4000000 in
set_option maxRecDepth 100000 in
theorem folds_good (kind : Int) (hk : ¬ (kind < 1 ∨ kind > 5)) (A : Option Addr) (c : Nat) (l : List S26) (w : World) (hr : Kd.C k26 w A l.length l) (hc : l.length ≤ c) (hl : ¬ 2000 < l.length) (h64 : ∀ v ∈ l, in64 v.f1)
    (r0 r1 r2 r3 r4 : Int) (r5 : ByteArray) (r6 : Int) (nn : Nat) (hf : foldV kind 0 0 0 0 0 ⟨#[]⟩ 0 l = some (r0, r1, r2, r3, r4, r5, r6, nn)) :
    Calls Try.prog 5 #[.int .i64 kind, .slice A l.length c] w fun e w' => e = .returned (.bool true) ∧ Below w.heap.size w w' := by
  have mf := mkf
  have hmax := Kd.C_max hr
  have HR := Aside0.mk hr
  have H64 := Aside0.mk h64
  clear hr h64
  have hl1 : decide (2000 < (l.length : Int)) = false := decide_eq_false (by omega)
  have hl2 : decide (2000 < l.length) = false := decide_eq_false hl
  go_enter Try.func5, Try.ntmps5
  go_wp2_with fail
  refine (headgatelaw15_alive.calls true _ (by kernel_rfl)).mono ?_
  rintro e w1 ⟨rfl, hb1⟩
  go_wp2_with fail
  refine (fold_vals kind hk A c l r0 r1 r2 r3 r4 r5 r6 nn w (w1.alloc (.cells #[.int .i64 0] 3)) w1.heap.size 0 hb1.size (below_alloc hb1 _) (blk_new w1 _) (by omega) HR.out hc hf).mono ?_
  rintro e w2 ⟨rfl, hc2, hd2⟩
  obtain ⟨bR, bW, hgz⟩ : ((w2.alloc (.cells #[.int .i64 r0, .int .i64 r1, .int .u64 r2, .int .i64 r3, .int .i64 r4, .string r5] 28)).alloc (.cells #[.int .i64 0, .int .i64 0, .int .u64 0, .int .i64 0, .int .i64 0, .string ⟨#[]⟩] 33)).heap[w2.heap.size]? = some (.cells #[.int .i64 r0, .int .i64 r1, .int .u64 r2, .int .i64 r3, .int .i64 r4, .string r5] 28) ∧ ((w2.alloc (.cells #[.int .i64 r0, .int .i64 r1, .int .u64 r2, .int .i64 r3, .int .i64 r4, .string r5] 28)).alloc (.cells #[.int .i64 0, .int .i64 0, .int .u64 0, .int .i64 0, .int .i64 0, .string ⟨#[]⟩] 33)).heap[w2.heap.size + 1]? = some (.cells #[.int .i64 0, .int .i64 0, .int .u64 0, .int .i64 0, .int .i64 0, .string ⟨#[]⟩] 33) ∧ w2.heap.size + 1 < ((w2.alloc (.cells #[.int .i64 r0, .int .i64 r1, .int .u64 r2, .int .i64 r3, .int .i64 r4, .string r5] 28)).alloc (.cells #[.int .i64 0, .int .i64 0, .int .u64 0, .int .i64 0, .int .i64 0, .string ⟨#[]⟩] 33)).heap.size := by
    refine ⟨blk_alloc (blk_new _ _) _, ?_, ?_⟩
    · have := blk_new (w2.alloc (.cells #[.int .i64 r0, .int .i64 r1, .int .u64 r2, .int .i64 r3, .int .i64 r4, .string r5] 28)) (.cells #[.int .i64 0, .int .i64 0, .int .u64 0, .int .i64 0, .int .i64 0, .string ⟨#[]⟩] 33)
      rwa [World.size_alloc] at this
    · rw [World.size_alloc, World.size_alloc]; omega
  have bC := blk_alloc (blk_alloc hc2 (.cells #[.int .i64 r0, .int .i64 r1, .int .u64 r2, .int .i64 r3, .int .i64 r4, .string r5] 28)) (.cells #[.int .i64 0, .int .i64 0, .int .u64 0, .int .i64 0, .int .i64 0, .string ⟨#[]⟩] 33)
  have hB3 : Below w.heap.size w ((w2.alloc (.cells #[.int .i64 r0, .int .i64 r1, .int .u64 r2, .int .i64 r3, .int .i64 r4, .string r5] 28)).alloc (.cells #[.int .i64 0, .int .i64 0, .int .u64 0, .int .i64 0, .int .i64 0, .string ⟨#[]⟩] 33)) := below_alloc (below_alloc hd2 _) _
  have hwg : w.heap.size ≤ w2.heap.size := hd2.size
  have hg2 : w1.heap.size < w2.heap.size := blk_lt hc2
  have k1 : decide (kind < 1) = false := decide_eq_false (by omega)
  have k5 : decide (5 < kind) = false := decide_eq_false (by omega)
  have HF := Aside0.mk hf
  clear hf
  go_wp2_with fail
  generalize ((w2.alloc (.cells #[.int .i64 r0, .int .i64 r1, .int .u64 r2, .int .i64 r3, .int .i64 r4, .string r5] 28)).alloc (.cells #[.int .i64 0, .int .i64 0, .int .u64 0, .int .i64 0, .int .i64 0, .string ⟨#[]⟩] 33)) = W at bR bW bC hgz hB3 ⊢
  have BR := Aside0.mk bR
  have BW := Aside0.mk bW
  have CB := Aside0.mk bC
  have HB := Aside0.mk hB3
  clear bR bW bC hB3 hc2 hd2 hb1 hk hgz
  obtain ⟨Z, hZ⟩ : ∃ Z, Z = w2.heap.size := ⟨_, rfl⟩
  obtain ⟨g, hg⟩ : ∃ g, g = w1.heap.size := ⟨_, rfl⟩
  rw [← hZ] at hwg hg2 BR BW ⊢
  rw [← hg] at hg2 CB ⊢
  clear hZ hg
  go_loopg [9, 10, 11] (l.length) (fun kq v9 v10 v11 wr => ∃ (i : Nat) (x0 x1 x2 x3 x4 : Int) (x5 : ByteArray) (f : Int), v9 = .int .i64 f ∧ v10 = .int .i64 i ∧ v11 = .int .i64 i ∧ Aside0 (i + kq = l.length) ∧ Aside0 ((f = 0 ∧ foldV kind x0 x1 x2 x3 x4 x5 i (l.drop i) = some (r0, r1, r2, r3, r4, r5, r6, nn)) ∨ (f ≠ 0 ∧ f = r6 ∧ i = nn ∧ r0 = 0 ∧ r1 = 0 ∧ r2 = 0 ∧ r3 = 0 ∧ r4 = 0 ∧ r5 = ⟨#[]⟩)) ∧ Aside0 (wr.heap[g]? = some (.cells #[.int .i64 (0 + nn : Nat)] 3 (0, 0))) ∧ Aside0 (wr.heap[Z]? = some (.cells #[.int .i64 r0, .int .i64 r1, .int .u64 r2, .int .i64 r3, .int .i64 r4, .string r5] 28 (0, 0))) ∧ Aside0 (wr.heap[Z + 1]? = some (.cells #[.int .i64 x0, .int .i64 x1, .int .u64 x2, .int .i64 x3, .int .i64 x4, .string x5] 33 (0, 0))) ∧ Aside0 (Below w.heap.size w wr))
  case atStart => exact ⟨0, 0, 0, 0, 0, 0, ⟨#[]⟩, 0, rfl, rfl, rfl, ⟨by omega⟩, ⟨.inl ⟨rfl, by rw [List.drop_zero]; exact HF.out⟩⟩, CB, BR, BW, HB⟩
  case round =>
    clear HF CB BR BW HB
    obtain ⟨i, x0, x1, x2, x3, x4, x5, f, rfl, rfl, rfl, HI, HF, CB, BR, BW, HB⟩ := hrel
    have hZl : Z + 1 < wr.heap.size := blk_lt BW.out
    have hgl : g < wr.heap.size := blk_lt CB.out
    by_cases hgo : i < l.length ∧ f = 0
    · obtain ⟨hlt, rfl⟩ := hgo
      have hlb : decide ((i : Int) < (l.length : Int)) = true := decide_eq_true (by omega)
      have hlb2 : decide (i < l.length) = true := decide_eq_true hlt
      have hi1 : (i : Int) + 1 ≤ 9223372036854775807 := by omega
      have hF : foldV kind x0 x1 x2 x3 x4 x5 i (l.drop i) = some (r0, r1, r2, r3, r4, r5, r6, nn) := by
        rcases HF.out with ⟨_, h⟩ | ⟨h, _⟩
        · exact h
        · exact absurd rfl h
      obtain ⟨⟨n0, n1, n2⟩, hn⟩ : ∃ x, rd_T26 l (i : Int) = x := ⟨_, rfl⟩
      have hel : l[i] = ⟨n0, n1, n2⟩ := by
        rw [← hn]
        unfold rd_T26
        rw [Int.toNat_natCast, List.getD_eq_getElem?_getD, List.getElem?_eq_getElem hlt]
        rfl
      have hn64 : in64 n1 := by
        have := H64.out l[i] (List.getElem_mem hlt)
        rw [hel] at this
        exact this
      have hdrop : l.drop i = ⟨n0, n1, n2⟩ :: l.drop (i + 1) := by rw [List.drop_eq_getElem_cons hlt, hel]
      rw [hdrop] at hF
      unfold foldV at hF
      obtain ⟨⟨y0, y1, y2, y3, y4, y5, y6⟩, hA, hF⟩ := Option.bind_eq_some_iff.1 hF
      simp only at hF hA
      rw [← refAdd_eq 0 kind x0 x1 x2 x3 x4 x5 n0 n1 n2 hn64] at hA
      obtain ⟨ad, rfl, hcell0, hcell1, hcell2⟩ := at_T26 (Kd.C_below HR.out HB.out) (i : Int) (by omega) (by omega)
      rw [hn, Int.toNat_natCast] at hcell0 hcell1 hcell2
      have HA := Aside0.mk hA
      have HF2 := Aside0.mk hF
      have bW := BW.out
      clear HF hdrop hF hn hA hel hn64
      have cW0 : wr.cell? ⟨Z + 1, 0, none⟩ = some (.int .i64 x0) := (blk_cell bW 0).trans rfl
      have cW1 : wr.cell? ⟨Z + 1, 1, none⟩ = some (.int .i64 x1) := (blk_cell bW 1).trans rfl
      have cW2 : wr.cell? ⟨Z + 1, 2, none⟩ = some (.int .u64 x2) := (blk_cell bW 2).trans rfl
      have cW3 : wr.cell? ⟨Z + 1, 3, none⟩ = some (.int .i64 x3) := (blk_cell bW 3).trans rfl
      have cW4 : wr.cell? ⟨Z + 1, 4, none⟩ = some (.int .i64 x4) := (blk_cell bW 4).trans rfl
      have cW5 : wr.cell? ⟨Z + 1, 5, none⟩ = some (.string x5) := (blk_cell bW 5).trans rfl
      clear bW
      go_upto_region 15 with (fail)
      go_cut [9] (fun v9 wc => v9 = .int .i64 y6 ∧ Aside0 (wc.heap[g]? = some (.cells #[.int .i64 (0 + nn : Nat)] 3 (0, 0))) ∧ Aside0 (wc.heap[Z]? = some (.cells #[.int .i64 r0, .int .i64 r1, .int .u64 r2, .int .i64 r3, .int .i64 r4, .string r5] 28 (0, 0))) ∧ Aside0 (wc.heap[Z + 1]? = some (.cells #[.int .i64 y0, .int .i64 y1, .int .u64 y2, .int .i64 y3, .int .i64 y4, .string y5] 33 (0, 0))) ∧ Aside0 (Below w.heap.size w wc))
      case first =>
        go_region_with (first
          | (go_at_call 11; refine (headgateref15_Add.calls _ kind x0 x1 x2 x3 x4 x5 n0 n1 n2 y0 y1 y2 y3 y4 y5 y6 _ HA.out).mono ?_; rintro e v2 ⟨rfl, hd2⟩; have CB2 : Aside0 (v2.heap[g]? = some (.cells #[.int .i64 (0 + nn : Nat)] 3 (0, 0))) := ⟨blk_below (by with_reducible repeat (first | exact CB.out | refine blk_drewN ?_ _ | refine blk_drew ?_)) hd2⟩; have BR2 : Aside0 (v2.heap[Z]? = some (.cells #[.int .i64 r0, .int .i64 r1, .int .u64 r2, .int .i64 r3, .int .i64 r4, .string r5] 28 (0, 0))) := ⟨blk_below (by with_reducible repeat (first | exact BR.out | refine blk_drewN ?_ _ | refine blk_drew ?_)) hd2⟩; have bw2 : v2.heap[Z + 1]? = some (.cells #[.int .i64 x0, .int .i64 x1, .int .u64 x2, .int .i64 x3, .int .i64 x4, .string x5] 33 (0, 0)) := blk_below (by with_reducible repeat (first | exact BW.out | refine blk_drewN ?_ _ | refine blk_drew ?_)) hd2; have HB2 : Aside0 (Below w.heap.size w v2) := ⟨below_step (by with_reducible repeat (first | exact HB.out | apply below_drew1 | apply pw_below_drewN)) hd2⟩; have cd0 : v2.cell? ⟨Z + 1, 0, none⟩ = some (.int .i64 x0) := (blk_cell bw2 0).trans rfl; have fd0 : v2.frozen? ⟨Z + 1, 0, none⟩ = false := blk_frozen bw2 0; have cd1 : v2.cell? ⟨Z + 1, 1, none⟩ = some (.int .i64 x1) := (blk_cell bw2 1).trans rfl; have fd1 : v2.frozen? ⟨Z + 1, 1, none⟩ = false := blk_frozen bw2 1; have cd2 : v2.cell? ⟨Z + 1, 2, none⟩ = some (.int .u64 x2) := (blk_cell bw2 2).trans rfl; have fd2 : v2.frozen? ⟨Z + 1, 2, none⟩ = false := blk_frozen bw2 2; have cd3 : v2.cell? ⟨Z + 1, 3, none⟩ = some (.int .i64 x3) := (blk_cell bw2 3).trans rfl; have fd3 : v2.frozen? ⟨Z + 1, 3, none⟩ = false := blk_frozen bw2 3; have cd4 : v2.cell? ⟨Z + 1, 4, none⟩ = some (.int .i64 x4) := (blk_cell bw2 4).trans rfl; have fd4 : v2.frozen? ⟨Z + 1, 4, none⟩ = false := blk_frozen bw2 4; have cd5 : v2.cell? ⟨Z + 1, 5, none⟩ = some (.string x5) := (blk_cell bw2 5).trans rfl; have fd5 : v2.frozen? ⟨Z + 1, 5, none⟩ = false := blk_frozen bw2 5; have BW2 := Aside0.mk bw2; clear hd2 bw2))
        all_goals (go_wp2; go_meet; case rel => exact ⟨rfl, ⟨blk_far6 CB2.out (show g ≠ Z + 1 by omega) (.int .i64 y0) (.int .i64 y1) (.int .u64 y2) (.int .i64 y3) (.int .i64 y4) (.string y5)⟩, ⟨blk_far6 BR2.out (show Z ≠ Z + 1 by omega) (.int .i64 y0) (.int .i64 y1) (.int .u64 y2) (.int .i64 y3) (.int .i64 y4) (.string y5)⟩, ⟨blk_put6 BW2.out (.int .i64 y0) (.int .i64 y1) (.int .u64 y2) (.int .i64 y3) (.int .i64 y4) (.string y5)⟩, ⟨below_set6 HB2.out (by omega) (.int .i64 y0) (.int .i64 y1) (.int .u64 y2) (.int .i64 y3) (.int .i64 y4) (.string y5)⟩⟩)
      case rest =>
        obtain ⟨rfl, CB, BR, BW, HB⟩ := hcut
        have hF := HF2.out
        have HN : Aside0 ((y6 = 0 ∧ foldV kind y0 y1 y2 y3 y4 y5 (i + 1) (l.drop (i + 1)) = some (r0, r1, r2, r3, r4, r5, r6, nn)) ∨ (y6 ≠ 0 ∧ y6 = r6 ∧ i + 1 = nn ∧ r0 = 0 ∧ r1 = 0 ∧ r2 = 0 ∧ r3 = 0 ∧ r4 = 0 ∧ r5 = ⟨#[]⟩)) := by
          by_cases h6 : y6 = 0
          · rw [if_pos h6] at hF
            exact ⟨.inl ⟨h6, hF⟩⟩
          · rw [if_neg h6] at hF
            simp only [Option.some.injEq, Prod.mk.injEq] at hF
            obtain ⟨e0, e1, e2, e3, e4, e5, e6, e7⟩ := hF
            exact ⟨.inr ⟨h6, e6, e7, e0.symm, e1.symm, e2.symm, e3.symm, e4.symm, e5.symm⟩⟩
        cases gk with
        | zero => exact absurd HI.out (by omega)
        | succ k1 =>
          clear hF HF2 HA
          go_wp2
          go_roundg k1
          case measure => omega
          case rel => exact ⟨i + 1, y0, y1, y2, y3, y4, y5, y6, rfl, by congr 1, by congr 1, ⟨by have := HI.out; omega⟩, HN, CB, BR, BW, HB⟩
    · have hE : (f = r6 ∧ nn = i) ∧ (f ≠ 0 → r0 = 0 ∧ r1 = 0 ∧ r2 = 0 ∧ r3 = 0 ∧ r4 = 0 ∧ r5 = ⟨#[]⟩) ∧ (f = 0 → r0 = x0 ∧ r1 = x1 ∧ r2 = x2 ∧ r3 = x3 ∧ r4 = x4 ∧ r5 = x5) := by
        rcases HF.out with ⟨h0, h⟩ | ⟨h0, h6, hn, h⟩
        · have hI := HI.out
          rw [List.drop_of_length_le (by omega)] at h
          unfold foldV at h
          simp only [Option.some.injEq, Prod.mk.injEq] at h
          obtain ⟨e0, e1, e2, e3, e4, e5, e6, e7⟩ := h
          exact ⟨⟨by omega, e7.symm⟩, fun h => absurd h0 h, fun _ => ⟨e0.symm, e1.symm, e2.symm, e3.symm, e4.symm, e5.symm⟩⟩
        · exact ⟨⟨h6, hn.symm⟩, fun _ => h, fun h => absurd h h0⟩
      obtain ⟨⟨rfl, rfl⟩, hN, hY⟩ := hE
      have hlI := HI.out
      have bC := CB.out
      rw [Nat.zero_add] at bC
      have cC : wr.cell? ⟨g, 0, none⟩ = some (.int .i64 (nn : Int)) := (blk_cell bC 0).trans rfl
      have bW := BW.out
      have bR := BR.out
      by_cases h0 : f = 0
      · subst h0
        obtain ⟨rfl, rfl, rfl, rfl, rfl, rfl⟩ := hY rfl
        have hlb : decide ((nn : Int) < (l.length : Int)) = false := decide_eq_false (by omega)
        have hlb2 : decide (nn < l.length) = false := decide_eq_false (by omega)
        have cR0 : wr.cell? ⟨Z, 0, none⟩ = some (.int .i64 r0) := (blk_cell bR 0).trans rfl
        have cR1 : wr.cell? ⟨Z, 1, none⟩ = some (.int .i64 r1) := (blk_cell bR 1).trans rfl
        have cR2 : wr.cell? ⟨Z, 2, none⟩ = some (.int .u64 r2) := (blk_cell bR 2).trans rfl
        have cR3 : wr.cell? ⟨Z, 3, none⟩ = some (.int .i64 r3) := (blk_cell bR 3).trans rfl
        have cR4 : wr.cell? ⟨Z, 4, none⟩ = some (.int .i64 r4) := (blk_cell bR 4).trans rfl
        have cR5 : wr.cell? ⟨Z, 5, none⟩ = some (.string r5) := (blk_cell bR 5).trans rfl
        have cW0 : wr.cell? ⟨Z + 1, 0, none⟩ = some (.int .i64 r0) := (blk_cell bW 0).trans rfl
        have cW1 : wr.cell? ⟨Z + 1, 1, none⟩ = some (.int .i64 r1) := (blk_cell bW 1).trans rfl
        have cW2 : wr.cell? ⟨Z + 1, 2, none⟩ = some (.int .u64 r2) := (blk_cell bW 2).trans rfl
        have cW3 : wr.cell? ⟨Z + 1, 3, none⟩ = some (.int .i64 r3) := (blk_cell bW 3).trans rfl
        have cW4 : wr.cell? ⟨Z + 1, 4, none⟩ = some (.int .i64 r4) := (blk_cell bW 4).trans rfl
        have cW5 : wr.cell? ⟨Z + 1, 5, none⟩ = some (.string r5) := (blk_cell bW 5).trans rfl
        clear bW bR bC hN hY HF hgo
        go_wp2
        go_ret
        exact ⟨rfl, HB.out⟩
      · obtain ⟨rfl, rfl, rfl, rfl, rfl, rfl⟩ := hN h0
        have h0b : (f == 0) = false := beq_eq_false_iff_ne.2 h0
        have h0c : (f != 0) = true := bne_iff_ne.2 h0
        have hZZ : w.heap.size ≤ Z + 1 := by omega
        have cR0 : wr.cell? ⟨Z, 0, none⟩ = some (.int .i64 0) := (blk_cell bR 0).trans rfl
        have cR1 : wr.cell? ⟨Z, 1, none⟩ = some (.int .i64 0) := (blk_cell bR 1).trans rfl
        have cR2 : wr.cell? ⟨Z, 2, none⟩ = some (.int .u64 0) := (blk_cell bR 2).trans rfl
        have cR3 : wr.cell? ⟨Z, 3, none⟩ = some (.int .i64 0) := (blk_cell bR 3).trans rfl
        have cR4 : wr.cell? ⟨Z, 4, none⟩ = some (.int .i64 0) := (blk_cell bR 4).trans rfl
        have cR5 : wr.cell? ⟨Z, 5, none⟩ = some (.string ⟨#[]⟩) := (blk_cell bR 5).trans rfl
        have cW0 : wr.cell? ⟨Z + 1, 0, none⟩ = some (.int .i64 x0) := (blk_cell bW 0).trans rfl
        have fW0 : wr.frozen? ⟨Z + 1, 0, none⟩ = false := blk_frozen bW 0
        have cW1 : wr.cell? ⟨Z + 1, 1, none⟩ = some (.int .i64 x1) := (blk_cell bW 1).trans rfl
        have fW1 : wr.frozen? ⟨Z + 1, 1, none⟩ = false := blk_frozen bW 1
        have cW2 : wr.cell? ⟨Z + 1, 2, none⟩ = some (.int .u64 x2) := (blk_cell bW 2).trans rfl
        have fW2 : wr.frozen? ⟨Z + 1, 2, none⟩ = false := blk_frozen bW 2
        have cW3 : wr.cell? ⟨Z + 1, 3, none⟩ = some (.int .i64 x3) := (blk_cell bW 3).trans rfl
        have fW3 : wr.frozen? ⟨Z + 1, 3, none⟩ = false := blk_frozen bW 3
        have cW4 : wr.cell? ⟨Z + 1, 4, none⟩ = some (.int .i64 x4) := (blk_cell bW 4).trans rfl
        have fW4 : wr.frozen? ⟨Z + 1, 4, none⟩ = false := blk_frozen bW 4
        have cW5 : wr.cell? ⟨Z + 1, 5, none⟩ = some (.string x5) := (blk_cell bW 5).trans rfl
        have fW5 : wr.frozen? ⟨Z + 1, 5, none⟩ = false := blk_frozen bW 5
        clear bW bR bC hN hY HF hgo h0
        rcases (show nn < l.length ∨ ¬ nn < l.length by omega) with hz | hz
        all_goals
          first | have z1 : decide ((nn : Int) < (l.length : Int)) = true := decide_eq_true (by omega) | have z1 : decide ((nn : Int) < (l.length : Int)) = false := decide_eq_false (by omega)
          first | have z2 : decide (nn < l.length) = true := decide_eq_true hz | have z2 : decide (nn < l.length) = false := decide_eq_false hz
          clear hz
          go_wp2
          go_ret
          exact ⟨rfl, below_set6 HB.out hZZ _ _ _ _ _ _⟩

def headgatelaw15_AggFolds.f (k : Nat) (a0 : Int) (l1 : List S26) : Option Bool := if l1.all (fun v => decide (-9223372036854775808 ≤ v.f1 ∧ v.f1 ≤ 9223372036854775807)) = true then some true else none
theorem headgatelaw15_AggFolds.calls (k : Nat) (a0 : Int) (A1 : Option Addr) (c1 : Nat) (l1 : List S26) (r : Bool) (w : World) (hr1 : Kd.C k26 w A1 l1.length l1) (hc1 : l1.length ≤ c1) (h : headgatelaw15_AggFolds.f k a0 l1 = some r) :
    Calls Try.prog 5 #[.int .i64 a0, .slice A1 l1.length c1] w fun e w' => e = .returned (.bool r) ∧ Below w.heap.size w w' := by
  unfold headgatelaw15_AggFolds.f at h
  split at h
  · rename_i ha
    cases h
    have h64 : ∀ v ∈ l1, in64 v.f1 := fun v hv => by
      have := List.all_eq_true.1 ha v hv
      exact of_decide_eq_true this
    by_cases hl : 2000 < l1.length
    · exact folds_long a0 A1 c1 l1 w hr1 hl
    by_cases hk : a0 < 1 ∨ a0 > 5
    · exact folds_bad a0 hk A1 c1 l1 w hr1 hl
    · obtain ⟨r1, r2, r3, r4, r5, r6, r7, nn, hf⟩ := fold_good a0 l1 0 0 0 0 0 ⟨#[]⟩ 0 (by decide) h64
      exact folds_good a0 hk A1 c1 l1 w hr1 hc1 hl h64 r1 r2 r3 r4 r5 r6 r7 nn hf
  · cases h
theorem AggFolds_pure (a0 : Int) (l1 : List S26) (w0 : (Lit.int .i64 a0).wf = true) (hg1 : l1.length * 32 ≤ 140737488351232 ∧ ∀ y ∈ l1, ((Lit.int .i64 y.f0).wf = true) ∧ ((Lit.int .i64 y.f1).wf = true) ∧ (y.f2.size ≤ 140737488351232)) :
    ∃ k, headgatelaw15_AggFolds.f k a0 l1 = some true := by
  refine ⟨0, if_pos (List.all_eq_true.2 fun v hv => decide_eq_true ?_)⟩
  have := wf64 (hg1.2 v hv).2.1
  unfold in64 at this
  exact this
end Go.Proofs.Ytphdbhneefmkcaa.Q
