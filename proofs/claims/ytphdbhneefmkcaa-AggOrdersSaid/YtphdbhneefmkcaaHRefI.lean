/- headgateref01: the limbs of a sum, their sum, a sum of sums by limbs, a sum as a number: walked. -/
import Derived.Test.YtphdbhneefmkcaaHRef01

namespace Go.Proofs.Ytphdbhneefmkcaa.Q
open Go.RowKit Go.Proofs.YtphdbhneefmkcaaW.PrintWords Go.Proofs.YtphdbhneefmkcaaW.PrintLast Go.Proofs.YtphdbhneefmkcaaW.PrintMore
set_option linter.unusedVariables false
set_option linter.unusedSimpArgs false

def in64 (x : Int) : Prop := -9223372036854775808 ≤ x ∧ x ≤ 9223372036854775807
instance (x : Int) : Decidable (in64 x) := by unfold in64; infer_instance
/-- A sum's sign, where it is a number. -/
def signOf (b : Int) : Int := if 9223372036854775808 ≤ b then -1 else 0
def headgateref01_Int.f (a0_0 : Int) (a0_1 : Int) : Option (Int × Bool) :=
  if Parts a0_0 a0_1 then some (if a0_0 = signOf a0_1 then (wrap64 a0_1, true) else (0, false)) else none
theorem sign_limbs {a b x0 x1 x2 x3 x4 x5 x6 x7 s : Int} (p1 : -9223372036854775808 ≤ a) (p2 : a ≤ 9223372036854775807) (h0 : 0 ≤ x0 ∧ x0 ≤ 65535) (h1 : 0 ≤ x1 ∧ x1 ≤ 65535) (h2 : 0 ≤ x2 ∧ x2 ≤ 65535) (h3 : 0 ≤ x3 ∧ x3 ≤ 65535) (h4 : 0 ≤ x4 ∧ x4 ≤ 65535) (h5 : 0 ≤ x5 ∧ x5 ≤ 65535) (h6 : 0 ≤ x6 ∧ x6 ≤ 65535) (h7 : 0 ≤ x7 ∧ x7 ≤ 65535)
    (ex : b = x0 + x1 * 65536 + x2 * 4294967296 + x3 * 281474976710656 ∧ a % 18446744073709551616 = x4 + x5 * 65536 + x6 * 4294967296 + x7 * 281474976710656) (hs : s = if 32768 ≤ x3 then 65535 else 0) :
    (a = signOf b) ↔ (x4 = s ∧ x5 = s ∧ x6 = s ∧ x7 = s) := by
  have hb : (9223372036854775808 ≤ b) ↔ 32768 ≤ x3 := by omega
  unfold signOf
  by_cases h : 32768 ≤ x3
  · rw [if_pos (hb.2 h)]
    rw [if_pos h] at hs
    subst hs
    clear hb
    omega
  · rw [if_neg (fun z => h (hb.1 z))]
    rw [if_neg h] at hs
    subst hs
    clear hb
    omega
def intRes (a b : Int) : Value := if a = signOf b then .tuple #[.int .i64 (wrap64 b), .bool true] else .tuple #[.int .i64 0, .bool false]
set_option maxHeartbeats 4000000 in
set_option maxRecDepth 100000 in
theorem int_walk (a b : Int) (w : World) (p1 : -9223372036854775808 ≤ a) (p2 : a ≤ 9223372036854775807) (p3 : 0 ≤ b) (p4 : b ≤ 18446744073709551615) :
    Calls Try.prog 37 #[.agg #[.int .i64 a, .int .u64 b]] w fun e w' => e = .returned (intRes a b) ∧ Below w.heap.size w w' := by
  have hsg := fun (x0 x1 x2 x3 x4 x5 x6 x7 : Int) (h : 0 ≤ x0 ∧ x0 ≤ 65535 ∧ 0 ≤ x1 ∧ x1 ≤ 65535 ∧ 0 ≤ x2 ∧ x2 ≤ 65535 ∧ 0 ≤ x3 ∧ x3 ≤ 65535 ∧ 0 ≤ x4 ∧ x4 ≤ 65535 ∧ 0 ≤ x5 ∧ x5 ≤ 65535 ∧ 0 ≤ x6 ∧ x6 ≤ 65535 ∧ 0 ≤ x7 ∧ x7 ≤ 65535) e => @sign_limbs a b x0 x1 x2 x3 x4 x5 x6 x7 (if 32768 ≤ x3 then 65535 else 0) p1 p2 (by omega) (by omega) (by omega) (by omega) (by omega) (by omega) (by omega) (by omega) e rfl
  have HSG := Aside0.mk hsg
  clear hsg
  go_enter Try.func37, Try.ntmps37
  go_wp2_with fail
  refine (limbs_any a b _ p1 p2 p3 p4).mono ?_
  rintro e w1 ⟨x0, x1, x2, x3, x4, x5, x6, x7, rfl, hx, hex, hb1⟩
  have hiff := HSG.out x0 x1 x2 x3 x4 x5 x6 x7 hx hex
  have HI := Aside0.mk hiff
  have hz0 : w.heap.size < w1.heap.size := by have := hb1.size; simp at this; omega
  have b0 : w1.heap[w.heap.size]? = some (.cells #[.int .i64 a, .int .u64 b] 24) := blk_below (blk_new w _) hb1
  have hB : Below w.heap.size w w1 := below_step (by repeat (first | exact Below.refl _ _ | apply below_alloc)) hb1
  have HB := Aside0.mk hB
  have c0 : w1.cell? ⟨w.heap.size, 1, none⟩ = some (.int .u64 b) := (blk_cell b0 1).trans rfl
  clear hex hb1 hiff HSG b0 hB p1 p2
  obtain ⟨hx0, hx0', hx1, hx1', hx2, hx2', hx3, hx3', hx4, hx4', hx5, hx5', hx6, hx6', hx7, hx7'⟩ := hx
  by_cases h3 : 32768 ≤ x3
  · by_cases e4 : x4 = 65535
    · subst e4
      by_cases e5 : x5 = 65535
      · subst e5
        by_cases e6 : x6 = 65535
        · subst e6
          by_cases e7 : x7 = 65535
          · subst e7
            have hyes : a = signOf b := HI.out.2 ⟨by first | rw [if_pos h3] | rw [if_neg h3], by first | rw [if_pos h3] | rw [if_neg h3], by first | rw [if_pos h3] | rw [if_neg h3], by first | rw [if_pos h3] | rw [if_neg h3]⟩
            have HY := Aside0.mk hyes
            clear hyes
            go_wp2_with fail
            refine wp_loop_rounds 5 ?_
            rw [rounds_succ]
            go_wp2
            rw [rounds_succ]
            go_wp2
            rw [rounds_succ]
            go_wp2
            rw [rounds_succ]
            go_wp2
            rw [rounds_succ]
            go_wp2
            go_ret2
            exact ⟨by unfold intRes; rw [if_pos HY.out]; rfl, by with_reducible repeat (first | exact HB.out | apply below_alloc)⟩
          · have hne : (x7 != 65535) = true := by rw [bne_iff_ne]; exact e7
            have hno : ¬ a = signOf b := fun h => e7 (by have z := HI.out.1 h; (first | rw [if_pos h3] at z | rw [if_neg h3] at z); exact z.2.2.2)
            have HN := Aside0.mk hno
            clear hno e7
            go_wp2_with fail
            refine wp_loop_rounds 4 ?_
            rw [rounds_succ]
            go_wp2
            rw [rounds_succ]
            go_wp2
            rw [rounds_succ]
            go_wp2
            rw [rounds_succ]
            go_wp2
            go_ret2
            exact ⟨by unfold intRes; rw [if_neg HN.out]; rfl, by with_reducible repeat (first | exact HB.out | apply below_alloc)⟩
        · have hne : (x6 != 65535) = true := by rw [bne_iff_ne]; exact e6
          have hno : ¬ a = signOf b := fun h => e6 (by have z := HI.out.1 h; (first | rw [if_pos h3] at z | rw [if_neg h3] at z); exact z.2.2.1)
          have HN := Aside0.mk hno
          clear hno e6
          go_wp2_with fail
          refine wp_loop_rounds 3 ?_
          rw [rounds_succ]
          go_wp2
          rw [rounds_succ]
          go_wp2
          rw [rounds_succ]
          go_wp2
          go_ret2
          exact ⟨by unfold intRes; rw [if_neg HN.out]; rfl, by with_reducible repeat (first | exact HB.out | apply below_alloc)⟩
      · have hne : (x5 != 65535) = true := by rw [bne_iff_ne]; exact e5
        have hno : ¬ a = signOf b := fun h => e5 (by have z := HI.out.1 h; (first | rw [if_pos h3] at z | rw [if_neg h3] at z); exact z.2.1)
        have HN := Aside0.mk hno
        clear hno e5
        go_wp2_with fail
        refine wp_loop_rounds 2 ?_
        rw [rounds_succ]
        go_wp2
        rw [rounds_succ]
        go_wp2
        go_ret2
        exact ⟨by unfold intRes; rw [if_neg HN.out]; rfl, by with_reducible repeat (first | exact HB.out | apply below_alloc)⟩
    · have hne : (x4 != 65535) = true := by rw [bne_iff_ne]; exact e4
      have hno : ¬ a = signOf b := fun h => e4 (by have z := HI.out.1 h; (first | rw [if_pos h3] at z | rw [if_neg h3] at z); exact z.1)
      have HN := Aside0.mk hno
      clear hno e4
      go_wp2_with fail
      refine wp_loop_rounds 1 ?_
      rw [rounds_succ]
      go_wp2
      go_ret2
      exact ⟨by unfold intRes; rw [if_neg HN.out]; rfl, by with_reducible repeat (first | exact HB.out | apply below_alloc)⟩
  · by_cases e4 : x4 = 0
    · subst e4
      by_cases e5 : x5 = 0
      · subst e5
        by_cases e6 : x6 = 0
        · subst e6
          by_cases e7 : x7 = 0
          · subst e7
            have hyes : a = signOf b := HI.out.2 ⟨by first | rw [if_pos h3] | rw [if_neg h3], by first | rw [if_pos h3] | rw [if_neg h3], by first | rw [if_pos h3] | rw [if_neg h3], by first | rw [if_pos h3] | rw [if_neg h3]⟩
            have HY := Aside0.mk hyes
            clear hyes
            go_wp2_with fail
            refine wp_loop_rounds 5 ?_
            rw [rounds_succ]
            go_wp2
            rw [rounds_succ]
            go_wp2
            rw [rounds_succ]
            go_wp2
            rw [rounds_succ]
            go_wp2
            rw [rounds_succ]
            go_wp2
            go_ret2
            exact ⟨by unfold intRes; rw [if_pos HY.out]; rfl, by with_reducible repeat (first | exact HB.out | apply below_alloc)⟩
          · have hne : (x7 != 0) = true := by rw [bne_iff_ne]; exact e7
            have hno : ¬ a = signOf b := fun h => e7 (by have z := HI.out.1 h; (first | rw [if_pos h3] at z | rw [if_neg h3] at z); exact z.2.2.2)
            have HN := Aside0.mk hno
            clear hno e7
            go_wp2_with fail
            refine wp_loop_rounds 4 ?_
            rw [rounds_succ]
            go_wp2
            rw [rounds_succ]
            go_wp2
            rw [rounds_succ]
            go_wp2
            rw [rounds_succ]
            go_wp2
            go_ret2
            exact ⟨by unfold intRes; rw [if_neg HN.out]; rfl, by with_reducible repeat (first | exact HB.out | apply below_alloc)⟩
        · have hne : (x6 != 0) = true := by rw [bne_iff_ne]; exact e6
          have hno : ¬ a = signOf b := fun h => e6 (by have z := HI.out.1 h; (first | rw [if_pos h3] at z | rw [if_neg h3] at z); exact z.2.2.1)
          have HN := Aside0.mk hno
          clear hno e6
          go_wp2_with fail
          refine wp_loop_rounds 3 ?_
          rw [rounds_succ]
          go_wp2
          rw [rounds_succ]
          go_wp2
          rw [rounds_succ]
          go_wp2
          go_ret2
          exact ⟨by unfold intRes; rw [if_neg HN.out]; rfl, by with_reducible repeat (first | exact HB.out | apply below_alloc)⟩
      · have hne : (x5 != 0) = true := by rw [bne_iff_ne]; exact e5
        have hno : ¬ a = signOf b := fun h => e5 (by have z := HI.out.1 h; (first | rw [if_pos h3] at z | rw [if_neg h3] at z); exact z.2.1)
        have HN := Aside0.mk hno
        clear hno e5
        go_wp2_with fail
        refine wp_loop_rounds 2 ?_
        rw [rounds_succ]
        go_wp2
        rw [rounds_succ]
        go_wp2
        go_ret2
        exact ⟨by unfold intRes; rw [if_neg HN.out]; rfl, by with_reducible repeat (first | exact HB.out | apply below_alloc)⟩
    · have hne : (x4 != 0) = true := by rw [bne_iff_ne]; exact e4
      have hno : ¬ a = signOf b := fun h => e4 (by have z := HI.out.1 h; (first | rw [if_pos h3] at z | rw [if_neg h3] at z); exact z.1)
      have HN := Aside0.mk hno
      clear hno e4
      go_wp2_with fail
      refine wp_loop_rounds 1 ?_
      rw [rounds_succ]
      go_wp2
      go_ret2
      exact ⟨by unfold intRes; rw [if_neg HN.out]; rfl, by with_reducible repeat (first | exact HB.out | apply below_alloc)⟩
theorem headgateref01_Int.calls (a0_0 : Int) (a0_1 : Int) (r1 : Int) (r2 : Bool) (w : World) (h : headgateref01_Int.f a0_0 a0_1 = some (r1, r2)) :
    Calls Try.prog 37 #[.agg #[.int .i64 a0_0, .int .u64 a0_1]] w fun e w' => e = .returned (.tuple #[.int .i64 r1, .bool r2]) ∧ Below w.heap.size w w' := by
  unfold headgateref01_Int.f at h
  split at h
  · rename_i hp
    obtain ⟨p1, p2, p3, p4⟩ := hp
    have hr := Option.some.inj h
    refine (int_walk a0_0 a0_1 w p1 p2 p3 p4).mono fun e w' hq => ⟨?_, hq.2⟩
    rw [hq.1]
    unfold intRes
    split
    · rename_i hs
      rw [if_pos hs] at hr
      obtain ⟨rfl, rfl⟩ := Prod.mk.inj hr
      rfl
    · rename_i hs
      rw [if_neg hs] at hr
      obtain ⟨rfl, rfl⟩ := Prod.mk.inj hr
      rfl
  · cases h
end Go.Proofs.Ytphdbhneefmkcaa.Q
