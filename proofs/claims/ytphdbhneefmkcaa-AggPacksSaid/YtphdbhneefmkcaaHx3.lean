-- Written by a program of the session over the translation's print: functions as plain Lean, and that the machine's call comes to them.
import Derived.Test.YtphdbhneefmkcaaHx0
import Derived.Test.YtphdbhneefmkcaaAx1
namespace Go.Proofs.Ytphdbhneefmkcaa.Q
open Go.RowKit Go.Proofs.YtphdbhneefmkcaaW.PrintWords Go.Proofs.YtphdbhneefmkcaaW.PrintLast Go.Proofs.YtphdbhneefmkcaaW.PrintMore
attribute [local go_sem] max2_int min2_int max_two min_two max_three min_three max_four min_four   -- for this text's walks alone
set_option linter.unusedVariables false
set_option linter.unusedSimpArgs false

/-! ### headgateref15_Unpack: function 26 -/
mutual
def headgateref15_Unpack.j0 : Nat → List (S26) → Bool → Option (Int × Int × Int × Int × Int × ByteArray × Bool)
  | 0, _, _ => none
  | k + 1, x0, x14 => if x14 = true then (some (0, 0, 0, 0, 0, (⟨#[]⟩ : ByteArray), false)) else (headgateref15_Unpack.l0 k x0 0)
def headgateref15_Unpack.l0 : Nat → List (S26) → Int → Option (Int × Int × Int × Int × Int × ByteArray × Bool)
  | 0, _, _ => none
  | k + 1, x0, x4 => if x4 < 3 then (if 0 ≤ x4 then (if x4 < (x0.length : Int) then (if ((rd_T26 x0 x4).f0) = 1 then (if ((rd_T26 x0 x4).f2).toList = ([] : List UInt8) then (headgateref15_Unpack.l0 k x0 (wrap64 (x4 + 1))) else (some (0, 0, 0, 0, 0, (⟨#[]⟩ : ByteArray), false))) else (some (0, 0, 0, 0, 0, (⟨#[]⟩ : ByteArray), false))) else (none)) else (none)) else (if 0 < (x0.length : Int) then (if 1 < (x0.length : Int) then (if 2 < (x0.length : Int) then (if 3 < (x0.length : Int) then (some ((rd_T26 x0 0).f1, (rd_T26 x0 1).f1, IntKind.u64.wrap ((rd_T26 x0 2).f1), (rd_T26 x0 3).f0, (rd_T26 x0 3).f1, (rd_T26 x0 3).f2, true)) else (none)) else (none)) else (none)) else (none))
end
def headgateref15_Unpack.f (k : Nat) (l0 : List (S26)) : Option (Int × Int × Int × Int × Int × ByteArray × Bool) := if (l0.length : Int) = 4 then (if 3 < (l0.length : Int) then ((headgateref03_Check.f k ((rd_T26 l0 3).f0) ((rd_T26 l0 3).f1) ((rd_T26 l0 3).f2)).bind fun t141 => (headgateref15_Unpack.j0 k l0 (t141 != 0))) else (none)) else (headgateref15_Unpack.j0 k l0 true)
theorem headgateref15_Unpack.mono_l : ∀ k, (∀ y0 y1, LeO (headgateref15_Unpack.j0 k y0 y1) (headgateref15_Unpack.j0 (k + 1) y0 y1)) ∧ (∀ y0 y1, LeO (headgateref15_Unpack.l0 k y0 y1) (headgateref15_Unpack.l0 (k + 1) y0 y1))
  | 0 => ⟨fun _ _ r h => by simp [headgateref15_Unpack.j0] at h, fun _ _ r h => by simp [headgateref15_Unpack.l0] at h⟩
  | k + 1 => by
    obtain ⟨ih0, ih1⟩ := headgateref15_Unpack.mono_l k
    refine ⟨?_, ?_⟩
    · intro y0 y1
      unfold headgateref15_Unpack.j0
      repeat' first
      | (with_reducible exact ih0 _ _)
      | (with_reducible exact ih1 _ _)
      | (with_reducible exact headgateref03_Check.mono _ _ _ _)
      | (with_reducible exact LeO.refl _)
      | (with_reducible exact LeO.none _)
      | (with_reducible refine LeO.ite ?_ ?_)
      | (with_reducible refine LeO.bind ?_ (fun _ => ?_))
      | exact ih0 _ _
      | exact ih1 _ _
      | exact headgateref03_Check.mono _ _ _ _
      | exact LeO.none _
      | refine LeO.ite ?_ ?_
      | refine LeO.bind ?_ (fun _ => ?_)
    · intro y0 y1
      unfold headgateref15_Unpack.l0
      repeat' first
      | (with_reducible exact ih0 _ _)
      | (with_reducible exact ih1 _ _)
      | (with_reducible exact headgateref03_Check.mono _ _ _ _)
      | (with_reducible exact LeO.refl _)
      | (with_reducible exact LeO.none _)
      | (with_reducible refine LeO.ite ?_ ?_)
      | (with_reducible refine LeO.bind ?_ (fun _ => ?_))
      | exact ih0 _ _
      | exact ih1 _ _
      | exact headgateref03_Check.mono _ _ _ _
      | exact LeO.none _
      | refine LeO.ite ?_ ?_
      | refine LeO.bind ?_ (fun _ => ?_)
theorem headgateref15_Unpack.mono : ∀ a0 k, LeO (headgateref15_Unpack.f k a0) (headgateref15_Unpack.f (k + 1) a0) := by
  intro a0 k
  obtain ⟨ih0, ih1⟩ := headgateref15_Unpack.mono_l k
  unfold headgateref15_Unpack.f
  repeat' first
      | (with_reducible exact ih0 _ _)
      | (with_reducible exact ih1 _ _)
      | (with_reducible exact headgateref03_Check.mono _ _ _ _)
      | (with_reducible exact LeO.refl _)
      | (with_reducible exact LeO.none _)
      | (with_reducible refine LeO.ite ?_ ?_)
      | (with_reducible refine LeO.bind ?_ (fun _ => ?_))
      | exact ih0 _ _
      | exact ih1 _ _
      | exact headgateref03_Check.mono _ _ _ _
      | exact LeO.none _
      | refine LeO.ite ?_ ?_
      | refine LeO.bind ?_ (fun _ => ?_)
def headgateref15_Unpack.T8 : Bool × List (List Nat × List Nat) := (true, [([], []), ([0], [0]), ([1], [1]), ([2], [2]), ([], []), ([4], [4]), ([5], [5]), ([6], [6]), ([], []), ([8], [8]), ([9], [9]), ([10], [10]), ([11], [11]), ([7, 12], [7, 12]), ([], []), ([14], [14]), ([15], [15]), ([3, 13, 16], [3, 13, 16]), ([17, 0, 1, 2, 3, 4, 5, 6, 7, 8, 9, 10, 11, 12, 13, 14, 15, 16, 17], [17]), ([18, 0, 1, 2, 3, 4, 5, 6, 7, 8, 9, 10, 11, 12, 13, 14, 15, 16, 17, 18], [])])
def headgateref15_Unpack.B8 : List Nat := [0, 1, 3, 7, 0, 16, 48, 112, 0, 256, 768, 1792, 3840, 8176, 0, 16384, 49152, 131071, 262143, 524287]
theorem headgateref15_Unpack.tab8 : rtab .any (opsOf Try.f26 8) = headgateref15_Unpack.T8 := by kernel_rfl
theorem headgateref15_Unpack.bits8 : waitsOk headgateref15_Unpack.T8.2 headgateref15_Unpack.B8 = true := by kernel_rfl
set_option maxHeartbeats 8000000 in
set_option maxRecDepth 100000 in
theorem headgateref15_Unpack.calls (k : Nat) (A0 : Option Addr) (c0 : Nat) (l0 : List (S26)) (r1 : Int) (r2 : Int) (r3 : Int) (r4 : Int) (r5 : Int) (r6 : ByteArray) (r7 : Bool) (w : World) (hr0 : Kd.C k26 w A0 l0.length l0) (hc0 : l0.length ≤ c0) (h : headgateref15_Unpack.f k l0 = some (r1, r2, r3, r4, r5, r6, r7)) :
    Calls Try.prog 26 #[.slice A0 l0.length c0] w fun e w' => e = .returned (.tuple #[.agg #[.int .i64 r1, .int .i64 r2, .int .u64 r3, .int .i64 r4, .int .i64 r5, .string r6], .bool r7]) ∧ Below w.heap.size w w' := by
  have hu33 := Try.underlying33
  have hu26 := Try.underlying26
  have hu24 := Try.underlying24
  have HR0 := Aside0.mk hr0
  have HC0 := Aside0.mk hc0
  clear hr0 hc0
  have HB := Aside0.mk (Below.refl w.heap.size w)
  have H : (if (l0.length : Int) = 4 then (if 3 < (l0.length : Int) then ((headgateref03_Check.f k ((rd_T26 l0 3).f0) ((rd_T26 l0 3).f1) ((rd_T26 l0 3).f2)).bind fun t141 => (headgateref15_Unpack.j0 k l0 (t141 != 0))) else (none)) else (headgateref15_Unpack.j0 k l0 true)) = some (r1, r2, r3, r4, r5, r6, r7) := h
  clear h
  have HC2 := Aside0.mk H
  clear H
  go_enter Try.func26, Try.ntmps26
  go_upto_region 1 with (first | ((with_reducible refine gate_dst (N := 2) rfl ?_); refine box_event ?hg (N := 2) ?hd (cs := #[.int .i64 0, .int .i64 0, .int .u64 0, .int .i64 0, .int .i64 0, .string (⟨#[]⟩ : ByteArray)]) (t := 33) ?hr ?_; (case hd => rfl); (case hg => rfl); (case hr => first | (go_simp; done) | (go_simp; rfl)); intro gb139 hg w3 hbox hb; have n0_ := Aside0.mk (below_step (by repeat (first | (with_reducible first | exact HB.out | apply below_alloc | apply pw_below_drewN | apply below_drew1) | exact HB.out)) hb); have n1_ := Aside0.mk (hbox); have n2_ := Aside0.mk ((by rw [hg]; exact (below_size (by repeat (first | (with_reducible first | exact HB.out | apply below_alloc | apply pw_below_drewN | apply below_drew1) | exact HB.out))) : w.heap.size ≤ gb139)); have n3_ := Aside0.mk ((by rw [hg]; exact (below_size (by repeat (first | (with_reducible first | exact HB.out | apply below_alloc | apply pw_below_drewN | apply below_drew1) | exact HB.out))) : w.heap.size ≤ gb139)); clear HB; have HB := n0_; have BK139 := n1_; have GW139 := n2_; have GE139 := n3_; clear n0_ n1_ n2_ n3_; clear hb hbox hg))
  (try simp only [Act.put, List.setIfInBounds_toArray, List.set_cons_zero, List.set_cons_succ])
  go_cut [14] (fun v14 wc => ∃ (kq : Nat) (x14_1 : Bool), v14 = .bool x14_1 ∧ Aside0 (headgateref15_Unpack.j0 kq l0 x14_1 = some (r1, r2, r3, r4, r5, r6, r7)) ∧ Aside0 (kq ≤ k) ∧ Aside0 (wc.heap[gb139]? = some (.cells #[.int .i64 0, .int .i64 0, .int .u64 0, .int .i64 0, .int .i64 0, .string (⟨#[]⟩ : ByteArray)] 33 (0, 0))) ∧ Aside0 (Below w.heap.size w wc))
  case first =>
    have H := HC2.out
    clear HC2
    by_cases c4 : (l0.length : Int) = 4
    · rw [if_pos c4] at H
      have c4b0 : ((l0.length : Int) == 4) = true := beq_iff_eq.mpr c4
      have c4b1 : ((l0.length : Int) != 4) = false := bne_eq_false_iff_eq.mpr c4
      clear c4
      (first | rw [c4b0] | (simp only [i64_w, i32_w]; rw [c4b0]) | skip)
      by_cases c5 : 3 < (l0.length : Int)
      · rw [if_pos c5] at H
        have c5b0 : decide (3 < (l0.length : Int)) = true := decide_eq_true c5
        have c5b1 : decide (3 < l0.length) = true := decide_eq_true (by omega)
        clear c5
        replace H := Option.bind_eq_some_iff.mp H
        obtain ⟨t141, A60, H⟩ := H
        replace H : (headgateref15_Unpack.j0 k l0 (t141 != 0)) = some (r1, r2, r3, r4, r5, r6, r7) := H
        have A6 := Aside0.mk A60
        clear A60
        have H' := Aside0.mk H
        clear H
        have p140 : 0 ≤ (3 : Int) := (by omega)
        have q140 : 3 < (l0.length : Int) := of_decide_eq_true (by first | (with_reducible assumption) | assumption)
        obtain ⟨ad140, e140, hx140_0, hx140_1, hx140_2⟩ := at_T26 HR0.out 3 p140 q140
        cases e140
        (try simp only [show (3 : Int).toNat = 3 from rfl, Nat.reduceMul, Nat.reduceEqDiff, Go.Addr.add, ↓reduceIte] at hx140_0)
        (try simp only [show (3 : Int).toNat = 3 from rfl, Nat.reduceMul, Nat.reduceEqDiff, Go.Addr.add, ↓reduceIte] at hx140_1)
        (try simp only [show (3 : Int).toNat = 3 from rfl, Nat.reduceMul, Nat.reduceEqDiff, Go.Addr.add, ↓reduceIte] at hx140_2)
        have qi140 : (3 < l0.length) = True := eq_true (by omega)
        (try rw [show ((3 : Int)).toNat = 3 from rfl] at hx140_0)
        (try rw [show 3 * 3 = 9 from rfl] at hx140_0)
        (try rw [show ((3 : Int)).toNat = 3 from rfl] at hx140_1)
        (try rw [show 3 * 3 = 9 from rfl] at hx140_1)
        (try rw [show ((3 : Int)).toNat = 3 from rfl] at hx140_2)
        (try rw [show 3 * 3 = 9 from rfl] at hx140_2)
        replace hx140_0 := (HB.out.cell (World.block_lt_of_cell? w _ hx140_0)).trans hx140_0
        replace hx140_1 := (HB.out.cell (World.block_lt_of_cell? w _ hx140_1)).trans hx140_1
        replace hx140_2 := (HB.out.cell (World.block_lt_of_cell? w _ hx140_2)).trans hx140_2
        replace p140 := eq_true p140
        replace q140 := eq_true q140
        go_wp2_with (first | (go_at_call 18; (with_reducible refine (headgateref03_Check.calls k ((rd_T26 l0 3).f0) ((rd_T26 l0 3).f1) ((rd_T26 l0 3).f2) t141 _ A6.out).mono ?_); rintro e w7 ⟨rfl, hb⟩; have n0_ := Aside0.mk (blk_below (g := gb139) (o := .cells #[.int .i64 0, .int .i64 0, .int .u64 0, .int .i64 0, .int .i64 0, .string (⟨#[]⟩ : ByteArray)] 33 (0, 0)) (by (with_reducible repeat (first | refine blk_drewN ?_ _ | refine blk_drew ?_ | refine blk_alloc ?_ _)); exact BK139.out) hb); have n1_ := Aside0.mk (below_step (by repeat (first | (with_reducible first | exact HB.out | apply below_alloc | apply pw_below_drewN | apply below_drew1 | refine below_set ?_ GE139.out) | exact HB.out)) hb); clear BK139; clear HB; have BK139 := n0_; have HB := n1_; clear n0_ n1_; (try clear hb); (try clear hb2); (try clear hk); (try clear hi)))
        go_meet
        case rel => exact ⟨_, ((t141 != 0)), (by first | rfl | (simp; done) | (simp [*]; done) | (simp; rw [Bool.eq_iff_iff]; simp; done)), H', ⟨by first | omega | exact Nat.le_refl _⟩, ⟨by (with_reducible repeat (first | refine blk_drewN ?_ _ | refine blk_drew ?_ | refine blk_alloc ?_ _)); exact BK139.out⟩, ⟨by repeat (first | (with_reducible first | exact HB.out | apply below_alloc | apply pw_below_drewN | apply below_drew1 | refine below_set ?_ GE139.out) | exact HB.out)⟩⟩
      · rw [if_neg c5] at H
        exact absurd H (by simp)
    · rw [if_neg c4] at H
      have c4b0 : ((l0.length : Int) == 4) = false := beq_eq_false_iff_ne.mpr c4
      have c4b1 : ((l0.length : Int) != 4) = true := bne_iff_ne.mpr c4
      (first | rw [c4b0] | (simp only [i64_w, i32_w]; rw [c4b0]) | skip)
      have H' := Aside0.mk H
      clear H
      go_wp2
      go_meet
      case rel => exact ⟨_, (true), (by first | rfl | (simp; done) | (simp [*]; done) | (simp; rw [Bool.eq_iff_iff]; simp; done)), H', ⟨by first | omega | exact Nat.le_refl _⟩, ⟨by (with_reducible repeat (first | refine blk_drewN ?_ _ | refine blk_drew ?_ | refine blk_alloc ?_ _)); exact BK139.out⟩, ⟨by repeat (first | (with_reducible first | exact HB.out | apply below_alloc | apply pw_below_drewN | apply below_drew1 | refine below_set ?_ GE139.out) | exact HB.out)⟩⟩
  case rest =>
    clear HC2
    try clear p1
    try clear q1
    try clear hx1
    try clear qi1
    try clear c2
    try clear p2
    try clear c4
    try clear c4b0
    try clear c4b1
    try clear c5
    try clear c5b0
    try clear c5b1
    try clear hx140_0
    try clear hx140_1
    try clear hx140_2
    try clear p140
    try clear q140
    obtain ⟨kq, x14_1, rfl, HA, HJ1, BK139, HB⟩ := hcut
    cases kq with
    | zero => exact absurd HA.out (by simp [headgateref15_Unpack.j0])
    | succ kj1 =>
      have H := HA.out
      clear HA
      simp only [headgateref15_Unpack.j0] at H
      by_cases c8 : x14_1 = true
      · subst c8
        have H1 : (some (0, 0, 0, 0, 0, (⟨#[]⟩ : ByteArray), false)) = some (r1, r2, r3, r4, r5, r6, r7) := by rw [if_pos rfl] at H; exact H
        clear H
        have H := H1
        clear H1
        simp only [Option.some.injEq, Prod.mk.injEq] at H
        obtain ⟨rfl, rfl, rfl, rfl, rfl, rfl, rfl⟩ := H
        obtain ⟨hcz9_0, hcz9_1, hcz9_2, hcz9_3, hcz9_4, hcz9_5, hfz9_0, hfz9_1, hfz9_2, hfz9_3, hfz9_4, hfz9_5⟩ := bf6 BK139.out
        go_wp2
        refine bodyPost_ret (results_ct rfl _ _ gb139 33 #[.int .i64 0, .int .i64 0, .int .u64 0, .int .i64 0, .int .i64 0, .string (⟨#[]⟩ : ByteArray)] (0, 0) _ rfl (by (with_reducible repeat (first | refine blk_drewN ?_ _ | refine blk_drew ?_ | refine blk_alloc ?_ _)); refine blk_put (cs := #[.int .i64 0, .int .i64 0, .int .u64 0, .int .i64 0, .int .i64 0, .string (⟨#[]⟩ : ByteArray)]) ?_ 5 _ rfl; (with_reducible repeat (first | refine blk_drewN ?_ _ | refine blk_drew ?_ | refine blk_alloc ?_ _)); refine blk_put (cs := #[.int .i64 0, .int .i64 0, .int .u64 0, .int .i64 0, .int .i64 0, .string (⟨#[]⟩ : ByteArray)]) ?_ 4 _ rfl; (with_reducible repeat (first | refine blk_drewN ?_ _ | refine blk_drew ?_ | refine blk_alloc ?_ _)); refine blk_put (cs := #[.int .i64 0, .int .i64 0, .int .u64 0, .int .i64 0, .int .i64 0, .string (⟨#[]⟩ : ByteArray)]) ?_ 3 _ rfl; (with_reducible repeat (first | refine blk_drewN ?_ _ | refine blk_drew ?_ | refine blk_alloc ?_ _)); refine blk_put (cs := #[.int .i64 0, .int .i64 0, .int .u64 0, .int .i64 0, .int .i64 0, .string (⟨#[]⟩ : ByteArray)]) ?_ 2 _ rfl; (with_reducible repeat (first | refine blk_drewN ?_ _ | refine blk_drew ?_ | refine blk_alloc ?_ _)); refine blk_put (cs := #[.int .i64 0, .int .i64 0, .int .u64 0, .int .i64 0, .int .i64 0, .string (⟨#[]⟩ : ByteArray)]) ?_ 1 _ rfl; (with_reducible repeat (first | refine blk_drewN ?_ _ | refine blk_drew ?_ | refine blk_alloc ?_ _)); refine blk_put (cs := #[.int .i64 0, .int .i64 0, .int .u64 0, .int .i64 0, .int .i64 0, .string (⟨#[]⟩ : ByteArray)]) ?_ 0 _ rfl; (with_reducible repeat (first | refine blk_drewN ?_ _ | refine blk_drew ?_ | refine blk_alloc ?_ _)); exact BK139.out) Try.underlying33 rfl (by kernel_rfl)) rfl ?_
        exact ⟨by first | rfl | (simp [errW_none, errW_some] <;> rfl) | (simp [*, errW_none, errW_some] <;> rfl), by repeat (first | (with_reducible first | exact HB.out | apply below_alloc | apply pw_below_drewN | apply below_drew1 | refine below_set ?_ GE139.out) | exact HB.out)⟩
      · replace c8 := Bool.eq_false_iff.mpr c8
        subst c8
        have H1 : (headgateref15_Unpack.l0 kj1 l0 0) = some (r1, r2, r3, r4, r5, r6, r7) := by rw [if_neg (show ¬ (false = true) by decide)] at H; exact H
        clear H
        have H := H1
        clear H1
        have H' := Aside0.mk H
        clear H
        go_wp2
        go_loopg [4] kj1 (fun kq v4 w' => ∃ (x4_2 : Int) (x140000_2 : Int) (x140001_2 : Int) (x140002_2 : Int) (x140003_2 : Int) (x140004_2 : Int) (x140005_2 : ByteArray), v4 = .int .i64 x4_2 ∧ Aside0 (headgateref15_Unpack.l0 kq l0 x4_2 = some (r1, r2, r3, r4, r5, r6, r7)) ∧ Aside0 (kq ≤ kj1) ∧ Aside0 (w'.heap[gb139]? = some (.cells #[.int .i64 x140000_2, .int .i64 x140001_2, .int .u64 x140002_2, .int .i64 x140003_2, .int .i64 x140004_2, .string x140005_2] 33 (0, 0))) ∧ Aside0 (Below w.heap.size w w'))
        case atStart => exact ⟨(0), (0), (0), (0), (0), (0), ((⟨#[]⟩ : ByteArray)), (by first | rfl | (simp; done) | (simp [*]; done) | (simp; rw [Bool.eq_iff_iff]; simp; done)), H', ⟨Nat.le_refl _⟩, ⟨by (with_reducible repeat (first | refine blk_drewN ?_ _ | refine blk_drew ?_ | refine blk_alloc ?_ _)); exact BK139.out⟩, ⟨by repeat (first | (with_reducible first | exact HB.out | apply below_alloc | apply pw_below_drewN | apply below_drew1 | refine below_set ?_ GE139.out) | exact HB.out)⟩⟩
        case round =>
          clear H'
          try clear p1
          try clear q1
          try clear hx1
          try clear qi1
          try clear c2
          try clear p2
          try clear c4
          try clear c4b0
          try clear c4b1
          try clear c5
          try clear c5b0
          try clear c5b1
          try clear c8
          try clear hcz9_0
          try clear hcz9_1
          try clear hcz9_2
          try clear hcz9_3
          try clear hcz9_4
          try clear hcz9_5
          try clear hfz9_0
          try clear hfz9_1
          try clear hfz9_2
          try clear hfz9_3
          try clear hfz9_4
          try clear hfz9_5
          try clear hx140_0
          try clear hx140_1
          try clear hx140_2
          try clear p1
          try clear p140
          try clear p2
          try clear q1
          try clear q140
          obtain ⟨x4_2, x140000_2, x140001_2, x140002_2, x140003_2, x140004_2, x140005_2, rfl, HA, HK2, BK139, HB⟩ := hrel
          cases gk with
          | zero => exact absurd HA.out (by simp [headgateref15_Unpack.l0])
          | succ k2 =>
            have H := HA.out
            clear HA
            simp only [headgateref15_Unpack.l0] at H
            by_cases c10 : x4_2 < 3
            · rw [if_pos c10] at H
              have c10b0 : decide (x4_2 < 3) = true := decide_eq_true c10
              clear c10
              by_cases c11 : 0 ≤ x4_2
              · rw [if_pos c11] at H
                have c11b0 : decide (0 ≤ x4_2) = true := decide_eq_true c11
                clear c11
                by_cases c12 : x4_2 < (l0.length : Int)
                · rw [if_pos c12] at H
                  have c12b0 : decide (x4_2 < (l0.length : Int)) = true := decide_eq_true c12
                  clear c12
                  by_cases c13 : ((rd_T26 l0 x4_2).f0) = 1
                  · rw [if_pos c13] at H
                    have c13b0 : (((rd_T26 l0 x4_2).f0) == 1) = true := beq_iff_eq.mpr c13
                    have c13b1 : (((rd_T26 l0 x4_2).f0) != 1) = false := bne_eq_false_iff_eq.mpr c13
                    clear c13
                    by_cases c14 : ((rd_T26 l0 x4_2).f2).toList = ([] : List UInt8)
                    · rw [if_pos c14] at H
                      have c14b0 : (((rd_T26 l0 x4_2).f2).toList == ([] : List UInt8)) = true := beq_iff_eq.mpr c14
                      have c14b1 : (((rd_T26 l0 x4_2).f2).toList != ([] : List UInt8)) = false := bne_eq_false_iff_eq.mpr c14
                      clear c14
                      have H' := Aside0.mk H
                      clear H
                      have p146 : 0 ≤ (x4_2 : Int) := of_decide_eq_true (by first | (with_reducible assumption) | assumption)
                      have q146 : x4_2 < (l0.length : Int) := of_decide_eq_true (by first | (with_reducible assumption) | assumption)
                      obtain ⟨ad146, e146, hx146_0, hx146_1, hx146_2⟩ := at_T26 HR0.out x4_2 p146 q146
                      cases e146
                      replace hx146_0 := (HB.out.cell (World.block_lt_of_cell? w _ hx146_0)).trans hx146_0
                      replace hx146_1 := (HB.out.cell (World.block_lt_of_cell? w _ hx146_1)).trans hx146_1
                      replace hx146_2 := (HB.out.cell (World.block_lt_of_cell? w _ hx146_2)).trans hx146_2
                      replace p146 := eq_true p146
                      replace q146 := eq_true q146
                      have p147 : 0 ≤ (x4_2 : Int) := of_decide_eq_true (by first | (with_reducible assumption) | assumption)
                      have q147 : x4_2 < (l0.length : Int) := of_decide_eq_true (by first | (with_reducible assumption) | assumption)
                      obtain ⟨ad147, e147, hx147_0, hx147_1, hx147_2⟩ := at_T26 HR0.out x4_2 p147 q147
                      obtain rfl : ad146 = ad147 := (by injection e147)
                      replace hx147_0 := (HB.out.cell (World.block_lt_of_cell? w _ hx147_0)).trans hx147_0
                      replace hx147_1 := (HB.out.cell (World.block_lt_of_cell? w _ hx147_1)).trans hx147_1
                      replace hx147_2 := (HB.out.cell (World.block_lt_of_cell? w _ hx147_2)).trans hx147_2
                      replace p147 := eq_true p147
                      replace q147 := eq_true q147
                      go_wp2
                      go_roundg k2
                      case measure => have := HJ1.out; have := HK2.out; omega
                      case rel => exact ⟨(wrap64 (x4_2 + 1)), (x140000_2), (x140001_2), (x140002_2), (x140003_2), (x140004_2), (x140005_2), (by first | rfl | (simp; done) | (simp [*]; done) | (simp; rw [Bool.eq_iff_iff]; simp; done)), H', ⟨by have := HJ1.out; have := HK2.out; omega⟩, ⟨by (with_reducible repeat (first | refine blk_drewN ?_ _ | refine blk_drew ?_ | refine blk_alloc ?_ _)); exact BK139.out⟩, ⟨by repeat (first | (with_reducible first | exact HB.out | apply below_alloc | apply pw_below_drewN | apply below_drew1 | refine below_set ?_ GE139.out) | exact HB.out)⟩⟩
                    · rw [if_neg c14] at H
                      have c14b0 : (((rd_T26 l0 x4_2).f2).toList == ([] : List UInt8)) = false := beq_eq_false_iff_ne.mpr c14
                      have c14b1 : (((rd_T26 l0 x4_2).f2).toList != ([] : List UInt8)) = true := bne_iff_ne.mpr c14
                      simp only [Option.some.injEq, Prod.mk.injEq] at H
                      obtain ⟨rfl, rfl, rfl, rfl, rfl, rfl, rfl⟩ := H
                      have p146 : 0 ≤ (x4_2 : Int) := of_decide_eq_true (by first | (with_reducible assumption) | assumption)
                      have q146 : x4_2 < (l0.length : Int) := of_decide_eq_true (by first | (with_reducible assumption) | assumption)
                      obtain ⟨ad146, e146, hx146_0, hx146_1, hx146_2⟩ := at_T26 HR0.out x4_2 p146 q146
                      cases e146
                      replace hx146_0 := (HB.out.cell (World.block_lt_of_cell? w _ hx146_0)).trans hx146_0
                      replace hx146_1 := (HB.out.cell (World.block_lt_of_cell? w _ hx146_1)).trans hx146_1
                      replace hx146_2 := (HB.out.cell (World.block_lt_of_cell? w _ hx146_2)).trans hx146_2
                      replace p146 := eq_true p146
                      replace q146 := eq_true q146
                      have p147 : 0 ≤ (x4_2 : Int) := of_decide_eq_true (by first | (with_reducible assumption) | assumption)
                      have q147 : x4_2 < (l0.length : Int) := of_decide_eq_true (by first | (with_reducible assumption) | assumption)
                      obtain ⟨ad147, e147, hx147_0, hx147_1, hx147_2⟩ := at_T26 HR0.out x4_2 p147 q147
                      obtain rfl : ad146 = ad147 := (by injection e147)
                      replace hx147_0 := (HB.out.cell (World.block_lt_of_cell? w _ hx147_0)).trans hx147_0
                      replace hx147_1 := (HB.out.cell (World.block_lt_of_cell? w _ hx147_1)).trans hx147_1
                      replace hx147_2 := (HB.out.cell (World.block_lt_of_cell? w _ hx147_2)).trans hx147_2
                      replace p147 := eq_true p147
                      replace q147 := eq_true q147
                      obtain ⟨hcz15_0, hcz15_1, hcz15_2, hcz15_3, hcz15_4, hcz15_5, hfz15_0, hfz15_1, hfz15_2, hfz15_3, hfz15_4, hfz15_5⟩ := bf6 BK139.out
                      go_wp2
                      refine bodyPost_ret (results_ct rfl _ _ gb139 33 #[.int .i64 0, .int .i64 0, .int .u64 0, .int .i64 0, .int .i64 0, .string (⟨#[]⟩ : ByteArray)] (0, 0) _ rfl (by (with_reducible repeat (first | refine blk_drewN ?_ _ | refine blk_drew ?_ | refine blk_alloc ?_ _)); refine blk_put (cs := #[.int .i64 0, .int .i64 0, .int .u64 0, .int .i64 0, .int .i64 0, .string x140005_2]) ?_ 5 _ rfl; (with_reducible repeat (first | refine blk_drewN ?_ _ | refine blk_drew ?_ | refine blk_alloc ?_ _)); refine blk_put (cs := #[.int .i64 0, .int .i64 0, .int .u64 0, .int .i64 0, .int .i64 x140004_2, .string x140005_2]) ?_ 4 _ rfl; (with_reducible repeat (first | refine blk_drewN ?_ _ | refine blk_drew ?_ | refine blk_alloc ?_ _)); refine blk_put (cs := #[.int .i64 0, .int .i64 0, .int .u64 0, .int .i64 x140003_2, .int .i64 x140004_2, .string x140005_2]) ?_ 3 _ rfl; (with_reducible repeat (first | refine blk_drewN ?_ _ | refine blk_drew ?_ | refine blk_alloc ?_ _)); refine blk_put (cs := #[.int .i64 0, .int .i64 0, .int .u64 x140002_2, .int .i64 x140003_2, .int .i64 x140004_2, .string x140005_2]) ?_ 2 _ rfl; (with_reducible repeat (first | refine blk_drewN ?_ _ | refine blk_drew ?_ | refine blk_alloc ?_ _)); refine blk_put (cs := #[.int .i64 0, .int .i64 x140001_2, .int .u64 x140002_2, .int .i64 x140003_2, .int .i64 x140004_2, .string x140005_2]) ?_ 1 _ rfl; (with_reducible repeat (first | refine blk_drewN ?_ _ | refine blk_drew ?_ | refine blk_alloc ?_ _)); refine blk_put (cs := #[.int .i64 x140000_2, .int .i64 x140001_2, .int .u64 x140002_2, .int .i64 x140003_2, .int .i64 x140004_2, .string x140005_2]) ?_ 0 _ rfl; (with_reducible repeat (first | refine blk_drewN ?_ _ | refine blk_drew ?_ | refine blk_alloc ?_ _)); exact BK139.out) Try.underlying33 rfl (by kernel_rfl)) rfl ?_
                      exact ⟨by first | rfl | (simp [errW_none, errW_some] <;> rfl) | (simp [*, errW_none, errW_some] <;> rfl), by repeat (first | (with_reducible first | exact HB.out | apply below_alloc | apply pw_below_drewN | apply below_drew1 | refine below_set ?_ GE139.out) | exact HB.out)⟩
                  · rw [if_neg c13] at H
                    have c13b0 : (((rd_T26 l0 x4_2).f0) == 1) = false := beq_eq_false_iff_ne.mpr c13
                    have c13b1 : (((rd_T26 l0 x4_2).f0) != 1) = true := bne_iff_ne.mpr c13
                    simp only [Option.some.injEq, Prod.mk.injEq] at H
                    obtain ⟨rfl, rfl, rfl, rfl, rfl, rfl, rfl⟩ := H
                    have p146 : 0 ≤ (x4_2 : Int) := of_decide_eq_true (by first | (with_reducible assumption) | assumption)
                    have q146 : x4_2 < (l0.length : Int) := of_decide_eq_true (by first | (with_reducible assumption) | assumption)
                    obtain ⟨ad146, e146, hx146_0, hx146_1, hx146_2⟩ := at_T26 HR0.out x4_2 p146 q146
                    cases e146
                    replace hx146_0 := (HB.out.cell (World.block_lt_of_cell? w _ hx146_0)).trans hx146_0
                    replace hx146_1 := (HB.out.cell (World.block_lt_of_cell? w _ hx146_1)).trans hx146_1
                    replace hx146_2 := (HB.out.cell (World.block_lt_of_cell? w _ hx146_2)).trans hx146_2
                    replace p146 := eq_true p146
                    replace q146 := eq_true q146
                    obtain ⟨hcz16_0, hcz16_1, hcz16_2, hcz16_3, hcz16_4, hcz16_5, hfz16_0, hfz16_1, hfz16_2, hfz16_3, hfz16_4, hfz16_5⟩ := bf6 BK139.out
                    go_wp2
                    refine bodyPost_ret (results_ct rfl _ _ gb139 33 #[.int .i64 0, .int .i64 0, .int .u64 0, .int .i64 0, .int .i64 0, .string (⟨#[]⟩ : ByteArray)] (0, 0) _ rfl (by (with_reducible repeat (first | refine blk_drewN ?_ _ | refine blk_drew ?_ | refine blk_alloc ?_ _)); refine blk_put (cs := #[.int .i64 0, .int .i64 0, .int .u64 0, .int .i64 0, .int .i64 0, .string x140005_2]) ?_ 5 _ rfl; (with_reducible repeat (first | refine blk_drewN ?_ _ | refine blk_drew ?_ | refine blk_alloc ?_ _)); refine blk_put (cs := #[.int .i64 0, .int .i64 0, .int .u64 0, .int .i64 0, .int .i64 x140004_2, .string x140005_2]) ?_ 4 _ rfl; (with_reducible repeat (first | refine blk_drewN ?_ _ | refine blk_drew ?_ | refine blk_alloc ?_ _)); refine blk_put (cs := #[.int .i64 0, .int .i64 0, .int .u64 0, .int .i64 x140003_2, .int .i64 x140004_2, .string x140005_2]) ?_ 3 _ rfl; (with_reducible repeat (first | refine blk_drewN ?_ _ | refine blk_drew ?_ | refine blk_alloc ?_ _)); refine blk_put (cs := #[.int .i64 0, .int .i64 0, .int .u64 x140002_2, .int .i64 x140003_2, .int .i64 x140004_2, .string x140005_2]) ?_ 2 _ rfl; (with_reducible repeat (first | refine blk_drewN ?_ _ | refine blk_drew ?_ | refine blk_alloc ?_ _)); refine blk_put (cs := #[.int .i64 0, .int .i64 x140001_2, .int .u64 x140002_2, .int .i64 x140003_2, .int .i64 x140004_2, .string x140005_2]) ?_ 1 _ rfl; (with_reducible repeat (first | refine blk_drewN ?_ _ | refine blk_drew ?_ | refine blk_alloc ?_ _)); refine blk_put (cs := #[.int .i64 x140000_2, .int .i64 x140001_2, .int .u64 x140002_2, .int .i64 x140003_2, .int .i64 x140004_2, .string x140005_2]) ?_ 0 _ rfl; (with_reducible repeat (first | refine blk_drewN ?_ _ | refine blk_drew ?_ | refine blk_alloc ?_ _)); exact BK139.out) Try.underlying33 rfl (by kernel_rfl)) rfl ?_
                    exact ⟨by first | rfl | (simp [errW_none, errW_some] <;> rfl) | (simp [*, errW_none, errW_some] <;> rfl), by repeat (first | (with_reducible first | exact HB.out | apply below_alloc | apply pw_below_drewN | apply below_drew1 | refine below_set ?_ GE139.out) | exact HB.out)⟩
                · rw [if_neg c12] at H
                  exact absurd H (by simp)
              · rw [if_neg c11] at H
                exact absurd H (by simp)
            · rw [if_neg c10] at H
              have c10b0 : decide (x4_2 < 3) = false := decide_eq_false c10
              clear c10
              by_cases c17 : 0 < (l0.length : Int)
              · rw [if_pos c17] at H
                have c17b0 : decide (0 < (l0.length : Int)) = true := decide_eq_true c17
                have c17b1 : decide (0 < l0.length) = true := decide_eq_true (by omega)
                clear c17
                by_cases c18 : 1 < (l0.length : Int)
                · rw [if_pos c18] at H
                  have c18b0 : decide (1 < (l0.length : Int)) = true := decide_eq_true c18
                  have c18b1 : decide (1 < l0.length) = true := decide_eq_true (by omega)
                  clear c18
                  by_cases c19 : 2 < (l0.length : Int)
                  · rw [if_pos c19] at H
                    have c19b0 : decide (2 < (l0.length : Int)) = true := decide_eq_true c19
                    have c19b1 : decide (2 < l0.length) = true := decide_eq_true (by omega)
                    clear c19
                    by_cases c20 : 3 < (l0.length : Int)
                    · rw [if_pos c20] at H
                      have c20b0 : decide (3 < (l0.length : Int)) = true := decide_eq_true c20
                      have c20b1 : decide (3 < l0.length) = true := decide_eq_true (by omega)
                      clear c20
                      simp only [Option.some.injEq, Prod.mk.injEq] at H
                      obtain ⟨rfl, rfl, rfl, rfl, rfl, rfl, rfl⟩ := H
                      try go_wp2
                      have n0_ := Aside0.mk (blk_drew BK139.out)
                      have n1_ := Aside0.mk (below_drew1 HB.out)
                      clear BK139
                      clear HB
                      have BK139 := n0_
                      have HB := n1_
                      clear n0_ n1_
                      have p142 : 0 ≤ (0 : Int) := (by omega)
                      have q142 : 0 < (l0.length : Int) := of_decide_eq_true (by first | (with_reducible assumption) | assumption)
                      obtain ⟨ad142, e142, hx142_0, hx142_1, hx142_2⟩ := at_T26 HR0.out 0 p142 q142
                      have hw142_2 := hx142_2
                      (try rw [show ((0 : Int)).toNat = 0 from rfl] at hw142_2)
                      (try rw [show 0 * 3 = 0 from rfl] at hw142_2)
                      (try rw [Addr.add_zero'] at hw142_2)
                      have hw142_1 := hx142_1
                      (try rw [show ((0 : Int)).toNat = 0 from rfl] at hw142_1)
                      (try rw [show 0 * 3 = 0 from rfl] at hw142_1)
                      (try rw [Addr.add_zero'] at hw142_1)
                      have hw142_0 := hx142_0
                      (try rw [show ((0 : Int)).toNat = 0 from rfl] at hw142_0)
                      (try rw [show 0 * 3 = 0 from rfl] at hw142_0)
                      (try rw [Addr.add_zero'] at hw142_0)
                      cases e142
                      have qi142 : (0 < l0.length) = True := eq_true (by omega)
                      (try rw [show ((0 : Int)).toNat = 0 from rfl] at hx142_0)
                      (try rw [show 0 * 3 = 0 from rfl] at hx142_0)
                      (try rw [Addr.add_zero'] at hx142_0)
                      (try rw [show ((0 : Int)).toNat = 0 from rfl] at hx142_1)
                      (try rw [show 0 * 3 = 0 from rfl] at hx142_1)
                      (try rw [Addr.add_zero'] at hx142_1)
                      (try rw [show ((0 : Int)).toNat = 0 from rfl] at hx142_2)
                      (try rw [show 0 * 3 = 0 from rfl] at hx142_2)
                      (try rw [Addr.add_zero'] at hx142_2)
                      replace hx142_0 := (HB.out.cell (World.block_lt_of_cell? w _ hx142_0)).trans hx142_0
                      replace hx142_1 := (HB.out.cell (World.block_lt_of_cell? w _ hx142_1)).trans hx142_1
                      replace hx142_2 := (HB.out.cell (World.block_lt_of_cell? w _ hx142_2)).trans hx142_2
                      replace p142 := eq_true p142
                      replace q142 := eq_true q142
                      have p143 : 0 ≤ (1 : Int) := (by omega)
                      have q143 : 1 < (l0.length : Int) := of_decide_eq_true (by first | (with_reducible assumption) | assumption)
                      obtain ⟨ad143, e143, hx143_0, hx143_1, hx143_2⟩ := at_T26 HR0.out 1 p143 q143
                      have hw143_2 := hx143_2
                      (try rw [show ((1 : Int)).toNat = 1 from rfl] at hw143_2)
                      (try rw [show 1 * 3 = 3 from rfl] at hw143_2)
                      (try simp only [Nat.reduceMul, Nat.reduceEqDiff, Go.Addr.add, ↓reduceIte] at hw143_2)
                      have hw143_1 := hx143_1
                      (try rw [show ((1 : Int)).toNat = 1 from rfl] at hw143_1)
                      (try rw [show 1 * 3 = 3 from rfl] at hw143_1)
                      (try simp only [Nat.reduceMul, Nat.reduceEqDiff, Go.Addr.add, ↓reduceIte] at hw143_1)
                      have hw143_0 := hx143_0
                      (try rw [show ((1 : Int)).toNat = 1 from rfl] at hw143_0)
                      (try rw [show 1 * 3 = 3 from rfl] at hw143_0)
                      (try simp only [Nat.reduceMul, Nat.reduceEqDiff, Go.Addr.add, ↓reduceIte] at hw143_0)
                      obtain rfl : ad142 = ad143 := (by injection e143)
                      (try simp only [show (1 : Int).toNat = 1 from rfl, Nat.reduceMul, Nat.reduceEqDiff, Go.Addr.add, ↓reduceIte] at hx143_0)
                      (try simp only [show (1 : Int).toNat = 1 from rfl, Nat.reduceMul, Nat.reduceEqDiff, Go.Addr.add, ↓reduceIte] at hx143_1)
                      (try simp only [show (1 : Int).toNat = 1 from rfl, Nat.reduceMul, Nat.reduceEqDiff, Go.Addr.add, ↓reduceIte] at hx143_2)
                      have qi143 : (1 < l0.length) = True := eq_true (by omega)
                      (try rw [show ((1 : Int)).toNat = 1 from rfl] at hx143_0)
                      (try rw [show 1 * 3 = 3 from rfl] at hx143_0)
                      (try rw [show ((1 : Int)).toNat = 1 from rfl] at hx143_1)
                      (try rw [show 1 * 3 = 3 from rfl] at hx143_1)
                      (try rw [show ((1 : Int)).toNat = 1 from rfl] at hx143_2)
                      (try rw [show 1 * 3 = 3 from rfl] at hx143_2)
                      replace hx143_0 := (HB.out.cell (World.block_lt_of_cell? w _ hx143_0)).trans hx143_0
                      replace hx143_1 := (HB.out.cell (World.block_lt_of_cell? w _ hx143_1)).trans hx143_1
                      replace hx143_2 := (HB.out.cell (World.block_lt_of_cell? w _ hx143_2)).trans hx143_2
                      replace p143 := eq_true p143
                      replace q143 := eq_true q143
                      have p144 : 0 ≤ (2 : Int) := (by omega)
                      have q144 : 2 < (l0.length : Int) := of_decide_eq_true (by first | (with_reducible assumption) | assumption)
                      obtain ⟨ad144, e144, hx144_0, hx144_1, hx144_2⟩ := at_T26 HR0.out 2 p144 q144
                      have hw144_2 := hx144_2
                      (try rw [show ((2 : Int)).toNat = 2 from rfl] at hw144_2)
                      (try rw [show 2 * 3 = 6 from rfl] at hw144_2)
                      (try simp only [Nat.reduceMul, Nat.reduceEqDiff, Go.Addr.add, ↓reduceIte] at hw144_2)
                      have hw144_1 := hx144_1
                      (try rw [show ((2 : Int)).toNat = 2 from rfl] at hw144_1)
                      (try rw [show 2 * 3 = 6 from rfl] at hw144_1)
                      (try simp only [Nat.reduceMul, Nat.reduceEqDiff, Go.Addr.add, ↓reduceIte] at hw144_1)
                      have hw144_0 := hx144_0
                      (try rw [show ((2 : Int)).toNat = 2 from rfl] at hw144_0)
                      (try rw [show 2 * 3 = 6 from rfl] at hw144_0)
                      (try simp only [Nat.reduceMul, Nat.reduceEqDiff, Go.Addr.add, ↓reduceIte] at hw144_0)
                      obtain rfl : ad142 = ad144 := (by injection e144)
                      (try simp only [show (2 : Int).toNat = 2 from rfl, Nat.reduceMul, Nat.reduceEqDiff, Go.Addr.add, ↓reduceIte] at hx144_0)
                      (try simp only [show (2 : Int).toNat = 2 from rfl, Nat.reduceMul, Nat.reduceEqDiff, Go.Addr.add, ↓reduceIte] at hx144_1)
                      (try simp only [show (2 : Int).toNat = 2 from rfl, Nat.reduceMul, Nat.reduceEqDiff, Go.Addr.add, ↓reduceIte] at hx144_2)
                      have qi144 : (2 < l0.length) = True := eq_true (by omega)
                      (try rw [show ((2 : Int)).toNat = 2 from rfl] at hx144_0)
                      (try rw [show 2 * 3 = 6 from rfl] at hx144_0)
                      (try rw [show ((2 : Int)).toNat = 2 from rfl] at hx144_1)
                      (try rw [show 2 * 3 = 6 from rfl] at hx144_1)
                      (try rw [show ((2 : Int)).toNat = 2 from rfl] at hx144_2)
                      (try rw [show 2 * 3 = 6 from rfl] at hx144_2)
                      replace hx144_0 := (HB.out.cell (World.block_lt_of_cell? w _ hx144_0)).trans hx144_0
                      replace hx144_1 := (HB.out.cell (World.block_lt_of_cell? w _ hx144_1)).trans hx144_1
                      replace hx144_2 := (HB.out.cell (World.block_lt_of_cell? w _ hx144_2)).trans hx144_2
                      replace p144 := eq_true p144
                      replace q144 := eq_true q144
                      have p145 : 0 ≤ (3 : Int) := (by omega)
                      have q145 : 3 < (l0.length : Int) := of_decide_eq_true (by first | (with_reducible assumption) | assumption)
                      obtain ⟨ad145, e145, hx145_0, hx145_1, hx145_2⟩ := at_T26 HR0.out 3 p145 q145
                      have hw145_2 := hx145_2
                      (try rw [show ((3 : Int)).toNat = 3 from rfl] at hw145_2)
                      (try rw [show 3 * 3 = 9 from rfl] at hw145_2)
                      (try simp only [Nat.reduceMul, Nat.reduceEqDiff, Go.Addr.add, ↓reduceIte] at hw145_2)
                      have hw145_1 := hx145_1
                      (try rw [show ((3 : Int)).toNat = 3 from rfl] at hw145_1)
                      (try rw [show 3 * 3 = 9 from rfl] at hw145_1)
                      (try simp only [Nat.reduceMul, Nat.reduceEqDiff, Go.Addr.add, ↓reduceIte] at hw145_1)
                      have hw145_0 := hx145_0
                      (try rw [show ((3 : Int)).toNat = 3 from rfl] at hw145_0)
                      (try rw [show 3 * 3 = 9 from rfl] at hw145_0)
                      (try simp only [Nat.reduceMul, Nat.reduceEqDiff, Go.Addr.add, ↓reduceIte] at hw145_0)
                      obtain rfl : ad142 = ad145 := (by injection e145)
                      (try simp only [show (3 : Int).toNat = 3 from rfl, Nat.reduceMul, Nat.reduceEqDiff, Go.Addr.add, ↓reduceIte] at hx145_0)
                      (try simp only [show (3 : Int).toNat = 3 from rfl, Nat.reduceMul, Nat.reduceEqDiff, Go.Addr.add, ↓reduceIte] at hx145_1)
                      (try simp only [show (3 : Int).toNat = 3 from rfl, Nat.reduceMul, Nat.reduceEqDiff, Go.Addr.add, ↓reduceIte] at hx145_2)
                      have qi145 : (3 < l0.length) = True := eq_true (by omega)
                      (try rw [show ((3 : Int)).toNat = 3 from rfl] at hx145_0)
                      (try rw [show 3 * 3 = 9 from rfl] at hx145_0)
                      (try rw [show ((3 : Int)).toNat = 3 from rfl] at hx145_1)
                      (try rw [show 3 * 3 = 9 from rfl] at hx145_1)
                      (try rw [show ((3 : Int)).toNat = 3 from rfl] at hx145_2)
                      (try rw [show 3 * 3 = 9 from rfl] at hx145_2)
                      replace hx145_0 := (HB.out.cell (World.block_lt_of_cell? w _ hx145_0)).trans hx145_0
                      replace hx145_1 := (HB.out.cell (World.block_lt_of_cell? w _ hx145_1)).trans hx145_1
                      replace hx145_2 := (HB.out.cell (World.block_lt_of_cell? w _ hx145_2)).trans hx145_2
                      replace p145 := eq_true p145
                      replace q145 := eq_true q145
                      refine start_ (n := 20) (S := fun w' => w'.cell? ad142 = some (.int .i64 ((rd_T26 l0 0).f0)) ∧ w'.cell? ⟨ad142.block, ad142.off + 1, none⟩ = some (.int .i64 ((rd_T26 l0 0).f1)) ∧ w'.cell? ⟨ad142.block, ad142.off + 2, none⟩ = some (.string ((rd_T26 l0 0).f2)) ∧ w'.cell? ⟨ad142.block, ad142.off + 3, none⟩ = some (.int .i64 ((rd_T26 l0 1).f0)) ∧ w'.cell? ⟨ad142.block, ad142.off + 3 + 1, none⟩ = some (.int .i64 ((rd_T26 l0 1).f1)) ∧ w'.cell? ⟨ad142.block, ad142.off + 3 + 2, none⟩ = some (.string ((rd_T26 l0 1).f2)) ∧ w'.cell? ⟨ad142.block, ad142.off + 6, none⟩ = some (.int .i64 ((rd_T26 l0 2).f0)) ∧ w'.cell? ⟨ad142.block, ad142.off + 6 + 1, none⟩ = some (.int .i64 ((rd_T26 l0 2).f1)) ∧ w'.cell? ⟨ad142.block, ad142.off + 6 + 2, none⟩ = some (.string ((rd_T26 l0 2).f2)) ∧ w'.cell? ⟨ad142.block, ad142.off + 9, none⟩ = some (.int .i64 ((rd_T26 l0 3).f0)) ∧ w'.cell? ⟨ad142.block, ad142.off + 9 + 1, none⟩ = some (.int .i64 ((rd_T26 l0 3).f1)) ∧ w'.cell? ⟨ad142.block, ad142.off + 9 + 2, none⟩ = some (.string ((rd_T26 l0 3).f2))) (ds := []) #[false, false, false, false, false, false, false, false, false, false, false, false, false, false, false, false, false, false, false, false] (by kernel_rfl) rfl rfl ⟨((HB.out.cell (World.block_lt_of_cell? w _ hw142_0)).trans hw142_0), ((HB.out.cell (World.block_lt_of_cell? w _ hw142_1)).trans hw142_1), ((HB.out.cell (World.block_lt_of_cell? w _ hw142_2)).trans hw142_2), ((HB.out.cell (World.block_lt_of_cell? w _ hw143_0)).trans hw143_0), ((HB.out.cell (World.block_lt_of_cell? w _ hw143_1)).trans hw143_1), ((HB.out.cell (World.block_lt_of_cell? w _ hw143_2)).trans hw143_2), ((HB.out.cell (World.block_lt_of_cell? w _ hw144_0)).trans hw144_0), ((HB.out.cell (World.block_lt_of_cell? w _ hw144_1)).trans hw144_1), ((HB.out.cell (World.block_lt_of_cell? w _ hw144_2)).trans hw144_2), ((HB.out.cell (World.block_lt_of_cell? w _ hw145_0)).trans hw145_0), ((HB.out.cell (World.block_lt_of_cell? w _ hw145_1)).trans hw145_1), ((HB.out.cell (World.block_lt_of_cell? w _ hw145_2)).trans hw145_2)⟩ (fun hHeld => ?_); refine with_tabW headgateref15_Unpack.tab8 headgateref15_Unpack.bits8 (fun HT_ HW_ => ?_)
                      generalize wr.drew = w21 at BK139 HB hx142_0 hx142_1 hx142_2 hx143_0 hx143_1 hx143_2 hx144_0 hx144_1 hx144_2 hx145_0 hx145_1 hx145_2 hHeld ⊢
                      refine pure_ (i := 0) (N := some 35) (v := ?_) (a' := ?_) #[true, false, false, false, false, false, false, false, false, false, false, false, false, false, false, false, false, false, false, false] rfl rfl (any_of HT_.out (by kernel_rfl)) (fun _ _ _ h => h) (Or.inl ⟨by rfl, ?_⟩) ?_ ?_
                      rotate_left
                      · intro w'
                        go_simp
                        with_reducible rfl
                      rotate_left
                      · simp only [Act.put, List.setIfInBounds_toArray, List.set_cons_zero, List.set_cons_succ, i64_w, i32_w]
                        rfl
                      refine pure_ (i := 1) (N := some 36) (v := ?_) (a' := ?_) #[true, true, false, false, false, false, false, false, false, false, false, false, false, false, false, false, false, false, false, false] rfl rfl (any_of HT_.out (by kernel_rfl)) (fun _ _ _ h => h) (Or.inl ⟨by rfl, ?_⟩) ?_ ?_
                      rotate_left
                      · intro w'
                        go_simp
                        with_reducible rfl
                      rotate_left
                      · simp only [Act.put, List.setIfInBounds_toArray, List.set_cons_zero, List.set_cons_succ, i64_w, i32_w]
                        rfl
                      refine pure_ (i := 2) (N := some 37) (v := ?_) (a' := ?_) #[true, true, true, false, false, false, false, false, false, false, false, false, false, false, false, false, false, false, false, false] rfl rfl (any_of HT_.out (by kernel_rfl)) (fun _ _ _ h => h) (Or.inl ⟨by rfl, ?_⟩) ?_ ?_
                      rotate_left
                      · intro w'
                        go_simp
                        with_reducible rfl
                      rotate_left
                      · simp only [Act.put, List.setIfInBounds_toArray, List.set_cons_zero, List.set_cons_succ, i64_w, i32_w]
                        rfl
                      refine pure_ (i := 4) (N := some 39) (v := ?_) (a' := ?_) #[true, true, true, false, true, false, false, false, false, false, false, false, false, false, false, false, false, false, false, false] rfl rfl (any_of HT_.out (by kernel_rfl)) (fun _ _ _ h => h) (Or.inl ⟨by rfl, ?_⟩) ?_ ?_
                      rotate_left
                      · intro w'
                        go_simp
                        with_reducible rfl
                      rotate_left
                      · simp only [Act.put, List.setIfInBounds_toArray, List.set_cons_zero, List.set_cons_succ, i64_w, i32_w]
                        rfl
                      refine pure_ (i := 5) (N := some 40) (v := ?_) (a' := ?_) #[true, true, true, false, true, true, false, false, false, false, false, false, false, false, false, false, false, false, false, false] rfl rfl (any_of HT_.out (by kernel_rfl)) (fun _ _ _ h => h) (Or.inl ⟨by rfl, ?_⟩) ?_ ?_
                      rotate_left
                      · intro w'
                        go_simp
                        with_reducible rfl
                      rotate_left
                      · simp only [Act.put, List.setIfInBounds_toArray, List.set_cons_zero, List.set_cons_succ, i64_w, i32_w]
                        rfl
                      refine pure_ (i := 6) (N := some 41) (v := ?_) (a' := ?_) #[true, true, true, false, true, true, true, false, false, false, false, false, false, false, false, false, false, false, false, false] rfl rfl (any_of HT_.out (by kernel_rfl)) (fun _ _ _ h => h) (Or.inl ⟨by rfl, ?_⟩) ?_ ?_
                      rotate_left
                      · intro w'
                        go_simp
                        with_reducible rfl
                      rotate_left
                      · simp only [Act.put, List.setIfInBounds_toArray, List.set_cons_zero, List.set_cons_succ, i64_w, i32_w]
                        rfl
                      refine pure_ (i := 8) (N := some 43) (v := ?_) (a' := ?_) #[true, true, true, false, true, true, true, false, true, false, false, false, false, false, false, false, false, false, false, false] rfl rfl (any_of HT_.out (by kernel_rfl)) (fun _ _ _ h => h) (Or.inl ⟨by rfl, ?_⟩) ?_ ?_
                      rotate_left
                      · intro w'
                        go_simp
                        with_reducible rfl
                      rotate_left
                      · simp only [Act.put, List.setIfInBounds_toArray, List.set_cons_zero, List.set_cons_succ, i64_w, i32_w]
                        rfl
                      refine pure_ (i := 9) (N := some 44) (v := ?_) (a' := ?_) #[true, true, true, false, true, true, true, false, true, true, false, false, false, false, false, false, false, false, false, false] rfl rfl (any_of HT_.out (by kernel_rfl)) (fun _ _ _ h => h) (Or.inl ⟨by rfl, ?_⟩) ?_ ?_
                      rotate_left
                      · intro w'
                        go_simp
                        with_reducible rfl
                      rotate_left
                      · simp only [Act.put, List.setIfInBounds_toArray, List.set_cons_zero, List.set_cons_succ, i64_w, i32_w]
                        rfl
                      refine pure_ (i := 10) (N := some 45) (v := ?_) (a' := ?_) #[true, true, true, false, true, true, true, false, true, true, true, false, false, false, false, false, false, false, false, false] rfl rfl (any_of HT_.out (by kernel_rfl)) (fun _ _ _ h => h) (Or.inl ⟨by rfl, ?_⟩) ?_ ?_
                      rotate_left
                      · intro w'
                        go_simp
                        with_reducible rfl
                      rotate_left
                      · simp only [Act.put, List.setIfInBounds_toArray, List.set_cons_zero, List.set_cons_succ, i64_w, i32_w]
                        rfl
                      refine pure_ (i := 14) (N := some 49) (v := ?_) (a' := ?_) #[true, true, true, false, true, true, true, false, true, true, true, false, false, false, true, false, false, false, false, false] rfl rfl (any_of HT_.out (by kernel_rfl)) (fun _ _ _ h => h) (Or.inl ⟨by rfl, ?_⟩) ?_ ?_
                      rotate_left
                      · intro w'
                        go_simp
                        with_reducible rfl
                      rotate_left
                      · simp only [Act.put, List.setIfInBounds_toArray, List.set_cons_zero, List.set_cons_succ, i64_w, i32_w]
                        rfl
                      refine pure_ (i := 15) (N := some 50) (v := ?_) (a' := ?_) #[true, true, true, false, true, true, true, false, true, true, true, false, false, false, true, true, false, false, false, false] rfl rfl (any_of HT_.out (by kernel_rfl)) (fun _ _ _ h => h) (Or.inl ⟨by rfl, ?_⟩) ?_ ?_
                      rotate_left
                      · intro w'
                        go_simp
                        with_reducible rfl
                      rotate_left
                      · simp only [Act.put, List.setIfInBounds_toArray, List.set_cons_zero, List.set_cons_succ, i64_w, i32_w]
                        rfl
                      refine take_ (i := 3) (N := some 38) (v := ?_) (a' := ?_) #[true, true, true, true, true, true, true, false, true, true, true, false, false, false, true, true, false, false, false, false] rfl rfl (take_ofW HT_.out HW_.out (by kernel_rfl)) (fun _ _ _ h => h) (Or.inl ⟨by rfl, ?_⟩) hHeld ?_ ?_
                      rotate_left
                      · rintro w' ⟨s0, s1, s2, s3, s4, s5, s6, s7, s8, s9, s10, s11⟩
                        go_simp
                        with_reducible rfl
                      rotate_left
                      · simp only [Act.put, List.setIfInBounds_toArray, List.set_cons_zero, List.set_cons_succ, i64_w, i32_w]
                        rfl
                      refine take_ (i := 7) (N := some 42) (v := ?_) (a' := ?_) #[true, true, true, true, true, true, true, true, true, true, true, false, false, false, true, true, false, false, false, false] rfl rfl (take_ofW HT_.out HW_.out (by kernel_rfl)) (fun _ _ _ h => h) (Or.inl ⟨by rfl, ?_⟩) hHeld ?_ ?_
                      rotate_left
                      · rintro w' ⟨s0, s1, s2, s3, s4, s5, s6, s7, s8, s9, s10, s11⟩
                        go_simp
                        with_reducible rfl
                      rotate_left
                      · simp only [Act.put, List.setIfInBounds_toArray, List.set_cons_zero, List.set_cons_succ, i64_w, i32_w]
                        rfl
                      refine take_ (i := 11) (N := some 46) (v := ?_) (a' := ?_) #[true, true, true, true, true, true, true, true, true, true, true, true, false, false, true, true, false, false, false, false] rfl rfl (take_ofW HT_.out HW_.out (by kernel_rfl)) (fun _ _ _ h => h) (Or.inl ⟨by rfl, ?_⟩) hHeld ?_ ?_
                      rotate_left
                      · rintro w' ⟨s0, s1, s2, s3, s4, s5, s6, s7, s8, s9, s10, s11⟩
                        go_simp
                        with_reducible rfl
                      rotate_left
                      · simp only [Act.put, List.setIfInBounds_toArray, List.set_cons_zero, List.set_cons_succ, i64_w, i32_w]
                        rfl
                      refine pure_ (i := 12) (N := some 47) (v := ?_) (a' := ?_) #[true, true, true, true, true, true, true, true, true, true, true, true, true, false, true, true, false, false, false, false] rfl rfl (any_of HT_.out (by kernel_rfl)) (fun _ _ _ h => h) (Or.inl ⟨by rfl, ?_⟩) ?_ ?_
                      rotate_left
                      · intro w'
                        go_simp
                        with_reducible rfl
                      rotate_left
                      · simp only [Act.put, List.setIfInBounds_toArray, List.set_cons_zero, List.set_cons_succ, i64_w, i32_w]
                        rfl
                      refine pure_ (i := 13) (N := some 48) (v := ?_) (a' := ?_) #[true, true, true, true, true, true, true, true, true, true, true, true, true, true, true, true, false, false, false, false] rfl rfl (any_of HT_.out (by kernel_rfl)) (fun _ _ _ h => h) (Or.inl ⟨by rfl, ?_⟩) ?_ ?_
                      rotate_left
                      · intro w'
                        go_simp
                        with_reducible rfl
                      rotate_left
                      · simp only [Act.put, List.setIfInBounds_toArray, List.set_cons_zero, List.set_cons_succ, i64_w, i32_w]
                        rfl
                      refine take_ (i := 16) (N := some 51) (v := ?_) (a' := ?_) #[true, true, true, true, true, true, true, true, true, true, true, true, true, true, true, true, true, false, false, false] rfl rfl (take_ofW HT_.out HW_.out (by kernel_rfl)) (fun _ _ _ h => h) (Or.inl ⟨by rfl, ?_⟩) hHeld ?_ ?_
                      rotate_left
                      · rintro w' ⟨s0, s1, s2, s3, s4, s5, s6, s7, s8, s9, s10, s11⟩
                        go_simp
                        with_reducible rfl
                      rotate_left
                      · simp only [Act.put, List.setIfInBounds_toArray, List.set_cons_zero, List.set_cons_succ, i64_w, i32_w]
                        rfl
                      refine pure_ (i := 17) (N := some 52) (v := ?_) (a' := ?_) #[true, true, true, true, true, true, true, true, true, true, true, true, true, true, true, true, true, true, false, false] rfl rfl (any_of HT_.out (by kernel_rfl)) (fun _ _ _ h => h) (Or.inl ⟨by rfl, ?_⟩) ?_ ?_
                      rotate_left
                      · intro w'
                        go_simp
                        with_reducible rfl
                      rotate_left
                      · simp only [Act.put, List.setIfInBounds_toArray, List.set_cons_zero, List.set_cons_succ, i64_w, i32_w]
                        rfl
                      refine one_ (i := 18) (N := none) #[true, true, true, true, true, true, true, true, true, true, true, true, true, true, true, true, true, true, true, false] rfl rfl (one_of HT_.out (by kernel_rfl)) (by decide) (fun K hK => ?_)
                      have hs22 : w21.cell? ⟨gb139, 0, none⟩ = some (.int .i64 x140000_2) := (blk_cell BK139.out 0).trans rfl
                      have hfs22 := blk_frozen BK139.out 0
                      have hs23 : w21.cell? ⟨gb139, 1, none⟩ = some (.int .i64 x140001_2) := (blk_cell BK139.out 1).trans rfl
                      have hfs23 := blk_frozen BK139.out 1
                      have hs24 : w21.cell? ⟨gb139, 2, none⟩ = some (.int .u64 x140002_2) := (blk_cell BK139.out 2).trans rfl
                      have hfs24 := blk_frozen BK139.out 2
                      have hs25 : w21.cell? ⟨gb139, 3, none⟩ = some (.int .i64 x140003_2) := (blk_cell BK139.out 3).trans rfl
                      have hfs25 := blk_frozen BK139.out 3
                      have hs26 : w21.cell? ⟨gb139, 4, none⟩ = some (.int .i64 x140004_2) := (blk_cell BK139.out 4).trans rfl
                      have hfs26 := blk_frozen BK139.out 4
                      have hs27 : w21.cell? ⟨gb139, 5, none⟩ = some (.string x140005_2) := (blk_cell BK139.out 5).trans rfl
                      have hfs27 := blk_frozen BK139.out 5
                      refine skip_ (w1 := ?_) (by rfl) rfl ?_ ?_
                      rotate_left
                      · go_simp
                        rfl
                      refine hK.out _ _ ⟨((cell_far (p := ⟨gb139, _, none⟩) (by first | exact Nat.ne_of_lt (Nat.lt_of_lt_of_le (by have := World.block_lt_of_cell? _ _ hw142_0; first | rwa [add_block] at this | exact this) GW139.out) | (rw [add_block]; exact Nat.ne_of_lt (Nat.lt_of_lt_of_le (by have := World.block_lt_of_cell? _ _ hw142_0; first | rwa [add_block] at this | exact this) GW139.out)) | (show (Addr.add _ _).block ≠ _; rw [add_block]; exact Nat.ne_of_lt (Nat.lt_of_lt_of_le (by have := World.block_lt_of_cell? _ _ hw142_0; first | rwa [add_block] at this | exact this) GW139.out)) | (dsimp only; exact Nat.ne_of_lt (Nat.lt_of_lt_of_le (by have := World.block_lt_of_cell? _ _ hw142_0; first | rwa [add_block] at this | exact this) GW139.out))) _).trans (((cell_far (p := ⟨gb139, _, none⟩) (by first | exact Nat.ne_of_lt (Nat.lt_of_lt_of_le (by have := World.block_lt_of_cell? _ _ hw142_0; first | rwa [add_block] at this | exact this) GW139.out) | (rw [add_block]; exact Nat.ne_of_lt (Nat.lt_of_lt_of_le (by have := World.block_lt_of_cell? _ _ hw142_0; first | rwa [add_block] at this | exact this) GW139.out)) | (show (Addr.add _ _).block ≠ _; rw [add_block]; exact Nat.ne_of_lt (Nat.lt_of_lt_of_le (by have := World.block_lt_of_cell? _ _ hw142_0; first | rwa [add_block] at this | exact this) GW139.out)) | (dsimp only; exact Nat.ne_of_lt (Nat.lt_of_lt_of_le (by have := World.block_lt_of_cell? _ _ hw142_0; first | rwa [add_block] at this | exact this) GW139.out))) _).trans (((cell_far (p := ⟨gb139, _, none⟩) (by first | exact Nat.ne_of_lt (Nat.lt_of_lt_of_le (by have := World.block_lt_of_cell? _ _ hw142_0; first | rwa [add_block] at this | exact this) GW139.out) | (rw [add_block]; exact Nat.ne_of_lt (Nat.lt_of_lt_of_le (by have := World.block_lt_of_cell? _ _ hw142_0; first | rwa [add_block] at this | exact this) GW139.out)) | (show (Addr.add _ _).block ≠ _; rw [add_block]; exact Nat.ne_of_lt (Nat.lt_of_lt_of_le (by have := World.block_lt_of_cell? _ _ hw142_0; first | rwa [add_block] at this | exact this) GW139.out)) | (dsimp only; exact Nat.ne_of_lt (Nat.lt_of_lt_of_le (by have := World.block_lt_of_cell? _ _ hw142_0; first | rwa [add_block] at this | exact this) GW139.out))) _).trans (((cell_far (p := ⟨gb139, _, none⟩) (by first | exact Nat.ne_of_lt (Nat.lt_of_lt_of_le (by have := World.block_lt_of_cell? _ _ hw142_0; first | rwa [add_block] at this | exact this) GW139.out) | (rw [add_block]; exact Nat.ne_of_lt (Nat.lt_of_lt_of_le (by have := World.block_lt_of_cell? _ _ hw142_0; first | rwa [add_block] at this | exact this) GW139.out)) | (show (Addr.add _ _).block ≠ _; rw [add_block]; exact Nat.ne_of_lt (Nat.lt_of_lt_of_le (by have := World.block_lt_of_cell? _ _ hw142_0; first | rwa [add_block] at this | exact this) GW139.out)) | (dsimp only; exact Nat.ne_of_lt (Nat.lt_of_lt_of_le (by have := World.block_lt_of_cell? _ _ hw142_0; first | rwa [add_block] at this | exact this) GW139.out))) _).trans (((cell_far (p := ⟨gb139, _, none⟩) (by first | exact Nat.ne_of_lt (Nat.lt_of_lt_of_le (by have := World.block_lt_of_cell? _ _ hw142_0; first | rwa [add_block] at this | exact this) GW139.out) | (rw [add_block]; exact Nat.ne_of_lt (Nat.lt_of_lt_of_le (by have := World.block_lt_of_cell? _ _ hw142_0; first | rwa [add_block] at this | exact this) GW139.out)) | (show (Addr.add _ _).block ≠ _; rw [add_block]; exact Nat.ne_of_lt (Nat.lt_of_lt_of_le (by have := World.block_lt_of_cell? _ _ hw142_0; first | rwa [add_block] at this | exact this) GW139.out)) | (dsimp only; exact Nat.ne_of_lt (Nat.lt_of_lt_of_le (by have := World.block_lt_of_cell? _ _ hw142_0; first | rwa [add_block] at this | exact this) GW139.out))) _).trans (((cell_far (p := ⟨gb139, _, none⟩) (by first | exact Nat.ne_of_lt (Nat.lt_of_lt_of_le (by have := World.block_lt_of_cell? _ _ hw142_0; first | rwa [add_block] at this | exact this) GW139.out) | (rw [add_block]; exact Nat.ne_of_lt (Nat.lt_of_lt_of_le (by have := World.block_lt_of_cell? _ _ hw142_0; first | rwa [add_block] at this | exact this) GW139.out)) | (show (Addr.add _ _).block ≠ _; rw [add_block]; exact Nat.ne_of_lt (Nat.lt_of_lt_of_le (by have := World.block_lt_of_cell? _ _ hw142_0; first | rwa [add_block] at this | exact this) GW139.out)) | (dsimp only; exact Nat.ne_of_lt (Nat.lt_of_lt_of_le (by have := World.block_lt_of_cell? _ _ hw142_0; first | rwa [add_block] at this | exact this) GW139.out))) _).trans (hHeld.1)))))))))))), ((cell_far (p := ⟨gb139, _, none⟩) (by first | exact Nat.ne_of_lt (Nat.lt_of_lt_of_le (by have := World.block_lt_of_cell? _ _ hw142_1; first | rwa [add_block] at this | exact this) GW139.out) | (rw [add_block]; exact Nat.ne_of_lt (Nat.lt_of_lt_of_le (by have := World.block_lt_of_cell? _ _ hw142_1; first | rwa [add_block] at this | exact this) GW139.out)) | (show (Addr.add _ _).block ≠ _; rw [add_block]; exact Nat.ne_of_lt (Nat.lt_of_lt_of_le (by have := World.block_lt_of_cell? _ _ hw142_1; first | rwa [add_block] at this | exact this) GW139.out)) | (dsimp only; exact Nat.ne_of_lt (Nat.lt_of_lt_of_le (by have := World.block_lt_of_cell? _ _ hw142_1; first | rwa [add_block] at this | exact this) GW139.out))) _).trans (((cell_far (p := ⟨gb139, _, none⟩) (by first | exact Nat.ne_of_lt (Nat.lt_of_lt_of_le (by have := World.block_lt_of_cell? _ _ hw142_1; first | rwa [add_block] at this | exact this) GW139.out) | (rw [add_block]; exact Nat.ne_of_lt (Nat.lt_of_lt_of_le (by have := World.block_lt_of_cell? _ _ hw142_1; first | rwa [add_block] at this | exact this) GW139.out)) | (show (Addr.add _ _).block ≠ _; rw [add_block]; exact Nat.ne_of_lt (Nat.lt_of_lt_of_le (by have := World.block_lt_of_cell? _ _ hw142_1; first | rwa [add_block] at this | exact this) GW139.out)) | (dsimp only; exact Nat.ne_of_lt (Nat.lt_of_lt_of_le (by have := World.block_lt_of_cell? _ _ hw142_1; first | rwa [add_block] at this | exact this) GW139.out))) _).trans (((cell_far (p := ⟨gb139, _, none⟩) (by first | exact Nat.ne_of_lt (Nat.lt_of_lt_of_le (by have := World.block_lt_of_cell? _ _ hw142_1; first | rwa [add_block] at this | exact this) GW139.out) | (rw [add_block]; exact Nat.ne_of_lt (Nat.lt_of_lt_of_le (by have := World.block_lt_of_cell? _ _ hw142_1; first | rwa [add_block] at this | exact this) GW139.out)) | (show (Addr.add _ _).block ≠ _; rw [add_block]; exact Nat.ne_of_lt (Nat.lt_of_lt_of_le (by have := World.block_lt_of_cell? _ _ hw142_1; first | rwa [add_block] at this | exact this) GW139.out)) | (dsimp only; exact Nat.ne_of_lt (Nat.lt_of_lt_of_le (by have := World.block_lt_of_cell? _ _ hw142_1; first | rwa [add_block] at this | exact this) GW139.out))) _).trans (((cell_far (p := ⟨gb139, _, none⟩) (by first | exact Nat.ne_of_lt (Nat.lt_of_lt_of_le (by have := World.block_lt_of_cell? _ _ hw142_1; first | rwa [add_block] at this | exact this) GW139.out) | (rw [add_block]; exact Nat.ne_of_lt (Nat.lt_of_lt_of_le (by have := World.block_lt_of_cell? _ _ hw142_1; first | rwa [add_block] at this | exact this) GW139.out)) | (show (Addr.add _ _).block ≠ _; rw [add_block]; exact Nat.ne_of_lt (Nat.lt_of_lt_of_le (by have := World.block_lt_of_cell? _ _ hw142_1; first | rwa [add_block] at this | exact this) GW139.out)) | (dsimp only; exact Nat.ne_of_lt (Nat.lt_of_lt_of_le (by have := World.block_lt_of_cell? _ _ hw142_1; first | rwa [add_block] at this | exact this) GW139.out))) _).trans (((cell_far (p := ⟨gb139, _, none⟩) (by first | exact Nat.ne_of_lt (Nat.lt_of_lt_of_le (by have := World.block_lt_of_cell? _ _ hw142_1; first | rwa [add_block] at this | exact this) GW139.out) | (rw [add_block]; exact Nat.ne_of_lt (Nat.lt_of_lt_of_le (by have := World.block_lt_of_cell? _ _ hw142_1; first | rwa [add_block] at this | exact this) GW139.out)) | (show (Addr.add _ _).block ≠ _; rw [add_block]; exact Nat.ne_of_lt (Nat.lt_of_lt_of_le (by have := World.block_lt_of_cell? _ _ hw142_1; first | rwa [add_block] at this | exact this) GW139.out)) | (dsimp only; exact Nat.ne_of_lt (Nat.lt_of_lt_of_le (by have := World.block_lt_of_cell? _ _ hw142_1; first | rwa [add_block] at this | exact this) GW139.out))) _).trans (((cell_far (p := ⟨gb139, _, none⟩) (by first | exact Nat.ne_of_lt (Nat.lt_of_lt_of_le (by have := World.block_lt_of_cell? _ _ hw142_1; first | rwa [add_block] at this | exact this) GW139.out) | (rw [add_block]; exact Nat.ne_of_lt (Nat.lt_of_lt_of_le (by have := World.block_lt_of_cell? _ _ hw142_1; first | rwa [add_block] at this | exact this) GW139.out)) | (show (Addr.add _ _).block ≠ _; rw [add_block]; exact Nat.ne_of_lt (Nat.lt_of_lt_of_le (by have := World.block_lt_of_cell? _ _ hw142_1; first | rwa [add_block] at this | exact this) GW139.out)) | (dsimp only; exact Nat.ne_of_lt (Nat.lt_of_lt_of_le (by have := World.block_lt_of_cell? _ _ hw142_1; first | rwa [add_block] at this | exact this) GW139.out))) _).trans (hHeld.2.1)))))))))))), ((cell_far (p := ⟨gb139, _, none⟩) (by first | exact Nat.ne_of_lt (Nat.lt_of_lt_of_le (by have := World.block_lt_of_cell? _ _ hw142_2; first | rwa [add_block] at this | exact this) GW139.out) | (rw [add_block]; exact Nat.ne_of_lt (Nat.lt_of_lt_of_le (by have := World.block_lt_of_cell? _ _ hw142_2; first | rwa [add_block] at this | exact this) GW139.out)) | (show (Addr.add _ _).block ≠ _; rw [add_block]; exact Nat.ne_of_lt (Nat.lt_of_lt_of_le (by have := World.block_lt_of_cell? _ _ hw142_2; first | rwa [add_block] at this | exact this) GW139.out)) | (dsimp only; exact Nat.ne_of_lt (Nat.lt_of_lt_of_le (by have := World.block_lt_of_cell? _ _ hw142_2; first | rwa [add_block] at this | exact this) GW139.out))) _).trans (((cell_far (p := ⟨gb139, _, none⟩) (by first | exact Nat.ne_of_lt (Nat.lt_of_lt_of_le (by have := World.block_lt_of_cell? _ _ hw142_2; first | rwa [add_block] at this | exact this) GW139.out) | (rw [add_block]; exact Nat.ne_of_lt (Nat.lt_of_lt_of_le (by have := World.block_lt_of_cell? _ _ hw142_2; first | rwa [add_block] at this | exact this) GW139.out)) | (show (Addr.add _ _).block ≠ _; rw [add_block]; exact Nat.ne_of_lt (Nat.lt_of_lt_of_le (by have := World.block_lt_of_cell? _ _ hw142_2; first | rwa [add_block] at this | exact this) GW139.out)) | (dsimp only; exact Nat.ne_of_lt (Nat.lt_of_lt_of_le (by have := World.block_lt_of_cell? _ _ hw142_2; first | rwa [add_block] at this | exact this) GW139.out))) _).trans (((cell_far (p := ⟨gb139, _, none⟩) (by first | exact Nat.ne_of_lt (Nat.lt_of_lt_of_le (by have := World.block_lt_of_cell? _ _ hw142_2; first | rwa [add_block] at this | exact this) GW139.out) | (rw [add_block]; exact Nat.ne_of_lt (Nat.lt_of_lt_of_le (by have := World.block_lt_of_cell? _ _ hw142_2; first | rwa [add_block] at this | exact this) GW139.out)) | (show (Addr.add _ _).block ≠ _; rw [add_block]; exact Nat.ne_of_lt (Nat.lt_of_lt_of_le (by have := World.block_lt_of_cell? _ _ hw142_2; first | rwa [add_block] at this | exact this) GW139.out)) | (dsimp only; exact Nat.ne_of_lt (Nat.lt_of_lt_of_le (by have := World.block_lt_of_cell? _ _ hw142_2; first | rwa [add_block] at this | exact this) GW139.out))) _).trans (((cell_far (p := ⟨gb139, _, none⟩) (by first | exact Nat.ne_of_lt (Nat.lt_of_lt_of_le (by have := World.block_lt_of_cell? _ _ hw142_2; first | rwa [add_block] at this | exact this) GW139.out) | (rw [add_block]; exact Nat.ne_of_lt (Nat.lt_of_lt_of_le (by have := World.block_lt_of_cell? _ _ hw142_2; first | rwa [add_block] at this | exact this) GW139.out)) | (show (Addr.add _ _).block ≠ _; rw [add_block]; exact Nat.ne_of_lt (Nat.lt_of_lt_of_le (by have := World.block_lt_of_cell? _ _ hw142_2; first | rwa [add_block] at this | exact this) GW139.out)) | (dsimp only; exact Nat.ne_of_lt (Nat.lt_of_lt_of_le (by have := World.block_lt_of_cell? _ _ hw142_2; first | rwa [add_block] at this | exact this) GW139.out))) _).trans (((cell_far (p := ⟨gb139, _, none⟩) (by first | exact Nat.ne_of_lt (Nat.lt_of_lt_of_le (by have := World.block_lt_of_cell? _ _ hw142_2; first | rwa [add_block] at this | exact this) GW139.out) | (rw [add_block]; exact Nat.ne_of_lt (Nat.lt_of_lt_of_le (by have := World.block_lt_of_cell? _ _ hw142_2; first | rwa [add_block] at this | exact this) GW139.out)) | (show (Addr.add _ _).block ≠ _; rw [add_block]; exact Nat.ne_of_lt (Nat.lt_of_lt_of_le (by have := World.block_lt_of_cell? _ _ hw142_2; first | rwa [add_block] at this | exact this) GW139.out)) | (dsimp only; exact Nat.ne_of_lt (Nat.lt_of_lt_of_le (by have := World.block_lt_of_cell? _ _ hw142_2; first | rwa [add_block] at this | exact this) GW139.out))) _).trans (((cell_far (p := ⟨gb139, _, none⟩) (by first | exact Nat.ne_of_lt (Nat.lt_of_lt_of_le (by have := World.block_lt_of_cell? _ _ hw142_2; first | rwa [add_block] at this | exact this) GW139.out) | (rw [add_block]; exact Nat.ne_of_lt (Nat.lt_of_lt_of_le (by have := World.block_lt_of_cell? _ _ hw142_2; first | rwa [add_block] at this | exact this) GW139.out)) | (show (Addr.add _ _).block ≠ _; rw [add_block]; exact Nat.ne_of_lt (Nat.lt_of_lt_of_le (by have := World.block_lt_of_cell? _ _ hw142_2; first | rwa [add_block] at this | exact this) GW139.out)) | (dsimp only; exact Nat.ne_of_lt (Nat.lt_of_lt_of_le (by have := World.block_lt_of_cell? _ _ hw142_2; first | rwa [add_block] at this | exact this) GW139.out))) _).trans (hHeld.2.2.1)))))))))))), ((cell_far (p := ⟨gb139, _, none⟩) (by first | exact Nat.ne_of_lt (Nat.lt_of_lt_of_le (by have := World.block_lt_of_cell? _ _ hw143_0; first | rwa [add_block] at this | exact this) GW139.out) | (rw [add_block]; exact Nat.ne_of_lt (Nat.lt_of_lt_of_le (by have := World.block_lt_of_cell? _ _ hw143_0; first | rwa [add_block] at this | exact this) GW139.out)) | (show (Addr.add _ _).block ≠ _; rw [add_block]; exact Nat.ne_of_lt (Nat.lt_of_lt_of_le (by have := World.block_lt_of_cell? _ _ hw143_0; first | rwa [add_block] at this | exact this) GW139.out)) | (dsimp only; exact Nat.ne_of_lt (Nat.lt_of_lt_of_le (by have := World.block_lt_of_cell? _ _ hw143_0; first | rwa [add_block] at this | exact this) GW139.out))) _).trans (((cell_far (p := ⟨gb139, _, none⟩) (by first | exact Nat.ne_of_lt (Nat.lt_of_lt_of_le (by have := World.block_lt_of_cell? _ _ hw143_0; first | rwa [add_block] at this | exact this) GW139.out) | (rw [add_block]; exact Nat.ne_of_lt (Nat.lt_of_lt_of_le (by have := World.block_lt_of_cell? _ _ hw143_0; first | rwa [add_block] at this | exact this) GW139.out)) | (show (Addr.add _ _).block ≠ _; rw [add_block]; exact Nat.ne_of_lt (Nat.lt_of_lt_of_le (by have := World.block_lt_of_cell? _ _ hw143_0; first | rwa [add_block] at this | exact this) GW139.out)) | (dsimp only; exact Nat.ne_of_lt (Nat.lt_of_lt_of_le (by have := World.block_lt_of_cell? _ _ hw143_0; first | rwa [add_block] at this | exact this) GW139.out))) _).trans (((cell_far (p := ⟨gb139, _, none⟩) (by first | exact Nat.ne_of_lt (Nat.lt_of_lt_of_le (by have := World.block_lt_of_cell? _ _ hw143_0; first | rwa [add_block] at this | exact this) GW139.out) | (rw [add_block]; exact Nat.ne_of_lt (Nat.lt_of_lt_of_le (by have := World.block_lt_of_cell? _ _ hw143_0; first | rwa [add_block] at this | exact this) GW139.out)) | (show (Addr.add _ _).block ≠ _; rw [add_block]; exact Nat.ne_of_lt (Nat.lt_of_lt_of_le (by have := World.block_lt_of_cell? _ _ hw143_0; first | rwa [add_block] at this | exact this) GW139.out)) | (dsimp only; exact Nat.ne_of_lt (Nat.lt_of_lt_of_le (by have := World.block_lt_of_cell? _ _ hw143_0; first | rwa [add_block] at this | exact this) GW139.out))) _).trans (((cell_far (p := ⟨gb139, _, none⟩) (by first | exact Nat.ne_of_lt (Nat.lt_of_lt_of_le (by have := World.block_lt_of_cell? _ _ hw143_0; first | rwa [add_block] at this | exact this) GW139.out) | (rw [add_block]; exact Nat.ne_of_lt (Nat.lt_of_lt_of_le (by have := World.block_lt_of_cell? _ _ hw143_0; first | rwa [add_block] at this | exact this) GW139.out)) | (show (Addr.add _ _).block ≠ _; rw [add_block]; exact Nat.ne_of_lt (Nat.lt_of_lt_of_le (by have := World.block_lt_of_cell? _ _ hw143_0; first | rwa [add_block] at this | exact this) GW139.out)) | (dsimp only; exact Nat.ne_of_lt (Nat.lt_of_lt_of_le (by have := World.block_lt_of_cell? _ _ hw143_0; first | rwa [add_block] at this | exact this) GW139.out))) _).trans (((cell_far (p := ⟨gb139, _, none⟩) (by first | exact Nat.ne_of_lt (Nat.lt_of_lt_of_le (by have := World.block_lt_of_cell? _ _ hw143_0; first | rwa [add_block] at this | exact this) GW139.out) | (rw [add_block]; exact Nat.ne_of_lt (Nat.lt_of_lt_of_le (by have := World.block_lt_of_cell? _ _ hw143_0; first | rwa [add_block] at this | exact this) GW139.out)) | (show (Addr.add _ _).block ≠ _; rw [add_block]; exact Nat.ne_of_lt (Nat.lt_of_lt_of_le (by have := World.block_lt_of_cell? _ _ hw143_0; first | rwa [add_block] at this | exact this) GW139.out)) | (dsimp only; exact Nat.ne_of_lt (Nat.lt_of_lt_of_le (by have := World.block_lt_of_cell? _ _ hw143_0; first | rwa [add_block] at this | exact this) GW139.out))) _).trans (((cell_far (p := ⟨gb139, _, none⟩) (by first | exact Nat.ne_of_lt (Nat.lt_of_lt_of_le (by have := World.block_lt_of_cell? _ _ hw143_0; first | rwa [add_block] at this | exact this) GW139.out) | (rw [add_block]; exact Nat.ne_of_lt (Nat.lt_of_lt_of_le (by have := World.block_lt_of_cell? _ _ hw143_0; first | rwa [add_block] at this | exact this) GW139.out)) | (show (Addr.add _ _).block ≠ _; rw [add_block]; exact Nat.ne_of_lt (Nat.lt_of_lt_of_le (by have := World.block_lt_of_cell? _ _ hw143_0; first | rwa [add_block] at this | exact this) GW139.out)) | (dsimp only; exact Nat.ne_of_lt (Nat.lt_of_lt_of_le (by have := World.block_lt_of_cell? _ _ hw143_0; first | rwa [add_block] at this | exact this) GW139.out))) _).trans (hHeld.2.2.2.1)))))))))))), ((cell_far (p := ⟨gb139, _, none⟩) (by first | exact Nat.ne_of_lt (Nat.lt_of_lt_of_le (by have := World.block_lt_of_cell? _ _ hw143_1; first | rwa [add_block] at this | exact this) GW139.out) | (rw [add_block]; exact Nat.ne_of_lt (Nat.lt_of_lt_of_le (by have := World.block_lt_of_cell? _ _ hw143_1; first | rwa [add_block] at this | exact this) GW139.out)) | (show (Addr.add _ _).block ≠ _; rw [add_block]; exact Nat.ne_of_lt (Nat.lt_of_lt_of_le (by have := World.block_lt_of_cell? _ _ hw143_1; first | rwa [add_block] at this | exact this) GW139.out)) | (dsimp only; exact Nat.ne_of_lt (Nat.lt_of_lt_of_le (by have := World.block_lt_of_cell? _ _ hw143_1; first | rwa [add_block] at this | exact this) GW139.out))) _).trans (((cell_far (p := ⟨gb139, _, none⟩) (by first | exact Nat.ne_of_lt (Nat.lt_of_lt_of_le (by have := World.block_lt_of_cell? _ _ hw143_1; first | rwa [add_block] at this | exact this) GW139.out) | (rw [add_block]; exact Nat.ne_of_lt (Nat.lt_of_lt_of_le (by have := World.block_lt_of_cell? _ _ hw143_1; first | rwa [add_block] at this | exact this) GW139.out)) | (show (Addr.add _ _).block ≠ _; rw [add_block]; exact Nat.ne_of_lt (Nat.lt_of_lt_of_le (by have := World.block_lt_of_cell? _ _ hw143_1; first | rwa [add_block] at this | exact this) GW139.out)) | (dsimp only; exact Nat.ne_of_lt (Nat.lt_of_lt_of_le (by have := World.block_lt_of_cell? _ _ hw143_1; first | rwa [add_block] at this | exact this) GW139.out))) _).trans (((cell_far (p := ⟨gb139, _, none⟩) (by first | exact Nat.ne_of_lt (Nat.lt_of_lt_of_le (by have := World.block_lt_of_cell? _ _ hw143_1; first | rwa [add_block] at this | exact this) GW139.out) | (rw [add_block]; exact Nat.ne_of_lt (Nat.lt_of_lt_of_le (by have := World.block_lt_of_cell? _ _ hw143_1; first | rwa [add_block] at this | exact this) GW139.out)) | (show (Addr.add _ _).block ≠ _; rw [add_block]; exact Nat.ne_of_lt (Nat.lt_of_lt_of_le (by have := World.block_lt_of_cell? _ _ hw143_1; first | rwa [add_block] at this | exact this) GW139.out)) | (dsimp only; exact Nat.ne_of_lt (Nat.lt_of_lt_of_le (by have := World.block_lt_of_cell? _ _ hw143_1; first | rwa [add_block] at this | exact this) GW139.out))) _).trans (((cell_far (p := ⟨gb139, _, none⟩) (by first | exact Nat.ne_of_lt (Nat.lt_of_lt_of_le (by have := World.block_lt_of_cell? _ _ hw143_1; first | rwa [add_block] at this | exact this) GW139.out) | (rw [add_block]; exact Nat.ne_of_lt (Nat.lt_of_lt_of_le (by have := World.block_lt_of_cell? _ _ hw143_1; first | rwa [add_block] at this | exact this) GW139.out)) | (show (Addr.add _ _).block ≠ _; rw [add_block]; exact Nat.ne_of_lt (Nat.lt_of_lt_of_le (by have := World.block_lt_of_cell? _ _ hw143_1; first | rwa [add_block] at this | exact this) GW139.out)) | (dsimp only; exact Nat.ne_of_lt (Nat.lt_of_lt_of_le (by have := World.block_lt_of_cell? _ _ hw143_1; first | rwa [add_block] at this | exact this) GW139.out))) _).trans (((cell_far (p := ⟨gb139, _, none⟩) (by first | exact Nat.ne_of_lt (Nat.lt_of_lt_of_le (by have := World.block_lt_of_cell? _ _ hw143_1; first | rwa [add_block] at this | exact this) GW139.out) | (rw [add_block]; exact Nat.ne_of_lt (Nat.lt_of_lt_of_le (by have := World.block_lt_of_cell? _ _ hw143_1; first | rwa [add_block] at this | exact this) GW139.out)) | (show (Addr.add _ _).block ≠ _; rw [add_block]; exact Nat.ne_of_lt (Nat.lt_of_lt_of_le (by have := World.block_lt_of_cell? _ _ hw143_1; first | rwa [add_block] at this | exact this) GW139.out)) | (dsimp only; exact Nat.ne_of_lt (Nat.lt_of_lt_of_le (by have := World.block_lt_of_cell? _ _ hw143_1; first | rwa [add_block] at this | exact this) GW139.out))) _).trans (((cell_far (p := ⟨gb139, _, none⟩) (by first | exact Nat.ne_of_lt (Nat.lt_of_lt_of_le (by have := World.block_lt_of_cell? _ _ hw143_1; first | rwa [add_block] at this | exact this) GW139.out) | (rw [add_block]; exact Nat.ne_of_lt (Nat.lt_of_lt_of_le (by have := World.block_lt_of_cell? _ _ hw143_1; first | rwa [add_block] at this | exact this) GW139.out)) | (show (Addr.add _ _).block ≠ _; rw [add_block]; exact Nat.ne_of_lt (Nat.lt_of_lt_of_le (by have := World.block_lt_of_cell? _ _ hw143_1; first | rwa [add_block] at this | exact this) GW139.out)) | (dsimp only; exact Nat.ne_of_lt (Nat.lt_of_lt_of_le (by have := World.block_lt_of_cell? _ _ hw143_1; first | rwa [add_block] at this | exact this) GW139.out))) _).trans (hHeld.2.2.2.2.1)))))))))))), ((cell_far (p := ⟨gb139, _, none⟩) (by first | exact Nat.ne_of_lt (Nat.lt_of_lt_of_le (by have := World.block_lt_of_cell? _ _ hw143_2; first | rwa [add_block] at this | exact this) GW139.out) | (rw [add_block]; exact Nat.ne_of_lt (Nat.lt_of_lt_of_le (by have := World.block_lt_of_cell? _ _ hw143_2; first | rwa [add_block] at this | exact this) GW139.out)) | (show (Addr.add _ _).block ≠ _; rw [add_block]; exact Nat.ne_of_lt (Nat.lt_of_lt_of_le (by have := World.block_lt_of_cell? _ _ hw143_2; first | rwa [add_block] at this | exact this) GW139.out)) | (dsimp only; exact Nat.ne_of_lt (Nat.lt_of_lt_of_le (by have := World.block_lt_of_cell? _ _ hw143_2; first | rwa [add_block] at this | exact this) GW139.out))) _).trans (((cell_far (p := ⟨gb139, _, none⟩) (by first | exact Nat.ne_of_lt (Nat.lt_of_lt_of_le (by have := World.block_lt_of_cell? _ _ hw143_2; first | rwa [add_block] at this | exact this) GW139.out) | (rw [add_block]; exact Nat.ne_of_lt (Nat.lt_of_lt_of_le (by have := World.block_lt_of_cell? _ _ hw143_2; first | rwa [add_block] at this | exact this) GW139.out)) | (show (Addr.add _ _).block ≠ _; rw [add_block]; exact Nat.ne_of_lt (Nat.lt_of_lt_of_le (by have := World.block_lt_of_cell? _ _ hw143_2; first | rwa [add_block] at this | exact this) GW139.out)) | (dsimp only; exact Nat.ne_of_lt (Nat.lt_of_lt_of_le (by have := World.block_lt_of_cell? _ _ hw143_2; first | rwa [add_block] at this | exact this) GW139.out))) _).trans (((cell_far (p := ⟨gb139, _, none⟩) (by first | exact Nat.ne_of_lt (Nat.lt_of_lt_of_le (by have := World.block_lt_of_cell? _ _ hw143_2; first | rwa [add_block] at this | exact this) GW139.out) | (rw [add_block]; exact Nat.ne_of_lt (Nat.lt_of_lt_of_le (by have := World.block_lt_of_cell? _ _ hw143_2; first | rwa [add_block] at this | exact this) GW139.out)) | (show (Addr.add _ _).block ≠ _; rw [add_block]; exact Nat.ne_of_lt (Nat.lt_of_lt_of_le (by have := World.block_lt_of_cell? _ _ hw143_2; first | rwa [add_block] at this | exact this) GW139.out)) | (dsimp only; exact Nat.ne_of_lt (Nat.lt_of_lt_of_le (by have := World.block_lt_of_cell? _ _ hw143_2; first | rwa [add_block] at this | exact this) GW139.out))) _).trans (((cell_far (p := ⟨gb139, _, none⟩) (by first | exact Nat.ne_of_lt (Nat.lt_of_lt_of_le (by have := World.block_lt_of_cell? _ _ hw143_2; first | rwa [add_block] at this | exact this) GW139.out) | (rw [add_block]; exact Nat.ne_of_lt (Nat.lt_of_lt_of_le (by have := World.block_lt_of_cell? _ _ hw143_2; first | rwa [add_block] at this | exact this) GW139.out)) | (show (Addr.add _ _).block ≠ _; rw [add_block]; exact Nat.ne_of_lt (Nat.lt_of_lt_of_le (by have := World.block_lt_of_cell? _ _ hw143_2; first | rwa [add_block] at this | exact this) GW139.out)) | (dsimp only; exact Nat.ne_of_lt (Nat.lt_of_lt_of_le (by have := World.block_lt_of_cell? _ _ hw143_2; first | rwa [add_block] at this | exact this) GW139.out))) _).trans (((cell_far (p := ⟨gb139, _, none⟩) (by first | exact Nat.ne_of_lt (Nat.lt_of_lt_of_le (by have := World.block_lt_of_cell? _ _ hw143_2; first | rwa [add_block] at this | exact this) GW139.out) | (rw [add_block]; exact Nat.ne_of_lt (Nat.lt_of_lt_of_le (by have := World.block_lt_of_cell? _ _ hw143_2; first | rwa [add_block] at this | exact this) GW139.out)) | (show (Addr.add _ _).block ≠ _; rw [add_block]; exact Nat.ne_of_lt (Nat.lt_of_lt_of_le (by have := World.block_lt_of_cell? _ _ hw143_2; first | rwa [add_block] at this | exact this) GW139.out)) | (dsimp only; exact Nat.ne_of_lt (Nat.lt_of_lt_of_le (by have := World.block_lt_of_cell? _ _ hw143_2; first | rwa [add_block] at this | exact this) GW139.out))) _).trans (((cell_far (p := ⟨gb139, _, none⟩) (by first | exact Nat.ne_of_lt (Nat.lt_of_lt_of_le (by have := World.block_lt_of_cell? _ _ hw143_2; first | rwa [add_block] at this | exact this) GW139.out) | (rw [add_block]; exact Nat.ne_of_lt (Nat.lt_of_lt_of_le (by have := World.block_lt_of_cell? _ _ hw143_2; first | rwa [add_block] at this | exact this) GW139.out)) | (show (Addr.add _ _).block ≠ _; rw [add_block]; exact Nat.ne_of_lt (Nat.lt_of_lt_of_le (by have := World.block_lt_of_cell? _ _ hw143_2; first | rwa [add_block] at this | exact this) GW139.out)) | (dsimp only; exact Nat.ne_of_lt (Nat.lt_of_lt_of_le (by have := World.block_lt_of_cell? _ _ hw143_2; first | rwa [add_block] at this | exact this) GW139.out))) _).trans (hHeld.2.2.2.2.2.1)))))))))))), ((cell_far (p := ⟨gb139, _, none⟩) (by first | exact Nat.ne_of_lt (Nat.lt_of_lt_of_le (by have := World.block_lt_of_cell? _ _ hw144_0; first | rwa [add_block] at this | exact this) GW139.out) | (rw [add_block]; exact Nat.ne_of_lt (Nat.lt_of_lt_of_le (by have := World.block_lt_of_cell? _ _ hw144_0; first | rwa [add_block] at this | exact this) GW139.out)) | (show (Addr.add _ _).block ≠ _; rw [add_block]; exact Nat.ne_of_lt (Nat.lt_of_lt_of_le (by have := World.block_lt_of_cell? _ _ hw144_0; first | rwa [add_block] at this | exact this) GW139.out)) | (dsimp only; exact Nat.ne_of_lt (Nat.lt_of_lt_of_le (by have := World.block_lt_of_cell? _ _ hw144_0; first | rwa [add_block] at this | exact this) GW139.out))) _).trans (((cell_far (p := ⟨gb139, _, none⟩) (by first | exact Nat.ne_of_lt (Nat.lt_of_lt_of_le (by have := World.block_lt_of_cell? _ _ hw144_0; first | rwa [add_block] at this | exact this) GW139.out) | (rw [add_block]; exact Nat.ne_of_lt (Nat.lt_of_lt_of_le (by have := World.block_lt_of_cell? _ _ hw144_0; first | rwa [add_block] at this | exact this) GW139.out)) | (show (Addr.add _ _).block ≠ _; rw [add_block]; exact Nat.ne_of_lt (Nat.lt_of_lt_of_le (by have := World.block_lt_of_cell? _ _ hw144_0; first | rwa [add_block] at this | exact this) GW139.out)) | (dsimp only; exact Nat.ne_of_lt (Nat.lt_of_lt_of_le (by have := World.block_lt_of_cell? _ _ hw144_0; first | rwa [add_block] at this | exact this) GW139.out))) _).trans (((cell_far (p := ⟨gb139, _, none⟩) (by first | exact Nat.ne_of_lt (Nat.lt_of_lt_of_le (by have := World.block_lt_of_cell? _ _ hw144_0; first | rwa [add_block] at this | exact this) GW139.out) | (rw [add_block]; exact Nat.ne_of_lt (Nat.lt_of_lt_of_le (by have := World.block_lt_of_cell? _ _ hw144_0; first | rwa [add_block] at this | exact this) GW139.out)) | (show (Addr.add _ _).block ≠ _; rw [add_block]; exact Nat.ne_of_lt (Nat.lt_of_lt_of_le (by have := World.block_lt_of_cell? _ _ hw144_0; first | rwa [add_block] at this | exact this) GW139.out)) | (dsimp only; exact Nat.ne_of_lt (Nat.lt_of_lt_of_le (by have := World.block_lt_of_cell? _ _ hw144_0; first | rwa [add_block] at this | exact this) GW139.out))) _).trans (((cell_far (p := ⟨gb139, _, none⟩) (by first | exact Nat.ne_of_lt (Nat.lt_of_lt_of_le (by have := World.block_lt_of_cell? _ _ hw144_0; first | rwa [add_block] at this | exact this) GW139.out) | (rw [add_block]; exact Nat.ne_of_lt (Nat.lt_of_lt_of_le (by have := World.block_lt_of_cell? _ _ hw144_0; first | rwa [add_block] at this | exact this) GW139.out)) | (show (Addr.add _ _).block ≠ _; rw [add_block]; exact Nat.ne_of_lt (Nat.lt_of_lt_of_le (by have := World.block_lt_of_cell? _ _ hw144_0; first | rwa [add_block] at this | exact this) GW139.out)) | (dsimp only; exact Nat.ne_of_lt (Nat.lt_of_lt_of_le (by have := World.block_lt_of_cell? _ _ hw144_0; first | rwa [add_block] at this | exact this) GW139.out))) _).trans (((cell_far (p := ⟨gb139, _, none⟩) (by first | exact Nat.ne_of_lt (Nat.lt_of_lt_of_le (by have := World.block_lt_of_cell? _ _ hw144_0; first | rwa [add_block] at this | exact this) GW139.out) | (rw [add_block]; exact Nat.ne_of_lt (Nat.lt_of_lt_of_le (by have := World.block_lt_of_cell? _ _ hw144_0; first | rwa [add_block] at this | exact this) GW139.out)) | (show (Addr.add _ _).block ≠ _; rw [add_block]; exact Nat.ne_of_lt (Nat.lt_of_lt_of_le (by have := World.block_lt_of_cell? _ _ hw144_0; first | rwa [add_block] at this | exact this) GW139.out)) | (dsimp only; exact Nat.ne_of_lt (Nat.lt_of_lt_of_le (by have := World.block_lt_of_cell? _ _ hw144_0; first | rwa [add_block] at this | exact this) GW139.out))) _).trans (((cell_far (p := ⟨gb139, _, none⟩) (by first | exact Nat.ne_of_lt (Nat.lt_of_lt_of_le (by have := World.block_lt_of_cell? _ _ hw144_0; first | rwa [add_block] at this | exact this) GW139.out) | (rw [add_block]; exact Nat.ne_of_lt (Nat.lt_of_lt_of_le (by have := World.block_lt_of_cell? _ _ hw144_0; first | rwa [add_block] at this | exact this) GW139.out)) | (show (Addr.add _ _).block ≠ _; rw [add_block]; exact Nat.ne_of_lt (Nat.lt_of_lt_of_le (by have := World.block_lt_of_cell? _ _ hw144_0; first | rwa [add_block] at this | exact this) GW139.out)) | (dsimp only; exact Nat.ne_of_lt (Nat.lt_of_lt_of_le (by have := World.block_lt_of_cell? _ _ hw144_0; first | rwa [add_block] at this | exact this) GW139.out))) _).trans (hHeld.2.2.2.2.2.2.1)))))))))))), ((cell_far (p := ⟨gb139, _, none⟩) (by first | exact Nat.ne_of_lt (Nat.lt_of_lt_of_le (by have := World.block_lt_of_cell? _ _ hw144_1; first | rwa [add_block] at this | exact this) GW139.out) | (rw [add_block]; exact Nat.ne_of_lt (Nat.lt_of_lt_of_le (by have := World.block_lt_of_cell? _ _ hw144_1; first | rwa [add_block] at this | exact this) GW139.out)) | (show (Addr.add _ _).block ≠ _; rw [add_block]; exact Nat.ne_of_lt (Nat.lt_of_lt_of_le (by have := World.block_lt_of_cell? _ _ hw144_1; first | rwa [add_block] at this | exact this) GW139.out)) | (dsimp only; exact Nat.ne_of_lt (Nat.lt_of_lt_of_le (by have := World.block_lt_of_cell? _ _ hw144_1; first | rwa [add_block] at this | exact this) GW139.out))) _).trans (((cell_far (p := ⟨gb139, _, none⟩) (by first | exact Nat.ne_of_lt (Nat.lt_of_lt_of_le (by have := World.block_lt_of_cell? _ _ hw144_1; first | rwa [add_block] at this | exact this) GW139.out) | (rw [add_block]; exact Nat.ne_of_lt (Nat.lt_of_lt_of_le (by have := World.block_lt_of_cell? _ _ hw144_1; first | rwa [add_block] at this | exact this) GW139.out)) | (show (Addr.add _ _).block ≠ _; rw [add_block]; exact Nat.ne_of_lt (Nat.lt_of_lt_of_le (by have := World.block_lt_of_cell? _ _ hw144_1; first | rwa [add_block] at this | exact this) GW139.out)) | (dsimp only; exact Nat.ne_of_lt (Nat.lt_of_lt_of_le (by have := World.block_lt_of_cell? _ _ hw144_1; first | rwa [add_block] at this | exact this) GW139.out))) _).trans (((cell_far (p := ⟨gb139, _, none⟩) (by first | exact Nat.ne_of_lt (Nat.lt_of_lt_of_le (by have := World.block_lt_of_cell? _ _ hw144_1; first | rwa [add_block] at this | exact this) GW139.out) | (rw [add_block]; exact Nat.ne_of_lt (Nat.lt_of_lt_of_le (by have := World.block_lt_of_cell? _ _ hw144_1; first | rwa [add_block] at this | exact this) GW139.out)) | (show (Addr.add _ _).block ≠ _; rw [add_block]; exact Nat.ne_of_lt (Nat.lt_of_lt_of_le (by have := World.block_lt_of_cell? _ _ hw144_1; first | rwa [add_block] at this | exact this) GW139.out)) | (dsimp only; exact Nat.ne_of_lt (Nat.lt_of_lt_of_le (by have := World.block_lt_of_cell? _ _ hw144_1; first | rwa [add_block] at this | exact this) GW139.out))) _).trans (((cell_far (p := ⟨gb139, _, none⟩) (by first | exact Nat.ne_of_lt (Nat.lt_of_lt_of_le (by have := World.block_lt_of_cell? _ _ hw144_1; first | rwa [add_block] at this | exact this) GW139.out) | (rw [add_block]; exact Nat.ne_of_lt (Nat.lt_of_lt_of_le (by have := World.block_lt_of_cell? _ _ hw144_1; first | rwa [add_block] at this | exact this) GW139.out)) | (show (Addr.add _ _).block ≠ _; rw [add_block]; exact Nat.ne_of_lt (Nat.lt_of_lt_of_le (by have := World.block_lt_of_cell? _ _ hw144_1; first | rwa [add_block] at this | exact this) GW139.out)) | (dsimp only; exact Nat.ne_of_lt (Nat.lt_of_lt_of_le (by have := World.block_lt_of_cell? _ _ hw144_1; first | rwa [add_block] at this | exact this) GW139.out))) _).trans (((cell_far (p := ⟨gb139, _, none⟩) (by first | exact Nat.ne_of_lt (Nat.lt_of_lt_of_le (by have := World.block_lt_of_cell? _ _ hw144_1; first | rwa [add_block] at this | exact this) GW139.out) | (rw [add_block]; exact Nat.ne_of_lt (Nat.lt_of_lt_of_le (by have := World.block_lt_of_cell? _ _ hw144_1; first | rwa [add_block] at this | exact this) GW139.out)) | (show (Addr.add _ _).block ≠ _; rw [add_block]; exact Nat.ne_of_lt (Nat.lt_of_lt_of_le (by have := World.block_lt_of_cell? _ _ hw144_1; first | rwa [add_block] at this | exact this) GW139.out)) | (dsimp only; exact Nat.ne_of_lt (Nat.lt_of_lt_of_le (by have := World.block_lt_of_cell? _ _ hw144_1; first | rwa [add_block] at this | exact this) GW139.out))) _).trans (((cell_far (p := ⟨gb139, _, none⟩) (by first | exact Nat.ne_of_lt (Nat.lt_of_lt_of_le (by have := World.block_lt_of_cell? _ _ hw144_1; first | rwa [add_block] at this | exact this) GW139.out) | (rw [add_block]; exact Nat.ne_of_lt (Nat.lt_of_lt_of_le (by have := World.block_lt_of_cell? _ _ hw144_1; first | rwa [add_block] at this | exact this) GW139.out)) | (show (Addr.add _ _).block ≠ _; rw [add_block]; exact Nat.ne_of_lt (Nat.lt_of_lt_of_le (by have := World.block_lt_of_cell? _ _ hw144_1; first | rwa [add_block] at this | exact this) GW139.out)) | (dsimp only; exact Nat.ne_of_lt (Nat.lt_of_lt_of_le (by have := World.block_lt_of_cell? _ _ hw144_1; first | rwa [add_block] at this | exact this) GW139.out))) _).trans (hHeld.2.2.2.2.2.2.2.1)))))))))))), ((cell_far (p := ⟨gb139, _, none⟩) (by first | exact Nat.ne_of_lt (Nat.lt_of_lt_of_le (by have := World.block_lt_of_cell? _ _ hw144_2; first | rwa [add_block] at this | exact this) GW139.out) | (rw [add_block]; exact Nat.ne_of_lt (Nat.lt_of_lt_of_le (by have := World.block_lt_of_cell? _ _ hw144_2; first | rwa [add_block] at this | exact this) GW139.out)) | (show (Addr.add _ _).block ≠ _; rw [add_block]; exact Nat.ne_of_lt (Nat.lt_of_lt_of_le (by have := World.block_lt_of_cell? _ _ hw144_2; first | rwa [add_block] at this | exact this) GW139.out)) | (dsimp only; exact Nat.ne_of_lt (Nat.lt_of_lt_of_le (by have := World.block_lt_of_cell? _ _ hw144_2; first | rwa [add_block] at this | exact this) GW139.out))) _).trans (((cell_far (p := ⟨gb139, _, none⟩) (by first | exact Nat.ne_of_lt (Nat.lt_of_lt_of_le (by have := World.block_lt_of_cell? _ _ hw144_2; first | rwa [add_block] at this | exact this) GW139.out) | (rw [add_block]; exact Nat.ne_of_lt (Nat.lt_of_lt_of_le (by have := World.block_lt_of_cell? _ _ hw144_2; first | rwa [add_block] at this | exact this) GW139.out)) | (show (Addr.add _ _).block ≠ _; rw [add_block]; exact Nat.ne_of_lt (Nat.lt_of_lt_of_le (by have := World.block_lt_of_cell? _ _ hw144_2; first | rwa [add_block] at this | exact this) GW139.out)) | (dsimp only; exact Nat.ne_of_lt (Nat.lt_of_lt_of_le (by have := World.block_lt_of_cell? _ _ hw144_2; first | rwa [add_block] at this | exact this) GW139.out))) _).trans (((cell_far (p := ⟨gb139, _, none⟩) (by first | exact Nat.ne_of_lt (Nat.lt_of_lt_of_le (by have := World.block_lt_of_cell? _ _ hw144_2; first | rwa [add_block] at this | exact this) GW139.out) | (rw [add_block]; exact Nat.ne_of_lt (Nat.lt_of_lt_of_le (by have := World.block_lt_of_cell? _ _ hw144_2; first | rwa [add_block] at this | exact this) GW139.out)) | (show (Addr.add _ _).block ≠ _; rw [add_block]; exact Nat.ne_of_lt (Nat.lt_of_lt_of_le (by have := World.block_lt_of_cell? _ _ hw144_2; first | rwa [add_block] at this | exact this) GW139.out)) | (dsimp only; exact Nat.ne_of_lt (Nat.lt_of_lt_of_le (by have := World.block_lt_of_cell? _ _ hw144_2; first | rwa [add_block] at this | exact this) GW139.out))) _).trans (((cell_far (p := ⟨gb139, _, none⟩) (by first | exact Nat.ne_of_lt (Nat.lt_of_lt_of_le (by have := World.block_lt_of_cell? _ _ hw144_2; first | rwa [add_block] at this | exact this) GW139.out) | (rw [add_block]; exact Nat.ne_of_lt (Nat.lt_of_lt_of_le (by have := World.block_lt_of_cell? _ _ hw144_2; first | rwa [add_block] at this | exact this) GW139.out)) | (show (Addr.add _ _).block ≠ _; rw [add_block]; exact Nat.ne_of_lt (Nat.lt_of_lt_of_le (by have := World.block_lt_of_cell? _ _ hw144_2; first | rwa [add_block] at this | exact this) GW139.out)) | (dsimp only; exact Nat.ne_of_lt (Nat.lt_of_lt_of_le (by have := World.block_lt_of_cell? _ _ hw144_2; first | rwa [add_block] at this | exact this) GW139.out))) _).trans (((cell_far (p := ⟨gb139, _, none⟩) (by first | exact Nat.ne_of_lt (Nat.lt_of_lt_of_le (by have := World.block_lt_of_cell? _ _ hw144_2; first | rwa [add_block] at this | exact this) GW139.out) | (rw [add_block]; exact Nat.ne_of_lt (Nat.lt_of_lt_of_le (by have := World.block_lt_of_cell? _ _ hw144_2; first | rwa [add_block] at this | exact this) GW139.out)) | (show (Addr.add _ _).block ≠ _; rw [add_block]; exact Nat.ne_of_lt (Nat.lt_of_lt_of_le (by have := World.block_lt_of_cell? _ _ hw144_2; first | rwa [add_block] at this | exact this) GW139.out)) | (dsimp only; exact Nat.ne_of_lt (Nat.lt_of_lt_of_le (by have := World.block_lt_of_cell? _ _ hw144_2; first | rwa [add_block] at this | exact this) GW139.out))) _).trans (((cell_far (p := ⟨gb139, _, none⟩) (by first | exact Nat.ne_of_lt (Nat.lt_of_lt_of_le (by have := World.block_lt_of_cell? _ _ hw144_2; first | rwa [add_block] at this | exact this) GW139.out) | (rw [add_block]; exact Nat.ne_of_lt (Nat.lt_of_lt_of_le (by have := World.block_lt_of_cell? _ _ hw144_2; first | rwa [add_block] at this | exact this) GW139.out)) | (show (Addr.add _ _).block ≠ _; rw [add_block]; exact Nat.ne_of_lt (Nat.lt_of_lt_of_le (by have := World.block_lt_of_cell? _ _ hw144_2; first | rwa [add_block] at this | exact this) GW139.out)) | (dsimp only; exact Nat.ne_of_lt (Nat.lt_of_lt_of_le (by have := World.block_lt_of_cell? _ _ hw144_2; first | rwa [add_block] at this | exact this) GW139.out))) _).trans (hHeld.2.2.2.2.2.2.2.2.1)))))))))))), ((cell_far (p := ⟨gb139, _, none⟩) (by first | exact Nat.ne_of_lt (Nat.lt_of_lt_of_le (by have := World.block_lt_of_cell? _ _ hw145_0; first | rwa [add_block] at this | exact this) GW139.out) | (rw [add_block]; exact Nat.ne_of_lt (Nat.lt_of_lt_of_le (by have := World.block_lt_of_cell? _ _ hw145_0; first | rwa [add_block] at this | exact this) GW139.out)) | (show (Addr.add _ _).block ≠ _; rw [add_block]; exact Nat.ne_of_lt (Nat.lt_of_lt_of_le (by have := World.block_lt_of_cell? _ _ hw145_0; first | rwa [add_block] at this | exact this) GW139.out)) | (dsimp only; exact Nat.ne_of_lt (Nat.lt_of_lt_of_le (by have := World.block_lt_of_cell? _ _ hw145_0; first | rwa [add_block] at this | exact this) GW139.out))) _).trans (((cell_far (p := ⟨gb139, _, none⟩) (by first | exact Nat.ne_of_lt (Nat.lt_of_lt_of_le (by have := World.block_lt_of_cell? _ _ hw145_0; first | rwa [add_block] at this | exact this) GW139.out) | (rw [add_block]; exact Nat.ne_of_lt (Nat.lt_of_lt_of_le (by have := World.block_lt_of_cell? _ _ hw145_0; first | rwa [add_block] at this | exact this) GW139.out)) | (show (Addr.add _ _).block ≠ _; rw [add_block]; exact Nat.ne_of_lt (Nat.lt_of_lt_of_le (by have := World.block_lt_of_cell? _ _ hw145_0; first | rwa [add_block] at this | exact this) GW139.out)) | (dsimp only; exact Nat.ne_of_lt (Nat.lt_of_lt_of_le (by have := World.block_lt_of_cell? _ _ hw145_0; first | rwa [add_block] at this | exact this) GW139.out))) _).trans (((cell_far (p := ⟨gb139, _, none⟩) (by first | exact Nat.ne_of_lt (Nat.lt_of_lt_of_le (by have := World.block_lt_of_cell? _ _ hw145_0; first | rwa [add_block] at this | exact this) GW139.out) | (rw [add_block]; exact Nat.ne_of_lt (Nat.lt_of_lt_of_le (by have := World.block_lt_of_cell? _ _ hw145_0; first | rwa [add_block] at this | exact this) GW139.out)) | (show (Addr.add _ _).block ≠ _; rw [add_block]; exact Nat.ne_of_lt (Nat.lt_of_lt_of_le (by have := World.block_lt_of_cell? _ _ hw145_0; first | rwa [add_block] at this | exact this) GW139.out)) | (dsimp only; exact Nat.ne_of_lt (Nat.lt_of_lt_of_le (by have := World.block_lt_of_cell? _ _ hw145_0; first | rwa [add_block] at this | exact this) GW139.out))) _).trans (((cell_far (p := ⟨gb139, _, none⟩) (by first | exact Nat.ne_of_lt (Nat.lt_of_lt_of_le (by have := World.block_lt_of_cell? _ _ hw145_0; first | rwa [add_block] at this | exact this) GW139.out) | (rw [add_block]; exact Nat.ne_of_lt (Nat.lt_of_lt_of_le (by have := World.block_lt_of_cell? _ _ hw145_0; first | rwa [add_block] at this | exact this) GW139.out)) | (show (Addr.add _ _).block ≠ _; rw [add_block]; exact Nat.ne_of_lt (Nat.lt_of_lt_of_le (by have := World.block_lt_of_cell? _ _ hw145_0; first | rwa [add_block] at this | exact this) GW139.out)) | (dsimp only; exact Nat.ne_of_lt (Nat.lt_of_lt_of_le (by have := World.block_lt_of_cell? _ _ hw145_0; first | rwa [add_block] at this | exact this) GW139.out))) _).trans (((cell_far (p := ⟨gb139, _, none⟩) (by first | exact Nat.ne_of_lt (Nat.lt_of_lt_of_le (by have := World.block_lt_of_cell? _ _ hw145_0; first | rwa [add_block] at this | exact this) GW139.out) | (rw [add_block]; exact Nat.ne_of_lt (Nat.lt_of_lt_of_le (by have := World.block_lt_of_cell? _ _ hw145_0; first | rwa [add_block] at this | exact this) GW139.out)) | (show (Addr.add _ _).block ≠ _; rw [add_block]; exact Nat.ne_of_lt (Nat.lt_of_lt_of_le (by have := World.block_lt_of_cell? _ _ hw145_0; first | rwa [add_block] at this | exact this) GW139.out)) | (dsimp only; exact Nat.ne_of_lt (Nat.lt_of_lt_of_le (by have := World.block_lt_of_cell? _ _ hw145_0; first | rwa [add_block] at this | exact this) GW139.out))) _).trans (((cell_far (p := ⟨gb139, _, none⟩) (by first | exact Nat.ne_of_lt (Nat.lt_of_lt_of_le (by have := World.block_lt_of_cell? _ _ hw145_0; first | rwa [add_block] at this | exact this) GW139.out) | (rw [add_block]; exact Nat.ne_of_lt (Nat.lt_of_lt_of_le (by have := World.block_lt_of_cell? _ _ hw145_0; first | rwa [add_block] at this | exact this) GW139.out)) | (show (Addr.add _ _).block ≠ _; rw [add_block]; exact Nat.ne_of_lt (Nat.lt_of_lt_of_le (by have := World.block_lt_of_cell? _ _ hw145_0; first | rwa [add_block] at this | exact this) GW139.out)) | (dsimp only; exact Nat.ne_of_lt (Nat.lt_of_lt_of_le (by have := World.block_lt_of_cell? _ _ hw145_0; first | rwa [add_block] at this | exact this) GW139.out))) _).trans (hHeld.2.2.2.2.2.2.2.2.2.1)))))))))))), ((cell_far (p := ⟨gb139, _, none⟩) (by first | exact Nat.ne_of_lt (Nat.lt_of_lt_of_le (by have := World.block_lt_of_cell? _ _ hw145_1; first | rwa [add_block] at this | exact this) GW139.out) | (rw [add_block]; exact Nat.ne_of_lt (Nat.lt_of_lt_of_le (by have := World.block_lt_of_cell? _ _ hw145_1; first | rwa [add_block] at this | exact this) GW139.out)) | (show (Addr.add _ _).block ≠ _; rw [add_block]; exact Nat.ne_of_lt (Nat.lt_of_lt_of_le (by have := World.block_lt_of_cell? _ _ hw145_1; first | rwa [add_block] at this | exact this) GW139.out)) | (dsimp only; exact Nat.ne_of_lt (Nat.lt_of_lt_of_le (by have := World.block_lt_of_cell? _ _ hw145_1; first | rwa [add_block] at this | exact this) GW139.out))) _).trans (((cell_far (p := ⟨gb139, _, none⟩) (by first | exact Nat.ne_of_lt (Nat.lt_of_lt_of_le (by have := World.block_lt_of_cell? _ _ hw145_1; first | rwa [add_block] at this | exact this) GW139.out) | (rw [add_block]; exact Nat.ne_of_lt (Nat.lt_of_lt_of_le (by have := World.block_lt_of_cell? _ _ hw145_1; first | rwa [add_block] at this | exact this) GW139.out)) | (show (Addr.add _ _).block ≠ _; rw [add_block]; exact Nat.ne_of_lt (Nat.lt_of_lt_of_le (by have := World.block_lt_of_cell? _ _ hw145_1; first | rwa [add_block] at this | exact this) GW139.out)) | (dsimp only; exact Nat.ne_of_lt (Nat.lt_of_lt_of_le (by have := World.block_lt_of_cell? _ _ hw145_1; first | rwa [add_block] at this | exact this) GW139.out))) _).trans (((cell_far (p := ⟨gb139, _, none⟩) (by first | exact Nat.ne_of_lt (Nat.lt_of_lt_of_le (by have := World.block_lt_of_cell? _ _ hw145_1; first | rwa [add_block] at this | exact this) GW139.out) | (rw [add_block]; exact Nat.ne_of_lt (Nat.lt_of_lt_of_le (by have := World.block_lt_of_cell? _ _ hw145_1; first | rwa [add_block] at this | exact this) GW139.out)) | (show (Addr.add _ _).block ≠ _; rw [add_block]; exact Nat.ne_of_lt (Nat.lt_of_lt_of_le (by have := World.block_lt_of_cell? _ _ hw145_1; first | rwa [add_block] at this | exact this) GW139.out)) | (dsimp only; exact Nat.ne_of_lt (Nat.lt_of_lt_of_le (by have := World.block_lt_of_cell? _ _ hw145_1; first | rwa [add_block] at this | exact this) GW139.out))) _).trans (((cell_far (p := ⟨gb139, _, none⟩) (by first | exact Nat.ne_of_lt (Nat.lt_of_lt_of_le (by have := World.block_lt_of_cell? _ _ hw145_1; first | rwa [add_block] at this | exact this) GW139.out) | (rw [add_block]; exact Nat.ne_of_lt (Nat.lt_of_lt_of_le (by have := World.block_lt_of_cell? _ _ hw145_1; first | rwa [add_block] at this | exact this) GW139.out)) | (show (Addr.add _ _).block ≠ _; rw [add_block]; exact Nat.ne_of_lt (Nat.lt_of_lt_of_le (by have := World.block_lt_of_cell? _ _ hw145_1; first | rwa [add_block] at this | exact this) GW139.out)) | (dsimp only; exact Nat.ne_of_lt (Nat.lt_of_lt_of_le (by have := World.block_lt_of_cell? _ _ hw145_1; first | rwa [add_block] at this | exact this) GW139.out))) _).trans (((cell_far (p := ⟨gb139, _, none⟩) (by first | exact Nat.ne_of_lt (Nat.lt_of_lt_of_le (by have := World.block_lt_of_cell? _ _ hw145_1; first | rwa [add_block] at this | exact this) GW139.out) | (rw [add_block]; exact Nat.ne_of_lt (Nat.lt_of_lt_of_le (by have := World.block_lt_of_cell? _ _ hw145_1; first | rwa [add_block] at this | exact this) GW139.out)) | (show (Addr.add _ _).block ≠ _; rw [add_block]; exact Nat.ne_of_lt (Nat.lt_of_lt_of_le (by have := World.block_lt_of_cell? _ _ hw145_1; first | rwa [add_block] at this | exact this) GW139.out)) | (dsimp only; exact Nat.ne_of_lt (Nat.lt_of_lt_of_le (by have := World.block_lt_of_cell? _ _ hw145_1; first | rwa [add_block] at this | exact this) GW139.out))) _).trans (((cell_far (p := ⟨gb139, _, none⟩) (by first | exact Nat.ne_of_lt (Nat.lt_of_lt_of_le (by have := World.block_lt_of_cell? _ _ hw145_1; first | rwa [add_block] at this | exact this) GW139.out) | (rw [add_block]; exact Nat.ne_of_lt (Nat.lt_of_lt_of_le (by have := World.block_lt_of_cell? _ _ hw145_1; first | rwa [add_block] at this | exact this) GW139.out)) | (show (Addr.add _ _).block ≠ _; rw [add_block]; exact Nat.ne_of_lt (Nat.lt_of_lt_of_le (by have := World.block_lt_of_cell? _ _ hw145_1; first | rwa [add_block] at this | exact this) GW139.out)) | (dsimp only; exact Nat.ne_of_lt (Nat.lt_of_lt_of_le (by have := World.block_lt_of_cell? _ _ hw145_1; first | rwa [add_block] at this | exact this) GW139.out))) _).trans (hHeld.2.2.2.2.2.2.2.2.2.2.1)))))))))))), ((cell_far (p := ⟨gb139, _, none⟩) (by first | exact Nat.ne_of_lt (Nat.lt_of_lt_of_le (by have := World.block_lt_of_cell? _ _ hw145_2; first | rwa [add_block] at this | exact this) GW139.out) | (rw [add_block]; exact Nat.ne_of_lt (Nat.lt_of_lt_of_le (by have := World.block_lt_of_cell? _ _ hw145_2; first | rwa [add_block] at this | exact this) GW139.out)) | (show (Addr.add _ _).block ≠ _; rw [add_block]; exact Nat.ne_of_lt (Nat.lt_of_lt_of_le (by have := World.block_lt_of_cell? _ _ hw145_2; first | rwa [add_block] at this | exact this) GW139.out)) | (dsimp only; exact Nat.ne_of_lt (Nat.lt_of_lt_of_le (by have := World.block_lt_of_cell? _ _ hw145_2; first | rwa [add_block] at this | exact this) GW139.out))) _).trans (((cell_far (p := ⟨gb139, _, none⟩) (by first | exact Nat.ne_of_lt (Nat.lt_of_lt_of_le (by have := World.block_lt_of_cell? _ _ hw145_2; first | rwa [add_block] at this | exact this) GW139.out) | (rw [add_block]; exact Nat.ne_of_lt (Nat.lt_of_lt_of_le (by have := World.block_lt_of_cell? _ _ hw145_2; first | rwa [add_block] at this | exact this) GW139.out)) | (show (Addr.add _ _).block ≠ _; rw [add_block]; exact Nat.ne_of_lt (Nat.lt_of_lt_of_le (by have := World.block_lt_of_cell? _ _ hw145_2; first | rwa [add_block] at this | exact this) GW139.out)) | (dsimp only; exact Nat.ne_of_lt (Nat.lt_of_lt_of_le (by have := World.block_lt_of_cell? _ _ hw145_2; first | rwa [add_block] at this | exact this) GW139.out))) _).trans (((cell_far (p := ⟨gb139, _, none⟩) (by first | exact Nat.ne_of_lt (Nat.lt_of_lt_of_le (by have := World.block_lt_of_cell? _ _ hw145_2; first | rwa [add_block] at this | exact this) GW139.out) | (rw [add_block]; exact Nat.ne_of_lt (Nat.lt_of_lt_of_le (by have := World.block_lt_of_cell? _ _ hw145_2; first | rwa [add_block] at this | exact this) GW139.out)) | (show (Addr.add _ _).block ≠ _; rw [add_block]; exact Nat.ne_of_lt (Nat.lt_of_lt_of_le (by have := World.block_lt_of_cell? _ _ hw145_2; first | rwa [add_block] at this | exact this) GW139.out)) | (dsimp only; exact Nat.ne_of_lt (Nat.lt_of_lt_of_le (by have := World.block_lt_of_cell? _ _ hw145_2; first | rwa [add_block] at this | exact this) GW139.out))) _).trans (((cell_far (p := ⟨gb139, _, none⟩) (by first | exact Nat.ne_of_lt (Nat.lt_of_lt_of_le (by have := World.block_lt_of_cell? _ _ hw145_2; first | rwa [add_block] at this | exact this) GW139.out) | (rw [add_block]; exact Nat.ne_of_lt (Nat.lt_of_lt_of_le (by have := World.block_lt_of_cell? _ _ hw145_2; first | rwa [add_block] at this | exact this) GW139.out)) | (show (Addr.add _ _).block ≠ _; rw [add_block]; exact Nat.ne_of_lt (Nat.lt_of_lt_of_le (by have := World.block_lt_of_cell? _ _ hw145_2; first | rwa [add_block] at this | exact this) GW139.out)) | (dsimp only; exact Nat.ne_of_lt (Nat.lt_of_lt_of_le (by have := World.block_lt_of_cell? _ _ hw145_2; first | rwa [add_block] at this | exact this) GW139.out))) _).trans (((cell_far (p := ⟨gb139, _, none⟩) (by first | exact Nat.ne_of_lt (Nat.lt_of_lt_of_le (by have := World.block_lt_of_cell? _ _ hw145_2; first | rwa [add_block] at this | exact this) GW139.out) | (rw [add_block]; exact Nat.ne_of_lt (Nat.lt_of_lt_of_le (by have := World.block_lt_of_cell? _ _ hw145_2; first | rwa [add_block] at this | exact this) GW139.out)) | (show (Addr.add _ _).block ≠ _; rw [add_block]; exact Nat.ne_of_lt (Nat.lt_of_lt_of_le (by have := World.block_lt_of_cell? _ _ hw145_2; first | rwa [add_block] at this | exact this) GW139.out)) | (dsimp only; exact Nat.ne_of_lt (Nat.lt_of_lt_of_le (by have := World.block_lt_of_cell? _ _ hw145_2; first | rwa [add_block] at this | exact this) GW139.out))) _).trans (((cell_far (p := ⟨gb139, _, none⟩) (by first | exact Nat.ne_of_lt (Nat.lt_of_lt_of_le (by have := World.block_lt_of_cell? _ _ hw145_2; first | rwa [add_block] at this | exact this) GW139.out) | (rw [add_block]; exact Nat.ne_of_lt (Nat.lt_of_lt_of_le (by have := World.block_lt_of_cell? _ _ hw145_2; first | rwa [add_block] at this | exact this) GW139.out)) | (show (Addr.add _ _).block ≠ _; rw [add_block]; exact Nat.ne_of_lt (Nat.lt_of_lt_of_le (by have := World.block_lt_of_cell? _ _ hw145_2; first | rwa [add_block] at this | exact this) GW139.out)) | (dsimp only; exact Nat.ne_of_lt (Nat.lt_of_lt_of_le (by have := World.block_lt_of_cell? _ _ hw145_2; first | rwa [add_block] at this | exact this) GW139.out))) _).trans (hHeld.2.2.2.2.2.2.2.2.2.2.2))))))))))))⟩ (fun hHeld => ?_)
                      clear hK K
                      refine pure_ (i := 19) (N := some 3) (v := ?_) (a' := ?_) #[true, true, true, true, true, true, true, true, true, true, true, true, true, true, true, true, true, true, true, true] rfl rfl (any_of HT_.out (by kernel_rfl)) (fun _ _ _ h => h) (Or.inl ⟨by rfl, ?_⟩) ?_ ?_
                      rotate_left
                      · intro w'
                        go_simp
                        with_reducible rfl
                      rotate_left
                      · simp only [Act.put, List.setIfInBounds_toArray, List.set_cons_zero, List.set_cons_succ, i64_w, i32_w]
                        rfl
                      refine done_ (done_of HT_.out (by kernel_rfl)) ?_
                      try go_wp2
                      refine bodyPost_ret (results_ct rfl _ _ gb139 33 #[.int .i64 ((rd_T26 l0 0).f1), .int .i64 ((rd_T26 l0 1).f1), .int .u64 (IntKind.u64.wrap ((rd_T26 l0 2).f1)), .int .i64 ((rd_T26 l0 3).f0), .int .i64 ((rd_T26 l0 3).f1), .string ((rd_T26 l0 3).f2)] (0, 0) _ rfl (by (with_reducible repeat (first | refine blk_drewN ?_ _ | refine blk_drew ?_ | refine blk_alloc ?_ _)); refine blk_put (cs := #[.int .i64 ((rd_T26 l0 0).f1), .int .i64 ((rd_T26 l0 1).f1), .int .u64 (IntKind.u64.wrap ((rd_T26 l0 2).f1)), .int .i64 ((rd_T26 l0 3).f0), .int .i64 ((rd_T26 l0 3).f1), .string x140005_2]) ?_ 5 _ rfl; (with_reducible repeat (first | refine blk_drewN ?_ _ | refine blk_drew ?_ | refine blk_alloc ?_ _)); refine blk_put (cs := #[.int .i64 ((rd_T26 l0 0).f1), .int .i64 ((rd_T26 l0 1).f1), .int .u64 (IntKind.u64.wrap ((rd_T26 l0 2).f1)), .int .i64 ((rd_T26 l0 3).f0), .int .i64 x140004_2, .string x140005_2]) ?_ 4 _ rfl; (with_reducible repeat (first | refine blk_drewN ?_ _ | refine blk_drew ?_ | refine blk_alloc ?_ _)); refine blk_put (cs := #[.int .i64 ((rd_T26 l0 0).f1), .int .i64 ((rd_T26 l0 1).f1), .int .u64 (IntKind.u64.wrap ((rd_T26 l0 2).f1)), .int .i64 x140003_2, .int .i64 x140004_2, .string x140005_2]) ?_ 3 _ rfl; (with_reducible repeat (first | refine blk_drewN ?_ _ | refine blk_drew ?_ | refine blk_alloc ?_ _)); refine blk_put (cs := #[.int .i64 ((rd_T26 l0 0).f1), .int .i64 ((rd_T26 l0 1).f1), .int .u64 x140002_2, .int .i64 x140003_2, .int .i64 x140004_2, .string x140005_2]) ?_ 2 _ rfl; (with_reducible repeat (first | refine blk_drewN ?_ _ | refine blk_drew ?_ | refine blk_alloc ?_ _)); refine blk_put (cs := #[.int .i64 ((rd_T26 l0 0).f1), .int .i64 x140001_2, .int .u64 x140002_2, .int .i64 x140003_2, .int .i64 x140004_2, .string x140005_2]) ?_ 1 _ rfl; (with_reducible repeat (first | refine blk_drewN ?_ _ | refine blk_drew ?_ | refine blk_alloc ?_ _)); refine blk_put (cs := #[.int .i64 x140000_2, .int .i64 x140001_2, .int .u64 x140002_2, .int .i64 x140003_2, .int .i64 x140004_2, .string x140005_2]) ?_ 0 _ rfl; (with_reducible repeat (first | refine blk_drewN ?_ _ | refine blk_drew ?_ | refine blk_alloc ?_ _)); exact BK139.out) Try.underlying33 rfl (by kernel_rfl)) rfl ?_
                      exact ⟨by first | rfl | (simp [errW_none, errW_some] <;> rfl) | (simp [*, errW_none, errW_some] <;> rfl), by repeat (first | (with_reducible first | exact HB.out | apply below_alloc | apply pw_below_drewN | apply below_drew1 | refine below_set ?_ GE139.out) | exact HB.out)⟩
                    · rw [if_neg c20] at H
                      exact absurd H (by simp)
                  · rw [if_neg c19] at H
                    exact absurd H (by simp)
                · rw [if_neg c18] at H
                  exact absurd H (by simp)
              · rw [if_neg c17] at H
                exact absurd H (by simp)

end Go.Proofs.Ytphdbhneefmkcaa.Q
