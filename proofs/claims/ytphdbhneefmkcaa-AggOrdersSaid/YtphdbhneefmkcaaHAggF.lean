/- agg.Fold over ints, by the example's function: walked. -/
import Derived.Test.YtphdbhneefmkcaaHAggG
import Derived.LoopTactic
namespace Go.Proofs.Ytphdbhneefmkcaa.Q
open Go.RowKit Go.Proofs.YtphdbhneefmkcaaW.PrintWords Go.Proofs.YtphdbhneefmkcaaW.PrintLast Go.Proofs.YtphdbhneefmkcaaW.PrintMore
set_option linter.unusedVariables false
set_option linter.unusedSimpArgs false

theorem blk_far6 {w : World} {g h : Nat} {t : TypeId} {cs : Array Value} (hb : w.heap[g]? = some (.cells cs t (0, 0))) (hne : g ≠ h) (y0 y1 y2 y3 y4 y5 : Value) :
    ((((((w.setCell ⟨h, 0, none⟩ y0).setCell ⟨h, 1, none⟩ y1).setCell ⟨h, 2, none⟩ y2).setCell ⟨h, 3, none⟩ y3).setCell ⟨h, 4, none⟩ y4).setCell ⟨h, 5, none⟩ y5).heap[g]? = some (.cells cs t (0, 0)) :=
  blk_far (p := ⟨h, 5, none⟩) (blk_far (p := ⟨h, 4, none⟩) (blk_far (p := ⟨h, 3, none⟩) (blk_far (p := ⟨h, 2, none⟩) (blk_far (p := ⟨h, 1, none⟩) (blk_far (p := ⟨h, 0, none⟩) hb hne y0) hne y1) hne y2) hne y3) hne y4) hne y5
theorem below_set6 {W w : World} {h : Nat} (hb : Below W.heap.size W w) (hle : W.heap.size ≤ h) (y0 y1 y2 y3 y4 y5 : Value) : Below W.heap.size W ((((((w.setCell ⟨h, 0, none⟩ y0).setCell ⟨h, 1, none⟩ y1).setCell ⟨h, 2, none⟩ y2).setCell ⟨h, 3, none⟩ y3).setCell ⟨h, 4, none⟩ y4).setCell ⟨h, 5, none⟩ y5) :=
  below_set (below_set (below_set (below_set (below_set (below_set hb hle) hle) hle) hle) hle) hle
/-- What values come to, one behind the other. -/
def foldA (kind : Int) : Int → Int → Int → Int → Int → ByteArray → List (Int × Int × ByteArray) → Option (Int × Int × Int × Int × Int × ByteArray × Int)
  | a0, a1, a2, a3, a4, a5, [] => some (a0, a1, a2, a3, a4, a5, 0)
  | a0, a1, a2, a3, a4, a5, v :: l => (agg_Add.f kind a0 a1 a2 a3 a4 a5 v.1 v.2.1 v.2.2).bind fun r => if r.2.2.2.2.2.2 = 0 then foldA kind r.1 r.2.1 r.2.2.1 r.2.2.2.1 r.2.2.2.2.1 r.2.2.2.2.2.1 l else some (0, 0, 0, 0, 0, ⟨#[]⟩, r.2.2.2.2.2.2)
theorem example_calls (n : Int) (w : World) : Calls Try.prog 28 #[.int .i64 n] w fun e w' => e = .returned (.agg #[.int .i64 1, .int .i64 n, .string ⟨#[]⟩]) ∧ Below w.heap.size w w' := by
  go_enter Try.func28, Try.ntmps28
  go_wp2
  have hR := blk_new w (.cells #[.int .i64 1, .int .i64 n, .string ⟨#[]⟩] 26)
  refine bodyPost_ret (results_single rfl (.cell _ _ _ _ _ rfl hR Try.underlying26 rfl (by kernel_rfl) .nil)) rfl ⟨rfl, ?_⟩
  with_reducible repeat (first | exact Below.refl _ _ | apply below_alloc)
set_option maxHeartbeats 4000000 in
set_option maxRecDepth 100000 in
theorem fold_ints (kind : Int) (hk : ¬ (kind < 1 ∨ kind > 5)) (A : Option Addr) (c : Nat) (l : List Int) (r0 r1 r2 r3 r4 : Int) (r5 : ByteArray) (r6 : Int) (w : World) (hr : Kd.C (Kd.int .i64) w A l.length l) (hc : l.length ≤ c)
    (hf : foldA kind 0 0 0 0 0 ⟨#[]⟩ (l.map fun n => (1, n, ⟨#[]⟩)) = some (r0, r1, r2, r3, r4, r5, r6)) :
    Calls Try.prog 27 #[.int .i64 kind, .slice A l.length c, .func (.func 28) #[] #[]] w fun e w' => e = .returned (.tuple #[.agg #[.int .i64 r0, .int .i64 r1, .int .u64 r2, .int .i64 r3, .int .i64 r4, .string r5], .int .i64 r6]) ∧ Below w.heap.size w w' := by
  have qf := fn_eq
  have hmax := Kd.C_max hr
  have HR := Aside0.mk hr
  have HF := Aside0.mk hf
  clear hr hf
  go_enter Try.func27, Try.ntmps27
  go_wp2_with fail
  refine (merges_calls kind _).mono ?_
  rintro e w1 ⟨⟨v, rfl, hm⟩, hb1⟩
  obtain ⟨bZ, bA, hB, hz⟩ := blk2 hb1
  obtain ⟨fn, fs, cs, rfl⟩ : ∃ fn fs cs, v = .func fn fs cs := by
    rcases hm with ⟨_, h⟩ | ⟨_, h⟩ | ⟨_, _, _, h, _⟩ | ⟨h, _⟩
    · exact ⟨_, _, _, h⟩
    · exact ⟨_, _, _, h⟩
    · exact ⟨_, _, _, h⟩
    · exfalso; omega
  clear hm
  have HB := Aside0.mk hB
  have BA := Aside0.mk bA
  have BZ := Aside0.mk bZ
  clear bA bZ hB hb1 hk
  go_wp2_with fail
  obtain ⟨vs, hvs⟩ : ∃ vs : List (Int × Int × ByteArray), vs = l.map fun n => (1, n, ⟨#[]⟩) := ⟨_, rfl⟩
  have HV := Aside0.mk hvs
  rw [← hvs] at HF
  clear hvs
  go_loopg [19] (l.length) (fun kq v19 wr => ∃ (i : Nat) (x0 x1 x2 x3 x4 : Int) (x5 : ByteArray), v19 = .int .i64 i ∧ Aside0 (i + kq = l.length) ∧ Aside0 (foldA kind x0 x1 x2 x3 x4 x5 (vs.drop i) = some (r0, r1, r2, r3, r4, r5, r6)) ∧ Aside0 (wr.heap[w.heap.size]? = some (.cells #[.int .i64 0, .int .i64 0, .int .u64 0, .int .i64 0, .int .i64 0, .string ⟨#[]⟩] 28 (0, 0))) ∧ Aside0 (wr.heap[w.heap.size + 1]? = some (.cells #[.int .i64 x0, .int .i64 x1, .int .u64 x2, .int .i64 x3, .int .i64 x4, .string x5] 28 (0, 0))) ∧ Aside0 (Below w.heap.size w wr))
  case atStart => exact ⟨0, 0, 0, 0, 0, 0, ⟨#[]⟩, rfl, ⟨by omega⟩, ⟨by rw [List.drop_zero]; exact HF.out⟩, BZ, BA, HB⟩
  case round =>
    clear HF BZ BA HB hz
    obtain ⟨i, x0, x1, x2, x3, x4, x5, rfl, HI, HF, BZ, BA, HB⟩ := hrel
    by_cases hlt : i < l.length
    · have hlb : decide ((i : Int) < (l.length : Int)) = true := decide_eq_true (by omega)
      have hlb2 : decide (i < l.length) = true := decide_eq_true hlt
      have hi1 : (i : Int) + 1 ≤ 9223372036854775807 := by omega
      obtain ⟨n, hn⟩ : ∃ n, rd l (i : Int) = n := ⟨_, rfl⟩
      have hF := HF.out
      have hdrop : vs.drop i = (1, n, ⟨#[]⟩) :: vs.drop (i + 1) := by
        rw [HV.out, ← List.map_drop, ← List.map_drop, List.drop_eq_getElem_cons hlt, List.map_cons, ← hn]
        unfold rd
        rw [Int.toNat_natCast, List.getD_eq_getElem?_getD, List.getElem?_eq_getElem hlt]
        rfl
      rw [hdrop] at hF
      unfold foldA at hF
      obtain ⟨⟨y0, y1, y2, y3, y4, y5, y6⟩, hA, hF⟩ := Option.bind_eq_some_iff.1 hF
      simp only at hF
      obtain ⟨ad, rfl, hcell⟩ := Kd.at_int (Kd.C_below HR.out HB.out) (i : Int) (by omega) (by omega)
      rw [hn, Int.toNat_natCast] at hcell
      have HA := Aside0.mk hA
      have HF2 := Aside0.mk hF
      clear HF hdrop hF hn hA
      go_upto_region 8 with (fail)
      go_cut [11] (fun v11 wc => v11 = .int .i64 y6 ∧ Aside0 (wc.heap[w.heap.size]? = some (.cells #[.int .i64 0, .int .i64 0, .int .u64 0, .int .i64 0, .int .i64 0, .string ⟨#[]⟩] 28 (0, 0))) ∧ Aside0 (wc.heap[w.heap.size + 1]? = some (.cells #[.int .i64 y0, .int .i64 y1, .int .u64 y2, .int .i64 y3, .int .i64 y4, .string y5] 28 (0, 0))) ∧ Aside0 (Below w.heap.size w wc))
      case first =>
        have bA := BA.out
        have cA0 : wr.cell? ⟨w.heap.size + 1, 0, none⟩ = some (.int .i64 x0) := (blk_cell bA 0).trans rfl
        have cA1 : wr.cell? ⟨w.heap.size + 1, 1, none⟩ = some (.int .i64 x1) := (blk_cell bA 1).trans rfl
        have cA2 : wr.cell? ⟨w.heap.size + 1, 2, none⟩ = some (.int .u64 x2) := (blk_cell bA 2).trans rfl
        have cA3 : wr.cell? ⟨w.heap.size + 1, 3, none⟩ = some (.int .i64 x3) := (blk_cell bA 3).trans rfl
        have cA4 : wr.cell? ⟨w.heap.size + 1, 4, none⟩ = some (.int .i64 x4) := (blk_cell bA 4).trans rfl
        have cA5 : wr.cell? ⟨w.heap.size + 1, 5, none⟩ = some (.string x5) := (blk_cell bA 5).trans rfl
        clear bA
        go_region_with (first
          | (go_at_call 28; refine (example_calls n _).mono ?_; rintro e v1 ⟨rfl, hd1⟩; have bz1 : v1.heap[w.heap.size]? = some (.cells #[.int .i64 0, .int .i64 0, .int .u64 0, .int .i64 0, .int .i64 0, .string ⟨#[]⟩] 28 (0, 0)) := blk_below (by with_reducible repeat (first | exact BZ.out | refine blk_drewN ?_ _ | refine blk_drew ?_)) hd1; have ba1 : v1.heap[w.heap.size + 1]? = some (.cells #[.int .i64 x0, .int .i64 x1, .int .u64 x2, .int .i64 x3, .int .i64 x4, .string x5] 28 (0, 0)) := blk_below (by with_reducible repeat (first | exact BA.out | refine blk_drewN ?_ _ | refine blk_drew ?_)) hd1; have HB1 : Aside0 (Below w.heap.size w v1) := ⟨below_step (by with_reducible repeat (first | exact HB.out | apply below_drew1 | apply pw_below_drewN)) hd1⟩; have d0 : v1.cell? ⟨w.heap.size + 1, 0, none⟩ = some (.int .i64 x0) := (blk_cell ba1 0).trans rfl; have k0 : v1.frozen? ⟨w.heap.size + 1, 0, none⟩ = false := blk_frozen ba1 0; have d1 : v1.cell? ⟨w.heap.size + 1, 1, none⟩ = some (.int .i64 x1) := (blk_cell ba1 1).trans rfl; have k1 : v1.frozen? ⟨w.heap.size + 1, 1, none⟩ = false := blk_frozen ba1 1; have d2 : v1.cell? ⟨w.heap.size + 1, 2, none⟩ = some (.int .u64 x2) := (blk_cell ba1 2).trans rfl; have k2 : v1.frozen? ⟨w.heap.size + 1, 2, none⟩ = false := blk_frozen ba1 2; have d3 : v1.cell? ⟨w.heap.size + 1, 3, none⟩ = some (.int .i64 x3) := (blk_cell ba1 3).trans rfl; have k3 : v1.frozen? ⟨w.heap.size + 1, 3, none⟩ = false := blk_frozen ba1 3; have d4 : v1.cell? ⟨w.heap.size + 1, 4, none⟩ = some (.int .i64 x4) := (blk_cell ba1 4).trans rfl; have k4 : v1.frozen? ⟨w.heap.size + 1, 4, none⟩ = false := blk_frozen ba1 4; have d5 : v1.cell? ⟨w.heap.size + 1, 5, none⟩ = some (.string x5) := (blk_cell ba1 5).trans rfl; have k5 : v1.frozen? ⟨w.heap.size + 1, 5, none⟩ = false := blk_frozen ba1 5; have BA1 := Aside0.mk ba1; have BZ1 := Aside0.mk bz1; clear hd1 bz1 ba1)
          | (go_at_call 10; refine (agg_Add.calls kind x0 x1 x2 x3 x4 x5 1 n ⟨#[]⟩ y0 y1 y2 y3 y4 y5 y6 _ HA.out).mono ?_; rintro e v2 ⟨rfl, hd2⟩; have BZ2 : Aside0 (v2.heap[w.heap.size]? = some (.cells #[.int .i64 0, .int .i64 0, .int .u64 0, .int .i64 0, .int .i64 0, .string ⟨#[]⟩] 28 (0, 0))) := ⟨blk_below BZ1.out hd2⟩; have ba2 : v2.heap[w.heap.size + 1]? = some (.cells #[.int .i64 x0, .int .i64 x1, .int .u64 x2, .int .i64 x3, .int .i64 x4, .string x5] 28 (0, 0)) := blk_below BA1.out hd2; have HB2 : Aside0 (Below w.heap.size w v2) := ⟨below_step HB1.out hd2⟩; have g0 : v2.cell? ⟨w.heap.size + 1, 0, none⟩ = some (.int .i64 x0) := (blk_cell ba2 0).trans rfl; have h0 : v2.frozen? ⟨w.heap.size + 1, 0, none⟩ = false := blk_frozen ba2 0; have g1 : v2.cell? ⟨w.heap.size + 1, 1, none⟩ = some (.int .i64 x1) := (blk_cell ba2 1).trans rfl; have h1 : v2.frozen? ⟨w.heap.size + 1, 1, none⟩ = false := blk_frozen ba2 1; have g2 : v2.cell? ⟨w.heap.size + 1, 2, none⟩ = some (.int .u64 x2) := (blk_cell ba2 2).trans rfl; have h2 : v2.frozen? ⟨w.heap.size + 1, 2, none⟩ = false := blk_frozen ba2 2; have g3 : v2.cell? ⟨w.heap.size + 1, 3, none⟩ = some (.int .i64 x3) := (blk_cell ba2 3).trans rfl; have h3 : v2.frozen? ⟨w.heap.size + 1, 3, none⟩ = false := blk_frozen ba2 3; have g4 : v2.cell? ⟨w.heap.size + 1, 4, none⟩ = some (.int .i64 x4) := (blk_cell ba2 4).trans rfl; have h4 : v2.frozen? ⟨w.heap.size + 1, 4, none⟩ = false := blk_frozen ba2 4; have g5 : v2.cell? ⟨w.heap.size + 1, 5, none⟩ = some (.string x5) := (blk_cell ba2 5).trans rfl; have h5 : v2.frozen? ⟨w.heap.size + 1, 5, none⟩ = false := blk_frozen ba2 5; have BA2 := Aside0.mk ba2; clear hd2 ba2))
        all_goals (go_wp2; go_meet; case rel => exact ⟨rfl, ⟨blk_far6 BZ2.out (show w.heap.size ≠ w.heap.size + 1 by omega) (.int .i64 y0) (.int .i64 y1) (.int .u64 y2) (.int .i64 y3) (.int .i64 y4) (.string y5)⟩, ⟨blk_put6 BA2.out (.int .i64 y0) (.int .i64 y1) (.int .u64 y2) (.int .i64 y3) (.int .i64 y4) (.string y5)⟩, ⟨below_set6 HB2.out (by omega) (.int .i64 y0) (.int .i64 y1) (.int .u64 y2) (.int .i64 y3) (.int .i64 y4) (.string y5)⟩⟩)
      case rest =>
        obtain ⟨rfl, BZ, BA, HB⟩ := hcut
        have hF := HF2.out
        by_cases h6 : y6 = 0
        · rw [if_pos h6] at hF
          obtain rfl := h6
          have HF := Aside0.mk hF
          cases gk with
          | zero => exact absurd HI.out (by omega)
          | succ k1 =>
            clear hF HF2 HA
            go_wp2
            go_roundg k1
            case measure => omega
            case rel => exact ⟨i + 1, y0, y1, y2, y3, y4, y5, by congr 1, ⟨by have := HI.out; omega⟩, HF, BZ, BA, HB⟩
        · rw [if_neg h6] at hF
          have h6b : (y6 != 0) = true := by simpa using h6
          simp only [Option.some.injEq, Prod.mk.injEq] at hF
          obtain ⟨rfl, rfl, rfl, rfl, rfl, rfl, rfl⟩ := hF
          have bZ := BZ.out
          have cZ0 : wc.cell? ⟨w.heap.size, 0, none⟩ = some (.int .i64 0) := (blk_cell bZ 0).trans rfl
          have fZ0 : wc.frozen? ⟨w.heap.size, 0, none⟩ = false := blk_frozen bZ 0
          have cZ1 : wc.cell? ⟨w.heap.size, 1, none⟩ = some (.int .i64 0) := (blk_cell bZ 1).trans rfl
          have fZ1 : wc.frozen? ⟨w.heap.size, 1, none⟩ = false := blk_frozen bZ 1
          have cZ2 : wc.cell? ⟨w.heap.size, 2, none⟩ = some (.int .u64 0) := (blk_cell bZ 2).trans rfl
          have fZ2 : wc.frozen? ⟨w.heap.size, 2, none⟩ = false := blk_frozen bZ 2
          have cZ3 : wc.cell? ⟨w.heap.size, 3, none⟩ = some (.int .i64 0) := (blk_cell bZ 3).trans rfl
          have fZ3 : wc.frozen? ⟨w.heap.size, 3, none⟩ = false := blk_frozen bZ 3
          have cZ4 : wc.cell? ⟨w.heap.size, 4, none⟩ = some (.int .i64 0) := (blk_cell bZ 4).trans rfl
          have fZ4 : wc.frozen? ⟨w.heap.size, 4, none⟩ = false := blk_frozen bZ 4
          have cZ5 : wc.cell? ⟨w.heap.size, 5, none⟩ = some (.string ⟨#[]⟩) := (blk_cell bZ 5).trans rfl
          have fZ5 : wc.frozen? ⟨w.heap.size, 5, none⟩ = false := blk_frozen bZ 5
          clear bZ h6 HF2 HA
          go_wp2
          have hR := blk_put6 BZ.out (.int .i64 0) (.int .i64 0) (.int .u64 0) (.int .i64 0) (.int .i64 0) (.string ⟨#[]⟩)
          refine bodyPost_ret (results_list rfl (by simp) (.cell _ _ _ _ _ rfl hR Try.underlying28 rfl (by kernel_rfl) (.tmp .nil))) rfl ⟨rfl, ?_⟩
          with_reducible repeat (first | exact HB.out | apply below_alloc | apply pw_below_drewN | refine below_set ?_ (by omega))
    · have hlb : decide ((i : Int) < (l.length : Int)) = false := decide_eq_false (by omega)
      have hlb2 : decide (i < l.length) = false := decide_eq_false hlt
      have hF := HF.out
      have hvl : vs.length = l.length := by rw [HV.out, List.length_map]
      rw [List.drop_of_length_le (by omega)] at hF
      unfold foldA at hF
      simp only [Option.some.injEq, Prod.mk.injEq] at hF
      obtain ⟨rfl, rfl, rfl, rfl, rfl, rfl, rfl⟩ := hF
      have bZ := BZ.out
      have bA := BA.out
      have cZ0 : wr.cell? ⟨w.heap.size, 0, none⟩ = some (.int .i64 0) := (blk_cell bZ 0).trans rfl
      have fZ0 : wr.frozen? ⟨w.heap.size, 0, none⟩ = false := blk_frozen bZ 0
      have cZ1 : wr.cell? ⟨w.heap.size, 1, none⟩ = some (.int .i64 0) := (blk_cell bZ 1).trans rfl
      have fZ1 : wr.frozen? ⟨w.heap.size, 1, none⟩ = false := blk_frozen bZ 1
      have cZ2 : wr.cell? ⟨w.heap.size, 2, none⟩ = some (.int .u64 0) := (blk_cell bZ 2).trans rfl
      have fZ2 : wr.frozen? ⟨w.heap.size, 2, none⟩ = false := blk_frozen bZ 2
      have cZ3 : wr.cell? ⟨w.heap.size, 3, none⟩ = some (.int .i64 0) := (blk_cell bZ 3).trans rfl
      have fZ3 : wr.frozen? ⟨w.heap.size, 3, none⟩ = false := blk_frozen bZ 3
      have cZ4 : wr.cell? ⟨w.heap.size, 4, none⟩ = some (.int .i64 0) := (blk_cell bZ 4).trans rfl
      have fZ4 : wr.frozen? ⟨w.heap.size, 4, none⟩ = false := blk_frozen bZ 4
      have cZ5 : wr.cell? ⟨w.heap.size, 5, none⟩ = some (.string ⟨#[]⟩) := (blk_cell bZ 5).trans rfl
      have fZ5 : wr.frozen? ⟨w.heap.size, 5, none⟩ = false := blk_frozen bZ 5
      have cA0 : wr.cell? ⟨w.heap.size + 1, 0, none⟩ = some (.int .i64 x0) := (blk_cell bA 0).trans rfl
      have cA1 : wr.cell? ⟨w.heap.size + 1, 1, none⟩ = some (.int .i64 x1) := (blk_cell bA 1).trans rfl
      have cA2 : wr.cell? ⟨w.heap.size + 1, 2, none⟩ = some (.int .u64 x2) := (blk_cell bA 2).trans rfl
      have cA3 : wr.cell? ⟨w.heap.size + 1, 3, none⟩ = some (.int .i64 x3) := (blk_cell bA 3).trans rfl
      have cA4 : wr.cell? ⟨w.heap.size + 1, 4, none⟩ = some (.int .i64 x4) := (blk_cell bA 4).trans rfl
      have cA5 : wr.cell? ⟨w.heap.size + 1, 5, none⟩ = some (.string x5) := (blk_cell bA 5).trans rfl
      clear bZ bA HF hvl
      go_wp2
      have hR := blk_put6 BZ.out (.int .i64 x0) (.int .i64 x1) (.int .u64 x2) (.int .i64 x3) (.int .i64 x4) (.string x5)
      refine bodyPost_ret (results_list rfl (by simp) (.cell _ _ _ _ _ rfl hR Try.underlying28 rfl (by kernel_rfl) (.tmp .nil))) rfl ⟨rfl, ?_⟩
      with_reducible repeat (first | exact HB.out | apply below_alloc | apply pw_below_drewN | refine below_set ?_ (by omega))

def agg_Fold_int64.f (a0 : Int) (l1 : List Int) (a2 : Unit) : Option (Int × Int × Int × Int × Int × ByteArray × Int) := if a0 < 1 ∨ a0 > 5 then none else foldA a0 0 0 0 0 0 ⟨#[]⟩ (l1.map fun n => (1, n, ⟨#[]⟩))
theorem agg_Fold_int64.calls (a0 : Int) (A1 : Option Addr) (c1 : Nat) (l1 : List Int) (a2 : Unit) (r1 : Int) (r2 : Int) (r3 : Int) (r4 : Int) (r5 : Int) (r6 : ByteArray) (r7 : Int) (w : World) (hr1 : Kd.C (Kd.int .i64) w A1 l1.length l1) (hc1 : l1.length ≤ c1) (h : agg_Fold_int64.f a0 l1 a2 = some (r1, r2, r3, r4, r5, r6, r7)) :
    Calls Try.prog 27 #[.int .i64 a0, .slice A1 l1.length c1, .func (.func 28) #[] #[]] w fun e w' => e = .returned (.tuple #[.agg #[.int .i64 r1, .int .i64 r2, .int .u64 r3, .int .i64 r4, .int .i64 r5, .string r6], .int .i64 r7]) ∧ Below w.heap.size w w' := by
  unfold agg_Fold_int64.f at h
  split at h
  · cases h
  · rename_i hk
    exact fold_ints a0 hk A1 c1 l1 r1 r2 r3 r4 r5 r6 r7 w hr1 hc1 h
end Go.Proofs.Ytphdbhneefmkcaa.Q
