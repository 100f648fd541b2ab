/- agg.Fold over values, by the law's function that counts its calls: walked. -/
import Derived.Test.YtphdbhneefmkcaaHAggF
namespace Go.Proofs.Ytphdbhneefmkcaa.Q
open Go.RowKit Go.Proofs.YtphdbhneefmkcaaW.PrintWords Go.Proofs.YtphdbhneefmkcaaW.PrintLast Go.Proofs.YtphdbhneefmkcaaW.PrintMore
set_option linter.unusedVariables false
set_option linter.unusedSimpArgs false
set_option maxHeartbeats 4000000 in
set_option maxRecDepth 100000 in
theorem cnt_calls (x0 x1 : Int) (x2 : ByteArray) (g m : Nat) (W : World) (hb : W.heap[g]? = some (.cells #[.int .i64 m] 3 (0, 0))) (hm : (m : Int) + 1 ≤ 9223372036854775807) :
    Calls Try.prog 17 #[.agg #[.int .i64 x0, .int .i64 x1, .string x2], .pointer (some ⟨g, 0, none⟩)] W fun e w' => e = .returned (.agg #[.int .i64 x0, .int .i64 x1, .string x2]) ∧ w'.heap[g]? = some (.cells #[.int .i64 (m + 1 : Nat)] 3 (0, 0)) ∧ (∀ h cs t, h ≠ g → W.heap[h]? = some (.cells cs t (0, 0)) → w'.heap[h]? = some (.cells cs t (0, 0))) ∧ ∀ w0 : World, w0.heap.size ≤ g → Below w0.heap.size w0 W → Below w0.heap.size w0 w' := by
  have hl := blk_lt hb
  have c0 : W.cell? ⟨g, 0, none⟩ = some (.int .i64 m) := (blk_cell hb 0).trans rfl
  have f0 := blk_frozen hb 0
  have HB := Aside0.mk hb
  clear hb
  go_enter Try.func17, Try.ntmps17
  go_wp2
  have b1 : (W.setCell ⟨g, 0, none⟩ (.int .i64 ((m : Int) + 1))).heap[g]? = some (.cells #[.int .i64 (m + 1 : Nat)] 3 (0, 0)) := blk_put HB.out 0 _ (by push_cast; rfl)
  have hR := blk_new ((W.setCell ⟨g, 0, none⟩ (.int .i64 ((m : Int) + 1))).alloc (.cells #[.int .i64 x0, .int .i64 x1, .string x2] 26)) (.cells #[.int .i64 x0, .int .i64 x1, .string x2] 26)
  rw [World.size_alloc, World.size_setCell] at hR
  refine bodyPost_ret (results_single rfl (.cell _ _ _ _ _ rfl hR Try.underlying26 rfl (by kernel_rfl) .nil)) rfl ⟨rfl, blk_alloc (blk_alloc b1 _) _, fun h cs t hne hh => blk_alloc (blk_alloc (blk_far (p := ⟨g, 0, none⟩) hh hne _) _) _, fun w0 h0 hB => ?_⟩
  exact below_alloc (below_alloc (below_set hB h0) _) _
/-- What values come to, one behind the other, and how many were looked at. -/
def foldV (kind : Int) : Int → Int → Int → Int → Int → ByteArray → Nat → List S26 → Option (Int × Int × Int × Int × Int × ByteArray × Int × Nat)
  | a0, a1, a2, a3, a4, a5, n, [] => some (a0, a1, a2, a3, a4, a5, 0, n)
  | a0, a1, a2, a3, a4, a5, n, v :: l => (agg_Add.f kind a0 a1 a2 a3 a4 a5 v.f0 v.f1 v.f2).bind fun r => if r.2.2.2.2.2.2 = 0 then foldV kind r.1 r.2.1 r.2.2.1 r.2.2.2.1 r.2.2.2.2.1 r.2.2.2.2.2.1 (n + 1) l else some (0, 0, 0, 0, 0, ⟨#[]⟩, r.2.2.2.2.2.2, n + 1)
set_option maxHeartbeats 4000000 in
set_option maxRecDepth 100000 in
theorem fold_vals (kind : Int) (hk : ¬ (kind < 1 ∨ kind > 5)) (A : Option Addr) (c : Nat) (l : List S26) (r0 r1 r2 r3 r4 : Int) (r5 : ByteArray) (r6 : Int) (nn : Nat) (w0 w : World) (g m : Nat) (hg0 : w0.heap.size ≤ g) (hb0 : Below w0.heap.size w0 w) (hcb : w.heap[g]? = some (.cells #[.int .i64 m] 3 (0, 0))) (hmm : m + l.length ≤ 1000000) (hr : Kd.C k26 w0 A l.length l) (hc : l.length ≤ c)
    (hf : foldV kind 0 0 0 0 0 ⟨#[]⟩ 0 l = some (r0, r1, r2, r3, r4, r5, r6, nn)) :
    Calls Try.prog 16 #[.int .i64 kind, .slice A l.length c, .func (.func 17) #[] #[.pointer (some ⟨g, 0, none⟩)]] w fun e w' => e = .returned (.tuple #[.agg #[.int .i64 r0, .int .i64 r1, .int .u64 r2, .int .i64 r3, .int .i64 r4, .string r5], .int .i64 r6]) ∧ w'.heap[g]? = some (.cells #[.int .i64 (m + nn : Nat)] 3 (0, 0)) ∧ Below w0.heap.size w0 w' := by
  have hgl := blk_lt hcb
  have qf := fn_eq
  have hmax := Kd.C_max hr
  have HR := Aside0.mk hr
  have HF := Aside0.mk hf
  have HB0 := Aside0.mk hb0
  have HC := Aside0.mk hcb
  clear hr hf hb0 hcb
  go_enter Try.func16, Try.ntmps16
  go_wp2_with fail
  refine (merges_calls kind _).mono ?_
  rintro e w1 ⟨⟨v, rfl, hm⟩, hb1⟩
  obtain ⟨bZ, bA, hB, hz⟩ := blk2 hb1
  obtain ⟨fn, fs, cs, rfl⟩ : ∃ fn fs cs, v = .func fn fs cs := by
    rcases hm with ⟨_, h⟩ | ⟨_, h⟩ | ⟨_, _, _, h, _⟩ | ⟨h, _⟩
    · exact ⟨_, _, _, h⟩
    · exact ⟨_, _, _, h⟩
    · exact ⟨_, _, _, h⟩
    · exfalso; omega
  clear hm
  have HB : Aside0 (Below w0.heap.size w0 w1) := ⟨below_step HB0.out hB⟩
  have CB : Aside0 (w1.heap[g]? = some (.cells #[.int .i64 (m + 0 : Nat)] 3 (0, 0))) := ⟨blk_below HC.out hB⟩
  clear HB0 HC
  have BA := Aside0.mk bA
  have BZ := Aside0.mk bZ
  clear bA bZ hB hb1 hk
  go_wp2_with fail
  go_loopg [19] (l.length) (fun kq v19 wr => ∃ (i : Nat) (x0 x1 x2 x3 x4 : Int) (x5 : ByteArray), v19 = .int .i64 i ∧ Aside0 (i + kq = l.length) ∧ Aside0 (foldV kind x0 x1 x2 x3 x4 x5 i (l.drop i) = some (r0, r1, r2, r3, r4, r5, r6, nn)) ∧ Aside0 (wr.heap[g]? = some (.cells #[.int .i64 (m + i : Nat)] 3 (0, 0))) ∧ Aside0 (wr.heap[w.heap.size]? = some (.cells #[.int .i64 0, .int .i64 0, .int .u64 0, .int .i64 0, .int .i64 0, .string ⟨#[]⟩] 28 (0, 0))) ∧ Aside0 (wr.heap[w.heap.size + 1]? = some (.cells #[.int .i64 x0, .int .i64 x1, .int .u64 x2, .int .i64 x3, .int .i64 x4, .string x5] 28 (0, 0))) ∧ Aside0 (Below w0.heap.size w0 wr))
  case atStart => exact ⟨0, 0, 0, 0, 0, 0, ⟨#[]⟩, rfl, ⟨by omega⟩, ⟨by rw [List.drop_zero]; exact HF.out⟩, CB, BZ, BA, HB⟩
  case round =>
    clear HF CB BZ BA HB hz
    obtain ⟨i, x0, x1, x2, x3, x4, x5, rfl, HI, HF, CB, BZ, BA, HB⟩ := hrel
    by_cases hlt : i < l.length
    · have hlb : decide ((i : Int) < (l.length : Int)) = true := decide_eq_true (by omega)
      have hlb2 : decide (i < l.length) = true := decide_eq_true hlt
      have hi1 : (i : Int) + 1 ≤ 9223372036854775807 := by omega
      obtain ⟨⟨n0, n1, n2⟩, hn⟩ : ∃ x, rd_T26 l (i : Int) = x := ⟨_, rfl⟩
      have hF := HF.out
      have hdrop : l.drop i = ⟨n0, n1, n2⟩ :: l.drop (i + 1) := by
        rw [List.drop_eq_getElem_cons hlt, ← hn]
        unfold rd_T26
        rw [Int.toNat_natCast, List.getD_eq_getElem?_getD, List.getElem?_eq_getElem hlt]
        rfl
      rw [hdrop] at hF
      unfold foldV at hF
      obtain ⟨⟨y0, y1, y2, y3, y4, y5, y6⟩, hA, hF⟩ := Option.bind_eq_some_iff.1 hF
      simp only at hF
      obtain ⟨ad, rfl, hcell0, hcell1, hcell2⟩ := at_T26 (Kd.C_below HR.out HB.out) (i : Int) (by omega) (by omega)
      rw [hn, Int.toNat_natCast] at hcell0 hcell1 hcell2
      have hza : w.heap.size + 1 < wr.heap.size := blk_lt BA.out
      have hgg : g < wr.heap.size := blk_lt CB.out
      have HA := Aside0.mk hA
      have HF2 := Aside0.mk hF
      clear HF hdrop hF hn hA
      go_upto_region 8 with (fail)
      go_cut [11] (fun v11 wc => v11 = .int .i64 y6 ∧ Aside0 (wc.heap[g]? = some (.cells #[.int .i64 (m + (i + 1) : Nat)] 3 (0, 0))) ∧ Aside0 (wc.heap[w.heap.size]? = some (.cells #[.int .i64 0, .int .i64 0, .int .u64 0, .int .i64 0, .int .i64 0, .string ⟨#[]⟩] 28 (0, 0))) ∧ Aside0 (wc.heap[w.heap.size + 1]? = some (.cells #[.int .i64 y0, .int .i64 y1, .int .u64 y2, .int .i64 y3, .int .i64 y4, .string y5] 28 (0, 0))) ∧ Aside0 (Below w0.heap.size w0 wc))
      case first =>
        have bA := BA.out
        have cA0 : wr.cell? ⟨w.heap.size + 1, 0, none⟩ = some (.int .i64 x0) := (blk_cell bA 0).trans rfl
        have cA1 : wr.cell? ⟨w.heap.size + 1, 1, none⟩ = some (.int .i64 x1) := (blk_cell bA 1).trans rfl
        have cA2 : wr.cell? ⟨w.heap.size + 1, 2, none⟩ = some (.int .u64 x2) := (blk_cell bA 2).trans rfl
        have cA3 : wr.cell? ⟨w.heap.size + 1, 3, none⟩ = some (.int .i64 x3) := (blk_cell bA 3).trans rfl
        have cA4 : wr.cell? ⟨w.heap.size + 1, 4, none⟩ = some (.int .i64 x4) := (blk_cell bA 4).trans rfl
        have cA5 : wr.cell? ⟨w.heap.size + 1, 5, none⟩ = some (.string x5) := (blk_cell bA 5).trans rfl
        clear bA
        go_region_with (first
          | (go_at_call 17; refine (cnt_calls n0 n1 n2 g (m + i) _ (by with_reducible repeat (first | exact CB.out | refine blk_drewN ?_ _ | refine blk_drew ?_ | refine blk_alloc ?_ _)) (by omega)).mono ?_; rintro e v1 ⟨rfl, hc1, ho1, hd1⟩; have CB1 : Aside0 (v1.heap[g]? = some (.cells #[.int .i64 (m + i + 1 : Nat)] 3 (0, 0))) := ⟨hc1⟩; have bz1 : v1.heap[w.heap.size]? = some (.cells #[.int .i64 0, .int .i64 0, .int .u64 0, .int .i64 0, .int .i64 0, .string ⟨#[]⟩] 28 (0, 0)) := ho1 _ _ _ (by omega) (by with_reducible repeat (first | exact BZ.out | refine blk_drewN ?_ _ | refine blk_drew ?_ | refine blk_alloc ?_ _)); have ba1 : v1.heap[w.heap.size + 1]? = some (.cells #[.int .i64 x0, .int .i64 x1, .int .u64 x2, .int .i64 x3, .int .i64 x4, .string x5] 28 (0, 0)) := ho1 _ _ _ (by omega) (by with_reducible repeat (first | exact BA.out | refine blk_drewN ?_ _ | refine blk_drew ?_ | refine blk_alloc ?_ _)); have HB1 : Aside0 (Below w0.heap.size w0 v1) := ⟨hd1 w0 hg0 (by with_reducible repeat (first | exact HB.out | apply below_drew1 | apply pw_below_drewN | apply below_alloc))⟩; have d0 : v1.cell? ⟨w.heap.size + 1, 0, none⟩ = some (.int .i64 x0) := (blk_cell ba1 0).trans rfl; have k0 : v1.frozen? ⟨w.heap.size + 1, 0, none⟩ = false := blk_frozen ba1 0; have d1 : v1.cell? ⟨w.heap.size + 1, 1, none⟩ = some (.int .i64 x1) := (blk_cell ba1 1).trans rfl; have k1 : v1.frozen? ⟨w.heap.size + 1, 1, none⟩ = false := blk_frozen ba1 1; have d2 : v1.cell? ⟨w.heap.size + 1, 2, none⟩ = some (.int .u64 x2) := (blk_cell ba1 2).trans rfl; have k2 : v1.frozen? ⟨w.heap.size + 1, 2, none⟩ = false := blk_frozen ba1 2; have d3 : v1.cell? ⟨w.heap.size + 1, 3, none⟩ = some (.int .i64 x3) := (blk_cell ba1 3).trans rfl; have k3 : v1.frozen? ⟨w.heap.size + 1, 3, none⟩ = false := blk_frozen ba1 3; have d4 : v1.cell? ⟨w.heap.size + 1, 4, none⟩ = some (.int .i64 x4) := (blk_cell ba1 4).trans rfl; have k4 : v1.frozen? ⟨w.heap.size + 1, 4, none⟩ = false := blk_frozen ba1 4; have d5 : v1.cell? ⟨w.heap.size + 1, 5, none⟩ = some (.string x5) := (blk_cell ba1 5).trans rfl; have k5 : v1.frozen? ⟨w.heap.size + 1, 5, none⟩ = false := blk_frozen ba1 5; have BA1 := Aside0.mk ba1; have BZ1 := Aside0.mk bz1; clear hc1 ho1 hd1 bz1 ba1)
          | (go_at_call 10; refine (agg_Add.calls kind x0 x1 x2 x3 x4 x5 n0 n1 n2 y0 y1 y2 y3 y4 y5 y6 _ HA.out).mono ?_; rintro e v2 ⟨rfl, hd2⟩; have BZ2 : Aside0 (v2.heap[w.heap.size]? = some (.cells #[.int .i64 0, .int .i64 0, .int .u64 0, .int .i64 0, .int .i64 0, .string ⟨#[]⟩] 28 (0, 0))) := ⟨blk_below BZ1.out hd2⟩; have ba2 : v2.heap[w.heap.size + 1]? = some (.cells #[.int .i64 x0, .int .i64 x1, .int .u64 x2, .int .i64 x3, .int .i64 x4, .string x5] 28 (0, 0)) := blk_below BA1.out hd2; have HB2 : Aside0 (Below w0.heap.size w0 v2) := ⟨below_step HB1.out hd2⟩; have g0 : v2.cell? ⟨w.heap.size + 1, 0, none⟩ = some (.int .i64 x0) := (blk_cell ba2 0).trans rfl; have h0 : v2.frozen? ⟨w.heap.size + 1, 0, none⟩ = false := blk_frozen ba2 0; have g1 : v2.cell? ⟨w.heap.size + 1, 1, none⟩ = some (.int .i64 x1) := (blk_cell ba2 1).trans rfl; have h1 : v2.frozen? ⟨w.heap.size + 1, 1, none⟩ = false := blk_frozen ba2 1; have g2 : v2.cell? ⟨w.heap.size + 1, 2, none⟩ = some (.int .u64 x2) := (blk_cell ba2 2).trans rfl; have h2 : v2.frozen? ⟨w.heap.size + 1, 2, none⟩ = false := blk_frozen ba2 2; have g3 : v2.cell? ⟨w.heap.size + 1, 3, none⟩ = some (.int .i64 x3) := (blk_cell ba2 3).trans rfl; have h3 : v2.frozen? ⟨w.heap.size + 1, 3, none⟩ = false := blk_frozen ba2 3; have g4 : v2.cell? ⟨w.heap.size + 1, 4, none⟩ = some (.int .i64 x4) := (blk_cell ba2 4).trans rfl; have h4 : v2.frozen? ⟨w.heap.size + 1, 4, none⟩ = false := blk_frozen ba2 4; have g5 : v2.cell? ⟨w.heap.size + 1, 5, none⟩ = some (.string x5) := (blk_cell ba2 5).trans rfl; have h5 : v2.frozen? ⟨w.heap.size + 1, 5, none⟩ = false := blk_frozen ba2 5; have BA2 := Aside0.mk ba2; have CB2 : Aside0 (v2.heap[g]? = some (.cells #[.int .i64 (m + i + 1 : Nat)] 3 (0, 0))) := ⟨blk_below CB1.out hd2⟩; clear hd2 ba2))
        all_goals (go_wp2; go_meet; case rel => exact ⟨rfl, ⟨blk_far6 CB2.out (show g ≠ w.heap.size + 1 by omega) (.int .i64 y0) (.int .i64 y1) (.int .u64 y2) (.int .i64 y3) (.int .i64 y4) (.string y5)⟩, ⟨blk_far6 BZ2.out (show w.heap.size ≠ w.heap.size + 1 by omega) (.int .i64 y0) (.int .i64 y1) (.int .u64 y2) (.int .i64 y3) (.int .i64 y4) (.string y5)⟩, ⟨blk_put6 BA2.out (.int .i64 y0) (.int .i64 y1) (.int .u64 y2) (.int .i64 y3) (.int .i64 y4) (.string y5)⟩, ⟨below_set6 HB2.out (by omega) (.int .i64 y0) (.int .i64 y1) (.int .u64 y2) (.int .i64 y3) (.int .i64 y4) (.string y5)⟩⟩)
      case rest =>
        obtain ⟨rfl, CB, BZ, BA, HB⟩ := hcut
        have hF := HF2.out
        by_cases h6 : y6 = 0
        · rw [if_pos h6] at hF
          obtain rfl := h6
          have HF := Aside0.mk hF
          cases gk with
          | zero => exact absurd HI.out (by omega)
          | succ k1 =>
            clear hF HF2 HA
            go_wp2
            go_roundg k1
            case measure => omega
            case rel => exact ⟨i + 1, y0, y1, y2, y3, y4, y5, by congr 1, ⟨by have := HI.out; omega⟩, HF, CB, BZ, BA, HB⟩
        · rw [if_neg h6] at hF
          have h6b : (y6 != 0) = true := by simpa using h6
          simp only [Option.some.injEq, Prod.mk.injEq] at hF
          obtain ⟨rfl, rfl, rfl, rfl, rfl, rfl, rfl, rfl⟩ := hF
          have bZ := BZ.out
          have cZ0 : wc.cell? ⟨w.heap.size, 0, none⟩ = some (.int .i64 0) := (blk_cell bZ 0).trans rfl
          have fZ0 : wc.frozen? ⟨w.heap.size, 0, none⟩ = false := blk_frozen bZ 0
          have cZ1 : wc.cell? ⟨w.heap.size, 1, none⟩ = some (.int .i64 0) := (blk_cell bZ 1).trans rfl
          have fZ1 : wc.frozen? ⟨w.heap.size, 1, none⟩ = false := blk_frozen bZ 1
          have cZ2 : wc.cell? ⟨w.heap.size, 2, none⟩ = some (.int .u64 0) := (blk_cell bZ 2).trans rfl
          have fZ2 : wc.frozen? ⟨w.heap.size, 2, none⟩ = false := blk_frozen bZ 2
          have cZ3 : wc.cell? ⟨w.heap.size, 3, none⟩ = some (.int .i64 0) := (blk_cell bZ 3).trans rfl
          have fZ3 : wc.frozen? ⟨w.heap.size, 3, none⟩ = false := blk_frozen bZ 3
          have cZ4 : wc.cell? ⟨w.heap.size, 4, none⟩ = some (.int .i64 0) := (blk_cell bZ 4).trans rfl
          have fZ4 : wc.frozen? ⟨w.heap.size, 4, none⟩ = false := blk_frozen bZ 4
          have cZ5 : wc.cell? ⟨w.heap.size, 5, none⟩ = some (.string ⟨#[]⟩) := (blk_cell bZ 5).trans rfl
          have fZ5 : wc.frozen? ⟨w.heap.size, 5, none⟩ = false := blk_frozen bZ 5
          clear bZ h6 HF2 HA
          go_wp2
          have hR := blk_put6 BZ.out (.int .i64 0) (.int .i64 0) (.int .u64 0) (.int .i64 0) (.int .i64 0) (.string ⟨#[]⟩)
          have BG := blk_far6 CB.out (show g ≠ w.heap.size by omega) (.int .i64 0) (.int .i64 0) (.int .u64 0) (.int .i64 0) (.int .i64 0) (.string ⟨#[]⟩)
          refine bodyPost_ret (results_list rfl (by simp) (.cell _ _ _ _ _ rfl hR Try.underlying28 rfl (by kernel_rfl) (.tmp .nil))) rfl ⟨rfl, BG, ?_⟩
          with_reducible repeat (first | exact HB.out | apply below_alloc | apply pw_below_drewN | refine below_set ?_ (by omega))
    · have hlb : decide ((i : Int) < (l.length : Int)) = false := decide_eq_false (by omega)
      have hlb2 : decide (i < l.length) = false := decide_eq_false hlt
      have hF := HF.out
      obtain rfl : i = l.length := by have := HI.out; omega
      rw [List.drop_of_length_le (by omega)] at hF
      unfold foldV at hF
      simp only [Option.some.injEq, Prod.mk.injEq] at hF
      obtain ⟨rfl, rfl, rfl, rfl, rfl, rfl, rfl, rfl⟩ := hF
      have bZ := BZ.out
      have bA := BA.out
      have cZ0 : wr.cell? ⟨w.heap.size, 0, none⟩ = some (.int .i64 0) := (blk_cell bZ 0).trans rfl
      have fZ0 : wr.frozen? ⟨w.heap.size, 0, none⟩ = false := blk_frozen bZ 0
      have cZ1 : wr.cell? ⟨w.heap.size, 1, none⟩ = some (.int .i64 0) := (blk_cell bZ 1).trans rfl
      have fZ1 : wr.frozen? ⟨w.heap.size, 1, none⟩ = false := blk_frozen bZ 1
      have cZ2 : wr.cell? ⟨w.heap.size, 2, none⟩ = some (.int .u64 0) := (blk_cell bZ 2).trans rfl
      have fZ2 : wr.frozen? ⟨w.heap.size, 2, none⟩ = false := blk_frozen bZ 2
      have cZ3 : wr.cell? ⟨w.heap.size, 3, none⟩ = some (.int .i64 0) := (blk_cell bZ 3).trans rfl
      have fZ3 : wr.frozen? ⟨w.heap.size, 3, none⟩ = false := blk_frozen bZ 3
      have cZ4 : wr.cell? ⟨w.heap.size, 4, none⟩ = some (.int .i64 0) := (blk_cell bZ 4).trans rfl
      have fZ4 : wr.frozen? ⟨w.heap.size, 4, none⟩ = false := blk_frozen bZ 4
      have cZ5 : wr.cell? ⟨w.heap.size, 5, none⟩ = some (.string ⟨#[]⟩) := (blk_cell bZ 5).trans rfl
      have fZ5 : wr.frozen? ⟨w.heap.size, 5, none⟩ = false := blk_frozen bZ 5
      have cA0 : wr.cell? ⟨w.heap.size + 1, 0, none⟩ = some (.int .i64 x0) := (blk_cell bA 0).trans rfl
      have cA1 : wr.cell? ⟨w.heap.size + 1, 1, none⟩ = some (.int .i64 x1) := (blk_cell bA 1).trans rfl
      have cA2 : wr.cell? ⟨w.heap.size + 1, 2, none⟩ = some (.int .u64 x2) := (blk_cell bA 2).trans rfl
      have cA3 : wr.cell? ⟨w.heap.size + 1, 3, none⟩ = some (.int .i64 x3) := (blk_cell bA 3).trans rfl
      have cA4 : wr.cell? ⟨w.heap.size + 1, 4, none⟩ = some (.int .i64 x4) := (blk_cell bA 4).trans rfl
      have cA5 : wr.cell? ⟨w.heap.size + 1, 5, none⟩ = some (.string x5) := (blk_cell bA 5).trans rfl
      clear bZ bA HF
      go_wp2
      have hR := blk_put6 BZ.out (.int .i64 x0) (.int .i64 x1) (.int .u64 x2) (.int .i64 x3) (.int .i64 x4) (.string x5)
      have BG := blk_far6 CB.out (show g ≠ w.heap.size by omega) (.int .i64 x0) (.int .i64 x1) (.int .u64 x2) (.int .i64 x3) (.int .i64 x4) (.string x5)
      refine bodyPost_ret (results_list rfl (by simp) (.cell _ _ _ _ _ rfl hR Try.underlying28 rfl (by kernel_rfl) (.tmp .nil))) rfl ⟨rfl, BG, ?_⟩
      with_reducible repeat (first | exact HB.out | apply below_alloc | apply pw_below_drewN | refine below_set ?_ (by omega))

end Go.Proofs.Ytphdbhneefmkcaa.Q
