/- decode.Record: walked. -/
import Derived.Test.YtnjlgeenhmamjaaGreatDoorZDecodeBack17
import Derived.Test.YtnjlgeenhmamjaaGreatDoorZDecodeBack16
import Derived.Test.YtnjlgeenhmamjaaGreatDoorZDecodeBack5
import Derived.Deep.CutBlock
namespace Go.Proofs.YtnjlgeenhmamjaaGreatDoor.Q
open Go.RowKit Go.Proofs.YtnjlgeenhmamjaaGreatDoorW.PrintWords Go.Proofs.YtnjlgeenhmamjaaGreatDoorW.PrintLast Go.Proofs.YtnjlgeenhmamjaaGreatDoorW.PrintMore
set_option linter.unusedVariables false
set_option linter.unusedSimpArgs false
/-- A row of strings as cells. -/
def strV (ys : List ByteArray) : Array Value := (ys.map Value.string).toArray
theorem strV_set (ys : List ByteArray) (i : Nat) (f : ByteArray) : (strV ys).setIfInBounds i (.string f) = strV (ys.set i f) := by
  unfold strV
  apply Array.ext'
  rw [Array.toList_setIfInBounds, List.map_set]
theorem strV_at (ys : List ByteArray) (i : Nat) (h : i < ys.length) : (strV ys)[i]? = some (.string ys[i]) := by
  unfold strV
  rw [List.getElem?_toArray, List.getElem?_map, List.getElem?_eq_getElem h]
  rfl
theorem strV_made (n : Nat) : madeCells #[Value.string ⟨#[]⟩] n = strV (List.replicate n ⟨#[]⟩) := by
  unfold strV
  apply Array.ext'
  apply List.ext_getElem
  · simp [madeCells]
  · intro i h1 h2
    simp [madeCells, Nat.mod_one]
/-- What holds while the fields are made: L the fields' block, b the replacer's. -/
def RcW (w : World) (L b : Nat) (ys : List ByteArray) (wr : World) : Prop :=
  wr.heap[L]? = some (.cells (strV ys) 9 (0, 0)) ∧ SG L b wr ∧ w.heap.size ≤ b ∧ Below w.heap.size w wr
theorem RcW.bel {w wr w' : World} {L b : Nat} {ys : List ByteArray} (h : RcW w L b ys wr) (hb : Below wr.heap.size wr w') : RcW w L b ys w' :=
  ⟨blk_below h.1 hb, h.2.1.below hb, h.2.2.1, below_step h.2.2.2 hb⟩
theorem RcW.put {w wr : World} {L b : Nat} {ys : List ByteArray} (h : RcW w L b ys wr) (i : Nat) (f : ByteArray) : RcW w L b (ys.set i f) (wr.setCell ⟨L, i, none⟩ (.string f)) := by
  refine ⟨?_, h.2.1.keep (Nat.le_of_eq (by simp)) (fun k _ hk => Below.heap_setCell _ _ _ k hk), h.2.2.1, below_set h.2.2.2 (Nat.le_trans h.2.2.1 (Nat.le_of_lt h.2.1.1))⟩
  have := blk_set h.1 i (.string f)
  rwa [strV_set] at this
theorem RcW.repl {w wr w' : World} {L b : Nat} {ys : List ByteArray} (h : RcW w L b ys wr) (hs : SG L b w') (hg : wr.grownBy w' (some b)) : RcW w L b ys w' :=
  ⟨blk_grown h.1 hg (fun e => by injection e with e; have := h.2.1.1; omega), hs, h.2.2.1, Below.grown h.2.2.2 hg h.2.2.2.size (fun k e => by injection e with e; have := h.2.2.1; omega)⟩
theorem SG.start {w2 : World} {b g2 C : Nat} (hU : RUn w2 b g2 C) (o : Array Value) (t : TypeId) : SG w2.heap.size b (w2.alloc (.cells o t)) := by
  have hb := below_alloc (Below.refl w2.heap.size w2) (.cells o t)
  have hg := cell_lt hU.2.2.1
  refine ⟨blk_lt hU.1, blk_lt (blk_new w2 _), .inl ⟨g2, C, hg, blk_below hU.1 hb, hU.2.1, (hb.cell hg).trans hU.2.2.1, (hb.cell hg).trans hU.2.2.2.1, (hb.cell hg).trans hU.2.2.2.2.1, (hb.cell hg).trans hU.2.2.2.2.2⟩⟩
/-- What decode.Record hands back. -/
def RecPost (R : List Int × Int) (w : World) (e : Ending) (w' : World) : Prop :=
  ∃ A c, e = .returned (.tuple #[.slice A R.1.length c, .int .i64 R.2]) ∧ Kd.C (Kd.int .u8) w' A R.1.length R.1 ∧ R.1.length ≤ c ∧ Below w.heap.size w w'
theorem recPost_nil (r : Int) (w W : World) (hb : Below w.heap.size w W) : RecPost ([], r) w (.returned (.tuple #[.slice none 0 0, .int .i64 r])) W :=
  ⟨none, 0, rfl, Kd.C_of_reads (enc := Value.int .u8) (d := (0 : Int)) (h1 := fun _ => rfl) ⟨rfl, Nat.zero_le _, fun h => by cases h⟩, Nat.le_refl _, hb⟩
theorem va_drop (l : List Va) (i : Nat) (h : i < l.length) : l.drop i = rd_T41 l (i : Int) :: l.drop (i + 1) := by
  rw [List.drop_eq_getElem_cons h]
  unfold rd_T41
  rw [List.getD_eq_getElem?_getD, Int.toNat_natCast, List.getElem?_eq_getElem h]
  rfl
theorem va_mem (l : List Va) (i : Nat) (h : i < l.length) : rd_T41 l (i : Int) ∈ l := by
  have : rd_T41 l (i : Int) ∈ l.drop i := by rw [va_drop l i h]; exact List.mem_cons_self ..
  exact List.mem_of_mem_drop this
theorem recPost_bytes (w W : World) (J : ByteArray) (hJ : J.size ≤ 9223372036854775807) (hb : Below w.heap.size w W) : RecPost (bytesOf J, 0) w (.returned (.tuple #[.slice (some ⟨W.heap.size, 0, none⟩) J.size (grownCap W J.size 0 5), .int .i64 0])) (Lib.bytesWorld W 5 J) := by
  have h : Kd.C (Kd.int .u8) (Lib.bytesWorld W 5 J) (some ⟨W.heap.size, 0, none⟩) J.size (bytesOf J) := Kd.C_of_reads (bytes_reads W 5 J hJ)
  refine ⟨some ⟨W.heap.size, 0, none⟩, grownCap W J.size 0 5, ?_, ?_, ?_, bytes_below hb hb.size _ _⟩
  · simp only [bytesOf_length]
  · simp only [bytesOf_length]
    exact h
  · simp only [bytesOf_length]
    exact grownCap_ge _ _ _ _
theorem chk_size (k n : Int) (s : ByteArray) (h0 : k ≠ 0) (h1 : k ≠ 1) (h2 : k ≠ 2) (hc : chkV ⟨k, n, s⟩ = 0) : s.size ≤ 1000 := by
  unfold chkV at hc
  simp only [h0, h1, h2, if_false] at hc
  split at hc
  · split at hc
    · rename_i h; exact Nat.le_trans h.2 (by decide)
    · cases hc
  · cases hc
def rec_T : Bool × List (List Nat × List Nat) := (true, [([], []), ([0], [0]), ([1], [1]), ([2, 1], [2]), ([3], [3]), ([4, 3], [3, 4]), ([5, 3], [3, 5]), ([6, 3, 3], [3, 6]), ([7], [7]), ([8, 7], [7, 8]), ([7], [7]), ([7], [7]), ([10, 11, 7], [7, 10, 11]), ([12, 7], [7, 12]), ([13, 7], [7, 13]), ([9, 14, 7], [7, 9, 14]), ([7, 15, 3], [3, 7, 15]), ([3, 16], [3, 16])])
def rec_B : List Nat := [0, 1, 3, 7, 15, 31, 63, 127, 255, 511, 255, 255, 3327, 7423, 15615, 32767, 65535, 131071]
theorem rec_tab : rtab .any (opsOf Tryz.f8 11) = rec_T := by kernel_rfl
theorem rec_bits : waitsOk rec_T.2 rec_B = true := by kernel_rfl
set_option maxHeartbeats 16000000 in
set_option maxRecDepth 100000 in
theorem rec_walk (KC : Nat) (A : Option Addr) (c : Nat) (l : List Co) (r : Int) (hr : decode_Check.f KC l = some r) (B : Option Addr) (d : Nat) (vs : List Va) (h64 : ∀ v ∈ vs, in64 v.f1) (hz : vs.length ≤ 1000) (w : World) (hG : Glob w)
    (hC : Kd.C k39 w A l.length l) (hc : l.length ≤ c) (hD : Kd.C k41 w B vs.length vs) (hd : vs.length ≤ d) :
    Calls Tryz.prog 8 #[.slice A l.length c, .slice B vs.length d] w (RecPost (recR r l vs) w) := by
  have HC := Aside0.mk hC
  have HG := Aside0.mk hG
  have HD := Aside0.mk hD
  have H64 := Aside0.mk h64
  have hchk := decode_Check.calls KC A c l r w hC hc hr
  generalize hR : recR r l vs = R
  unfold recR at hR
  clear hC hG hD h64
  by_cases h0 : r = 0
  · subst h0
    rw [if_neg (by decide)] at hR
    by_cases hl : vs.length = l.length
    · rw [if_neg (fun h => h hl)] at hR
      have hlb : ((vs.length : Int) != (l.length : Int)) = false := bne_eq_false_iff_eq.2 (by omega)
      have HL := Aside0.mk hl
      have HR := Aside0.mk hR
      clear hR hl
      go_enter Tryz.func8, Tryz.ntmps8
      go_upto_region 6 with (go_at_call 12; refine hchk.mono ?_; rintro e w1 ⟨rfl, hb1⟩; have HB1 := Aside0.mk hb1; clear hb1 hchk)
      go_upto_region 7 with (go_at_call 13; refine (newRep_calls _ _ (blk_new _ _)).mono ?_; rintro e w2 ⟨⟨b, g2, C, rfl, hb, hg2, hU⟩, hb2⟩; have HB2 := Aside0.mk (below_step (below_alloc HB1.out _) hb2); have HU := Aside0.mk hU; have HBB := Aside0.mk (show w.heap.size ≤ b from Nat.le_trans (below_alloc HB1.out _).size hb); clear hU hb2 hb hg2)
      have pm := print_make_of (P := Tryz.prog) 45 9 (.string ⟨#[]⟩) 16 Tryz.underlying45 info9 rfl (by omega) vs.length (by omega) w2
      rw [strV_made] at pm
      have HW0 : Aside0 (RcW w w2.heap.size b (List.replicate vs.length ⟨#[]⟩) (w2.alloc (.cells (strV (List.replicate vs.length ⟨#[]⟩)) 9))) := ⟨⟨blk_new w2 _, SG.start HU.out _ _, HBB.out, below_alloc HB2.out _⟩⟩
      clear HU HBB HB1 hr
      go_upto_region 9 with (fail)
      clear pm
      generalize w2.heap.size = L at HW0 ⊢
      go_loopg [28] vs.length (fun kq v28 wr => ∃ (i : Nat) (ys : List ByteArray), v28 = .int .i64 i ∧ Aside0 (i + kq = vs.length) ∧ Aside0 (ys.length = vs.length) ∧ Aside0 (recL l vs = (recL (l.drop i) (vs.drop i)).map (ys.take i ++ ·)) ∧ Aside0 (RcW w L b ys wr))
      case atStart => exact ⟨0, _, rfl, ⟨by omega⟩, ⟨List.length_replicate ..⟩, ⟨by simp⟩, HW0⟩
      case round =>
        clear HW0 HB2
        obtain ⟨i, ys, rfl, HI, HY, HV, HW⟩ := hrel
        cases gk with
        | zero =>
          have hi : i = vs.length := HI.out
          have hlb1 : decide ((i : Int) < (vs.length : Int)) = false := decide_eq_false (by omega)
          have hlb2 : decide (i < vs.length) = false := decide_eq_false (by omega)
          have hv := HV.out
          have hll := HL.out
          have hyl := HY.out
          rw [List.drop_of_length_le (by omega), List.drop_of_length_le (by omega), List.take_of_length_le (by omega)] at hv
          have hv : recL l vs = some ys := by simpa [recL] using hv
          obtain ⟨_, hsz⟩ := recL_size l vs ys H64.out hv
          have hR := HR.out
          rw [hv] at hR
          have hR : (bytesOf (joinB ys), (0 : Int)) = R := hR
          have hjl := joinB_size ys 1000 (by omega) hsz
          have hj := Tryz.strings_Join L 0 vs.length ys ⟨#[44]⟩ wr (fun j x hx => by
            rw [Nat.zero_add]
            have hjl := (List.getElem?_eq_some_iff.1 hx)
            obtain ⟨h1, h2⟩ := hjl
            rw [← h2]
            exact (blk_cell HW.out.1 j).trans (strV_at ys j h1)) (blk_lt HW.out.1) (by omega) (by omega) (Nat.le_trans hjl (by omega))
          rw [hyl] at hj
          have hjs : (joinB ys).size ≤ 9223372036854775807 := by
            show (Lib.join (ys.map (·.data.toList)) [44]).toArray.size ≤ _
            rw [List.size_toArray]
            omega
          have hj2 : Calls Tryz.prog 18 #[.slice (some ⟨L, 0, none⟩) vs.length vs.length, .string ⟨#[44]⟩] wr fun e w' => e = .returned (.string (joinB ys)) ∧ Below wr.heap.size wr w' := hj
          have HRR := Aside0.mk hR
          have HJS := Aside0.mk hjs
          generalize joinB ys = J at hj2 HRR HJS
          have kb := fun W => print_bytes (P := Tryz.prog) 9 27 5 Tryz.underlying9 Tryz.underlying27 Tryz.underlying5 J W
          clear hi hv hll hyl hsz hR hjl hj hjs HR HV
          go_wp2_with (go_at_call 18; refine hj2.mono ?_; rintro e w6 ⟨rfl, hb6⟩; have HB6 := Aside0.mk (below_step HW.out.2.2.2 hb6); clear hb6 hj2)
          go_ret2
          rw [← HRR.out]
          exact recPost_bytes w w6 J HJS.out HB6.out
        | succ k1 =>
          have hlt : i < vs.length := by have := HI.out; omega
          have hlc : i < l.length := by have := HL.out; omega
          have hlb1 : decide ((i : Int) < (vs.length : Int)) = true := decide_eq_true (by omega)
          have hlb2 : decide (i < vs.length) = true := decide_eq_true hlt
          have hw1 : wrap64 ((i : Int) + 1) = (i : Int) + 1 := wrap_in (by unfold in64; omega)
          have hbw := HW.out.2.2.2
          obtain ⟨ae, rfl, y0, y1, y2⟩ := at_T41 (Kd.C_below HD.out hbw) (i : Int) (by omega) (by omega)
          rw [Int.toNat_natCast] at y0 y1 y2
          have hd1 := co_drop l i hlc
          have hd2 : vs.drop i = rd_T41 vs (i : Int) :: vs.drop (i + 1) := va_drop vs i hlt
          have hv := HV.out
          rw [hd1, hd2, recL_cons] at hv
          have hin := H64.out _ (va_mem vs i hlt)
          obtain ⟨ad, rfl, x0, x1⟩ := at_T39 (Kd.C_below HC.out hbw) (i : Int) (by omega) (by omega)
          rw [Int.toNat_natCast] at x0 x1
          have hx1 : ∀ W, Below w.heap.size w W → W.cell? ⟨(ad.add (i * 2)).block, (ad.add (i * 2)).off + 1, none⟩ = some (.int .i64 (rd_T39 l (i : Int)).f1) := fun W hW => by
            obtain ⟨ad', e, z0, z1⟩ := at_T39 (Kd.C_below HC.out hW) (i : Int) (by omega) (by omega)
            obtain rfl := Option.some.inj e
            rw [Int.toNat_natCast] at z1
            exact z1
          clear x0 x1
          generalize rd_T39 l (i : Int) = y at hx1 hv
          generalize rd_T41 vs (i : Int) = v at y0 y1 y2 hv hin
          obtain ⟨nm, kd⟩ := y
          obtain ⟨k0, n, s⟩ := v
          simp only at hx1 y0 y1 y2 hin
          have HX1 := Aside0.mk hx1
          clear hx1
          have hlc2 : (i : Int) < (l.length : Int) := by omega
          have hlcb : decide ((i : Int) < (l.length : Int)) = true := decide_eq_true hlc2
          have HV2 := Aside0.mk hv
          have HIN := Aside0.mk hin
          clear hbw hd1 hd2 hv hin HV
          go_upto_region 11 with (fail)
          have HP : Aside0 ((wr.alloc (.cells #[.int .i64 k0, .int .i64 n, .string s] 41)).heap[wr.heap.size]? = some (.cells #[.int .i64 k0, .int .i64 n, .string s] 41 (0, 0))) := ⟨blk_new wr _⟩
          have HW1 : Aside0 (RcW w L b ys (wr.alloc (.cells #[.int .i64 k0, .int .i64 n, .string s] 41))) := ⟨HW.out.bel (below_alloc (Below.refl _ _) _)⟩
          clear y0 y1 y2 HW
          generalize wr.alloc (.cells #[.int .i64 k0, .int .i64 n, .string s] 41) = W1 at HP HW1 ⊢
          generalize wr.heap.size = P at HP ⊢
          go_cut [50] (fun v50 wc => v50 = .bool (!okF ⟨nm, kd⟩ ⟨k0, n, s⟩) ∧ Aside0 (wc.heap[P]? = some (.cells #[.int .i64 k0, .int .i64 n, .string s] 41 (0, 0))) ∧ Aside0 (RcW w L b ys wc))
          case first =>
            obtain ⟨K, hK⟩ := (chk_ev ⟨k0, n, s⟩).rounds
            simp only at hK
            have HK := Aside0.mk hK
            have hokd : okF ⟨nm, kd⟩ ⟨k0, n, s⟩ = (decide (chkV ⟨k0, n, s⟩ = 0) && (decide (k0 = 0) || decide (k0 = kd))) := rfl
            clear hK HV2
            have z0 := (blk_cell HP.out 0).trans rfl
            have z1 := (blk_cell HP.out 1).trans rfl
            have z2 := (blk_cell HP.out 2).trans rfl
            generalize chkV ⟨k0, n, s⟩ = cv at hokd HK
            by_cases h1 : cv = 0
            · have hcb : (cv != 0) = false := bne_eq_false_iff_eq.2 h1
              rw [decide_eq_true h1, Bool.true_and] at hokd
              clear h1
              by_cases h2 : k0 = 0
              · have hk0 : (k0 != 0) = false := bne_eq_false_iff_eq.2 h2
                rw [decide_eq_true h2, Bool.true_or] at hokd
                have HOK := Aside0.mk hokd
                clear h2 hokd
                have HPd := Aside0.mk (blk_drew HP.out)
                have HWd := Aside0.mk (HW1.out.bel (below_drew1 (Below.refl _ _)))
                refine start_ (n := 18) (S := fun w' => w'.cell? ⟨P, 0, none⟩ = some (.int .i64 k0) ∧ w'.cell? ⟨P, 1, none⟩ = some (.int .i64 n) ∧ w'.cell? ⟨P, 2, none⟩ = some (.string s)) (ds := []) #[false, false, false, false, false, false, false, false, false, false, false, false, false, false, false, false, false, false] (by kernel_rfl) rfl rfl ⟨(blk_cell HPd.out 0).trans rfl, (blk_cell HPd.out 1).trans rfl, (blk_cell HPd.out 2).trans rfl⟩ (fun hHeld => ?_); refine with_tabW rec_tab rec_bits (fun HT_ HW_ => ?_)
                generalize W1.drew = wd at HPd HWd hHeld ⊢
                refine take_ (i := 0) (N := some 33) (v := ?_) (a' := ?_) #[true, false, false, false, false, false, false, false, false, false, false, false, false, false, false, false, false, false] rfl rfl (take_ofW HT_.out HW_.out (by kernel_rfl)) (fun _ _ _ h => h) (Or.inl ⟨by rfl, ?_⟩) hHeld ?_ ?_
                rotate_left
                · rintro w' ⟨s0, s1, s2⟩
                  go_simp
                  with_reducible rfl
                rotate_left
                · simp only [Act.put, List.setIfInBounds_toArray, List.set_cons_zero, List.set_cons_succ, i64_w, i32_w]
                  rfl
                refine one_ (i := 1) (N := some 34) #[true, true, false, false, false, false, false, false, false, false, false, false, false, false, false, false, false, false] rfl rfl (one_of HT_.out (by kernel_rfl)) (by decide) (fun K1 hK1 => ?_)
                refine goes_ Tryz.func14 (by kernel_rfl) rfl #[.agg #[.int .i64 k0, .int .i64 n, .string s]] (by rfl) rfl rfl (by (try simp only [List.map_toArray, List.map_cons, List.map_nil]); first | done | rfl) ?_
                with_reducible refine (value_Check.calls K k0 n s cv _ HK.out).mono ?_
                rintro e w5 ⟨rfl, hb5⟩
                refine ⟨_, rfl, ?_⟩
                have n0_ := Aside0.mk (blk_below HPd.out hb5)
                have n1_ := Aside0.mk (HWd.out.bel hb5)
                clear HPd HWd hb5
                have HPd := n0_
                have HWd := n1_
                clear n0_ n1_
                refine hK1.out _ _ ⟨(blk_cell HPd.out 0).trans rfl, (blk_cell HPd.out 1).trans rfl, (blk_cell HPd.out 2).trans rfl⟩ (fun hHeld => ?_)
                clear hK1 K1
                refine norm_ (a' := ?_) ?_ ?_
                rotate_left
                · show Act.put _ (some 34) _ = _
                  simp only [Act.put, List.setIfInBounds_toArray, List.set_cons_zero, List.set_cons_succ, i64_w, i32_w]
                  rfl
                refine pure_ (i := 2) (N := some 35) (v := ?_) (a' := ?_) #[true, true, true, false, false, false, false, false, false, false, false, false, false, false, false, false, false, false] rfl rfl (any_of HT_.out (by kernel_rfl)) (fun _ _ _ h => h) (Or.inl ⟨by rfl, ?_⟩) ?_ ?_
                rotate_left
                · intro w'
                  go_simp
                  with_reducible rfl
                rotate_left
                · simp only [Act.put, List.setIfInBounds_toArray, List.set_cons_zero, List.set_cons_succ, i64_w, i32_w]
                  rfl
                refine pure_ (i := 3) (N := some 36) (v := ?_) (a' := ?_) #[true, true, true, true, false, false, false, false, false, false, false, false, false, false, false, false, false, false] rfl rfl (any_of HT_.out (by kernel_rfl)) (fun _ _ _ h => h) (Or.inl ⟨by rfl, ?_⟩) ?_ ?_
                rotate_left
                · intro w'
                  go_simp
                  with_reducible rfl
                rotate_left
                · simp only [Act.put, List.setIfInBounds_toArray, List.set_cons_zero, List.set_cons_succ, i64_w, i32_w]
                  rfl
                refine pure_ (i := 4) (N := some 37) (v := ?_) (a' := ?_) #[true, true, true, true, true, false, false, false, false, false, false, false, false, false, false, false, false, false] rfl rfl (any_of HT_.out (by kernel_rfl)) (fun _ _ _ h => h) (Or.inl ⟨by rfl, ?_⟩) ?_ ?_
                rotate_left
                · intro w'
                  go_simp
                  with_reducible rfl
                rotate_left
                · simp only [Act.put, List.setIfInBounds_toArray, List.set_cons_zero, List.set_cons_succ, i64_w, i32_w]
                  rfl
                refine take_ (i := 5) (N := some 38) (v := ?_) (a' := ?_) #[true, true, true, true, true, true, false, false, false, false, false, false, false, false, false, false, false, false] rfl rfl (take_ofW HT_.out HW_.out (by kernel_rfl)) (fun _ _ _ h => h) (Or.inl ⟨by rfl, ?_⟩) hHeld ?_ ?_
                rotate_left
                · rintro w' ⟨s0, s1, s2⟩
                  go_simp
                  with_reducible rfl
                rotate_left
                · simp only [Act.put, List.setIfInBounds_toArray, List.set_cons_zero, List.set_cons_succ, i64_w, i32_w]
                  rfl
                refine pure_ (i := 6) (N := some 39) (v := ?_) (a' := ?_) #[true, true, true, true, true, true, true, false, false, false, false, false, false, false, false, false, false, false] rfl rfl (any_of HT_.out (by kernel_rfl)) (fun _ _ _ h => h) (Or.inl ⟨by rfl, ?_⟩) ?_ ?_
                rotate_left
                · intro w'
                  go_simp
                  with_reducible rfl
                rotate_left
                · simp only [Act.put, List.setIfInBounds_toArray, List.set_cons_zero, List.set_cons_succ, i64_w, i32_w]
                  rfl
                refine pure_ (i := 7) (N := some 40) (v := ?_) (a' := ?_) #[true, true, true, true, true, true, true, true, false, false, false, false, false, false, false, false, false, false] rfl rfl (any_of HT_.out (by kernel_rfl)) (fun _ _ _ h => h) (Or.inl ⟨by rfl, ?_⟩) ?_ ?_
                rotate_left
                · intro w'
                  go_simp
                  with_reducible rfl
                rotate_left
                · simp only [Act.put, List.setIfInBounds_toArray, List.set_cons_zero, List.set_cons_succ, i64_w, i32_w]
                  rfl
                refine pure_ (i := 8) (N := some 41) (v := undef) (a' := ?_) #[true, true, true, true, true, true, true, true, true, false, false, false, false, false, false, false, false, false] rfl rfl (any_of HT_.out (by kernel_rfl)) (fun _ _ _ h => h) (Or.inr ⟨by rfl, rfl⟩) ?_ ?_
                rotate_left
                · simp only [Act.put, List.setIfInBounds_toArray, List.set_cons_zero, List.set_cons_succ, i64_w, i32_w]
                  rfl
                refine pure_ (i := 9) (N := some 42) (v := undef) (a' := ?_) #[true, true, true, true, true, true, true, true, true, true, false, false, false, false, false, false, false, false] rfl rfl (any_of HT_.out (by kernel_rfl)) (fun _ _ _ h => h) (Or.inr ⟨by rfl, rfl⟩) ?_ ?_
                rotate_left
                · simp only [Act.put, List.setIfInBounds_toArray, List.set_cons_zero, List.set_cons_succ, i64_w, i32_w]
                  rfl
                refine pure_ (i := 10) (N := some 43) (v := undef) (a' := ?_) #[true, true, true, true, true, true, true, true, true, true, true, false, false, false, false, false, false, false] rfl rfl (any_of HT_.out (by kernel_rfl)) (fun _ _ _ h => h) (Or.inr ⟨by rfl, rfl⟩) ?_ ?_
                rotate_left
                · simp only [Act.put, List.setIfInBounds_toArray, List.set_cons_zero, List.set_cons_succ, i64_w, i32_w]
                  rfl
                refine pure_ (i := 11) (N := some 44) (v := undef) (a' := ?_) #[true, true, true, true, true, true, true, true, true, true, true, true, false, false, false, false, false, false] rfl rfl (any_of HT_.out (by kernel_rfl)) (fun _ _ _ h => h) (Or.inr ⟨by rfl, rfl⟩) ?_ ?_
                rotate_left
                · simp only [Act.put, List.setIfInBounds_toArray, List.set_cons_zero, List.set_cons_succ, i64_w, i32_w]
                  rfl
                refine pure_ (i := 12) (N := some 45) (v := undef) (a' := ?_) #[true, true, true, true, true, true, true, true, true, true, true, true, true, false, false, false, false, false] rfl rfl (any_of HT_.out (by kernel_rfl)) (fun _ _ _ h => h) (Or.inr ⟨by rfl, rfl⟩) ?_ ?_
                rotate_left
                · simp only [Act.put, List.setIfInBounds_toArray, List.set_cons_zero, List.set_cons_succ, i64_w, i32_w]
                  rfl
                refine pure_ (i := 13) (N := some 46) (v := undef) (a' := ?_) #[true, true, true, true, true, true, true, true, true, true, true, true, true, true, false, false, false, false] rfl rfl (any_of HT_.out (by kernel_rfl)) (fun _ _ _ h => h) (Or.inr ⟨by rfl, rfl⟩) ?_ ?_
                rotate_left
                · simp only [Act.put, List.setIfInBounds_toArray, List.set_cons_zero, List.set_cons_succ, i64_w, i32_w]
                  rfl
                refine pure_ (i := 14) (N := some 47) (v := undef) (a' := ?_) #[true, true, true, true, true, true, true, true, true, true, true, true, true, true, true, false, false, false] rfl rfl (any_of HT_.out (by kernel_rfl)) (fun _ _ _ h => h) (Or.inr ⟨by rfl, rfl⟩) ?_ ?_
                rotate_left
                · simp only [Act.put, List.setIfInBounds_toArray, List.set_cons_zero, List.set_cons_succ, i64_w, i32_w]
                  rfl
                refine pure_ (i := 15) (N := some 48) (v := undef) (a' := ?_) #[true, true, true, true, true, true, true, true, true, true, true, true, true, true, true, true, false, false] rfl rfl (any_of HT_.out (by kernel_rfl)) (fun _ _ _ h => h) (Or.inr ⟨by rfl, rfl⟩) ?_ ?_
                rotate_left
                · simp only [Act.put, List.setIfInBounds_toArray, List.set_cons_zero, List.set_cons_succ, i64_w, i32_w]
                  rfl
                refine pure_ (i := 16) (N := some 49) (v := ?_) (a' := ?_) #[true, true, true, true, true, true, true, true, true, true, true, true, true, true, true, true, true, false] rfl rfl (any_of HT_.out (by kernel_rfl)) (fun _ _ _ h => h) (Or.inl ⟨by rfl, ?_⟩) ?_ ?_
                rotate_left
                · intro w'
                  go_simp
                  with_reducible rfl
                rotate_left
                · simp only [Act.put, List.setIfInBounds_toArray, List.set_cons_zero, List.set_cons_succ, i64_w, i32_w]
                  rfl
                refine pure_ (i := 17) (N := some 50) (v := ?_) (a' := ?_) #[true, true, true, true, true, true, true, true, true, true, true, true, true, true, true, true, true, true] rfl rfl (any_of HT_.out (by kernel_rfl)) (fun _ _ _ h => h) (Or.inl ⟨by rfl, ?_⟩) ?_ ?_
                rotate_left
                · intro w'
                  go_simp
                  with_reducible rfl
                rotate_left
                · simp only [Act.put, List.setIfInBounds_toArray, List.set_cons_zero, List.set_cons_succ, i64_w, i32_w]
                  rfl
                refine done_ (done_of HT_.out (by kernel_rfl)) ?_
                try go_wp2
                go_meet
                case rel => exact ⟨(by first | (rw [HOK.out]; done) | (rw [HOK.out]; first | with_reducible rfl | (simp; done) | rfl)), HPd, HWd⟩
              · have hk0 : (k0 != 0) = true := bne_iff_ne.2 h2
                rw [decide_eq_false h2, Bool.false_or] at hokd
                have HOK : Aside0 ((k0 != kd) = !okF ⟨nm, kd⟩ ⟨k0, n, s⟩) := ⟨by rw [hokd]; rcases Decidable.em (k0 = kd) with h | h <;> simp [h]⟩
                clear h2 hokd
                have HPd := Aside0.mk (blk_drew HP.out)
                have HWd := Aside0.mk (HW1.out.bel (below_drew1 (Below.refl _ _)))
                refine start_ (n := 18) (S := fun w' => w'.cell? ⟨P, 0, none⟩ = some (.int .i64 k0) ∧ w'.cell? ⟨P, 1, none⟩ = some (.int .i64 n) ∧ w'.cell? ⟨P, 2, none⟩ = some (.string s) ∧ w'.cell? ⟨(ad.add (i * 2)).block, (ad.add (i * 2)).off + 1, none⟩ = some (.int .i64 kd)) (ds := []) #[false, false, false, false, false, false, false, false, false, false, false, false, false, false, false, false, false, false] (by kernel_rfl) rfl rfl ⟨(blk_cell HPd.out 0).trans rfl, (blk_cell HPd.out 1).trans rfl, (blk_cell HPd.out 2).trans rfl, HX1.out _ HWd.out.2.2.2⟩ (fun hHeld => ?_); refine with_tabW rec_tab rec_bits (fun HT_ HW_ => ?_)
                generalize W1.drew = wd at HPd HWd hHeld ⊢
                refine take_ (i := 0) (N := some 33) (v := ?_) (a' := ?_) #[true, false, false, false, false, false, false, false, false, false, false, false, false, false, false, false, false, false] rfl rfl (take_ofW HT_.out HW_.out (by kernel_rfl)) (fun _ _ _ h => h) (Or.inl ⟨by rfl, ?_⟩) hHeld ?_ ?_
                rotate_left
                · rintro w' ⟨s0, s1, s2, s3⟩
                  go_simp
                  with_reducible rfl
                rotate_left
                · simp only [Act.put, List.setIfInBounds_toArray, List.set_cons_zero, List.set_cons_succ, i64_w, i32_w]
                  rfl
                refine one_ (i := 1) (N := some 34) #[true, true, false, false, false, false, false, false, false, false, false, false, false, false, false, false, false, false] rfl rfl (one_of HT_.out (by kernel_rfl)) (by decide) (fun K1 hK1 => ?_)
                refine goes_ Tryz.func14 (by kernel_rfl) rfl #[.agg #[.int .i64 k0, .int .i64 n, .string s]] (by rfl) rfl rfl (by (try simp only [List.map_toArray, List.map_cons, List.map_nil]); first | done | rfl) ?_
                with_reducible refine (value_Check.calls K k0 n s cv _ HK.out).mono ?_
                rintro e w5 ⟨rfl, hb5⟩
                refine ⟨_, rfl, ?_⟩
                have n0_ := Aside0.mk (blk_below HPd.out hb5)
                have n1_ := Aside0.mk (HWd.out.bel hb5)
                clear HPd HWd hb5
                have HPd := n0_
                have HWd := n1_
                clear n0_ n1_
                refine hK1.out _ _ ⟨(blk_cell HPd.out 0).trans rfl, (blk_cell HPd.out 1).trans rfl, (blk_cell HPd.out 2).trans rfl, HX1.out _ HWd.out.2.2.2⟩ (fun hHeld => ?_)
                clear hK1 K1
                refine norm_ (a' := ?_) ?_ ?_
                rotate_left
                · show Act.put _ (some 34) _ = _
                  simp only [Act.put, List.setIfInBounds_toArray, List.set_cons_zero, List.set_cons_succ, i64_w, i32_w]
                  rfl
                refine pure_ (i := 2) (N := some 35) (v := ?_) (a' := ?_) #[true, true, true, false, false, false, false, false, false, false, false, false, false, false, false, false, false, false] rfl rfl (any_of HT_.out (by kernel_rfl)) (fun _ _ _ h => h) (Or.inl ⟨by rfl, ?_⟩) ?_ ?_
                rotate_left
                · intro w'
                  go_simp
                  with_reducible rfl
                rotate_left
                · simp only [Act.put, List.setIfInBounds_toArray, List.set_cons_zero, List.set_cons_succ, i64_w, i32_w]
                  rfl
                refine pure_ (i := 3) (N := some 36) (v := ?_) (a' := ?_) #[true, true, true, true, false, false, false, false, false, false, false, false, false, false, false, false, false, false] rfl rfl (any_of HT_.out (by kernel_rfl)) (fun _ _ _ h => h) (Or.inl ⟨by rfl, ?_⟩) ?_ ?_
                rotate_left
                · intro w'
                  go_simp
                  with_reducible rfl
                rotate_left
                · simp only [Act.put, List.setIfInBounds_toArray, List.set_cons_zero, List.set_cons_succ, i64_w, i32_w]
                  rfl
                refine pure_ (i := 4) (N := some 37) (v := ?_) (a' := ?_) #[true, true, true, true, true, false, false, false, false, false, false, false, false, false, false, false, false, false] rfl rfl (any_of HT_.out (by kernel_rfl)) (fun _ _ _ h => h) (Or.inl ⟨by rfl, ?_⟩) ?_ ?_
                rotate_left
                · intro w'
                  go_simp
                  with_reducible rfl
                rotate_left
                · simp only [Act.put, List.setIfInBounds_toArray, List.set_cons_zero, List.set_cons_succ, i64_w, i32_w]
                  rfl
                refine take_ (i := 5) (N := some 38) (v := ?_) (a' := ?_) #[true, true, true, true, true, true, false, false, false, false, false, false, false, false, false, false, false, false] rfl rfl (take_ofW HT_.out HW_.out (by kernel_rfl)) (fun _ _ _ h => h) (Or.inl ⟨by rfl, ?_⟩) hHeld ?_ ?_
                rotate_left
                · rintro w' ⟨s0, s1, s2, s3⟩
                  go_simp
                  with_reducible rfl
                rotate_left
                · simp only [Act.put, List.setIfInBounds_toArray, List.set_cons_zero, List.set_cons_succ, i64_w, i32_w]
                  rfl
                refine pure_ (i := 6) (N := some 39) (v := ?_) (a' := ?_) #[true, true, true, true, true, true, true, false, false, false, false, false, false, false, false, false, false, false] rfl rfl (any_of HT_.out (by kernel_rfl)) (fun _ _ _ h => h) (Or.inl ⟨by rfl, ?_⟩) ?_ ?_
                rotate_left
                · intro w'
                  go_simp
                  with_reducible rfl
                rotate_left
                · simp only [Act.put, List.setIfInBounds_toArray, List.set_cons_zero, List.set_cons_succ, i64_w, i32_w]
                  rfl
                refine pure_ (i := 7) (N := some 40) (v := ?_) (a' := ?_) #[true, true, true, true, true, true, true, true, false, false, false, false, false, false, false, false, false, false] rfl rfl (any_of HT_.out (by kernel_rfl)) (fun _ _ _ h => h) (Or.inl ⟨by rfl, ?_⟩) ?_ ?_
                rotate_left
                · intro w'
                  go_simp
                  with_reducible rfl
                rotate_left
                · simp only [Act.put, List.setIfInBounds_toArray, List.set_cons_zero, List.set_cons_succ, i64_w, i32_w]
                  rfl
                refine pure_ (i := 8) (N := some 41) (v := ?_) (a' := ?_) #[true, true, true, true, true, true, true, true, true, false, false, false, false, false, false, false, false, false] rfl rfl (any_of HT_.out (by kernel_rfl)) (fun _ _ _ h => h) (Or.inl ⟨by rfl, ?_⟩) ?_ ?_
                rotate_left
                · intro w'
                  go_simp
                  with_reducible rfl
                rotate_left
                · simp only [Act.put, List.setIfInBounds_toArray, List.set_cons_zero, List.set_cons_succ, i64_w, i32_w]
                  rfl
                refine pure_ (i := 10) (N := some 43) (v := ?_) (a' := ?_) #[true, true, true, true, true, true, true, true, true, false, true, false, false, false, false, false, false, false] rfl rfl (any_of HT_.out (by kernel_rfl)) (fun _ _ _ h => h) (Or.inl ⟨by rfl, ?_⟩) ?_ ?_
                rotate_left
                · intro w'
                  go_simp
                  with_reducible rfl
                rotate_left
                · simp only [Act.put, List.setIfInBounds_toArray, List.set_cons_zero, List.set_cons_succ, i64_w, i32_w]
                  rfl
                refine pure_ (i := 11) (N := some 44) (v := ?_) (a' := ?_) #[true, true, true, true, true, true, true, true, true, false, true, true, false, false, false, false, false, false] rfl rfl (any_of HT_.out (by kernel_rfl)) (fun _ _ _ h => h) (Or.inl ⟨by rfl, ?_⟩) ?_ ?_
                rotate_left
                · intro w'
                  go_simp
                  with_reducible rfl
                rotate_left
                · simp only [Act.put, List.setIfInBounds_toArray, List.set_cons_zero, List.set_cons_succ, i64_w, i32_w]
                  rfl
                refine pure_ (i := 12) (N := some 45) (v := ?_) (a' := ?_) #[true, true, true, true, true, true, true, true, true, false, true, true, true, false, false, false, false, false] rfl rfl (any_of HT_.out (by kernel_rfl)) (fun _ _ _ h => h) (Or.inl ⟨by rfl, ?_⟩) ?_ ?_
                rotate_left
                · intro w'
                  go_simp
                  with_reducible rfl
                rotate_left
                · simp only [Act.put, List.setIfInBounds_toArray, List.set_cons_zero, List.set_cons_succ, i64_w, i32_w]
                  rfl
                refine pure_ (i := 13) (N := some 46) (v := ?_) (a' := ?_) #[true, true, true, true, true, true, true, true, true, false, true, true, true, true, false, false, false, false] rfl rfl (any_of HT_.out (by kernel_rfl)) (fun _ _ _ h => h) (Or.inl ⟨by rfl, ?_⟩) ?_ ?_
                rotate_left
                · intro w'
                  go_simp
                  with_reducible rfl
                rotate_left
                · simp only [Act.put, List.setIfInBounds_toArray, List.set_cons_zero, List.set_cons_succ, i64_w, i32_w]
                  rfl
                refine take_ (i := 9) (N := some 42) (v := ?_) (a' := ?_) #[true, true, true, true, true, true, true, true, true, true, true, true, true, true, false, false, false, false] rfl rfl (take_ofW HT_.out HW_.out (by kernel_rfl)) (fun _ _ _ h => h) (Or.inl ⟨by rfl, ?_⟩) hHeld ?_ ?_
                rotate_left
                · rintro w' ⟨s0, s1, s2, s3⟩
                  go_simp
                  with_reducible rfl
                rotate_left
                · simp only [Act.put, List.setIfInBounds_toArray, List.set_cons_zero, List.set_cons_succ, i64_w, i32_w]
                  rfl
                refine take_ (i := 14) (N := some 47) (v := ?_) (a' := ?_) #[true, true, true, true, true, true, true, true, true, true, true, true, true, true, true, false, false, false] rfl rfl (take_ofW HT_.out HW_.out (by kernel_rfl)) (fun _ _ _ h => h) (Or.inl ⟨by rfl, ?_⟩) hHeld ?_ ?_
                rotate_left
                · rintro w' ⟨s0, s1, s2, s3⟩
                  go_simp
                  with_reducible rfl
                rotate_left
                · simp only [Act.put, List.setIfInBounds_toArray, List.set_cons_zero, List.set_cons_succ, i64_w, i32_w]
                  rfl
                refine pure_ (i := 15) (N := some 48) (v := ?_) (a' := ?_) #[true, true, true, true, true, true, true, true, true, true, true, true, true, true, true, true, false, false] rfl rfl (any_of HT_.out (by kernel_rfl)) (fun _ _ _ h => h) (Or.inl ⟨by rfl, ?_⟩) ?_ ?_
                rotate_left
                · intro w'
                  go_simp
                  with_reducible rfl
                rotate_left
                · simp only [Act.put, List.setIfInBounds_toArray, List.set_cons_zero, List.set_cons_succ, i64_w, i32_w]
                  rfl
                refine pure_ (i := 16) (N := some 49) (v := ?_) (a' := ?_) #[true, true, true, true, true, true, true, true, true, true, true, true, true, true, true, true, true, false] rfl rfl (any_of HT_.out (by kernel_rfl)) (fun _ _ _ h => h) (Or.inl ⟨by rfl, ?_⟩) ?_ ?_
                rotate_left
                · intro w'
                  go_simp
                  with_reducible rfl
                rotate_left
                · simp only [Act.put, List.setIfInBounds_toArray, List.set_cons_zero, List.set_cons_succ, i64_w, i32_w]
                  rfl
                refine pure_ (i := 17) (N := some 50) (v := ?_) (a' := ?_) #[true, true, true, true, true, true, true, true, true, true, true, true, true, true, true, true, true, true] rfl rfl (any_of HT_.out (by kernel_rfl)) (fun _ _ _ h => h) (Or.inl ⟨by rfl, ?_⟩) ?_ ?_
                rotate_left
                · intro w'
                  go_simp
                  with_reducible rfl
                rotate_left
                · simp only [Act.put, List.setIfInBounds_toArray, List.set_cons_zero, List.set_cons_succ, i64_w, i32_w]
                  rfl
                refine done_ (done_of HT_.out (by kernel_rfl)) ?_
                try go_wp2
                go_meet
                case rel => exact ⟨(by first | (rw [HOK.out]; done) | (rw [HOK.out]; first | with_reducible rfl | (simp; done) | rfl)), HPd, HWd⟩
            · have hcb : (cv != 0) = true := bne_iff_ne.2 h1
              rw [decide_eq_false h1, Bool.false_and] at hokd
              have HOK := Aside0.mk hokd
              clear h1 hokd
              have HPd := Aside0.mk (blk_drew HP.out)
              have HWd := Aside0.mk (HW1.out.bel (below_drew1 (Below.refl _ _)))
              refine start_ (n := 18) (S := fun w' => w'.cell? ⟨P, 0, none⟩ = some (.int .i64 k0) ∧ w'.cell? ⟨P, 1, none⟩ = some (.int .i64 n) ∧ w'.cell? ⟨P, 2, none⟩ = some (.string s)) (ds := []) #[false, false, false, false, false, false, false, false, false, false, false, false, false, false, false, false, false, false] (by kernel_rfl) rfl rfl ⟨(blk_cell HPd.out 0).trans rfl, (blk_cell HPd.out 1).trans rfl, (blk_cell HPd.out 2).trans rfl⟩ (fun hHeld => ?_); refine with_tabW rec_tab rec_bits (fun HT_ HW_ => ?_)
              generalize W1.drew = wd at HPd HWd hHeld ⊢
              refine take_ (i := 0) (N := some 33) (v := ?_) (a' := ?_) #[true, false, false, false, false, false, false, false, false, false, false, false, false, false, false, false, false, false] rfl rfl (take_ofW HT_.out HW_.out (by kernel_rfl)) (fun _ _ _ h => h) (Or.inl ⟨by rfl, ?_⟩) hHeld ?_ ?_
              rotate_left
              · rintro w' ⟨s0, s1, s2⟩
                go_simp
                with_reducible rfl
              rotate_left
              · simp only [Act.put, List.setIfInBounds_toArray, List.set_cons_zero, List.set_cons_succ, i64_w, i32_w]
                rfl
              refine one_ (i := 1) (N := some 34) #[true, true, false, false, false, false, false, false, false, false, false, false, false, false, false, false, false, false] rfl rfl (one_of HT_.out (by kernel_rfl)) (by decide) (fun K1 hK1 => ?_)
              refine goes_ Tryz.func14 (by kernel_rfl) rfl #[.agg #[.int .i64 k0, .int .i64 n, .string s]] (by rfl) rfl rfl (by (try simp only [List.map_toArray, List.map_cons, List.map_nil]); first | done | rfl) ?_
              with_reducible refine (value_Check.calls K k0 n s cv _ HK.out).mono ?_
              rintro e w5 ⟨rfl, hb5⟩
              refine ⟨_, rfl, ?_⟩
              have n0_ := Aside0.mk (blk_below HPd.out hb5)
              have n1_ := Aside0.mk (HWd.out.bel hb5)
              clear HPd HWd hb5
              have HPd := n0_
              have HWd := n1_
              clear n0_ n1_
              refine hK1.out _ _ ⟨(blk_cell HPd.out 0).trans rfl, (blk_cell HPd.out 1).trans rfl, (blk_cell HPd.out 2).trans rfl⟩ (fun hHeld => ?_)
              clear hK1 K1
              refine norm_ (a' := ?_) ?_ ?_
              rotate_left
              · show Act.put _ (some 34) _ = _
                simp only [Act.put, List.setIfInBounds_toArray, List.set_cons_zero, List.set_cons_succ, i64_w, i32_w]
                rfl
              refine pure_ (i := 2) (N := some 35) (v := ?_) (a' := ?_) #[true, true, true, false, false, false, false, false, false, false, false, false, false, false, false, false, false, false] rfl rfl (any_of HT_.out (by kernel_rfl)) (fun _ _ _ h => h) (Or.inl ⟨by rfl, ?_⟩) ?_ ?_
              rotate_left
              · intro w'
                go_simp
                with_reducible rfl
              rotate_left
              · simp only [Act.put, List.setIfInBounds_toArray, List.set_cons_zero, List.set_cons_succ, i64_w, i32_w]
                rfl
              refine pure_ (i := 3) (N := some 36) (v := ?_) (a' := ?_) #[true, true, true, true, false, false, false, false, false, false, false, false, false, false, false, false, false, false] rfl rfl (any_of HT_.out (by kernel_rfl)) (fun _ _ _ h => h) (Or.inl ⟨by rfl, ?_⟩) ?_ ?_
              rotate_left
              · intro w'
                go_simp
                with_reducible rfl
              rotate_left
              · simp only [Act.put, List.setIfInBounds_toArray, List.set_cons_zero, List.set_cons_succ, i64_w, i32_w]
                rfl
              refine pure_ (i := 4) (N := some 37) (v := undef) (a' := ?_) #[true, true, true, true, true, false, false, false, false, false, false, false, false, false, false, false, false, false] rfl rfl (any_of HT_.out (by kernel_rfl)) (fun _ _ _ h => h) (Or.inr ⟨by rfl, rfl⟩) ?_ ?_
              rotate_left
              · simp only [Act.put, List.setIfInBounds_toArray, List.set_cons_zero, List.set_cons_succ, i64_w, i32_w]
                rfl
              refine pure_ (i := 5) (N := some 38) (v := undef) (a' := ?_) #[true, true, true, true, true, true, false, false, false, false, false, false, false, false, false, false, false, false] rfl rfl (any_of HT_.out (by kernel_rfl)) (fun _ _ _ h => h) (Or.inr ⟨by rfl, rfl⟩) ?_ ?_
              rotate_left
              · simp only [Act.put, List.setIfInBounds_toArray, List.set_cons_zero, List.set_cons_succ, i64_w, i32_w]
                rfl
              refine pure_ (i := 6) (N := some 39) (v := undef) (a' := ?_) #[true, true, true, true, true, true, true, false, false, false, false, false, false, false, false, false, false, false] rfl rfl (any_of HT_.out (by kernel_rfl)) (fun _ _ _ h => h) (Or.inr ⟨by rfl, rfl⟩) ?_ ?_
              rotate_left
              · simp only [Act.put, List.setIfInBounds_toArray, List.set_cons_zero, List.set_cons_succ, i64_w, i32_w]
                rfl
              refine pure_ (i := 7) (N := some 40) (v := undef) (a' := ?_) #[true, true, true, true, true, true, true, true, false, false, false, false, false, false, false, false, false, false] rfl rfl (any_of HT_.out (by kernel_rfl)) (fun _ _ _ h => h) (Or.inr ⟨by rfl, rfl⟩) ?_ ?_
              rotate_left
              · simp only [Act.put, List.setIfInBounds_toArray, List.set_cons_zero, List.set_cons_succ, i64_w, i32_w]
                rfl
              refine pure_ (i := 8) (N := some 41) (v := undef) (a' := ?_) #[true, true, true, true, true, true, true, true, true, false, false, false, false, false, false, false, false, false] rfl rfl (any_of HT_.out (by kernel_rfl)) (fun _ _ _ h => h) (Or.inr ⟨by rfl, rfl⟩) ?_ ?_
              rotate_left
              · simp only [Act.put, List.setIfInBounds_toArray, List.set_cons_zero, List.set_cons_succ, i64_w, i32_w]
                rfl
              refine pure_ (i := 9) (N := some 42) (v := undef) (a' := ?_) #[true, true, true, true, true, true, true, true, true, true, false, false, false, false, false, false, false, false] rfl rfl (any_of HT_.out (by kernel_rfl)) (fun _ _ _ h => h) (Or.inr ⟨by rfl, rfl⟩) ?_ ?_
              rotate_left
              · simp only [Act.put, List.setIfInBounds_toArray, List.set_cons_zero, List.set_cons_succ, i64_w, i32_w]
                rfl
              refine pure_ (i := 10) (N := some 43) (v := undef) (a' := ?_) #[true, true, true, true, true, true, true, true, true, true, true, false, false, false, false, false, false, false] rfl rfl (any_of HT_.out (by kernel_rfl)) (fun _ _ _ h => h) (Or.inr ⟨by rfl, rfl⟩) ?_ ?_
              rotate_left
              · simp only [Act.put, List.setIfInBounds_toArray, List.set_cons_zero, List.set_cons_succ, i64_w, i32_w]
                rfl
              refine pure_ (i := 11) (N := some 44) (v := undef) (a' := ?_) #[true, true, true, true, true, true, true, true, true, true, true, true, false, false, false, false, false, false] rfl rfl (any_of HT_.out (by kernel_rfl)) (fun _ _ _ h => h) (Or.inr ⟨by rfl, rfl⟩) ?_ ?_
              rotate_left
              · simp only [Act.put, List.setIfInBounds_toArray, List.set_cons_zero, List.set_cons_succ, i64_w, i32_w]
                rfl
              refine pure_ (i := 12) (N := some 45) (v := undef) (a' := ?_) #[true, true, true, true, true, true, true, true, true, true, true, true, true, false, false, false, false, false] rfl rfl (any_of HT_.out (by kernel_rfl)) (fun _ _ _ h => h) (Or.inr ⟨by rfl, rfl⟩) ?_ ?_
              rotate_left
              · simp only [Act.put, List.setIfInBounds_toArray, List.set_cons_zero, List.set_cons_succ, i64_w, i32_w]
                rfl
              refine pure_ (i := 13) (N := some 46) (v := undef) (a' := ?_) #[true, true, true, true, true, true, true, true, true, true, true, true, true, true, false, false, false, false] rfl rfl (any_of HT_.out (by kernel_rfl)) (fun _ _ _ h => h) (Or.inr ⟨by rfl, rfl⟩) ?_ ?_
              rotate_left
              · simp only [Act.put, List.setIfInBounds_toArray, List.set_cons_zero, List.set_cons_succ, i64_w, i32_w]
                rfl
              refine pure_ (i := 14) (N := some 47) (v := undef) (a' := ?_) #[true, true, true, true, true, true, true, true, true, true, true, true, true, true, true, false, false, false] rfl rfl (any_of HT_.out (by kernel_rfl)) (fun _ _ _ h => h) (Or.inr ⟨by rfl, rfl⟩) ?_ ?_
              rotate_left
              · simp only [Act.put, List.setIfInBounds_toArray, List.set_cons_zero, List.set_cons_succ, i64_w, i32_w]
                rfl
              refine pure_ (i := 15) (N := some 48) (v := undef) (a' := ?_) #[true, true, true, true, true, true, true, true, true, true, true, true, true, true, true, true, false, false] rfl rfl (any_of HT_.out (by kernel_rfl)) (fun _ _ _ h => h) (Or.inr ⟨by rfl, rfl⟩) ?_ ?_
              rotate_left
              · simp only [Act.put, List.setIfInBounds_toArray, List.set_cons_zero, List.set_cons_succ, i64_w, i32_w]
                rfl
              refine pure_ (i := 16) (N := some 49) (v := undef) (a' := ?_) #[true, true, true, true, true, true, true, true, true, true, true, true, true, true, true, true, true, false] rfl rfl (any_of HT_.out (by kernel_rfl)) (fun _ _ _ h => h) (Or.inr ⟨by rfl, rfl⟩) ?_ ?_
              rotate_left
              · simp only [Act.put, List.setIfInBounds_toArray, List.set_cons_zero, List.set_cons_succ, i64_w, i32_w]
                rfl
              refine pure_ (i := 17) (N := some 50) (v := ?_) (a' := ?_) #[true, true, true, true, true, true, true, true, true, true, true, true, true, true, true, true, true, true] rfl rfl (any_of HT_.out (by kernel_rfl)) (fun _ _ _ h => h) (Or.inl ⟨by rfl, ?_⟩) ?_ ?_
              rotate_left
              · intro w'
                go_simp
                with_reducible rfl
              rotate_left
              · simp only [Act.put, List.setIfInBounds_toArray, List.set_cons_zero, List.set_cons_succ, i64_w, i32_w]
                rfl
              refine done_ (done_of HT_.out (by kernel_rfl)) ?_
              try go_wp2
              go_meet
              case rel => exact ⟨(by first | (rw [HOK.out]; done) | (rw [HOK.out]; first | with_reducible rfl | (simp; done) | rfl)), HPd, HWd⟩
          case rest =>
            obtain ⟨rfl, HP2, HW2⟩ := hcut
            clear HP HW1 HX1
            have hv := HV2.out
            by_cases hok : okF ⟨nm, kd⟩ ⟨k0, n, s⟩ = true
            · rw [if_pos hok] at hv
              have hcd : chkV ⟨k0, n, s⟩ = 0 := by
                unfold okF at hok
                rw [Bool.and_eq_true] at hok
                exact of_decide_eq_true hok.1
              have hyi : i < ys.length := by have := HY.out; omega
              have hyi2 : i < vs.length := hlt
              have hyi3 : (i : Int) < (vs.length : Int) := by omega
              have hv : recL l vs = (recL (l.drop (i + 1)) (vs.drop (i + 1))).map (fun t => ys.take i ++ fieldB ⟨k0, n, s⟩ :: t) := by
                rw [hv]
                simp only [Option.map_map]
                rfl
              have HV3 : Aside0 (recL l vs = (recL (l.drop (i + 1)) (vs.drop (i + 1))).map ((ys.set i (fieldB ⟨k0, n, s⟩)).take (i + 1) ++ ·)) := ⟨by rw [hv, set_take ys i _ hyi]; simp⟩
              have z0 : wc.cell? ⟨P, 0, none⟩ = some (.int .i64 k0) := (blk_cell HP2.out 0).trans rfl
              have y0 : wc.cell? ⟨L, i, none⟩ = some (.string ys[i]) := (blk_cell HW2.out.1 i).trans (strV_at ys i hyi)
              have y1 := blk_frozen HW2.out.1 i
              rw [hok]
              have HCD := Aside0.mk hcd
              clear hok hv hcd HV2
              by_cases h0 : k0 = 0
              · subst h0
                have HW3 : Aside0 (RcW w L b (ys.set i (fieldB ⟨0, n, s⟩)) (wc.setCell ⟨L, i, none⟩ (.string ⟨#[92, 78]⟩))) := ⟨HW2.out.put i _⟩
                clear HP2 HCD
                go_wp2
                go_roundg k1
                case measure => omega
                case rel => exact ⟨i + 1, ys.set i (fieldB ⟨0, n, s⟩), by congr 1, ⟨by have := HI.out; omega⟩, ⟨by rw [List.length_set]; exact HY.out⟩, HV3, HW3⟩
              have h0b : (k0 == 0) = false := beq_eq_false_iff_ne.2 h0
              by_cases h1 : k0 = 1
              · subst h1
                have z1 : wc.cell? ⟨P, 1, none⟩ = some (.int .i64 n) := (blk_cell HP2.out 1).trans rfl
                have hF := format_calls n HIN.out.1 HIN.out.2 wc (HG.out.below HW2.out.2.2.2)
                clear HP2 HCD y0 y1
                go_wp2_with (go_at_call 15; refine hF.mono ?_; rintro e w6 ⟨rfl, hb6⟩; have hW6 := HW2.out.bel hb6; have y0 : w6.cell? ⟨L, i, none⟩ = some (.string ys[i]) := (blk_cell hW6.1 i).trans (strV_at ys i hyi); have y1 := blk_frozen hW6.1 i; have HW3 : Aside0 (RcW w L b (ys.set i (fieldB ⟨1, n, s⟩)) (w6.setCell ⟨L, i, none⟩ (.string ⟨(Lib.itoa n).toArray⟩))) := ⟨hW6.put i _⟩; clear hb6 hW6 hF)
                go_roundg k1
                case measure => omega
                case rel => exact ⟨i + 1, ys.set i (fieldB ⟨1, n, s⟩), by congr 1, ⟨by have := HI.out; omega⟩, ⟨by rw [List.length_set]; exact HY.out⟩, HV3, HW3⟩
              have h1b : (k0 == 1) = false := beq_eq_false_iff_ne.2 h1
              by_cases h2 : k0 = 2
              · subst h2
                have z1 : wc.cell? ⟨P, 1, none⟩ = some (.int .i64 n) := (blk_cell HP2.out 1).trans rfl
                have hF := Tryz.strconv_FormatBool (n == 1) wc
                have HW3 : Aside0 (RcW w L b (ys.set i (fieldB ⟨2, n, s⟩)) (wc.setCell ⟨L, i, none⟩ (.string ⟨(Lib.formatBool (n == 1)).toArray⟩))) := ⟨HW2.out.put i _⟩
                clear HP2 HCD
                go_wp2_with (go_at_call 16; refine hF.mono ?_; rintro e w6 ⟨rfl, rfl⟩)
                go_roundg k1
                case measure => omega
                case rel => exact ⟨i + 1, ys.set i (fieldB ⟨2, n, s⟩), by congr 1, ⟨by have := HI.out; omega⟩, ⟨by rw [List.length_set]; exact HY.out⟩, HV3, HW3⟩
              · have h2b : (k0 == 2) = false := beq_eq_false_iff_ne.2 h2
                have z2 : wc.cell? ⟨P, 2, none⟩ = some (.string s) := (blk_cell HP2.out 2).trans rfl
                have hF := rep_calls L b s (chk_size k0 n s h0 h1 h2 HCD.out) wc HW2.out.2.1
                have HFE : Aside0 (fieldB ⟨k0, n, s⟩ = strOfNums (escS (bytesOf s))) := ⟨by unfold fieldB; rw [if_neg h0, if_neg h1, if_neg h2]⟩
                rw [← HFE.out] at hF
                clear HP2 HCD y0 y1 h0 h1 h2
                generalize fieldB ⟨k0, n, s⟩ = ff at hF HV3
                go_wp2_with (go_at_call 17; refine hF.mono ?_; rintro e w6 ⟨rfl, hs6, hg6⟩; have hW6 := HW2.out.repl hs6 hg6; have y0 : w6.cell? ⟨L, i, none⟩ = some (.string ys[i]) := (blk_cell hW6.1 i).trans (strV_at ys i hyi); have y1 := blk_frozen hW6.1 i; have HW3 : Aside0 (RcW w L b (ys.set i ff) (w6.setCell ⟨L, i, none⟩ (.string ff))) := ⟨hW6.put i _⟩; clear hs6 hg6 hW6 hF)
                go_roundg k1
                case measure => omega
                case rel => exact ⟨i + 1, ys.set i (ff), by congr 1, ⟨by have := HI.out; omega⟩, ⟨by rw [List.length_set]; exact HY.out⟩, HV3, HW3⟩
            · have hok2 : okF ⟨nm, kd⟩ ⟨k0, n, s⟩ = false := by simpa using hok
              rw [if_neg hok] at hv
              have hv : recL l vs = none := hv
              have hR := HR.out
              rw [hv] at hR
              have hR : (([], 122) : List Int × Int) = R := hR
              have HRR := Aside0.mk hR
              rw [hok2]
              clear hv hR hok hok2 HV2 HR
              go_wp2
              go_ret2
              rw [← HRR.out]
              exact recPost_nil 122 w _ HW2.out.2.2.2
    · have hlb : ((vs.length : Int) != (l.length : Int)) = true := bne_iff_ne.2 (by omega)
      rw [if_pos hl] at hR
      have HRR := Aside0.mk hR
      clear hR hl
      go_enter Tryz.func8, Tryz.ntmps8
      go_wp2_with (go_at_call 12; refine hchk.mono ?_; rintro e w1 ⟨rfl, hb1⟩; have HB1 := Aside0.mk hb1; clear hb1 hchk)
      go_ret2
      rw [← HRR.out]
      exact recPost_nil 121 w w1 HB1.out
  · rw [if_pos h0] at hR
    subst hR
    have h0b : (r != 0) = true := bne_iff_ne.2 h0
    clear h0
    go_enter Tryz.func8, Tryz.ntmps8
    go_wp2_with (go_at_call 12; refine hchk.mono ?_; rintro e w1 ⟨rfl, hb1⟩; have HB1 := Aside0.mk hb1; clear hb1 hchk)
    go_ret2
    exact recPost_nil r w w1 HB1.out
end Go.Proofs.YtnjlgeenhmamjaaGreatDoor.Q
