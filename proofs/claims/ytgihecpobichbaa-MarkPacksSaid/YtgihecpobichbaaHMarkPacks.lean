/- The law MarkPacks: walked. -/
import Derived.Test.YtgihecpobichbaaMarkPP
import Derived.Deep.CutBlock
import Derived.Deep.RegionHeld
namespace Go.Proofs.Ytgihecpobichbaa.Q
open Go.RowKit Go.Proofs.YtgihecpobichbaaW.PrintWords Go.Proofs.YtgihecpobichbaaW.PrintLast Go.Proofs.YtgihecpobichbaaW.PrintMore
set_option linter.unusedVariables false
set_option linter.unusedSimpArgs false
theorem eqM98 (d : Nat) (w : World) (x0 y0 : Int) (x1 y1 : Int) (x2 y2 : Bool) (x3 y3 : Int) :
    (Op.equalIn (d + 2) 98 (.agg #[.int .i64 x0, .int .i64 x1, .bool x2, .int .i64 x3]) (.agg #[.int .i64 y0, .int .i64 y1, .bool y2, .int .i64 y3])).run Try.prog w = .ok (x0 == y0 && (x1 == y1 && (x2 == y2 && (x3 == y3)))) w := by
  refine eqA_of Try.underlying98 (by kernel_rfl) ?_
  refine eqf_cons (by rfl) (by go_simp; rfl) (by go_simp; rfl) (by go_simp) ?_
  refine eqf_cons (by rfl) (by go_simp; rfl) (by go_simp; rfl) (by go_simp) ?_
  refine eqf_cons (by rfl) (by go_simp; rfl) (by go_simp; rfl) (by go_simp) ?_
  exact eqf_last (by rfl) (by go_simp; rfl) (by go_simp; rfl) (by go_simp)
theorem eqM102 (d : Nat) (w : World) (x0 y0 : Int) (x1 y1 : Int) (x2 y2 : Bool) (x3 y3 : Int) :
    (Op.equalIn (d + 2) 102 (.agg #[.int .i64 x0, .int .i64 x1, .bool x2, .int .i64 x3]) (.agg #[.int .i64 y0, .int .i64 y1, .bool y2, .int .i64 y3])).run Try.prog w = .ok (x0 == y0 && (x1 == y1 && (x2 == y2 && (x3 == y3)))) w := by
  refine eqA_of Try.underlying102 (by kernel_rfl) ?_
  refine eqf_cons (by rfl) (by go_simp; rfl) (by go_simp; rfl) (by go_simp) ?_
  refine eqf_cons (by rfl) (by go_simp; rfl) (by go_simp; rfl) (by go_simp) ?_
  refine eqf_cons (by rfl) (by go_simp; rfl) (by go_simp; rfl) (by go_simp) ?_
  exact eqf_last (by rfl) (by go_simp; rfl) (by go_simp; rfl) (by go_simp)
attribute [local go_sem high] eqM98 eqM102
theorem blk_put4 {w : World} {g : Nat} {t : TypeId} {x0 x1 x2 x3 : Value} (h : w.heap[g]? = some (.cells #[x0, x1, x2, x3] t (0, 0))) (y0 y1 y2 y3 : Value) :
    ((((w.setCell ⟨g, 0, none⟩ y0).setCell ⟨g, 1, none⟩ y1).setCell ⟨g, 2, none⟩ y2).setCell ⟨g, 3, none⟩ y3).heap[g]? = some (.cells #[y0, y1, y2, y3] t (0, 0)) :=
  blk_set (cs := #[y0, y1, y2, x3]) (blk_set (cs := #[y0, y1, x2, x3]) (blk_set (cs := #[y0, x1, x2, x3]) (blk_set h 0 y0) 1 y1) 2 y2) 3 y3
theorem below_set4 {W w : World} {h : Nat} (hb : Below W.heap.size W w) (hle : W.heap.size ≤ h) (y0 y1 y2 y3 : Value) : Below W.heap.size W ((((w.setCell ⟨h, 0, none⟩ y0).setCell ⟨h, 1, none⟩ y1).setCell ⟨h, 2, none⟩ y2).setCell ⟨h, 3, none⟩ y3) :=
  below_set (below_set (below_set (below_set hb hle) hle) hle) hle
theorem blk_far4 {w : World} {g h : Nat} {t : TypeId} {cs : Array Value} (hb : w.heap[g]? = some (.cells cs t (0, 0))) (hne : g ≠ h) (y0 y1 y2 y3 : Value) :
    ((((w.setCell ⟨h, 0, none⟩ y0).setCell ⟨h, 1, none⟩ y1).setCell ⟨h, 2, none⟩ y2).setCell ⟨h, 3, none⟩ y3).heap[g]? = some (.cells cs t (0, 0)) :=
  blk_far (blk_far (blk_far (blk_far hb hne _) hne _) hne _) hne _
theorem ow_below {W w w' : World} {h : Nat} (y0 y1 y2 y3 : Value) (hle : W.heap.size ≤ h) (hb : Below W.heap.size W w) : Below W.heap.size W ((((w.setCell ⟨h, 0, none⟩ y0).setCell ⟨h, 1, none⟩ y1).setCell ⟨h, 2, none⟩ y2).setCell ⟨h, 3, none⟩ y3) := below_set4 hb hle _ _ _ _
set_option maxHeartbeats 4000000 in
set_option maxRecDepth 100000 in
theorem packs_walk (delay : Int) (A : Option Addr) (c : Nat) (l : List (List Int)) (s : ByteArray) (hs : s.size ≤ 4000) (w : World) (hr : Kd.C (Kd.slice 2 (Kd.int .i64)) w A l.length l) (hc : l.length ≤ c) (m1 m2 : Int) (m3 : Bool) (m4 ee : Int) (ok : Bool) (a m : Int) (b : Bool) (bs : List Int) (K1 K2 K3 K4 K5 K6 K7 : Nat)
    (hF : headgatelaw19_few.f K1 l = some true) (hR : headgateref19_Right.f delay = some true) (hU : mark_Unpack.f K2 delay (bytesOf s) = some (m1, m2, m3, m4, ee)) (hV : headgateref19_Unpack.f K3 delay s = some (m1, m2, m3, m4, ok)) (hX : (ok = true ∧ ee = 0) ∨ (ok = false ∧ ee = 41))
    (hO : headgateref19_Of.f K4 delay l = some (a, m, b, delay)) (hP : mark_Mark_Pack.f K5 a m b delay = some bs) (hQ : headgateref19_Pack.f K6 a m b delay = some (strOfNums bs)) (hB : mark_Unpack.f K7 delay bs = some (a, m, b, delay, 0)) :
    Calls Try.prog 11 #[.int .i64 delay, .slice A l.length c, .string s] w fun e w' => e = .returned (.bool true) ∧ Below w.heap.size w w' := by
  have kb := fun W => print_bytes (P := Try.prog) 9 27 5 Try.underlying9 Try.underlying27 Try.underlying5 s W
  have hs1 : decide (4000 < (s.size : Int)) = false := decide_eq_false (by omega)
  have hs2 : decide (4000 < s.size) = false := decide_eq_false (by omega)
  have HR := Aside0.mk hr
  have HF := Aside0.mk hF
  have HRt := Aside0.mk hR
  have HU := Aside0.mk hU
  have HV := Aside0.mk hV
  have HX := Aside0.mk hX
  have HO := Aside0.mk hO
  have HP := Aside0.mk hP
  have HQ := Aside0.mk hQ
  have HBk := Aside0.mk hB
  clear hr hF hR hU hV hX hO hP hQ hB
  go_enter Try.func11, Try.ntmps11
  go_wp2_with fail
  refine (headgatelaw19_alive.calls true _ alive19).mono ?_
  rintro e w1 ⟨rfl, hb1⟩
  have HB1 := Aside0.mk hb1
  clear hb1
  go_wp2_with fail
  refine (headgatelaw19_few.calls K1 A c l true _ (Kd.C_below HR.out HB1.out) hc HF.out).mono ?_
  rintro e w2 ⟨rfl, hb2⟩
  have HB2 := Aside0.mk (below_step HB1.out hb2)
  clear hb2 HB1
  go_upto_region 5 with (fail)
  go_cut [7, 8] (fun v7 v8 wc => ∃ g7, v7 = .pointer (some ⟨g7, 0, none⟩) ∧ v8 = .int .i64 ee ∧ Aside0 (wc.heap[g7]? = some (.cells #[.int .i64 m1, .int .i64 m2, .bool m3, .int .i64 m4] 98 (0, 0))) ∧ Aside0 (w.heap.size ≤ g7) ∧ Aside0 (Below w.heap.size w wc))
  case first =>
    go_wp2_with fail
    have hlen := bytesOf_length s
    have hC : Kd.C (Kd.int .u8) (Lib.bytesWorld w2 5 s) (some ⟨w2.heap.size, 0, none⟩) s.size (bytesOf s) := Kd.C_of_reads (bytes_reads w2 5 s (by omega))
    have hcap : s.size ≤ grownCap w2 s.size 0 5 := grownCap_ge _ _ _ _
    have hcall := mark_Unpack.calls K2 delay (some ⟨w2.heap.size, 0, none⟩) (grownCap w2 s.size 0 5) (bytesOf s) m1 m2 m3 m4 ee (Lib.bytesWorld w2 5 s) (by rw [hlen]; exact hC) (by rw [hlen]; exact hcap) HU.out
    rw [hlen] at hcall
    refine hcall.mono ?_
    rintro e w3 ⟨rfl, hb3⟩
    have HB3 : Aside0 (Below w.heap.size w w3) := ⟨below_step (bytes_below HB2.out HB2.out.size _ _) hb3⟩
    clear hcall hC hb3 kb
    go_wp2
    go_meet
    case rel =>
      exact ⟨w3.heap.size, rfl, rfl, ⟨blk_new w3 _⟩, ⟨HB3.out.size⟩, ⟨below_alloc HB3.out _⟩⟩
  case rest =>
    clear HB2
    obtain ⟨g7, rfl, rfl, B7, L7, HB3⟩ := hcut
    go_wp2_with fail
    refine (headgateref19_Right.calls delay true _ HRt.out).mono ?_
    rintro e w4 ⟨rfl, hd4⟩
    have HB4 := Aside0.mk (HB3.out.trans (dr_below hd4 _))
    have B74 := Aside0.mk (blk_below B7.out (dr_below hd4 _))
    clear hd4 HB3 B7
    go_upto_region 8 with (fail)
    go_cut [9, 10] (fun v9 v10 wc => ∃ g9, v9 = .pointer (some ⟨g9, 0, none⟩) ∧ v10 = .bool ok ∧ Aside0 (wc.heap[g7]? = some (.cells #[.int .i64 m1, .int .i64 m2, .bool m3, .int .i64 m4] 98 (0, 0))) ∧ Aside0 (wc.heap[g9]? = some (.cells #[.int .i64 m1, .int .i64 m2, .bool m3, .int .i64 m4] 102 (0, 0))) ∧ Aside0 (Below w.heap.size w wc))
    case first =>
      go_wp2_with fail
      refine (headgateref19_Unpack.calls K3 delay s m1 m2 m3 m4 ok _ HV.out).mono ?_
      rintro e w5 ⟨rfl, hb5⟩
      have HB5 := Aside0.mk (below_step HB4.out hb5)
      have B75 := Aside0.mk (blk_below B74.out hb5)
      clear hb5
      go_wp2
      go_meet
      case rel =>
        exact ⟨w5.heap.size, rfl, rfl, ⟨blk_alloc B75.out _⟩, ⟨blk_new w5 _⟩, ⟨below_alloc HB5.out _⟩⟩
    case rest =>
      clear HB4 B74
      obtain ⟨g9, rfl, rfl, B7, B9, HB5⟩ := hcut
      have b7 := B7.out
      have b9 := B9.out
      have c70 : _ = some (Value.int .i64 m1) := (blk_cell b7 0).trans rfl
      have c71 : _ = some (Value.int .i64 m2) := (blk_cell b7 1).trans rfl
      have c72 : _ = some (Value.bool m3) := (blk_cell b7 2).trans rfl
      have c73 : _ = some (Value.int .i64 m4) := (blk_cell b7 3).trans rfl
      have c90 : _ = some (Value.int .i64 m1) := (blk_cell b9 0).trans rfl
      have c91 : _ = some (Value.int .i64 m2) := (blk_cell b9 1).trans rfl
      have c92 : _ = some (Value.bool m3) := (blk_cell b9 2).trans rfl
      have c93 : _ = some (Value.int .i64 m4) := (blk_cell b9 3).trans rfl
      clear b7 b9
      rcases HX.out with ⟨rfl, rfl⟩ | ⟨rfl, rfl⟩
      all_goals
        clear HU HV HX
        go_upto_region 11 with (fail)
        clear c70 c71 c72 c73 c90 c91 c92 c93
        go_cut [11] (fun v11 wc => ∃ g11, v11 = .pointer (some ⟨g11, 0, none⟩) ∧ Aside0 (wc.heap[g11]? = some (.cells #[.int .i64 a, .int .i64 m, .bool b, .int .i64 delay] 102 (0, 0))) ∧ Aside0 (Below w.heap.size w wc))
        case first =>
          go_wp2_with fail
          refine (headgateref19_Of.calls K4 delay A c l a m b delay _ (Kd.C_below HR.out HB5.out) hc HO.out).mono ?_
          rintro e w6 ⟨rfl, hb6⟩
          have HB6 := Aside0.mk (below_step HB5.out hb6)
          clear hb6
          go_wp2
          go_meet
          case rel => exact ⟨w6.heap.size, rfl, ⟨blk_new w6 _⟩, ⟨below_alloc HB6.out _⟩⟩
        case rest =>
          clear HB5 B7 B9
          obtain ⟨g11, rfl, B11, HB6⟩ := hcut
          have b11 := B11.out
          have c110 : _ = some (Value.int .i64 a) := (blk_cell b11 0).trans rfl
          have c111 : _ = some (Value.int .i64 m) := (blk_cell b11 1).trans rfl
          have c112 : _ = some (Value.bool b) := (blk_cell b11 2).trans rfl
          have c113 : _ = some (Value.int .i64 delay) := (blk_cell b11 3).trans rfl
          clear b11
          go_wp2_with fail
          refine (mark_Mark_Pack.calls K5 a m b delay bs _ HP.out).mono ?_
          rintro e w7 ⟨v, rfl, hR, hb7⟩
          have HZ6 := Aside0.mk (show w.heap.size ≤ _ from HB6.out.size)
          obtain ⟨Ab, cb, rfl⟩ := Kd.R_slice hR
          have HB7 := Aside0.mk (below_step HB6.out hb7)
          have B117 := Aside0.mk (blk_below B11.out hb7)
          have HRb := Aside0.mk hR
          clear hR hb7 c110 c111 c112 c113 HB6 B11
          go_upto_region 13 with (fail)
          go_cut [13, 14] (fun v13 v14 wc => ∃ g13, v13 = .pointer (some ⟨g13, 0, none⟩) ∧ v14 = .int .i64 0 ∧ Aside0 (wc.heap[g13]? = some (.cells #[.int .i64 a, .int .i64 m, .bool b, .int .i64 delay] 98 (0, 0))) ∧ Aside0 (wc.heap[g11]? = some (.cells #[.int .i64 a, .int .i64 m, .bool b, .int .i64 delay] 102 (0, 0))) ∧ Aside0 (Kd.R (Kd.int .u8) 5 wc w.heap.size (fun _ => True) (.slice Ab bs.length cb) bs) ∧ Aside0 (Below w.heap.size w wc))
          case first =>
            go_wp2_with fail
            have hrd := Kd.R_reads' HRb.out
            refine (mark_Unpack.calls K7 delay Ab cb bs a m b delay 0 _ hrd.2.2 hrd.2.1 HBk.out).mono ?_
            rintro e w8 ⟨rfl, hb8⟩
            have HB8 := Aside0.mk (below_step HB7.out hb8)
            have B118 := Aside0.mk (blk_below B117.out hb8)
            have HR8 := Aside0.mk (Kd.R_lower (Kd.R_below HRb.out hb8) (base' := w.heap.size) HZ6.out)
            clear hb8 hrd
            go_wp2
            go_meet
            case rel => exact ⟨w8.heap.size, rfl, rfl, ⟨blk_new w8 _⟩, ⟨blk_alloc B118.out _⟩, ⟨by (with_reducible repeat (first | apply Kd.R_alloc)); exact HR8.out⟩, ⟨below_alloc HB8.out _⟩⟩
          case rest =>
            clear HB7 B117 HRb
            obtain ⟨g13, rfl, rfl, B13, B11, HRb, HB8⟩ := hcut
            have hcv := own_string (P := Try.prog) Try.underlying27 Try.underlying5 Try.underlying9 (Kd.own_of_R (Kd.R_drew HRb.out))
            have b11 := B11.out
            have c110 : _ = some (Value.int .i64 a) := (blk_cell b11 0).trans rfl
            have c111 : _ = some (Value.int .i64 m) := (blk_cell b11 1).trans rfl
            have c112 : _ = some (Value.bool b) := (blk_cell b11 2).trans rfl
            have c113 : _ = some (Value.int .i64 delay) := (blk_cell b11 3).trans rfl
            clear b11
            go_upto_region 14 with (fail)
            go_region_with (first
              | (go_at_call 54; refine (headgateref19_Pack.calls K6 a m b delay _ _ HQ.out).mono ?_; rintro e w9 ⟨rfl, hb9⟩; have HB9 : Aside0 (Below w.heap.size w w9) := ⟨below_step (by with_reducible repeat (first | exact HB8.out | apply below_drew1 | apply pw_below_drewN)) hb9⟩; have b139 : w9.heap[g13]? = some (.cells #[.int .i64 a, .int .i64 m, .bool b, .int .i64 delay] 98 (0, 0)) := blk_below (by with_reducible repeat (first | exact B13.out | refine blk_drewN ?_ _ | refine blk_drew ?_)) hb9; have b119 : w9.heap[g11]? = some (.cells #[.int .i64 a, .int .i64 m, .bool b, .int .i64 delay] 102 (0, 0)) := blk_below (by with_reducible repeat (first | exact B11.out | refine blk_drewN ?_ _ | refine blk_drew ?_)) hb9; have d130 : _ = some (Value.int .i64 a) := (blk_cell b139 0).trans rfl; have d131 : _ = some (Value.int .i64 m) := (blk_cell b139 1).trans rfl; have d132 : _ = some (Value.bool b) := (blk_cell b139 2).trans rfl; have d133 : _ = some (Value.int .i64 delay) := (blk_cell b139 3).trans rfl; have d110 : _ = some (Value.int .i64 a) := (blk_cell b119 0).trans rfl; have d111 : _ = some (Value.int .i64 m) := (blk_cell b119 1).trans rfl; have d112 : _ = some (Value.bool b) := (blk_cell b119 2).trans rfl; have d113 : _ = some (Value.int .i64 delay) := (blk_cell b119 3).trans rfl; have hR9 : Kd.R (Kd.int .u8) 5 w9 w.heap.size (fun _ => True) (.slice Ab bs.length cb) bs := Kd.R_below (by with_reducible repeat (first | exact HRb.out | apply Kd.R_drewN | apply Kd.R_drew)) hb9; have hcw := own_string (P := Try.prog) Try.underlying27 Try.underlying5 Try.underlying9 (Kd.own_of_R hR9); clear hR9; clear b139 b119 hb9))
            all_goals (go_wp2; go_ret; exact ⟨rfl, HB9.out⟩)
set_option maxHeartbeats 4000000 in
set_option maxRecDepth 100000 in
/-- Too much to look at. -/
theorem packs_many (delay : Int) (A : Option Addr) (c : Nat) (l : List (List Int)) (s : ByteArray) (w : World) (hr : Kd.C (Kd.slice 2 (Kd.int .i64)) w A l.length l) (hc : l.length ≤ c) (K1 : Nat) (fw : Bool) (hF : headgatelaw19_few.f K1 l = some fw) (hx : fw = false ∨ 4000 < s.size) :
    Calls Try.prog 11 #[.int .i64 delay, .slice A l.length c, .string s] w fun e w' => e = .returned (.bool true) ∧ Below w.heap.size w w' := by
  have HR := Aside0.mk hr
  have HF := Aside0.mk hF
  clear hr hF
  cases fw with
  | false =>
    clear hx
    go_enter Try.func11, Try.ntmps11
    go_wp2_with fail
    refine (headgatelaw19_alive.calls true _ alive19).mono ?_
    rintro e w1 ⟨rfl, hb1⟩
    have HB1 := Aside0.mk hb1
    clear hb1
    go_wp2_with fail
    refine (headgatelaw19_few.calls K1 A c l false _ (Kd.C_below HR.out HB1.out) hc HF.out).mono ?_
    rintro e w2 ⟨rfl, hb2⟩
    have HB2 := Aside0.mk (below_step HB1.out hb2)
    clear hb2 HB1
    go_wp2
    go_ret
    exact ⟨rfl, HB2.out⟩
  | true =>
    have hs : 4000 < s.size := hx.elim (fun h => by cases h) id
    have hs1 : decide (4000 < (s.size : Int)) = true := decide_eq_true (by omega)
    have hs2 : decide (4000 < s.size) = true := decide_eq_true (by omega)
    clear hx hs
    go_enter Try.func11, Try.ntmps11
    go_wp2_with fail
    refine (headgatelaw19_alive.calls true _ alive19).mono ?_
    rintro e w1 ⟨rfl, hb1⟩
    have HB1 := Aside0.mk hb1
    clear hb1
    go_wp2_with fail
    refine (headgatelaw19_few.calls K1 A c l true _ (Kd.C_below HR.out HB1.out) hc HF.out).mono ?_
    rintro e w2 ⟨rfl, hb2⟩
    have HB2 := Aside0.mk (below_step HB1.out hb2)
    clear hb2 HB1
    go_wp2
    go_ret
    exact ⟨rfl, HB2.out⟩
set_option maxHeartbeats 4000000 in
set_option maxRecDepth 100000 in
/-- A delay that is none. -/
theorem packs_none (delay : Int) (A : Option Addr) (c : Nat) (l : List (List Int)) (s : ByteArray) (hs : s.size ≤ 4000) (w : World) (hr : Kd.C (Kd.slice 2 (Kd.int .i64)) w A l.length l) (hc : l.length ≤ c) (K1 K2 : Nat)
    (hF : headgatelaw19_few.f K1 l = some true) (hR : headgateref19_Right.f delay = some false) (hU : mark_Unpack.f K2 delay (bytesOf s) = some (0, 0, false, 0, 2)) :
    Calls Try.prog 11 #[.int .i64 delay, .slice A l.length c, .string s] w fun e w' => e = .returned (.bool true) ∧ Below w.heap.size w w' := by
  have kb := fun W => print_bytes (P := Try.prog) 9 27 5 Try.underlying9 Try.underlying27 Try.underlying5 s W
  have hs1 : decide (4000 < (s.size : Int)) = false := decide_eq_false (by omega)
  have hs2 : decide (4000 < s.size) = false := decide_eq_false (by omega)
  have HR := Aside0.mk hr
  have HF := Aside0.mk hF
  have HRt := Aside0.mk hR
  have HU := Aside0.mk hU
  clear hr hF hR hU
  go_enter Try.func11, Try.ntmps11
  go_wp2_with fail
  refine (headgatelaw19_alive.calls true _ alive19).mono ?_
  rintro e w1 ⟨rfl, hb1⟩
  have HB1 := Aside0.mk hb1
  clear hb1
  go_wp2_with fail
  refine (headgatelaw19_few.calls K1 A c l true _ (Kd.C_below HR.out HB1.out) hc HF.out).mono ?_
  rintro e w2 ⟨rfl, hb2⟩
  have HB2 := Aside0.mk (below_step HB1.out hb2)
  clear hb2 HB1
  go_upto_region 5 with (fail)
  go_cut [7, 8] (fun v7 v8 wc => ∃ g7, v7 = .pointer (some ⟨g7, 0, none⟩) ∧ v8 = .int .i64 2 ∧ Aside0 (wc.heap[g7]? = some (.cells #[.int .i64 0, .int .i64 0, .bool false, .int .i64 0] 98 (0, 0))) ∧ Aside0 (Below w.heap.size w wc))
  case first =>
    go_wp2_with fail
    have hlen := bytesOf_length s
    have hC : Kd.C (Kd.int .u8) (Lib.bytesWorld w2 5 s) (some ⟨w2.heap.size, 0, none⟩) s.size (bytesOf s) := Kd.C_of_reads (bytes_reads w2 5 s (by omega))
    have hcap : s.size ≤ grownCap w2 s.size 0 5 := grownCap_ge _ _ _ _
    have hcall := mark_Unpack.calls K2 delay (some ⟨w2.heap.size, 0, none⟩) (grownCap w2 s.size 0 5) (bytesOf s) 0 0 false 0 2 (Lib.bytesWorld w2 5 s) (by rw [hlen]; exact hC) (by rw [hlen]; exact hcap) HU.out
    rw [hlen] at hcall
    refine hcall.mono ?_
    rintro e w3 ⟨rfl, hb3⟩
    have HB3 : Aside0 (Below w.heap.size w w3) := ⟨below_step (bytes_below HB2.out HB2.out.size _ _) hb3⟩
    clear hcall hC hb3 kb
    go_wp2
    go_meet
    case rel =>
      exact ⟨w3.heap.size, rfl, rfl, ⟨blk_new w3 _⟩, ⟨below_alloc HB3.out _⟩⟩
  case rest =>
    clear HB2
    obtain ⟨g7, rfl, rfl, B7, HB3⟩ := hcut
    go_wp2_with fail
    refine (headgateref19_Right.calls delay false _ HRt.out).mono ?_
    rintro e w4 ⟨rfl, hd4⟩
    have HB4 := Aside0.mk (HB3.out.trans (dr_below hd4 _))
    have b7 := blk_below B7.out (dr_below hd4 _)
    clear hd4 HB3 B7
    have c70 : _ = some (Value.int .i64 0) := (blk_cell b7 0).trans rfl
    have c71 : _ = some (Value.int .i64 0) := (blk_cell b7 1).trans rfl
    have c72 : _ = some (Value.bool false) := (blk_cell b7 2).trans rfl
    have c73 : _ = some (Value.int .i64 0) := (blk_cell b7 3).trans rfl
    clear b7
    go_wp2
    go_ret
    exact ⟨rfl, HB4.out⟩
theorem right_eq (d : Int) : headgateref19_Right.f d = some (decide (0 ≤ d ∧ d ≤ 72057594037927936)) := by
  unfold headgateref19_Right.f
  by_cases h1 : d ≥ 0
  · rw [if_pos h1]
    by_cases h2 : d ≤ 72057594037927936
    · rw [decide_eq_true h2, decide_eq_true (show _ ∧ _ from ⟨h1, h2⟩)]
    · rw [decide_eq_false h2, decide_eq_false (fun h => h2 h.2)]
  · rw [if_neg h1, decide_eq_false (fun h => h1 h.1)]
def headgatelaw19_MarkPacks.f (k : Nat) (a0 : Int) (l1 : List (List Int)) (a2 : ByteArray) : Option Bool := if l1.length ≤ 9223372036854775806 ∧ ∀ i : Nat, i < l1.length → (rd_L18 l1 (i : Int)).length ≤ 9223372036854775806 then some true else none
theorem rd_long (l : List (List Int)) (h : ∀ i : Nat, i < l.length → (rd_L18 l (i : Int)).length ≤ 9223372036854775806) (i : Int) : (rd_L18 l i).length ≤ 9223372036854775806 := by
  by_cases hi : 0 ≤ i ∧ i < (l.length : Int)
  · have := h i.toNat (by omega)
    rwa [show ((i.toNat : Nat) : Int) = i by omega] at this
  · by_cases h0 : i < 0
    · unfold rd_L18
      have e : i.toNat = 0 := by omega
      cases l with
      | nil => rw [e]; simp
      | cons x l =>
        have := h 0 (by simp)
        unfold rd_L18 at this
        rw [e]
        exact this
    · unfold rd_L18
      rw [List.getD_eq_getElem?_getD, List.getElem?_eq_none (by omega)]
      simp
theorem headgatelaw19_MarkPacks.calls (k : Nat) (a0 : Int) (A1 : Option Addr) (c1 : Nat) (l1 : List (List Int)) (a2 : ByteArray) (r : Bool) (w : World) (hr1 : Kd.C (Kd.slice 2 (Kd.int .i64)) w A1 l1.length l1) (hc1 : l1.length ≤ c1) (h : headgatelaw19_MarkPacks.f k a0 l1 a2 = some r) :
    Calls Try.prog 11 #[.int .i64 a0, .slice A1 l1.length c1, .string a2] w fun e w' => e = .returned (.bool r) ∧ Below w.heap.size w w' := by
  unfold headgatelaw19_MarkPacks.f at h
  split at h
  · rename_i ha
    cases h
    have hl := rd_long l1 ha.2
    obtain ⟨fw, hfw⟩ := few_some l1 ha.1
    obtain ⟨K1, h1⟩ := hfw.rounds
    by_cases hx : fw = false ∨ 4000 < a2.size
    · exact packs_many a0 A1 c1 l1 a2 w hr1 hc1 K1 fw h1 hx
    · have hft : fw = true := by cases fw; exact absurd (.inl rfl) hx; rfl
      have hs : a2.size ≤ 4000 := by
        rcases Nat.lt_or_ge 4000 a2.size with h' | h'
        · exact absurd (.inr h') hx
        · exact h'
      rw [hft] at h1
      have hlb := bytesOf_length a2
      by_cases hd : 0 ≤ a0 ∧ a0 ≤ 72057594037927936
      · obtain ⟨K2, h2⟩ := (unM_code a0 hd (bytesOf a2) (by omega)).rounds
        obtain ⟨K3, h3⟩ := (unM_ref a0 a2 (by omega)).rounds
        obtain ⟨a, m, b, hO, hg⟩ := of_all l1 a0 hd ha.1 hl
        obtain ⟨K4, h4⟩ := hO.rounds
        obtain ⟨K5, h5⟩ := (pack_code hg).rounds
        obtain ⟨K6, h6⟩ := (pack_ref hg).rounds
        obtain ⟨K7, h7⟩ := (pack_back hg).rounds
        have hR : headgateref19_Right.f a0 = some true := by rw [right_eq, decide_eq_true hd]
        by_cases ho : (readI (bytesOf a2)).2 = 0 ∧ okM (readI (bytesOf a2)).1
        · unfold unMc at h2
          unfold unM at h3
          rw [if_pos ho] at h2 h3
          exact packs_walk a0 A1 c1 l1 a2 hs w hr1 hc1 _ _ _ _ _ _ a m b _ K1 K2 K3 K4 K5 K6 K7 h1 hR h2 h3 (.inl ⟨rfl, rfl⟩) h4 h5 h6 h7
        · unfold unMc at h2
          unfold unM at h3
          rw [if_neg ho] at h2 h3
          exact packs_walk a0 A1 c1 l1 a2 hs w hr1 hc1 _ _ _ _ _ _ a m b _ K1 K2 K3 K4 K5 K6 K7 h1 hR h2 h3 (.inr ⟨rfl, rfl⟩) h4 h5 h6 h7
      · exact packs_none a0 A1 c1 l1 a2 hs w hr1 hc1 K1 0 h1 (by rw [right_eq, decide_eq_false hd]) (unM_bad a0 hd (bytesOf a2))
  · cases h
theorem MarkPacks_pure (d : Int) (x : List (List Int)) (s : ByteArray) (_ : (Lit.int .i64 d).wf = true) (h : x.length * 24 ≤ 140737488351232 ∧ ∀ y ∈ x, y.length * 8 ≤ 140737488351232 ∧ ∀ z ∈ y, (Lit.int .i64 z).wf = true) (_ : s.size ≤ 140737488351232) : ∃ k, headgatelaw19_MarkPacks.f k d x s = some true := by
  refine ⟨0, if_pos ⟨by omega, fun i hi => ?_⟩⟩
  unfold rd_L18
  rw [List.getD_eq_getElem?_getD, Int.toNat_natCast, List.getElem?_eq_getElem hi]
  have := (h.2 _ (List.getElem_mem hi)).1
  simp only [Option.getD_some]
  omega
end Go.Proofs.Ytgihecpobichbaa.Q
