/- Texts of the claim, put together. -/
import Derived.Test.YtnjlgeenhmamjaaGreatDoorK
import Derived.Test.YtnjlgeenhmamjaaGreatDoorZDecodeRecords2
-- Written by a program of the session over the translation's print: functions as plain Lean, and that the machine's call comes to them.
namespace Go.Proofs.YtnjlgeenhmamjaaGreatDoor.Q
open Go.RowKit Go.Proofs.YtnjlgeenhmamjaaGreatDoorW.PrintWords Go.Proofs.YtnjlgeenhmamjaaGreatDoorW.PrintLast Go.Proofs.YtnjlgeenhmamjaaGreatDoorW.PrintMore
attribute [local go_sem] max2_int min2_int max_two min_two max_three min_three max_four min_four   -- for this text's walks alone
set_option linter.unusedVariables false
set_option linter.unusedSimpArgs false

/-! ### headgateref12_Record: function 9 -/
mutual
def headgateref12_Record.l0 : Nat → List (S39) → List (S41) → ByteArray → Int → Option (ByteArray × Int)
  | 0, _, _, _, _ => none
  | k + 1, x0, x1, x6, x7 => if x7 < (x1.length : Int) then (if 0 ≤ x7 then ((headgateref03_Check.f k ((rd_T41 x1 x7).f0) ((rd_T41 x1 x7).f1) ((rd_T41 x1 x7).f2)).bind fun t116 => (if t116 = 0 then (if ((rd_T41 x1 x7).f0) = 0 then (headgateref12_Record.j1 k x0 x1 x6 x7 false ((rd_T41 x1 x7).f0) ((rd_T41 x1 x7).f1) ((rd_T41 x1 x7).f2)) else (if x7 < (x0.length : Int) then (headgateref12_Record.j1 k x0 x1 x6 x7 (((rd_T41 x1 x7).f0) != ((rd_T39 x0 x7).f1)) ((rd_T41 x1 x7).f0) ((rd_T41 x1 x7).f1) ((rd_T41 x1 x7).f2)) else (none))) else (headgateref12_Record.j1 k x0 x1 x6 x7 true ((rd_T41 x1 x7).f0) ((rd_T41 x1 x7).f1) ((rd_T41 x1 x7).f2)))) else (none)) else (some (x6, 0))
def headgateref12_Record.j1 : Nat → List (S39) → List (S41) → ByteArray → Int → Bool → Int → Int → ByteArray → Option (ByteArray × Int)
  | 0, _, _, _, _, _, _, _, _ => none
  | k + 1, x0, x1, x6, x7, x45, x116000, x116001, x116002 => if x45 = true then (some ((⟨#[]⟩ : ByteArray), 122)) else (if x7 > 0 then (if x6.size + 1 ≤ 9223372036854775807 then (headgateref12_Record.j2 k x0 x1 (x6 ++ (⟨#[44]⟩ : ByteArray)) x7 x116000 x116001 x116002) else (none)) else (headgateref12_Record.j2 k x0 x1 x6 x7 x116000 x116001 x116002))
def headgateref12_Record.j2 : Nat → List (S39) → List (S41) → ByteArray → Int → Int → Int → ByteArray → Option (ByteArray × Int)
  | 0, _, _, _, _, _, _, _ => none
  | k + 1, x0, x1, x6, x7, x116000, x116001, x116002 => if x116000 = 0 then (if x6.size + 2 ≤ 9223372036854775807 then (headgateref12_Record.l0 k x0 x1 (x6 ++ (⟨#[92, 78]⟩ : ByteArray)) (wrap64 (x7 + 1))) else (none)) else (if x116000 = 1 then ((headgateref12_digits.f k x116001).bind fun t118 => (if x6.size + t118.size ≤ 9223372036854775807 then (headgateref12_Record.l0 k x0 x1 (x6 ++ t118) (wrap64 (x7 + 1))) else (none))) else (if x116000 = 2 then (if x116001 = 1 then (if x6.size + 4 ≤ 9223372036854775807 then (headgateref12_Record.l0 k x0 x1 (x6 ++ (⟨#[116, 114, 117, 101]⟩ : ByteArray)) (wrap64 (x7 + 1))) else (none)) else (if x6.size + 5 ≤ 9223372036854775807 then (headgateref12_Record.l0 k x0 x1 (x6 ++ (⟨#[102, 97, 108, 115, 101]⟩ : ByteArray)) (wrap64 (x7 + 1))) else (none))) else (if x116000 = 3 then (headgateref12_Record.l1 k x0 x1 x6 x7 0 x116000 x116001 x116002) else (headgateref12_Record.l0 k x0 x1 x6 (wrap64 (x7 + 1))))))
def headgateref12_Record.l1 : Nat → List (S39) → List (S41) → ByteArray → Int → Int → Int → Int → ByteArray → Option (ByteArray × Int)
  | 0, _, _, _, _, _, _, _, _ => none
  | k + 1, x0, x1, x6, x7, x9, x116000, x116001, x116002 => if x9 < (x116002.size : Int) then (if 0 ≤ x9 then (if (bt x116002 x9) = 44 then (if x6.size + 1 ≤ 9223372036854775807 then (if x9 ≤ (wrap64 (x9 + 1)) then (if (wrap64 (x9 + 1)) ≤ (x116002.size : Int) then (if (x6 ++ (⟨#[92]⟩ : ByteArray)).size + (x116002.extract (x9 : Int).toNat ((wrap64 (x9 + 1)) : Int).toNat).size ≤ 9223372036854775807 then (headgateref12_Record.l1 k x0 x1 ((x6 ++ (⟨#[92]⟩ : ByteArray)) ++ (x116002.extract (x9 : Int).toNat ((wrap64 (x9 + 1)) : Int).toNat)) x7 (wrap64 (x9 + 1)) x116000 x116001 x116002) else (none)) else (none)) else (none)) else (none)) else (if (bt x116002 x9) = 92 then (if x6.size + 1 ≤ 9223372036854775807 then (if x9 ≤ (wrap64 (x9 + 1)) then (if (wrap64 (x9 + 1)) ≤ (x116002.size : Int) then (if (x6 ++ (⟨#[92]⟩ : ByteArray)).size + (x116002.extract (x9 : Int).toNat ((wrap64 (x9 + 1)) : Int).toNat).size ≤ 9223372036854775807 then (headgateref12_Record.l1 k x0 x1 ((x6 ++ (⟨#[92]⟩ : ByteArray)) ++ (x116002.extract (x9 : Int).toNat ((wrap64 (x9 + 1)) : Int).toNat)) x7 (wrap64 (x9 + 1)) x116000 x116001 x116002) else (none)) else (none)) else (none)) else (none)) else (if x9 ≤ (wrap64 (x9 + 1)) then (if (wrap64 (x9 + 1)) ≤ (x116002.size : Int) then (if x6.size + (x116002.extract (x9 : Int).toNat ((wrap64 (x9 + 1)) : Int).toNat).size ≤ 9223372036854775807 then (headgateref12_Record.l1 k x0 x1 (x6 ++ (x116002.extract (x9 : Int).toNat ((wrap64 (x9 + 1)) : Int).toNat)) x7 (wrap64 (x9 + 1)) x116000 x116001 x116002) else (none)) else (none)) else (none)))) else (none)) else (headgateref12_Record.l0 k x0 x1 x6 (wrap64 (x7 + 1)))
end
def headgateref12_Record.f (k : Nat) (l0 : List (S39)) (l1 : List (S41)) : Option (ByteArray × Int) := (headgateref12_Right.f k l0).bind fun t113 => (if t113 = true then (if (l1.length : Int) = (l0.length : Int) then (headgateref12_Record.l0 k l0 l1 (⟨#[]⟩ : ByteArray) 0) else (some ((⟨#[]⟩ : ByteArray), 121))) else (some ((⟨#[]⟩ : ByteArray), 120)))
def headgateref12_Record.T10 : Bool × List (List Nat × List Nat) := (true, [([], []), ([0], [0]), ([1], [1]), ([2, 1], [2]), ([3], [3]), ([4, 3], [3, 4]), ([5, 3], [3, 5]), ([6, 3, 3], [3, 6]), ([7], [7]), ([8, 7], [7, 8]), ([7], [7]), ([7], [7]), ([10, 11, 7], [7, 10, 11]), ([12, 7], [7, 12]), ([13, 7], [7, 13]), ([9, 14, 7], [7, 9, 14]), ([7, 15, 3], [3, 7, 15]), ([3, 16], [3, 16])])
def headgateref12_Record.B10 : List Nat := [0, 1, 3, 7, 15, 31, 63, 127, 255, 511, 255, 255, 3327, 7423, 15615, 32767, 65535, 131071]
theorem headgateref12_Record.tab10 : rtab .any (opsOf Tryz.f9 10) = headgateref12_Record.T10 := by kernel_rfl
theorem headgateref12_Record.bits10 : waitsOk headgateref12_Record.T10.2 headgateref12_Record.B10 = true := by kernel_rfl
set_option maxHeartbeats 8000000 in
set_option maxRecDepth 100000 in
theorem headgateref12_Record.calls (k : Nat) (A0 : Option Addr) (c0 : Nat) (l0 : List (S39)) (A1 : Option Addr) (c1 : Nat) (l1 : List (S41)) (r1 : ByteArray) (r2 : Int) (w : World) (hr0 : Kd.C k39 w A0 l0.length l0) (hc0 : l0.length ≤ c0) (hr1 : Kd.C k41 w A1 l1.length l1) (hc1 : l1.length ≤ c1) (h : headgateref12_Record.f k l0 l1 = some (r1, r2)) :
    Calls Tryz.prog 9 #[.slice A0 l0.length c0, .slice A1 l1.length c1] w fun e w' => e = .returned (.tuple #[.string r1, .int .i64 r2]) ∧ Below w.heap.size w w' := by
  have hu41 := Tryz.underlying41
  have HR0 := Aside0.mk hr0
  have HC0 := Aside0.mk hc0
  clear hr0 hc0
  have HR1 := Aside0.mk hr1
  have HC1 := Aside0.mk hc1
  clear hr1 hc1
  have HB := Aside0.mk (Below.refl w.heap.size w)
  have H : ((headgateref12_Right.f k l0).bind fun t113 => (if t113 = true then (if (l1.length : Int) = (l0.length : Int) then (headgateref12_Record.l0 k l0 l1 (⟨#[]⟩ : ByteArray) 0) else (some ((⟨#[]⟩ : ByteArray), 121))) else (some ((⟨#[]⟩ : ByteArray), 120)))) = some (r1, r2) := h
  clear h
  replace H := Option.bind_eq_some_iff.mp H
  obtain ⟨t113, A30, H⟩ := H
  replace H : (if t113 = true then (if (l1.length : Int) = (l0.length : Int) then (headgateref12_Record.l0 k l0 l1 (⟨#[]⟩ : ByteArray) 0) else (some ((⟨#[]⟩ : ByteArray), 121))) else (some ((⟨#[]⟩ : ByteArray), 120))) = some (r1, r2) := H
  have A3 := Aside0.mk A30
  clear A30
  by_cases c4 : t113 = true
  · subst c4
    have H1 : (if (l1.length : Int) = (l0.length : Int) then (headgateref12_Record.l0 k l0 l1 (⟨#[]⟩ : ByteArray) 0) else (some ((⟨#[]⟩ : ByteArray), 121))) = some (r1, r2) := by rw [if_pos rfl] at H; exact H
    clear H
    have H := H1
    clear H1
    by_cases c5 : (l1.length : Int) = (l0.length : Int)
    · rw [if_pos c5] at H
      have c5b0 : ((l1.length : Int) == (l0.length : Int)) = true := beq_iff_eq.mpr c5
      have c5b1 : ((l1.length : Int) != (l0.length : Int)) = false := bne_eq_false_iff_eq.mpr c5
      have c5b2 : (l1.length == l0.length) = true := by first | simpa using c5 | (simp at c5 ⊢; omega)
      clear c5
      have H' := Aside0.mk H
      clear H
      go_enter Tryz.func9, Tryz.ntmps9
      go_wp2_with (first | ((with_reducible refine gate_callee (f := 19) rfl ?_); refine goesL_ (some 11) rfl rfl Tryz.func19 (by kernel_rfl) rfl #[.slice A0 l0.length c0] rfl (by (try simp only [List.map_toArray, List.map_cons, List.map_nil]); first | done | rfl | (simp only [List.length_drop, List.length_take]; rfl) | exact congrArg (fun x_ : Int => #[Value.int .u64 x_]) (show _ = _ % (18446744073709551616 : Int) by omega)) ?_; (with_reducible refine (headgateref12_Right.calls k _ _ l0 true _ ?side1 ?side2 A3.out).mono ?_); (case side1 => repeat (first | exact HR0.out | (with_reducible refine Kd.C_alloc ?_ _) | (with_reducible refine Kd.C_drewN ?_ _) | (with_reducible refine Kd.C_drew ?_))); (case side2 => exact HC0.out); rintro e w' ⟨rfl, ⟨nd, rfl⟩⟩; refine ⟨_, rfl, ?_⟩))
      go_loopg [6, 7] k (fun kq v6 v7 w' => ∃ (x6_1 : ByteArray) (x7_1 : Int), v6 = .string x6_1 ∧ v7 = .int .i64 x7_1 ∧ Aside0 (headgateref12_Record.l0 kq l0 l1 x6_1 x7_1 = some (r1, r2)) ∧ Aside0 (kq ≤ k) ∧ Aside0 (Below w.heap.size w w'))
      case atStart => exact ⟨((⟨#[]⟩ : ByteArray)), (0), (by first | with_reducible rfl | (simp; done) | rfl | (simp [*]; done)), (by first | with_reducible rfl | (simp; done) | rfl | (simp [*]; done)), H', ⟨Nat.le_refl _⟩, ⟨by repeat (first | (with_reducible first | exact HB.out | apply below_alloc | apply pw_below_drewN | apply below_drew1) | exact HB.out)⟩⟩
      case round =>
        clear H'
        try clear c1
        try clear p2
        try clear c4
        try clear c5
        try clear c5b0
        try clear c5b1
        try clear c5b2
        obtain ⟨x6_1, x7_1, rfl, rfl, HA, HK1, HB⟩ := hrel
        cases gk with
        | zero => exact absurd HA.out (by simp [headgateref12_Record.l0])
        | succ k1 =>
          have H := HA.out
          clear HA
          simp only [headgateref12_Record.l0] at H
          by_cases c6 : x7_1 < (l1.length : Int)
          · rw [if_pos c6] at H
            have c6b0 : decide (x7_1 < (l1.length : Int)) = true := decide_eq_true c6
            clear c6
            by_cases c7 : 0 ≤ x7_1
            · rw [if_pos c7] at H
              have c7b0 : decide (0 ≤ x7_1) = true := decide_eq_true c7
              clear c7
              have HC8 := Aside0.mk H
              clear H
              have p114 : 0 ≤ (x7_1 : Int) := of_decide_eq_true (by first | (with_reducible assumption) | assumption)
              have q114 : x7_1 < (l1.length : Int) := of_decide_eq_true (by first | (with_reducible assumption) | assumption)
              obtain ⟨ad114, e114, hx114_0, hx114_1, hx114_2⟩ := at_T41 HR1.out x7_1 p114 q114
              cases e114
              replace hx114_0 := (HB.out.cell (World.block_lt_of_cell? w _ hx114_0)).trans hx114_0
              replace hx114_1 := (HB.out.cell (World.block_lt_of_cell? w _ hx114_1)).trans hx114_1
              replace hx114_2 := (HB.out.cell (World.block_lt_of_cell? w _ hx114_2)).trans hx114_2
              replace p114 := eq_true p114
              replace q114 := eq_true q114
              go_upto_region 10 with (first | ((with_reducible refine gate_dst (N := 8) rfl ?_); refine box_event ?hg (N := 8) ?hd (cs := #[.int .i64 0, .int .i64 0, .string (⟨#[]⟩ : ByteArray)]) (t := 41) ?hr ?_; (case hd => rfl); (case hg => rfl); (case hr => first | (go_simp; done) | (go_simp; rfl)); intro gb115 hg w9 hbox hb; have n0_ := Aside0.mk (below_step (by repeat (first | (with_reducible first | exact HB.out | apply below_alloc | apply pw_below_drewN | apply below_drew1) | exact HB.out)) hb); have n1_ := Aside0.mk (hbox); have n2_ := Aside0.mk ((by rw [hg]; exact (below_size (by repeat (first | (with_reducible first | exact HB.out | apply below_alloc | apply pw_below_drewN | apply below_drew1) | exact HB.out))) : w.heap.size ≤ gb115)); have n3_ := Aside0.mk ((by rw [hg]; exact (below_size (by repeat (first | (with_reducible first | exact HB.out | apply below_alloc | apply pw_below_drewN | apply below_drew1) | exact HB.out))) : w.heap.size ≤ gb115)); clear HB; have HB := n0_; have BK115 := n1_; have GW115 := n2_; have GE115 := n3_; clear n0_ n1_ n2_ n3_; clear hb hbox hg; obtain ⟨hcz10_0, hcz10_1, hcz10_2, hfz10_0, hfz10_1, hfz10_2⟩ := bf3 BK115.out))
              (try simp only [Act.put, List.setIfInBounds_toArray, List.set_cons_zero, List.set_cons_succ])
              go_cut [45] (fun v45 wc => ∃ (kq : Nat) (x45_7 : Bool), v45 = .bool x45_7 ∧ Aside0 (headgateref12_Record.j1 kq l0 l1 x6_1 x7_1 x45_7 ((rd_T41 l1 x7_1).f0) ((rd_T41 l1 x7_1).f1) ((rd_T41 l1 x7_1).f2) = some (r1, r2)) ∧ Aside0 (kq ≤ k1) ∧ Aside0 (wc.heap[gb115]? = some (.cells #[.int .i64 ((rd_T41 l1 x7_1).f0), .int .i64 ((rd_T41 l1 x7_1).f1), .string ((rd_T41 l1 x7_1).f2)] 41 (0, 0))) ∧ Aside0 (Below w.heap.size w wc))
              case first =>
                have H := HC8.out
                clear HC8
                replace H := Option.bind_eq_some_iff.mp H
                obtain ⟨t116, A110, H⟩ := H
                replace H : (if t116 = 0 then (if ((rd_T41 l1 x7_1).f0) = 0 then (headgateref12_Record.j1 k1 l0 l1 x6_1 x7_1 false ((rd_T41 l1 x7_1).f0) ((rd_T41 l1 x7_1).f1) ((rd_T41 l1 x7_1).f2)) else (if x7_1 < (l0.length : Int) then (headgateref12_Record.j1 k1 l0 l1 x6_1 x7_1 (((rd_T41 l1 x7_1).f0) != ((rd_T39 l0 x7_1).f1)) ((rd_T41 l1 x7_1).f0) ((rd_T41 l1 x7_1).f1) ((rd_T41 l1 x7_1).f2)) else (none))) else (headgateref12_Record.j1 k1 l0 l1 x6_1 x7_1 true ((rd_T41 l1 x7_1).f0) ((rd_T41 l1 x7_1).f1) ((rd_T41 l1 x7_1).f2))) = some (r1, r2) := H
                have A11 := Aside0.mk A110
                clear A110
                by_cases c12 : t116 = 0
                · rw [if_pos c12] at H
                  have c12b0 : (t116 == 0) = true := beq_iff_eq.mpr c12
                  have c12b1 : (t116 != 0) = false := bne_eq_false_iff_eq.mpr c12
                  clear c12
                  (first | rw [c12b0] | (simp only [i64_w, i32_w]; rw [c12b0]) | skip)
                  by_cases c13 : ((rd_T41 l1 x7_1).f0) = 0
                  · rw [if_pos c13] at H
                    have c13b0 : (((rd_T41 l1 x7_1).f0) == 0) = true := beq_iff_eq.mpr c13
                    have c13b1 : (((rd_T41 l1 x7_1).f0) != 0) = false := bne_eq_false_iff_eq.mpr c13
                    clear c13
                    have H' := Aside0.mk H
                    clear H
                    try go_wp2
                    have n0_ : Aside0 ((((w9.setCell ⟨gb115, 0, none⟩ (.int .i64 ((rd_T41 l1 x7_1).f0))).setCell ⟨gb115, 1, none⟩ (.int .i64 ((rd_T41 l1 x7_1).f1))).setCell ⟨gb115, 2, none⟩ (.string ((rd_T41 l1 x7_1).f2))).heap[gb115]? = some (.cells #[.int .i64 ((rd_T41 l1 x7_1).f0), .int .i64 ((rd_T41 l1 x7_1).f1), .string ((rd_T41 l1 x7_1).f2)] 41 (0, 0))) := ⟨by (with_reducible repeat (first | refine blk_drewN ?_ _ | refine blk_drew ?_ | refine blk_alloc ?_ _)); refine blk_put (cs := #[.int .i64 ((rd_T41 l1 x7_1).f0), .int .i64 ((rd_T41 l1 x7_1).f1), .string (⟨#[]⟩ : ByteArray)]) ?_ 2 _ rfl; (with_reducible repeat (first | refine blk_drewN ?_ _ | refine blk_drew ?_ | refine blk_alloc ?_ _)); refine blk_put (cs := #[.int .i64 ((rd_T41 l1 x7_1).f0), .int .i64 0, .string (⟨#[]⟩ : ByteArray)]) ?_ 1 _ rfl; (with_reducible repeat (first | refine blk_drewN ?_ _ | refine blk_drew ?_ | refine blk_alloc ?_ _)); refine blk_put (cs := #[.int .i64 0, .int .i64 0, .string (⟨#[]⟩ : ByteArray)]) ?_ 0 _ rfl; (with_reducible repeat (first | refine blk_drewN ?_ _ | refine blk_drew ?_ | refine blk_alloc ?_ _)); exact BK115.out⟩
                    have n1_ : Aside0 (Below w.heap.size w (((w9.setCell ⟨gb115, 0, none⟩ (.int .i64 ((rd_T41 l1 x7_1).f0))).setCell ⟨gb115, 1, none⟩ (.int .i64 ((rd_T41 l1 x7_1).f1))).setCell ⟨gb115, 2, none⟩ (.string ((rd_T41 l1 x7_1).f2)))) := ⟨by repeat (first | (with_reducible first | exact HB.out | apply below_alloc | apply pw_below_drewN | apply below_drew1 | refine below_set ?_ GE115.out) | exact HB.out)⟩
                    (try clear BK115)
                    (try clear HB)
                    generalize (((w9.setCell ⟨gb115, 0, none⟩ (.int .i64 ((rd_T41 l1 x7_1).f0))).setCell ⟨gb115, 1, none⟩ (.int .i64 ((rd_T41 l1 x7_1).f1))).setCell ⟨gb115, 2, none⟩ (.string ((rd_T41 l1 x7_1).f2))) = w14 at n0_ n1_ ⊢
                    have BK115 := n0_
                    have HB := n1_
                    clear n0_ n1_
                    have n0_ := Aside0.mk (blk_drew BK115.out)
                    have n1_ := Aside0.mk (below_drew1 HB.out)
                    clear BK115
                    clear HB
                    have BK115 := n0_
                    have HB := n1_
                    clear n0_ n1_
                    refine start_ (n := 18) (S := fun w' => w'.cell? ⟨gb115, 0, none⟩ = some (.int .i64 ((rd_T41 l1 x7_1).f0)) ∧ w'.cell? ⟨gb115, 1, none⟩ = some (.int .i64 ((rd_T41 l1 x7_1).f1)) ∧ w'.cell? ⟨gb115, 2, none⟩ = some (.string ((rd_T41 l1 x7_1).f2))) (ds := []) #[false, false, false, false, false, false, false, false, false, false, false, false, false, false, false, false, false, false] (by kernel_rfl) rfl rfl ⟨(blk_cell BK115.out 0).trans rfl, (blk_cell BK115.out 1).trans rfl, (blk_cell BK115.out 2).trans rfl⟩ (fun hHeld => ?_); refine with_tabW headgateref12_Record.tab10 headgateref12_Record.bits10 (fun HT_ HW_ => ?_)
                    generalize w14.drew = w15 at BK115 HB hHeld ⊢
                    refine take_ (i := 0) (N := some 28) (v := ?_) (a' := ?_) #[true, false, false, false, false, false, false, false, false, false, false, false, false, false, false, false, false, false] rfl rfl (take_ofW HT_.out HW_.out (by kernel_rfl)) (fun _ _ _ h => h) (Or.inl ⟨by rfl, ?_⟩) hHeld ?_ ?_
                    rotate_left
                    · rintro w' ⟨s0, s1, s2⟩
                      go_simp
                      with_reducible rfl
                    rotate_left
                    · simp only [Act.put, List.setIfInBounds_toArray, List.set_cons_zero, List.set_cons_succ, i64_w, i32_w]
                      rfl
                    refine one_ (i := 1) (N := some 29) #[true, true, false, false, false, false, false, false, false, false, false, false, false, false, false, false, false, false] rfl rfl (one_of HT_.out (by kernel_rfl)) (by decide) (fun K hK => ?_)
                    refine goes_ Tryz.func20 (by kernel_rfl) rfl #[.agg #[.int .i64 ((rd_T41 l1 x7_1).f0), .int .i64 ((rd_T41 l1 x7_1).f1), .string ((rd_T41 l1 x7_1).f2)]] (by rfl) rfl rfl (by (try simp only [List.map_toArray, List.map_cons, List.map_nil]); first | done | rfl | (simp only [List.length_drop, List.length_take]; rfl) | exact congrArg (fun x_ : Int => #[Value.int .u64 x_]) (show _ = _ % (18446744073709551616 : Int) by omega)) ?_
                    with_reducible refine (headgateref03_Check.calls k1 ((rd_T41 l1 x7_1).f0) ((rd_T41 l1 x7_1).f1) ((rd_T41 l1 x7_1).f2) t116 _ A11.out).mono ?_
                    rintro e w16 ⟨rfl, hb⟩
                    refine ⟨_, rfl, ?_⟩
                    have n0_ := Aside0.mk (blk_below (g := gb115) (o := .cells #[.int .i64 ((rd_T41 l1 x7_1).f0), .int .i64 ((rd_T41 l1 x7_1).f1), .string ((rd_T41 l1 x7_1).f2)] 41 (0, 0)) (by (with_reducible repeat (first | refine blk_drewN ?_ _ | refine blk_drew ?_ | refine blk_alloc ?_ _)); exact BK115.out) hb)
                    have n1_ := Aside0.mk (below_step (by repeat (first | (with_reducible first | exact HB.out | apply below_alloc | apply pw_below_drewN | apply below_drew1 | refine below_set ?_ GE115.out) | exact HB.out)) hb)
                    clear BK115
                    clear HB
                    have BK115 := n0_
                    have HB := n1_
                    clear n0_ n1_
                    (try clear hb)
                    (try clear hb2)
                    (try clear hk)
                    (try clear hi)
                    refine hK.out _ _ ⟨(blk_cell BK115.out 0).trans rfl, (blk_cell BK115.out 1).trans rfl, (blk_cell BK115.out 2).trans rfl⟩ (fun hHeld => ?_)
                    clear hK K
                    refine norm_ (a' := ?_) ?_ ?_
                    rotate_left
                    · show Act.put _ (some 29) _ = _
                      simp only [Act.put, List.setIfInBounds_toArray, List.set_cons_zero, List.set_cons_succ, i64_w, i32_w]
                      rfl
                    refine pure_ (i := 2) (N := some 30) (v := ?_) (a' := ?_) #[true, true, true, false, false, false, false, false, false, false, false, false, false, false, false, false, false, false] rfl rfl (any_of HT_.out (by kernel_rfl)) (fun _ _ _ h => h) (Or.inl ⟨by rfl, ?_⟩) ?_ ?_
                    rotate_left
                    · intro w'
                      go_simp
                      with_reducible rfl
                    rotate_left
                    · simp only [Act.put, List.setIfInBounds_toArray, List.set_cons_zero, List.set_cons_succ, i64_w, i32_w]
                      rfl
                    refine pure_ (i := 3) (N := some 31) (v := ?_) (a' := ?_) #[true, true, true, true, false, false, false, false, false, false, false, false, false, false, false, false, false, false] rfl rfl (any_of HT_.out (by kernel_rfl)) (fun _ _ _ h => h) (Or.inl ⟨by rfl, ?_⟩) ?_ ?_
                    rotate_left
                    · intro w'
                      go_simp
                      with_reducible rfl
                    rotate_left
                    · simp only [Act.put, List.setIfInBounds_toArray, List.set_cons_zero, List.set_cons_succ, i64_w, i32_w]
                      rfl
                    refine pure_ (i := 4) (N := some 32) (v := ?_) (a' := ?_) #[true, true, true, true, true, false, false, false, false, false, false, false, false, false, false, false, false, false] rfl rfl (any_of HT_.out (by kernel_rfl)) (fun _ _ _ h => h) (Or.inl ⟨by rfl, ?_⟩) ?_ ?_
                    rotate_left
                    · intro w'
                      go_simp
                      with_reducible rfl
                    rotate_left
                    · simp only [Act.put, List.setIfInBounds_toArray, List.set_cons_zero, List.set_cons_succ, i64_w, i32_w]
                      rfl
                    refine take_ (i := 5) (N := some 33) (v := ?_) (a' := ?_) #[true, true, true, true, true, true, false, false, false, false, false, false, false, false, false, false, false, false] rfl rfl (take_ofW HT_.out HW_.out (by kernel_rfl)) (fun _ _ _ h => h) (Or.inl ⟨by rfl, ?_⟩) hHeld ?_ ?_
                    rotate_left
                    · rintro w' ⟨s0, s1, s2⟩
                      go_simp
                      with_reducible rfl
                    rotate_left
                    · simp only [Act.put, List.setIfInBounds_toArray, List.set_cons_zero, List.set_cons_succ, i64_w, i32_w]
                      rfl
                    refine pure_ (i := 6) (N := some 34) (v := ?_) (a' := ?_) #[true, true, true, true, true, true, true, false, false, false, false, false, false, false, false, false, false, false] rfl rfl (any_of HT_.out (by kernel_rfl)) (fun _ _ _ h => h) (Or.inl ⟨by rfl, ?_⟩) ?_ ?_
                    rotate_left
                    · intro w'
                      go_simp
                      with_reducible rfl
                    rotate_left
                    · simp only [Act.put, List.setIfInBounds_toArray, List.set_cons_zero, List.set_cons_succ, i64_w, i32_w]
                      rfl
                    refine pure_ (i := 7) (N := some 35) (v := ?_) (a' := ?_) #[true, true, true, true, true, true, true, true, false, false, false, false, false, false, false, false, false, false] rfl rfl (any_of HT_.out (by kernel_rfl)) (fun _ _ _ h => h) (Or.inl ⟨by rfl, ?_⟩) ?_ ?_
                    rotate_left
                    · intro w'
                      go_simp
                      with_reducible rfl
                    rotate_left
                    · simp only [Act.put, List.setIfInBounds_toArray, List.set_cons_zero, List.set_cons_succ, i64_w, i32_w]
                      rfl
                    refine pure_ (i := 8) (N := some 36) (v := undef) (a' := ?_) #[true, true, true, true, true, true, true, true, true, false, false, false, false, false, false, false, false, false] rfl rfl (any_of HT_.out (by kernel_rfl)) (fun _ _ _ h => h) (Or.inr ⟨by rfl, rfl⟩) ?_ ?_
                    rotate_left
                    · simp only [Act.put, List.setIfInBounds_toArray, List.set_cons_zero, List.set_cons_succ, i64_w, i32_w]
                      rfl
                    refine pure_ (i := 9) (N := some 37) (v := undef) (a' := ?_) #[true, true, true, true, true, true, true, true, true, true, false, false, false, false, false, false, false, false] rfl rfl (any_of HT_.out (by kernel_rfl)) (fun _ _ _ h => h) (Or.inr ⟨by rfl, rfl⟩) ?_ ?_
                    rotate_left
                    · simp only [Act.put, List.setIfInBounds_toArray, List.set_cons_zero, List.set_cons_succ, i64_w, i32_w]
                      rfl
                    refine pure_ (i := 10) (N := some 38) (v := undef) (a' := ?_) #[true, true, true, true, true, true, true, true, true, true, true, false, false, false, false, false, false, false] rfl rfl (any_of HT_.out (by kernel_rfl)) (fun _ _ _ h => h) (Or.inr ⟨by rfl, rfl⟩) ?_ ?_
                    rotate_left
                    · simp only [Act.put, List.setIfInBounds_toArray, List.set_cons_zero, List.set_cons_succ, i64_w, i32_w]
                      rfl
                    refine pure_ (i := 11) (N := some 39) (v := undef) (a' := ?_) #[true, true, true, true, true, true, true, true, true, true, true, true, false, false, false, false, false, false] rfl rfl (any_of HT_.out (by kernel_rfl)) (fun _ _ _ h => h) (Or.inr ⟨by rfl, rfl⟩) ?_ ?_
                    rotate_left
                    · simp only [Act.put, List.setIfInBounds_toArray, List.set_cons_zero, List.set_cons_succ, i64_w, i32_w]
                      rfl
                    refine pure_ (i := 12) (N := some 40) (v := undef) (a' := ?_) #[true, true, true, true, true, true, true, true, true, true, true, true, true, false, false, false, false, false] rfl rfl (any_of HT_.out (by kernel_rfl)) (fun _ _ _ h => h) (Or.inr ⟨by rfl, rfl⟩) ?_ ?_
                    rotate_left
                    · simp only [Act.put, List.setIfInBounds_toArray, List.set_cons_zero, List.set_cons_succ, i64_w, i32_w]
                      rfl
                    refine pure_ (i := 13) (N := some 41) (v := undef) (a' := ?_) #[true, true, true, true, true, true, true, true, true, true, true, true, true, true, false, false, false, false] rfl rfl (any_of HT_.out (by kernel_rfl)) (fun _ _ _ h => h) (Or.inr ⟨by rfl, rfl⟩) ?_ ?_
                    rotate_left
                    · simp only [Act.put, List.setIfInBounds_toArray, List.set_cons_zero, List.set_cons_succ, i64_w, i32_w]
                      rfl
                    refine pure_ (i := 14) (N := some 42) (v := undef) (a' := ?_) #[true, true, true, true, true, true, true, true, true, true, true, true, true, true, true, false, false, false] rfl rfl (any_of HT_.out (by kernel_rfl)) (fun _ _ _ h => h) (Or.inr ⟨by rfl, rfl⟩) ?_ ?_
                    rotate_left
                    · simp only [Act.put, List.setIfInBounds_toArray, List.set_cons_zero, List.set_cons_succ, i64_w, i32_w]
                      rfl
                    refine pure_ (i := 15) (N := some 43) (v := undef) (a' := ?_) #[true, true, true, true, true, true, true, true, true, true, true, true, true, true, true, true, false, false] rfl rfl (any_of HT_.out (by kernel_rfl)) (fun _ _ _ h => h) (Or.inr ⟨by rfl, rfl⟩) ?_ ?_
                    rotate_left
                    · simp only [Act.put, List.setIfInBounds_toArray, List.set_cons_zero, List.set_cons_succ, i64_w, i32_w]
                      rfl
                    refine pure_ (i := 16) (N := some 44) (v := ?_) (a' := ?_) #[true, true, true, true, true, true, true, true, true, true, true, true, true, true, true, true, true, false] rfl rfl (any_of HT_.out (by kernel_rfl)) (fun _ _ _ h => h) (Or.inl ⟨by rfl, ?_⟩) ?_ ?_
                    rotate_left
                    · intro w'
                      go_simp
                      with_reducible rfl
                    rotate_left
                    · simp only [Act.put, List.setIfInBounds_toArray, List.set_cons_zero, List.set_cons_succ, i64_w, i32_w]
                      rfl
                    refine pure_ (i := 17) (N := some 45) (v := ?_) (a' := ?_) #[true, true, true, true, true, true, true, true, true, true, true, true, true, true, true, true, true, true] rfl rfl (any_of HT_.out (by kernel_rfl)) (fun _ _ _ h => h) (Or.inl ⟨by rfl, ?_⟩) ?_ ?_
                    rotate_left
                    · intro w'
                      go_simp
                      with_reducible rfl
                    rotate_left
                    · simp only [Act.put, List.setIfInBounds_toArray, List.set_cons_zero, List.set_cons_succ, i64_w, i32_w]
                      rfl
                    refine done_ (done_of HT_.out (by kernel_rfl)) ?_
                    try go_wp2
                    go_meet
                    case rel => exact ⟨_, (false), (by first | with_reducible rfl | (simp; done) | rfl | (simp [*]; done)), H', ⟨by have := HK1.out; first | omega | exact Nat.le_refl _⟩, ⟨by (with_reducible repeat (first | refine blk_drewN ?_ _ | refine blk_drew ?_ | refine blk_alloc ?_ _)); exact BK115.out⟩, ⟨by repeat (first | (with_reducible first | exact HB.out | apply below_alloc | apply pw_below_drewN | apply below_drew1 | refine below_set ?_ GE115.out) | exact HB.out)⟩⟩
                  · rw [if_neg c13] at H
                    have c13b0 : (((rd_T41 l1 x7_1).f0) == 0) = false := beq_eq_false_iff_ne.mpr c13
                    have c13b1 : (((rd_T41 l1 x7_1).f0) != 0) = true := bne_iff_ne.mpr c13
                    by_cases c17 : x7_1 < (l0.length : Int)
                    · rw [if_pos c17] at H
                      have c17b0 : decide (x7_1 < (l0.length : Int)) = true := decide_eq_true c17
                      clear c17
                      have H' := Aside0.mk H
                      clear H
                      try go_wp2
                      have n0_ : Aside0 ((((w9.setCell ⟨gb115, 0, none⟩ (.int .i64 ((rd_T41 l1 x7_1).f0))).setCell ⟨gb115, 1, none⟩ (.int .i64 ((rd_T41 l1 x7_1).f1))).setCell ⟨gb115, 2, none⟩ (.string ((rd_T41 l1 x7_1).f2))).heap[gb115]? = some (.cells #[.int .i64 ((rd_T41 l1 x7_1).f0), .int .i64 ((rd_T41 l1 x7_1).f1), .string ((rd_T41 l1 x7_1).f2)] 41 (0, 0))) := ⟨by (with_reducible repeat (first | refine blk_drewN ?_ _ | refine blk_drew ?_ | refine blk_alloc ?_ _)); refine blk_put (cs := #[.int .i64 ((rd_T41 l1 x7_1).f0), .int .i64 ((rd_T41 l1 x7_1).f1), .string (⟨#[]⟩ : ByteArray)]) ?_ 2 _ rfl; (with_reducible repeat (first | refine blk_drewN ?_ _ | refine blk_drew ?_ | refine blk_alloc ?_ _)); refine blk_put (cs := #[.int .i64 ((rd_T41 l1 x7_1).f0), .int .i64 0, .string (⟨#[]⟩ : ByteArray)]) ?_ 1 _ rfl; (with_reducible repeat (first | refine blk_drewN ?_ _ | refine blk_drew ?_ | refine blk_alloc ?_ _)); refine blk_put (cs := #[.int .i64 0, .int .i64 0, .string (⟨#[]⟩ : ByteArray)]) ?_ 0 _ rfl; (with_reducible repeat (first | refine blk_drewN ?_ _ | refine blk_drew ?_ | refine blk_alloc ?_ _)); exact BK115.out⟩
                      have n1_ : Aside0 (Below w.heap.size w (((w9.setCell ⟨gb115, 0, none⟩ (.int .i64 ((rd_T41 l1 x7_1).f0))).setCell ⟨gb115, 1, none⟩ (.int .i64 ((rd_T41 l1 x7_1).f1))).setCell ⟨gb115, 2, none⟩ (.string ((rd_T41 l1 x7_1).f2)))) := ⟨by repeat (first | (with_reducible first | exact HB.out | apply below_alloc | apply pw_below_drewN | apply below_drew1 | refine below_set ?_ GE115.out) | exact HB.out)⟩
                      (try clear BK115)
                      (try clear HB)
                      generalize (((w9.setCell ⟨gb115, 0, none⟩ (.int .i64 ((rd_T41 l1 x7_1).f0))).setCell ⟨gb115, 1, none⟩ (.int .i64 ((rd_T41 l1 x7_1).f1))).setCell ⟨gb115, 2, none⟩ (.string ((rd_T41 l1 x7_1).f2))) = w18 at n0_ n1_ ⊢
                      have BK115 := n0_
                      have HB := n1_
                      clear n0_ n1_
                      have n0_ := Aside0.mk (blk_drew BK115.out)
                      have n1_ := Aside0.mk (below_drew1 HB.out)
                      clear BK115
                      clear HB
                      have BK115 := n0_
                      have HB := n1_
                      clear n0_ n1_
                      have p117 : 0 ≤ (x7_1 : Int) := of_decide_eq_true (by first | (with_reducible assumption) | assumption)
                      have q117 : x7_1 < (l0.length : Int) := of_decide_eq_true (by first | (with_reducible assumption) | assumption)
                      obtain ⟨ad117, e117, hx117_0, hx117_1⟩ := at_T39 HR0.out x7_1 p117 q117
                      have hw117_1 := hx117_1
                      have hw117_0 := hx117_0
                      cases e117
                      replace hx117_0 := (HB.out.cell (World.block_lt_of_cell? w _ hx117_0)).trans hx117_0
                      replace hx117_1 := (HB.out.cell (World.block_lt_of_cell? w _ hx117_1)).trans hx117_1
                      replace p117 := eq_true p117
                      replace q117 := eq_true q117
                      refine start_ (n := 18) (S := fun w' => w'.cell? ⟨gb115, 0, none⟩ = some (.int .i64 ((rd_T41 l1 x7_1).f0)) ∧ w'.cell? ⟨gb115, 1, none⟩ = some (.int .i64 ((rd_T41 l1 x7_1).f1)) ∧ w'.cell? ⟨gb115, 2, none⟩ = some (.string ((rd_T41 l1 x7_1).f2)) ∧ w'.cell? (ad117.add ((x7_1).toNat * 2)) = some (.string ((rd_T39 l0 x7_1).f0)) ∧ w'.cell? ⟨(ad117.add ((x7_1).toNat * 2)).block, (ad117.add ((x7_1).toNat * 2)).off + 1, none⟩ = some (.int .i64 ((rd_T39 l0 x7_1).f1))) (ds := []) #[false, false, false, false, false, false, false, false, false, false, false, false, false, false, false, false, false, false] (by kernel_rfl) rfl rfl ⟨(blk_cell BK115.out 0).trans rfl, (blk_cell BK115.out 1).trans rfl, (blk_cell BK115.out 2).trans rfl, ((HB.out.cell (World.block_lt_of_cell? w _ hw117_0)).trans hw117_0), ((HB.out.cell (World.block_lt_of_cell? w _ hw117_1)).trans hw117_1)⟩ (fun hHeld => ?_); refine with_tabW headgateref12_Record.tab10 headgateref12_Record.bits10 (fun HT_ HW_ => ?_)
                      generalize w18.drew = w19 at BK115 HB hx117_0 hx117_1 hHeld ⊢
                      refine take_ (i := 0) (N := some 28) (v := ?_) (a' := ?_) #[true, false, false, false, false, false, false, false, false, false, false, false, false, false, false, false, false, false] rfl rfl (take_ofW HT_.out HW_.out (by kernel_rfl)) (fun _ _ _ h => h) (Or.inl ⟨by rfl, ?_⟩) hHeld ?_ ?_
                      rotate_left
                      · rintro w' ⟨s0, s1, s2, s3, s4⟩
                        go_simp
                        with_reducible rfl
                      rotate_left
                      · simp only [Act.put, List.setIfInBounds_toArray, List.set_cons_zero, List.set_cons_succ, i64_w, i32_w]
                        rfl
                      refine one_ (i := 1) (N := some 29) #[true, true, false, false, false, false, false, false, false, false, false, false, false, false, false, false, false, false] rfl rfl (one_of HT_.out (by kernel_rfl)) (by decide) (fun K hK => ?_)
                      refine goes_ Tryz.func20 (by kernel_rfl) rfl #[.agg #[.int .i64 ((rd_T41 l1 x7_1).f0), .int .i64 ((rd_T41 l1 x7_1).f1), .string ((rd_T41 l1 x7_1).f2)]] (by rfl) rfl rfl (by (try simp only [List.map_toArray, List.map_cons, List.map_nil]); first | done | rfl | (simp only [List.length_drop, List.length_take]; rfl) | exact congrArg (fun x_ : Int => #[Value.int .u64 x_]) (show _ = _ % (18446744073709551616 : Int) by omega)) ?_
                      with_reducible refine (headgateref03_Check.calls k1 ((rd_T41 l1 x7_1).f0) ((rd_T41 l1 x7_1).f1) ((rd_T41 l1 x7_1).f2) t116 _ A11.out).mono ?_
                      rintro e w20 ⟨rfl, hb⟩
                      refine ⟨_, rfl, ?_⟩
                      have n0_ := Aside0.mk (blk_below (g := gb115) (o := .cells #[.int .i64 ((rd_T41 l1 x7_1).f0), .int .i64 ((rd_T41 l1 x7_1).f1), .string ((rd_T41 l1 x7_1).f2)] 41 (0, 0)) (by (with_reducible repeat (first | refine blk_drewN ?_ _ | refine blk_drew ?_ | refine blk_alloc ?_ _)); exact BK115.out) hb)
                      have n1_ := Aside0.mk (below_step (by repeat (first | (with_reducible first | exact HB.out | apply below_alloc | apply pw_below_drewN | apply below_drew1 | refine below_set ?_ GE115.out) | exact HB.out)) hb)
                      clear BK115
                      clear HB
                      have BK115 := n0_
                      have HB := n1_
                      clear n0_ n1_
                      (try clear hb)
                      (try clear hb2)
                      (try clear hk)
                      (try clear hi)
                      refine hK.out _ _ ⟨(blk_cell BK115.out 0).trans rfl, (blk_cell BK115.out 1).trans rfl, (blk_cell BK115.out 2).trans rfl, ((HB.out.cell (World.block_lt_of_cell? w _ hw117_0)).trans hw117_0), ((HB.out.cell (World.block_lt_of_cell? w _ hw117_1)).trans hw117_1)⟩ (fun hHeld => ?_)
                      clear hK K
                      refine norm_ (a' := ?_) ?_ ?_
                      rotate_left
                      · show Act.put _ (some 29) _ = _
                        simp only [Act.put, List.setIfInBounds_toArray, List.set_cons_zero, List.set_cons_succ, i64_w, i32_w]
                        rfl
                      refine pure_ (i := 2) (N := some 30) (v := ?_) (a' := ?_) #[true, true, true, false, false, false, false, false, false, false, false, false, false, false, false, false, false, false] rfl rfl (any_of HT_.out (by kernel_rfl)) (fun _ _ _ h => h) (Or.inl ⟨by rfl, ?_⟩) ?_ ?_
                      rotate_left
                      · intro w'
                        go_simp
                        with_reducible rfl
                      rotate_left
                      · simp only [Act.put, List.setIfInBounds_toArray, List.set_cons_zero, List.set_cons_succ, i64_w, i32_w]
                        rfl
                      refine pure_ (i := 3) (N := some 31) (v := ?_) (a' := ?_) #[true, true, true, true, false, false, false, false, false, false, false, false, false, false, false, false, false, false] rfl rfl (any_of HT_.out (by kernel_rfl)) (fun _ _ _ h => h) (Or.inl ⟨by rfl, ?_⟩) ?_ ?_
                      rotate_left
                      · intro w'
                        go_simp
                        with_reducible rfl
                      rotate_left
                      · simp only [Act.put, List.setIfInBounds_toArray, List.set_cons_zero, List.set_cons_succ, i64_w, i32_w]
                        rfl
                      refine pure_ (i := 4) (N := some 32) (v := ?_) (a' := ?_) #[true, true, true, true, true, false, false, false, false, false, false, false, false, false, false, false, false, false] rfl rfl (any_of HT_.out (by kernel_rfl)) (fun _ _ _ h => h) (Or.inl ⟨by rfl, ?_⟩) ?_ ?_
                      rotate_left
                      · intro w'
                        go_simp
                        with_reducible rfl
                      rotate_left
                      · simp only [Act.put, List.setIfInBounds_toArray, List.set_cons_zero, List.set_cons_succ, i64_w, i32_w]
                        rfl
                      refine take_ (i := 5) (N := some 33) (v := ?_) (a' := ?_) #[true, true, true, true, true, true, false, false, false, false, false, false, false, false, false, false, false, false] rfl rfl (take_ofW HT_.out HW_.out (by kernel_rfl)) (fun _ _ _ h => h) (Or.inl ⟨by rfl, ?_⟩) hHeld ?_ ?_
                      rotate_left
                      · rintro w' ⟨s0, s1, s2, s3, s4⟩
                        go_simp
                        with_reducible rfl
                      rotate_left
                      · simp only [Act.put, List.setIfInBounds_toArray, List.set_cons_zero, List.set_cons_succ, i64_w, i32_w]
                        rfl
                      refine pure_ (i := 6) (N := some 34) (v := ?_) (a' := ?_) #[true, true, true, true, true, true, true, false, false, false, false, false, false, false, false, false, false, false] rfl rfl (any_of HT_.out (by kernel_rfl)) (fun _ _ _ h => h) (Or.inl ⟨by rfl, ?_⟩) ?_ ?_
                      rotate_left
                      · intro w'
                        go_simp
                        with_reducible rfl
                      rotate_left
                      · simp only [Act.put, List.setIfInBounds_toArray, List.set_cons_zero, List.set_cons_succ, i64_w, i32_w]
                        rfl
                      refine pure_ (i := 7) (N := some 35) (v := ?_) (a' := ?_) #[true, true, true, true, true, true, true, true, false, false, false, false, false, false, false, false, false, false] rfl rfl (any_of HT_.out (by kernel_rfl)) (fun _ _ _ h => h) (Or.inl ⟨by rfl, ?_⟩) ?_ ?_
                      rotate_left
                      · intro w'
                        go_simp
                        with_reducible rfl
                      rotate_left
                      · simp only [Act.put, List.setIfInBounds_toArray, List.set_cons_zero, List.set_cons_succ, i64_w, i32_w]
                        rfl
                      refine pure_ (i := 8) (N := some 36) (v := ?_) (a' := ?_) #[true, true, true, true, true, true, true, true, true, false, false, false, false, false, false, false, false, false] rfl rfl (any_of HT_.out (by kernel_rfl)) (fun _ _ _ h => h) (Or.inl ⟨by rfl, ?_⟩) ?_ ?_
                      rotate_left
                      · intro w'
                        go_simp
                        with_reducible rfl
                      rotate_left
                      · simp only [Act.put, List.setIfInBounds_toArray, List.set_cons_zero, List.set_cons_succ, i64_w, i32_w]
                        rfl
                      refine pure_ (i := 10) (N := some 38) (v := ?_) (a' := ?_) #[true, true, true, true, true, true, true, true, true, false, true, false, false, false, false, false, false, false] rfl rfl (any_of HT_.out (by kernel_rfl)) (fun _ _ _ h => h) (Or.inl ⟨by rfl, ?_⟩) ?_ ?_
                      rotate_left
                      · intro w'
                        go_simp
                        with_reducible rfl
                      rotate_left
                      · simp only [Act.put, List.setIfInBounds_toArray, List.set_cons_zero, List.set_cons_succ, i64_w, i32_w]
                        rfl
                      refine pure_ (i := 11) (N := some 39) (v := ?_) (a' := ?_) #[true, true, true, true, true, true, true, true, true, false, true, true, false, false, false, false, false, false] rfl rfl (any_of HT_.out (by kernel_rfl)) (fun _ _ _ h => h) (Or.inl ⟨by rfl, ?_⟩) ?_ ?_
                      rotate_left
                      · intro w'
                        go_simp
                        with_reducible rfl
                      rotate_left
                      · simp only [Act.put, List.setIfInBounds_toArray, List.set_cons_zero, List.set_cons_succ, i64_w, i32_w]
                        rfl
                      refine pure_ (i := 12) (N := some 40) (v := ?_) (a' := ?_) #[true, true, true, true, true, true, true, true, true, false, true, true, true, false, false, false, false, false] rfl rfl (any_of HT_.out (by kernel_rfl)) (fun _ _ _ h => h) (Or.inl ⟨by rfl, ?_⟩) ?_ ?_
                      rotate_left
                      · intro w'
                        go_simp
                        with_reducible rfl
                      rotate_left
                      · simp only [Act.put, List.setIfInBounds_toArray, List.set_cons_zero, List.set_cons_succ, i64_w, i32_w]
                        rfl
                      refine pure_ (i := 13) (N := some 41) (v := ?_) (a' := ?_) #[true, true, true, true, true, true, true, true, true, false, true, true, true, true, false, false, false, false] rfl rfl (any_of HT_.out (by kernel_rfl)) (fun _ _ _ h => h) (Or.inl ⟨by rfl, ?_⟩) ?_ ?_
                      rotate_left
                      · intro w'
                        go_simp
                        with_reducible rfl
                      rotate_left
                      · simp only [Act.put, List.setIfInBounds_toArray, List.set_cons_zero, List.set_cons_succ, i64_w, i32_w]
                        rfl
                      refine take_ (i := 9) (N := some 37) (v := ?_) (a' := ?_) #[true, true, true, true, true, true, true, true, true, true, true, true, true, true, false, false, false, false] rfl rfl (take_ofW HT_.out HW_.out (by kernel_rfl)) (fun _ _ _ h => h) (Or.inl ⟨by rfl, ?_⟩) hHeld ?_ ?_
                      rotate_left
                      · rintro w' ⟨s0, s1, s2, s3, s4⟩
                        go_simp
                        with_reducible rfl
                      rotate_left
                      · simp only [Act.put, List.setIfInBounds_toArray, List.set_cons_zero, List.set_cons_succ, i64_w, i32_w]
                        rfl
                      refine take_ (i := 14) (N := some 42) (v := ?_) (a' := ?_) #[true, true, true, true, true, true, true, true, true, true, true, true, true, true, true, false, false, false] rfl rfl (take_ofW HT_.out HW_.out (by kernel_rfl)) (fun _ _ _ h => h) (Or.inl ⟨by rfl, ?_⟩) hHeld ?_ ?_
                      rotate_left
                      · rintro w' ⟨s0, s1, s2, s3, s4⟩
                        go_simp
                        with_reducible rfl
                      rotate_left
                      · simp only [Act.put, List.setIfInBounds_toArray, List.set_cons_zero, List.set_cons_succ, i64_w, i32_w]
                        rfl
                      refine pure_ (i := 15) (N := some 43) (v := ?_) (a' := ?_) #[true, true, true, true, true, true, true, true, true, true, true, true, true, true, true, true, false, false] rfl rfl (any_of HT_.out (by kernel_rfl)) (fun _ _ _ h => h) (Or.inl ⟨by rfl, ?_⟩) ?_ ?_
                      rotate_left
                      · intro w'
                        go_simp
                        with_reducible rfl
                      rotate_left
                      · simp only [Act.put, List.setIfInBounds_toArray, List.set_cons_zero, List.set_cons_succ, i64_w, i32_w]
                        rfl
                      refine pure_ (i := 16) (N := some 44) (v := ?_) (a' := ?_) #[true, true, true, true, true, true, true, true, true, true, true, true, true, true, true, true, true, false] rfl rfl (any_of HT_.out (by kernel_rfl)) (fun _ _ _ h => h) (Or.inl ⟨by rfl, ?_⟩) ?_ ?_
                      rotate_left
                      · intro w'
                        go_simp
                        with_reducible rfl
                      rotate_left
                      · simp only [Act.put, List.setIfInBounds_toArray, List.set_cons_zero, List.set_cons_succ, i64_w, i32_w]
                        rfl
                      refine pure_ (i := 17) (N := some 45) (v := ?_) (a' := ?_) #[true, true, true, true, true, true, true, true, true, true, true, true, true, true, true, true, true, true] rfl rfl (any_of HT_.out (by kernel_rfl)) (fun _ _ _ h => h) (Or.inl ⟨by rfl, ?_⟩) ?_ ?_
                      rotate_left
                      · intro w'
                        go_simp
                        with_reducible rfl
                      rotate_left
                      · simp only [Act.put, List.setIfInBounds_toArray, List.set_cons_zero, List.set_cons_succ, i64_w, i32_w]
                        rfl
                      refine done_ (done_of HT_.out (by kernel_rfl)) ?_
                      try go_wp2
                      go_meet
                      case rel => exact ⟨_, ((((rd_T41 l1 x7_1).f0) != ((rd_T39 l0 x7_1).f1))), (by first | with_reducible rfl | (simp; done) | rfl | (simp [*]; done)), H', ⟨by have := HK1.out; first | omega | exact Nat.le_refl _⟩, ⟨by (with_reducible repeat (first | refine blk_drewN ?_ _ | refine blk_drew ?_ | refine blk_alloc ?_ _)); exact BK115.out⟩, ⟨by repeat (first | (with_reducible first | exact HB.out | apply below_alloc | apply pw_below_drewN | apply below_drew1 | refine below_set ?_ GE115.out) | exact HB.out)⟩⟩
                    · rw [if_neg c17] at H
                      exact absurd H (by simp)
                · rw [if_neg c12] at H
                  have c12b0 : (t116 == 0) = false := beq_eq_false_iff_ne.mpr c12
                  have c12b1 : (t116 != 0) = true := bne_iff_ne.mpr c12
                  (first | rw [c12b0] | (simp only [i64_w, i32_w]; rw [c12b0]) | skip)
                  have H' := Aside0.mk H
                  clear H
                  try go_wp2
                  have n0_ : Aside0 ((((w9.setCell ⟨gb115, 0, none⟩ (.int .i64 ((rd_T41 l1 x7_1).f0))).setCell ⟨gb115, 1, none⟩ (.int .i64 ((rd_T41 l1 x7_1).f1))).setCell ⟨gb115, 2, none⟩ (.string ((rd_T41 l1 x7_1).f2))).heap[gb115]? = some (.cells #[.int .i64 ((rd_T41 l1 x7_1).f0), .int .i64 ((rd_T41 l1 x7_1).f1), .string ((rd_T41 l1 x7_1).f2)] 41 (0, 0))) := ⟨by (with_reducible repeat (first | refine blk_drewN ?_ _ | refine blk_drew ?_ | refine blk_alloc ?_ _)); refine blk_put (cs := #[.int .i64 ((rd_T41 l1 x7_1).f0), .int .i64 ((rd_T41 l1 x7_1).f1), .string (⟨#[]⟩ : ByteArray)]) ?_ 2 _ rfl; (with_reducible repeat (first | refine blk_drewN ?_ _ | refine blk_drew ?_ | refine blk_alloc ?_ _)); refine blk_put (cs := #[.int .i64 ((rd_T41 l1 x7_1).f0), .int .i64 0, .string (⟨#[]⟩ : ByteArray)]) ?_ 1 _ rfl; (with_reducible repeat (first | refine blk_drewN ?_ _ | refine blk_drew ?_ | refine blk_alloc ?_ _)); refine blk_put (cs := #[.int .i64 0, .int .i64 0, .string (⟨#[]⟩ : ByteArray)]) ?_ 0 _ rfl; (with_reducible repeat (first | refine blk_drewN ?_ _ | refine blk_drew ?_ | refine blk_alloc ?_ _)); exact BK115.out⟩
                  have n1_ : Aside0 (Below w.heap.size w (((w9.setCell ⟨gb115, 0, none⟩ (.int .i64 ((rd_T41 l1 x7_1).f0))).setCell ⟨gb115, 1, none⟩ (.int .i64 ((rd_T41 l1 x7_1).f1))).setCell ⟨gb115, 2, none⟩ (.string ((rd_T41 l1 x7_1).f2)))) := ⟨by repeat (first | (with_reducible first | exact HB.out | apply below_alloc | apply pw_below_drewN | apply below_drew1 | refine below_set ?_ GE115.out) | exact HB.out)⟩
                  (try clear BK115)
                  (try clear HB)
                  generalize (((w9.setCell ⟨gb115, 0, none⟩ (.int .i64 ((rd_T41 l1 x7_1).f0))).setCell ⟨gb115, 1, none⟩ (.int .i64 ((rd_T41 l1 x7_1).f1))).setCell ⟨gb115, 2, none⟩ (.string ((rd_T41 l1 x7_1).f2))) = w21 at n0_ n1_ ⊢
                  have BK115 := n0_
                  have HB := n1_
                  clear n0_ n1_
                  have n0_ := Aside0.mk (blk_drew BK115.out)
                  have n1_ := Aside0.mk (below_drew1 HB.out)
                  clear BK115
                  clear HB
                  have BK115 := n0_
                  have HB := n1_
                  clear n0_ n1_
                  refine start_ (n := 18) (S := fun w' => w'.cell? ⟨gb115, 0, none⟩ = some (.int .i64 ((rd_T41 l1 x7_1).f0)) ∧ w'.cell? ⟨gb115, 1, none⟩ = some (.int .i64 ((rd_T41 l1 x7_1).f1)) ∧ w'.cell? ⟨gb115, 2, none⟩ = some (.string ((rd_T41 l1 x7_1).f2))) (ds := []) #[false, false, false, false, false, false, false, false, false, false, false, false, false, false, false, false, false, false] (by kernel_rfl) rfl rfl ⟨(blk_cell BK115.out 0).trans rfl, (blk_cell BK115.out 1).trans rfl, (blk_cell BK115.out 2).trans rfl⟩ (fun hHeld => ?_); refine with_tabW headgateref12_Record.tab10 headgateref12_Record.bits10 (fun HT_ HW_ => ?_)
                  generalize w21.drew = w22 at BK115 HB hHeld ⊢
                  refine take_ (i := 0) (N := some 28) (v := ?_) (a' := ?_) #[true, false, false, false, false, false, false, false, false, false, false, false, false, false, false, false, false, false] rfl rfl (take_ofW HT_.out HW_.out (by kernel_rfl)) (fun _ _ _ h => h) (Or.inl ⟨by rfl, ?_⟩) hHeld ?_ ?_
                  rotate_left
                  · rintro w' ⟨s0, s1, s2⟩
                    go_simp
                    with_reducible rfl
                  rotate_left
                  · simp only [Act.put, List.setIfInBounds_toArray, List.set_cons_zero, List.set_cons_succ, i64_w, i32_w]
                    rfl
                  refine one_ (i := 1) (N := some 29) #[true, true, false, false, false, false, false, false, false, false, false, false, false, false, false, false, false, false] rfl rfl (one_of HT_.out (by kernel_rfl)) (by decide) (fun K hK => ?_)
                  refine goes_ Tryz.func20 (by kernel_rfl) rfl #[.agg #[.int .i64 ((rd_T41 l1 x7_1).f0), .int .i64 ((rd_T41 l1 x7_1).f1), .string ((rd_T41 l1 x7_1).f2)]] (by rfl) rfl rfl (by (try simp only [List.map_toArray, List.map_cons, List.map_nil]); first | done | rfl | (simp only [List.length_drop, List.length_take]; rfl) | exact congrArg (fun x_ : Int => #[Value.int .u64 x_]) (show _ = _ % (18446744073709551616 : Int) by omega)) ?_
                  with_reducible refine (headgateref03_Check.calls k1 ((rd_T41 l1 x7_1).f0) ((rd_T41 l1 x7_1).f1) ((rd_T41 l1 x7_1).f2) t116 _ A11.out).mono ?_
                  rintro e w23 ⟨rfl, hb⟩
                  refine ⟨_, rfl, ?_⟩
                  have n0_ := Aside0.mk (blk_below (g := gb115) (o := .cells #[.int .i64 ((rd_T41 l1 x7_1).f0), .int .i64 ((rd_T41 l1 x7_1).f1), .string ((rd_T41 l1 x7_1).f2)] 41 (0, 0)) (by (with_reducible repeat (first | refine blk_drewN ?_ _ | refine blk_drew ?_ | refine blk_alloc ?_ _)); exact BK115.out) hb)
                  have n1_ := Aside0.mk (below_step (by repeat (first | (with_reducible first | exact HB.out | apply below_alloc | apply pw_below_drewN | apply below_drew1 | refine below_set ?_ GE115.out) | exact HB.out)) hb)
                  clear BK115
                  clear HB
                  have BK115 := n0_
                  have HB := n1_
                  clear n0_ n1_
                  (try clear hb)
                  (try clear hb2)
                  (try clear hk)
                  (try clear hi)
                  refine hK.out _ _ ⟨(blk_cell BK115.out 0).trans rfl, (blk_cell BK115.out 1).trans rfl, (blk_cell BK115.out 2).trans rfl⟩ (fun hHeld => ?_)
                  clear hK K
                  refine norm_ (a' := ?_) ?_ ?_
                  rotate_left
                  · show Act.put _ (some 29) _ = _
                    simp only [Act.put, List.setIfInBounds_toArray, List.set_cons_zero, List.set_cons_succ, i64_w, i32_w]
                    rfl
                  refine pure_ (i := 2) (N := some 30) (v := ?_) (a' := ?_) #[true, true, true, false, false, false, false, false, false, false, false, false, false, false, false, false, false, false] rfl rfl (any_of HT_.out (by kernel_rfl)) (fun _ _ _ h => h) (Or.inl ⟨by rfl, ?_⟩) ?_ ?_
                  rotate_left
                  · intro w'
                    go_simp
                    with_reducible rfl
                  rotate_left
                  · simp only [Act.put, List.setIfInBounds_toArray, List.set_cons_zero, List.set_cons_succ, i64_w, i32_w]
                    rfl
                  refine pure_ (i := 3) (N := some 31) (v := ?_) (a' := ?_) #[true, true, true, true, false, false, false, false, false, false, false, false, false, false, false, false, false, false] rfl rfl (any_of HT_.out (by kernel_rfl)) (fun _ _ _ h => h) (Or.inl ⟨by rfl, ?_⟩) ?_ ?_
                  rotate_left
                  · intro w'
                    go_simp
                    with_reducible rfl
                  rotate_left
                  · simp only [Act.put, List.setIfInBounds_toArray, List.set_cons_zero, List.set_cons_succ, i64_w, i32_w]
                    rfl
                  refine pure_ (i := 4) (N := some 32) (v := undef) (a' := ?_) #[true, true, true, true, true, false, false, false, false, false, false, false, false, false, false, false, false, false] rfl rfl (any_of HT_.out (by kernel_rfl)) (fun _ _ _ h => h) (Or.inr ⟨by rfl, rfl⟩) ?_ ?_
                  rotate_left
                  · simp only [Act.put, List.setIfInBounds_toArray, List.set_cons_zero, List.set_cons_succ, i64_w, i32_w]
                    rfl
                  refine pure_ (i := 5) (N := some 33) (v := undef) (a' := ?_) #[true, true, true, true, true, true, false, false, false, false, false, false, false, false, false, false, false, false] rfl rfl (any_of HT_.out (by kernel_rfl)) (fun _ _ _ h => h) (Or.inr ⟨by rfl, rfl⟩) ?_ ?_
                  rotate_left
                  · simp only [Act.put, List.setIfInBounds_toArray, List.set_cons_zero, List.set_cons_succ, i64_w, i32_w]
                    rfl
                  refine pure_ (i := 6) (N := some 34) (v := undef) (a' := ?_) #[true, true, true, true, true, true, true, false, false, false, false, false, false, false, false, false, false, false] rfl rfl (any_of HT_.out (by kernel_rfl)) (fun _ _ _ h => h) (Or.inr ⟨by rfl, rfl⟩) ?_ ?_
                  rotate_left
                  · simp only [Act.put, List.setIfInBounds_toArray, List.set_cons_zero, List.set_cons_succ, i64_w, i32_w]
                    rfl
                  refine pure_ (i := 7) (N := some 35) (v := undef) (a' := ?_) #[true, true, true, true, true, true, true, true, false, false, false, false, false, false, false, false, false, false] rfl rfl (any_of HT_.out (by kernel_rfl)) (fun _ _ _ h => h) (Or.inr ⟨by rfl, rfl⟩) ?_ ?_
                  rotate_left
                  · simp only [Act.put, List.setIfInBounds_toArray, List.set_cons_zero, List.set_cons_succ, i64_w, i32_w]
                    rfl
                  refine pure_ (i := 8) (N := some 36) (v := undef) (a' := ?_) #[true, true, true, true, true, true, true, true, true, false, false, false, false, false, false, false, false, false] rfl rfl (any_of HT_.out (by kernel_rfl)) (fun _ _ _ h => h) (Or.inr ⟨by rfl, rfl⟩) ?_ ?_
                  rotate_left
                  · simp only [Act.put, List.setIfInBounds_toArray, List.set_cons_zero, List.set_cons_succ, i64_w, i32_w]
                    rfl
                  refine pure_ (i := 9) (N := some 37) (v := undef) (a' := ?_) #[true, true, true, true, true, true, true, true, true, true, false, false, false, false, false, false, false, false] rfl rfl (any_of HT_.out (by kernel_rfl)) (fun _ _ _ h => h) (Or.inr ⟨by rfl, rfl⟩) ?_ ?_
                  rotate_left
                  · simp only [Act.put, List.setIfInBounds_toArray, List.set_cons_zero, List.set_cons_succ, i64_w, i32_w]
                    rfl
                  refine pure_ (i := 10) (N := some 38) (v := undef) (a' := ?_) #[true, true, true, true, true, true, true, true, true, true, true, false, false, false, false, false, false, false] rfl rfl (any_of HT_.out (by kernel_rfl)) (fun _ _ _ h => h) (Or.inr ⟨by rfl, rfl⟩) ?_ ?_
                  rotate_left
                  · simp only [Act.put, List.setIfInBounds_toArray, List.set_cons_zero, List.set_cons_succ, i64_w, i32_w]
                    rfl
                  refine pure_ (i := 11) (N := some 39) (v := undef) (a' := ?_) #[true, true, true, true, true, true, true, true, true, true, true, true, false, false, false, false, false, false] rfl rfl (any_of HT_.out (by kernel_rfl)) (fun _ _ _ h => h) (Or.inr ⟨by rfl, rfl⟩) ?_ ?_
                  rotate_left
                  · simp only [Act.put, List.setIfInBounds_toArray, List.set_cons_zero, List.set_cons_succ, i64_w, i32_w]
                    rfl
                  refine pure_ (i := 12) (N := some 40) (v := undef) (a' := ?_) #[true, true, true, true, true, true, true, true, true, true, true, true, true, false, false, false, false, false] rfl rfl (any_of HT_.out (by kernel_rfl)) (fun _ _ _ h => h) (Or.inr ⟨by rfl, rfl⟩) ?_ ?_
                  rotate_left
                  · simp only [Act.put, List.setIfInBounds_toArray, List.set_cons_zero, List.set_cons_succ, i64_w, i32_w]
                    rfl
                  refine pure_ (i := 13) (N := some 41) (v := undef) (a' := ?_) #[true, true, true, true, true, true, true, true, true, true, true, true, true, true, false, false, false, false] rfl rfl (any_of HT_.out (by kernel_rfl)) (fun _ _ _ h => h) (Or.inr ⟨by rfl, rfl⟩) ?_ ?_
                  rotate_left
                  · simp only [Act.put, List.setIfInBounds_toArray, List.set_cons_zero, List.set_cons_succ, i64_w, i32_w]
                    rfl
                  refine pure_ (i := 14) (N := some 42) (v := undef) (a' := ?_) #[true, true, true, true, true, true, true, true, true, true, true, true, true, true, true, false, false, false] rfl rfl (any_of HT_.out (by kernel_rfl)) (fun _ _ _ h => h) (Or.inr ⟨by rfl, rfl⟩) ?_ ?_
                  rotate_left
                  · simp only [Act.put, List.setIfInBounds_toArray, List.set_cons_zero, List.set_cons_succ, i64_w, i32_w]
                    rfl
                  refine pure_ (i := 15) (N := some 43) (v := undef) (a' := ?_) #[true, true, true, true, true, true, true, true, true, true, true, true, true, true, true, true, false, false] rfl rfl (any_of HT_.out (by kernel_rfl)) (fun _ _ _ h => h) (Or.inr ⟨by rfl, rfl⟩) ?_ ?_
                  rotate_left
                  · simp only [Act.put, List.setIfInBounds_toArray, List.set_cons_zero, List.set_cons_succ, i64_w, i32_w]
                    rfl
                  refine pure_ (i := 16) (N := some 44) (v := undef) (a' := ?_) #[true, true, true, true, true, true, true, true, true, true, true, true, true, true, true, true, true, false] rfl rfl (any_of HT_.out (by kernel_rfl)) (fun _ _ _ h => h) (Or.inr ⟨by rfl, rfl⟩) ?_ ?_
                  rotate_left
                  · simp only [Act.put, List.setIfInBounds_toArray, List.set_cons_zero, List.set_cons_succ, i64_w, i32_w]
                    rfl
                  refine pure_ (i := 17) (N := some 45) (v := ?_) (a' := ?_) #[true, true, true, true, true, true, true, true, true, true, true, true, true, true, true, true, true, true] rfl rfl (any_of HT_.out (by kernel_rfl)) (fun _ _ _ h => h) (Or.inl ⟨by rfl, ?_⟩) ?_ ?_
                  rotate_left
                  · intro w'
                    go_simp
                    with_reducible rfl
                  rotate_left
                  · simp only [Act.put, List.setIfInBounds_toArray, List.set_cons_zero, List.set_cons_succ, i64_w, i32_w]
                    rfl
                  refine done_ (done_of HT_.out (by kernel_rfl)) ?_
                  try go_wp2
                  go_meet
                  case rel => exact ⟨_, (true), (by first | with_reducible rfl | (simp; done) | rfl | (simp [*]; done)), H', ⟨by have := HK1.out; first | omega | exact Nat.le_refl _⟩, ⟨by (with_reducible repeat (first | refine blk_drewN ?_ _ | refine blk_drew ?_ | refine blk_alloc ?_ _)); exact BK115.out⟩, ⟨by repeat (first | (with_reducible first | exact HB.out | apply below_alloc | apply pw_below_drewN | apply below_drew1 | refine below_set ?_ GE115.out) | exact HB.out)⟩⟩
              case rest =>
                clear HC8
                try clear c1
                try clear p1
                try clear q1
                try clear hx1
                try clear c2
                try clear p2
                try clear c4
                try clear c5
                try clear c5b0
                try clear c5b1
                try clear c5b2
                try clear c6
                try clear c6b0
                try clear c7
                try clear c7b0
                try clear c9
                try clear p11
                try clear q11
                try clear hx11
                try clear c12
                try clear c12b0
                try clear c12b1
                try clear c13
                try clear c13b0
                try clear c13b1
                try clear c17
                try clear c17b0
                try clear c19
                try clear c20
                try clear hcz10_0
                try clear hcz10_1
                try clear hcz10_2
                try clear hfz10_0
                try clear hfz10_1
                try clear hfz10_2
                try clear hx114_0
                try clear hx114_1
                try clear hx114_2
                try clear hx117_0
                try clear hx117_1
                try clear p114
                try clear p117
                try clear p2
                try clear q114
                try clear q117
                obtain ⟨kq, x45_7, rfl, HA, HJ7, BK115, HB⟩ := hcut
                cases kq with
                | zero => exact absurd HA.out (by simp [headgateref12_Record.j1])
                | succ kj7 =>
                  have H := HA.out
                  clear HA
                  simp only [headgateref12_Record.j1] at H
                  by_cases c24 : x45_7 = true
                  · subst c24
                    have H1 : (some ((⟨#[]⟩ : ByteArray), 122)) = some (r1, r2) := by rw [if_pos rfl] at H; exact H
                    clear H
                    have H := H1
                    clear H1
                    simp only [Option.some.injEq, Prod.mk.injEq] at H
                    obtain ⟨rfl, rfl⟩ := H
                    go_wp2
                    go_ret2
                    exact ⟨by first | rfl | (simp [errW_none, errW_some] <;> rfl) | (simp [*, errW_none, errW_some] <;> rfl), by repeat (first | (with_reducible first | exact HB.out | apply below_alloc | apply pw_below_drewN | apply below_drew1 | refine below_set ?_ GE115.out) | exact HB.out)⟩
                  · replace c24 := Bool.eq_false_iff.mpr c24
                    subst c24
                    have H1 : (if x7_1 > 0 then (if x6_1.size + 1 ≤ 9223372036854775807 then (headgateref12_Record.j2 kj7 l0 l1 (x6_1 ++ (⟨#[44]⟩ : ByteArray)) x7_1 ((rd_T41 l1 x7_1).f0) ((rd_T41 l1 x7_1).f1) ((rd_T41 l1 x7_1).f2)) else (none)) else (headgateref12_Record.j2 kj7 l0 l1 x6_1 x7_1 ((rd_T41 l1 x7_1).f0) ((rd_T41 l1 x7_1).f1) ((rd_T41 l1 x7_1).f2))) = some (r1, r2) := by rw [if_neg (show ¬ (false = true) by decide)] at H; exact H
                    clear H
                    have H := H1
                    clear H1
                    have HC25 := Aside0.mk H
                    clear H
                    go_upto_if 47 with (fail)
                    go_cut [6] (fun v6 wc => ∃ (kq : Nat) (x6_24 : ByteArray), v6 = .string x6_24 ∧ Aside0 (headgateref12_Record.j2 kq l0 l1 x6_24 x7_1 ((rd_T41 l1 x7_1).f0) ((rd_T41 l1 x7_1).f1) ((rd_T41 l1 x7_1).f2) = some (r1, r2)) ∧ Aside0 (kq ≤ kj7) ∧ Aside0 (wc.heap[gb115]? = some (.cells #[.int .i64 ((rd_T41 l1 x7_1).f0), .int .i64 ((rd_T41 l1 x7_1).f1), .string ((rd_T41 l1 x7_1).f2)] 41 (0, 0))) ∧ Aside0 (Below w.heap.size w wc))
                    case first =>
                      have H := HC25.out
                      clear HC25
                      by_cases c26 : x7_1 > 0
                      · rw [if_pos c26] at H
                        have c26b0 : decide (0 < x7_1) = true := decide_eq_true c26
                        clear c26
                        (first | rw [c26b0] | (simp only [i64_w, i32_w]; rw [c26b0]) | skip)
                        by_cases c27 : x6_1.size + 1 ≤ 9223372036854775807
                        · rw [if_pos c27] at H
                          have c27b0 := eq_true c27
                          try (have c27b0x := c27b0; simp only [ByteArray.size_extract, Nat.min_self] at c27b0x; try have c27b0y := eq_true (of_decide_eq_true c27b0x))
                          have c27b1 : decide (x6_1.size + 1 ≤ 9223372036854775807) = true := decide_eq_true c27
                          try have c27b2 : (9223372036854775807 < x6_1.size + 1) = False := eq_false (Nat.not_lt.2 c27)
                          try (have c27b2x := c27b2; simp only [ByteArray.size_extract, Nat.min_self] at c27b2x; try have c27b2y := eq_true (of_decide_eq_true c27b2x))
                          have H' := Aside0.mk H
                          clear H
                          go_wp2
                          go_meet
                          case rel => exact ⟨_, (x6_1 ++ (⟨#[44]⟩ : ByteArray)), (by first | with_reducible rfl | (simp; done) | rfl | (simp [*]; done)), H', ⟨by have := HK1.out; have := HJ7.out; first | omega | exact Nat.le_refl _⟩, ⟨by (with_reducible repeat (first | refine blk_drewN ?_ _ | refine blk_drew ?_ | refine blk_alloc ?_ _)); exact BK115.out⟩, ⟨by repeat (first | (with_reducible first | exact HB.out | apply below_alloc | apply pw_below_drewN | apply below_drew1 | refine below_set ?_ GE115.out) | exact HB.out)⟩⟩
                        · rw [if_neg c27] at H
                          exact absurd H (by simp)
                      · rw [if_neg c26] at H
                        have c26b0 : decide (0 < x7_1) = false := decide_eq_false c26
                        clear c26
                        (first | rw [c26b0] | (simp only [i64_w, i32_w]; rw [c26b0]) | skip)
                        have H' := Aside0.mk H
                        clear H
                        go_wp2
                        go_meet
                        case rel => exact ⟨_, (x6_1), (by first | with_reducible rfl | (simp; done) | rfl | (simp [*]; done)), H', ⟨by have := HK1.out; have := HJ7.out; first | omega | exact Nat.le_refl _⟩, ⟨by (with_reducible repeat (first | refine blk_drewN ?_ _ | refine blk_drew ?_ | refine blk_alloc ?_ _)); exact BK115.out⟩, ⟨by repeat (first | (with_reducible first | exact HB.out | apply below_alloc | apply pw_below_drewN | apply below_drew1 | refine below_set ?_ GE115.out) | exact HB.out)⟩⟩
                    case rest =>
                      clear HC25
                      try clear c1
                      try clear p1
                      try clear q1
                      try clear hx1
                      try clear c2
                      try clear p2
                      try clear c4
                      try clear c5
                      try clear c5b0
                      try clear c5b1
                      try clear c5b2
                      try clear c6
                      try clear c6b0
                      try clear c7
                      try clear c7b0
                      try clear c9
                      try clear p11
                      try clear q11
                      try clear hx11
                      try clear c12
                      try clear c12b0
                      try clear c12b1
                      try clear c13
                      try clear c13b0
                      try clear c13b1
                      try clear c17
                      try clear c17b0
                      try clear c19
                      try clear c20
                      try clear c24
                      try clear c26
                      try clear c26b0
                      try clear c27
                      try clear c27b0
                      try clear c27b1
                      try clear c27b2
                      try clear hcz10_0
                      try clear hcz10_1
                      try clear hcz10_2
                      try clear hfz10_0
                      try clear hfz10_1
                      try clear hfz10_2
                      try clear hx114_0
                      try clear hx114_1
                      try clear hx114_2
                      try clear hx117_0
                      try clear hx117_1
                      try clear p1
                      try clear p11
                      try clear p114
                      try clear p117
                      try clear p2
                      try clear q1
                      try clear q11
                      try clear q114
                      try clear q117
                      obtain ⟨kq, x6_24, rfl, HA, HJ24, BK115, HB⟩ := hcut
                      cases kq with
                      | zero => exact absurd HA.out (by simp [headgateref12_Record.j2])
                      | succ kj24 =>
                        have H := HA.out
                        clear HA
                        simp only [headgateref12_Record.j2] at H
                        by_cases c28 : ((rd_T41 l1 x7_1).f0) = 0
                        · rw [if_pos c28] at H
                          have c28b0 : (((rd_T41 l1 x7_1).f0) == 0) = true := beq_iff_eq.mpr c28
                          have c28b1 : (((rd_T41 l1 x7_1).f0) != 0) = false := bne_eq_false_iff_eq.mpr c28
                          clear c28
                          by_cases c29 : x6_24.size + 2 ≤ 9223372036854775807
                          · rw [if_pos c29] at H
                            have c29b0 := eq_true c29
                            try (have c29b0x := c29b0; simp only [ByteArray.size_extract, Nat.min_self] at c29b0x; try have c29b0y := eq_true (of_decide_eq_true c29b0x))
                            have c29b1 : decide (x6_24.size + 2 ≤ 9223372036854775807) = true := decide_eq_true c29
                            try have c29b2 : (9223372036854775807 < x6_24.size + 2) = False := eq_false (Nat.not_lt.2 c29)
                            try (have c29b2x := c29b2; simp only [ByteArray.size_extract, Nat.min_self] at c29b2x; try have c29b2y := eq_true (of_decide_eq_true c29b2x))
                            have H' := Aside0.mk H
                            clear H
                            obtain ⟨hcz30_0, hcz30_1, hcz30_2, hfz30_0, hfz30_1, hfz30_2⟩ := bf3 BK115.out
                            go_wp2
                            go_roundg kj24
                            case measure => have := HK1.out; have := HJ7.out; have := HJ24.out; omega
                            case rel => exact ⟨(x6_24 ++ (⟨#[92, 78]⟩ : ByteArray)), (wrap64 (x7_1 + 1)), (by first | with_reducible rfl | (simp; done) | rfl | (simp [*]; done)), (by first | with_reducible rfl | (simp; done) | rfl | (simp [*]; done)), H', ⟨by have := HK1.out; have := HJ7.out; have := HJ24.out; omega⟩, ⟨by repeat (first | (with_reducible first | exact HB.out | apply below_alloc | apply pw_below_drewN | apply below_drew1 | refine below_set ?_ GE115.out) | exact HB.out)⟩⟩
                          · rw [if_neg c29] at H
                            exact absurd H (by simp)
                        · rw [if_neg c28] at H
                          have c28b0 : (((rd_T41 l1 x7_1).f0) == 0) = false := beq_eq_false_iff_ne.mpr c28
                          have c28b1 : (((rd_T41 l1 x7_1).f0) != 0) = true := bne_iff_ne.mpr c28
                          by_cases c31 : ((rd_T41 l1 x7_1).f0) = 1
                          · rw [if_pos c31] at H
                            have c31b0 : (((rd_T41 l1 x7_1).f0) == 1) = true := beq_iff_eq.mpr c31
                            have c31b1 : (((rd_T41 l1 x7_1).f0) != 1) = false := bne_eq_false_iff_eq.mpr c31
                            clear c31
                            replace H := Option.bind_eq_some_iff.mp H
                            obtain ⟨t118, A320, H⟩ := H
                            replace H : (if x6_24.size + t118.size ≤ 9223372036854775807 then (headgateref12_Record.l0 kj24 l0 l1 (x6_24 ++ t118) (wrap64 (x7_1 + 1))) else (none)) = some (r1, r2) := H
                            have A32 := Aside0.mk A320
                            clear A320
                            by_cases c33 : x6_24.size + t118.size ≤ 9223372036854775807
                            · rw [if_pos c33] at H
                              have c33b0 := eq_true c33
                              try (have c33b0x := c33b0; simp only [ByteArray.size_extract, Nat.min_self] at c33b0x; try have c33b0y := eq_true (of_decide_eq_true c33b0x))
                              have c33b1 : decide (x6_24.size + t118.size ≤ 9223372036854775807) = true := decide_eq_true c33
                              try have c33b2 : (9223372036854775807 < x6_24.size + t118.size) = False := eq_false (Nat.not_lt.2 c33)
                              try (have c33b2x := c33b2; simp only [ByteArray.size_extract, Nat.min_self] at c33b2x; try have c33b2y := eq_true (of_decide_eq_true c33b2x))
                              have H' := Aside0.mk H
                              clear H
                              obtain ⟨hcz34_0, hcz34_1, hcz34_2, hfz34_0, hfz34_1, hfz34_2⟩ := bf3 BK115.out
                              go_wp2_with (first | ((with_reducible refine gate_callee (f := 21) rfl ?_); refine goesL_ (some 61) rfl rfl Tryz.func21 (by kernel_rfl) rfl #[.int .i64 ((rd_T41 l1 x7_1).f1)] rfl (by (try simp only [List.map_toArray, List.map_cons, List.map_nil]); first | done | rfl | (simp only [List.length_drop, List.length_take]; rfl) | exact congrArg (fun x_ : Int => #[Value.int .u64 x_]) (show _ = _ % (18446744073709551616 : Int) by omega)) ?_; (with_reducible refine (headgateref12_digits.calls kj24 ((rd_T41 l1 x7_1).f1) t118 _ A32.out).mono ?_); rintro e w35 ⟨rfl, hb⟩; refine ⟨_, rfl, ?_⟩; have n0_ := Aside0.mk (blk_below (g := gb115) (o := .cells #[.int .i64 ((rd_T41 l1 x7_1).f0), .int .i64 ((rd_T41 l1 x7_1).f1), .string ((rd_T41 l1 x7_1).f2)] 41 (0, 0)) (by (with_reducible repeat (first | refine blk_drewN ?_ _ | refine blk_drew ?_ | refine blk_alloc ?_ _)); exact BK115.out) hb); have n1_ := Aside0.mk (below_step (by repeat (first | (with_reducible first | exact HB.out | apply below_alloc | apply pw_below_drewN | apply below_drew1 | refine below_set ?_ GE115.out) | exact HB.out)) hb); clear BK115; clear HB; have BK115 := n0_; have HB := n1_; clear n0_ n1_; (try clear hb); (try clear hb2); (try clear hk); (try clear hi)))
                              go_roundg kj24
                              case measure => have := HK1.out; have := HJ7.out; have := HJ24.out; omega
                              case rel => exact ⟨(x6_24 ++ t118), (wrap64 (x7_1 + 1)), (by first | with_reducible rfl | (simp; done) | rfl | (simp [*]; done)), (by first | with_reducible rfl | (simp; done) | rfl | (simp [*]; done)), H', ⟨by have := HK1.out; have := HJ7.out; have := HJ24.out; omega⟩, ⟨by repeat (first | (with_reducible first | exact HB.out | apply below_alloc | apply pw_below_drewN | apply below_drew1 | refine below_set ?_ GE115.out) | exact HB.out)⟩⟩
                            · rw [if_neg c33] at H
                              exact absurd H (by simp)
                          · rw [if_neg c31] at H
                            have c31b0 : (((rd_T41 l1 x7_1).f0) == 1) = false := beq_eq_false_iff_ne.mpr c31
                            have c31b1 : (((rd_T41 l1 x7_1).f0) != 1) = true := bne_iff_ne.mpr c31
                            by_cases c36 : ((rd_T41 l1 x7_1).f0) = 2
                            · rw [if_pos c36] at H
                              have c36b0 : (((rd_T41 l1 x7_1).f0) == 2) = true := beq_iff_eq.mpr c36
                              have c36b1 : (((rd_T41 l1 x7_1).f0) != 2) = false := bne_eq_false_iff_eq.mpr c36
                              clear c36
                              by_cases c37 : ((rd_T41 l1 x7_1).f1) = 1
                              · rw [if_pos c37] at H
                                have c37b0 : (((rd_T41 l1 x7_1).f1) == 1) = true := beq_iff_eq.mpr c37
                                have c37b1 : (((rd_T41 l1 x7_1).f1) != 1) = false := bne_eq_false_iff_eq.mpr c37
                                clear c37
                                by_cases c38 : x6_24.size + 4 ≤ 9223372036854775807
                                · rw [if_pos c38] at H
                                  have c38b0 := eq_true c38
                                  try (have c38b0x := c38b0; simp only [ByteArray.size_extract, Nat.min_self] at c38b0x; try have c38b0y := eq_true (of_decide_eq_true c38b0x))
                                  have c38b1 : decide (x6_24.size + 4 ≤ 9223372036854775807) = true := decide_eq_true c38
                                  try have c38b2 : (9223372036854775807 < x6_24.size + 4) = False := eq_false (Nat.not_lt.2 c38)
                                  try (have c38b2x := c38b2; simp only [ByteArray.size_extract, Nat.min_self] at c38b2x; try have c38b2y := eq_true (of_decide_eq_true c38b2x))
                                  have H' := Aside0.mk H
                                  clear H
                                  obtain ⟨hcz39_0, hcz39_1, hcz39_2, hfz39_0, hfz39_1, hfz39_2⟩ := bf3 BK115.out
                                  go_wp2
                                  go_roundg kj24
                                  case measure => have := HK1.out; have := HJ7.out; have := HJ24.out; omega
                                  case rel => exact ⟨(x6_24 ++ (⟨#[116, 114, 117, 101]⟩ : ByteArray)), (wrap64 (x7_1 + 1)), (by first | with_reducible rfl | (simp; done) | rfl | (simp [*]; done)), (by first | with_reducible rfl | (simp; done) | rfl | (simp [*]; done)), H', ⟨by have := HK1.out; have := HJ7.out; have := HJ24.out; omega⟩, ⟨by repeat (first | (with_reducible first | exact HB.out | apply below_alloc | apply pw_below_drewN | apply below_drew1 | refine below_set ?_ GE115.out) | exact HB.out)⟩⟩
                                · rw [if_neg c38] at H
                                  exact absurd H (by simp)
                              · rw [if_neg c37] at H
                                have c37b0 : (((rd_T41 l1 x7_1).f1) == 1) = false := beq_eq_false_iff_ne.mpr c37
                                have c37b1 : (((rd_T41 l1 x7_1).f1) != 1) = true := bne_iff_ne.mpr c37
                                by_cases c40 : x6_24.size + 5 ≤ 9223372036854775807
                                · rw [if_pos c40] at H
                                  have c40b0 := eq_true c40
                                  try (have c40b0x := c40b0; simp only [ByteArray.size_extract, Nat.min_self] at c40b0x; try have c40b0y := eq_true (of_decide_eq_true c40b0x))
                                  have c40b1 : decide (x6_24.size + 5 ≤ 9223372036854775807) = true := decide_eq_true c40
                                  try have c40b2 : (9223372036854775807 < x6_24.size + 5) = False := eq_false (Nat.not_lt.2 c40)
                                  try (have c40b2x := c40b2; simp only [ByteArray.size_extract, Nat.min_self] at c40b2x; try have c40b2y := eq_true (of_decide_eq_true c40b2x))
                                  have H' := Aside0.mk H
                                  clear H
                                  obtain ⟨hcz41_0, hcz41_1, hcz41_2, hfz41_0, hfz41_1, hfz41_2⟩ := bf3 BK115.out
                                  go_wp2
                                  go_roundg kj24
                                  case measure => have := HK1.out; have := HJ7.out; have := HJ24.out; omega
                                  case rel => exact ⟨(x6_24 ++ (⟨#[102, 97, 108, 115, 101]⟩ : ByteArray)), (wrap64 (x7_1 + 1)), (by first | with_reducible rfl | (simp; done) | rfl | (simp [*]; done)), (by first | with_reducible rfl | (simp; done) | rfl | (simp [*]; done)), H', ⟨by have := HK1.out; have := HJ7.out; have := HJ24.out; omega⟩, ⟨by repeat (first | (with_reducible first | exact HB.out | apply below_alloc | apply pw_below_drewN | apply below_drew1 | refine below_set ?_ GE115.out) | exact HB.out)⟩⟩
                                · rw [if_neg c40] at H
                                  exact absurd H (by simp)
                            · rw [if_neg c36] at H
                              have c36b0 : (((rd_T41 l1 x7_1).f0) == 2) = false := beq_eq_false_iff_ne.mpr c36
                              have c36b1 : (((rd_T41 l1 x7_1).f0) != 2) = true := bne_iff_ne.mpr c36
                              by_cases c42 : ((rd_T41 l1 x7_1).f0) = 3
                              · rw [if_pos c42] at H
                                have c42b0 : (((rd_T41 l1 x7_1).f0) == 3) = true := beq_iff_eq.mpr c42
                                have c42b1 : (((rd_T41 l1 x7_1).f0) != 3) = false := bne_eq_false_iff_eq.mpr c42
                                clear c42
                                have H' := Aside0.mk H
                                clear H
                                obtain ⟨hcz43_0, hcz43_1, hcz43_2, hfz43_0, hfz43_1, hfz43_2⟩ := bf3 BK115.out
                                go_wp2
                                go_loopg [6, 9] kj24 (fun kq v6 v9 w' => ∃ (x6_4 : ByteArray) (x9_4 : Int), v6 = .string x6_4 ∧ v9 = .int .i64 x9_4 ∧ Aside0 (headgateref12_Record.l1 kq l0 l1 x6_4 x7_1 x9_4 ((rd_T41 l1 x7_1).f0) ((rd_T41 l1 x7_1).f1) ((rd_T41 l1 x7_1).f2) = some (r1, r2)) ∧ Aside0 (kq ≤ kj24) ∧ Aside0 (w'.heap[gb115]? = some (.cells #[.int .i64 ((rd_T41 l1 x7_1).f0), .int .i64 ((rd_T41 l1 x7_1).f1), .string ((rd_T41 l1 x7_1).f2)] 41 (0, 0))) ∧ Aside0 (Below w.heap.size w w'))
                                case atStart => exact ⟨(x6_24), (0), (by first | with_reducible rfl | (simp; done) | rfl | (simp [*]; done)), (by first | with_reducible rfl | (simp; done) | rfl | (simp [*]; done)), H', ⟨Nat.le_refl _⟩, ⟨by (with_reducible repeat (first | refine blk_drewN ?_ _ | refine blk_drew ?_ | refine blk_alloc ?_ _)); exact BK115.out⟩, ⟨by repeat (first | (with_reducible first | exact HB.out | apply below_alloc | apply pw_below_drewN | apply below_drew1 | refine below_set ?_ GE115.out) | exact HB.out)⟩⟩
                                case round =>
                                  clear H'
                                  try clear c1
                                  try clear p1
                                  try clear q1
                                  try clear hx1
                                  try clear c2
                                  try clear p2
                                  try clear c3
                                  try clear c4
                                  try clear c5
                                  try clear c5b0
                                  try clear c5b1
                                  try clear c5b2
                                  try clear c6
                                  try clear c6b0
                                  try clear p6
                                  try clear c7
                                  try clear c7b0
                                  try clear c9
                                  try clear p11
                                  try clear q11
                                  try clear hx11
                                  try clear c12
                                  try clear c12b0
                                  try clear c12b1
                                  try clear c13
                                  try clear c13b0
                                  try clear c13b1
                                  try clear c17
                                  try clear c17b0
                                  try clear c19
                                  try clear c20
                                  try clear c21
                                  try clear c24
                                  try clear c26
                                  try clear c26b0
                                  try clear c27
                                  try clear c27b0
                                  try clear c27b1
                                  try clear c27b2
                                  try clear c28
                                  try clear c28b0
                                  try clear c28b1
                                  try clear c29
                                  try clear c29b0
                                  try clear c29b1
                                  try clear c29b2
                                  try clear c31
                                  try clear c31b0
                                  try clear c31b1
                                  try clear c33
                                  try clear c33b0
                                  try clear c33b1
                                  try clear c33b2
                                  try clear c36
                                  try clear c36b0
                                  try clear c36b1
                                  try clear c37
                                  try clear c37b0
                                  try clear c37b1
                                  try clear c38
                                  try clear c38b0
                                  try clear c38b1
                                  try clear c38b2
                                  try clear c40
                                  try clear c40b0
                                  try clear c40b1
                                  try clear c40b2
                                  try clear c42
                                  try clear c42b0
                                  try clear c42b1
                                  try clear hcz10_0
                                  try clear hcz10_1
                                  try clear hcz10_2
                                  try clear hcz30_0
                                  try clear hcz30_1
                                  try clear hcz30_2
                                  try clear hcz34_0
                                  try clear hcz34_1
                                  try clear hcz34_2
                                  try clear hcz39_0
                                  try clear hcz39_1
                                  try clear hcz39_2
                                  try clear hcz41_0
                                  try clear hcz41_1
                                  try clear hcz41_2
                                  try clear hcz43_0
                                  try clear hcz43_1
                                  try clear hcz43_2
                                  try clear hfz10_0
                                  try clear hfz10_1
                                  try clear hfz10_2
                                  try clear hfz30_0
                                  try clear hfz30_1
                                  try clear hfz30_2
                                  try clear hfz34_0
                                  try clear hfz34_1
                                  try clear hfz34_2
                                  try clear hfz39_0
                                  try clear hfz39_1
                                  try clear hfz39_2
                                  try clear hfz41_0
                                  try clear hfz41_1
                                  try clear hfz41_2
                                  try clear hfz43_0
                                  try clear hfz43_1
                                  try clear hfz43_2
                                  try clear hx114_0
                                  try clear hx114_1
                                  try clear hx114_2
                                  try clear hx117_0
                                  try clear hx117_1
                                  try clear p1
                                  try clear p11
                                  try clear p114
                                  try clear p117
                                  try clear p2
                                  try clear q1
                                  try clear q11
                                  try clear q114
                                  try clear q117
                                  obtain ⟨x6_4, x9_4, rfl, rfl, HA, HK4, BK115, HB⟩ := hrel
                                  cases gk with
                                  | zero => exact absurd HA.out (by simp [headgateref12_Record.l1])
                                  | succ k4 =>
                                    have H := HA.out
                                    clear HA
                                    simp only [headgateref12_Record.l1] at H
                                    by_cases c44 : x9_4 < (((rd_T41 l1 x7_1).f2).size : Int)
                                    · rw [if_pos c44] at H
                                      have c44b0 : decide (x9_4 < (((rd_T41 l1 x7_1).f2).size : Int)) = true := decide_eq_true c44
                                      clear c44
                                      by_cases c45 : 0 ≤ x9_4
                                      · rw [if_pos c45] at H
                                        have c45b0 : decide (0 ≤ x9_4) = true := decide_eq_true c45
                                        clear c45
                                        by_cases c47 : (bt ((rd_T41 l1 x7_1).f2) x9_4) = 44
                                        · rw [if_pos c47] at H
                                          have c47b0 : ((bt ((rd_T41 l1 x7_1).f2) x9_4) == 44) = true := beq_iff_eq.mpr c47
                                          have c47b1 : ((bt ((rd_T41 l1 x7_1).f2) x9_4) != 44) = false := bne_eq_false_iff_eq.mpr c47
                                          clear c47
                                          by_cases c48 : x6_4.size + 1 ≤ 9223372036854775807
                                          · rw [if_pos c48] at H
                                            have c48b0 := eq_true c48
                                            try (have c48b0x := c48b0; simp only [ByteArray.size_extract, Nat.min_self] at c48b0x; try have c48b0y := eq_true (of_decide_eq_true c48b0x))
                                            have c48b1 : decide (x6_4.size + 1 ≤ 9223372036854775807) = true := decide_eq_true c48
                                            try have c48b2 : (9223372036854775807 < x6_4.size + 1) = False := eq_false (Nat.not_lt.2 c48)
                                            try (have c48b2x := c48b2; simp only [ByteArray.size_extract, Nat.min_self] at c48b2x; try have c48b2y := eq_true (of_decide_eq_true c48b2x))
                                            have c49b0 := eq_true (of_decide_eq_true (by first | (with_reducible assumption) | assumption) : 0 ≤ x9_4)
                                            try (have c49b0x := c49b0; simp only [ByteArray.size_extract, Nat.min_self] at c49b0x; try have c49b0y := eq_true (of_decide_eq_true c49b0x))
                                            by_cases c50 : x9_4 ≤ (wrap64 (x9_4 + 1))
                                            · rw [if_pos c50] at H
                                              have c50b0 := eq_true c50
                                              try (have c50b0x := c50b0; simp only [ByteArray.size_extract, Nat.min_self] at c50b0x; try have c50b0y := eq_true (of_decide_eq_true c50b0x))
                                              have c50b1 : decide (x9_4 ≤ (wrap64 (x9_4 + 1))) = true := decide_eq_true c50
                                              by_cases c51 : (wrap64 (x9_4 + 1)) ≤ (((rd_T41 l1 x7_1).f2).size : Int)
                                              · rw [if_pos c51] at H
                                                have c51b0 := eq_true c51
                                                try (have c51b0x := c51b0; simp only [ByteArray.size_extract, Nat.min_self] at c51b0x; try have c51b0y := eq_true (of_decide_eq_true c51b0x))
                                                have c51b1 : decide ((wrap64 (x9_4 + 1)) ≤ (((rd_T41 l1 x7_1).f2).size : Int)) = true := decide_eq_true c51
                                                by_cases c52 : (x6_4 ++ (⟨#[92]⟩ : ByteArray)).size + (((rd_T41 l1 x7_1).f2).extract (x9_4 : Int).toNat ((wrap64 (x9_4 + 1)) : Int).toNat).size ≤ 9223372036854775807
                                                · rw [if_pos c52] at H
                                                  have c52b0 := eq_true c52
                                                  try (have c52b0x := c52b0; simp only [ByteArray.size_extract, Nat.min_self] at c52b0x; try have c52b0y := eq_true (of_decide_eq_true c52b0x))
                                                  have c52b1 : decide ((x6_4 ++ (⟨#[92]⟩ : ByteArray)).size + (((rd_T41 l1 x7_1).f2).extract (x9_4 : Int).toNat ((wrap64 (x9_4 + 1)) : Int).toNat).size ≤ 9223372036854775807) = true := decide_eq_true c52
                                                  try (have c52b1x := c52b1; simp only [ByteArray.size_extract, Nat.min_self] at c52b1x; try have c52b1y := eq_true (of_decide_eq_true c52b1x))
                                                  try have c52b2 : (9223372036854775807 < (x6_4 ++ (⟨#[92]⟩ : ByteArray)).size + (((rd_T41 l1 x7_1).f2).extract (x9_4 : Int).toNat ((wrap64 (x9_4 + 1)) : Int).toNat).size) = False := eq_false (Nat.not_lt.2 c52)
                                                  try (have c52b2x := c52b2; simp only [ByteArray.size_extract, Nat.min_self] at c52b2x; try have c52b2y := eq_true (of_decide_eq_true c52b2x))
                                                  try (have c52b3 := c52b2; simp only [ByteArray.size_append] at c52b3)
                                                  have H' := Aside0.mk H
                                                  clear H
                                                  obtain ⟨hcz53_0, hcz53_1, hcz53_2, hfz53_0, hfz53_1, hfz53_2⟩ := bf3 BK115.out
                                                  have p46 : 0 ≤ (x9_4 : Int) := of_decide_eq_true (by first | (with_reducible assumption) | assumption)
                                                  have q46 : x9_4 < (((rd_T41 l1 x7_1).f2).size : Int) := of_decide_eq_true (by first | (with_reducible assumption) | assumption)
                                                  have hx46 := bt_at ((rd_T41 l1 x7_1).f2) x9_4
                                                  replace p46 := eq_true p46
                                                  replace q46 := eq_true q46
                                                  go_wp2
                                                  go_roundg k4
                                                  case measure => have := HK1.out; have := HJ7.out; have := HJ24.out; have := HK4.out; omega
                                                  case rel => exact ⟨((x6_4 ++ (⟨#[92]⟩ : ByteArray)) ++ (((rd_T41 l1 x7_1).f2).extract (x9_4 : Int).toNat ((wrap64 (x9_4 + 1)) : Int).toNat)), (wrap64 (x9_4 + 1)), (by first | with_reducible rfl | (simp; done) | rfl | (simp [*]; done)), (by first | with_reducible rfl | (simp; done) | rfl | (simp [*]; done)), H', ⟨by have := HK1.out; have := HJ7.out; have := HJ24.out; have := HK4.out; omega⟩, ⟨by (with_reducible repeat (first | refine blk_drewN ?_ _ | refine blk_drew ?_ | refine blk_alloc ?_ _)); exact BK115.out⟩, ⟨by repeat (first | (with_reducible first | exact HB.out | apply below_alloc | apply pw_below_drewN | apply below_drew1 | refine below_set ?_ GE115.out) | exact HB.out)⟩⟩
                                                · rw [if_neg c52] at H
                                                  exact absurd H (by simp)
                                              · rw [if_neg c51] at H
                                                exact absurd H (by simp)
                                            · rw [if_neg c50] at H
                                              exact absurd H (by simp)
                                          · rw [if_neg c48] at H
                                            exact absurd H (by simp)
                                        · rw [if_neg c47] at H
                                          have c47b0 : ((bt ((rd_T41 l1 x7_1).f2) x9_4) == 44) = false := beq_eq_false_iff_ne.mpr c47
                                          have c47b1 : ((bt ((rd_T41 l1 x7_1).f2) x9_4) != 44) = true := bne_iff_ne.mpr c47
                                          by_cases c55 : (bt ((rd_T41 l1 x7_1).f2) x9_4) = 92
                                          · rw [if_pos c55] at H
                                            have c55b0 : ((bt ((rd_T41 l1 x7_1).f2) x9_4) == 92) = true := beq_iff_eq.mpr c55
                                            have c55b1 : ((bt ((rd_T41 l1 x7_1).f2) x9_4) != 92) = false := bne_eq_false_iff_eq.mpr c55
                                            clear c55
                                            by_cases c56 : x6_4.size + 1 ≤ 9223372036854775807
                                            · rw [if_pos c56] at H
                                              have c56b0 := eq_true c56
                                              try (have c56b0x := c56b0; simp only [ByteArray.size_extract, Nat.min_self] at c56b0x; try have c56b0y := eq_true (of_decide_eq_true c56b0x))
                                              have c56b1 : decide (x6_4.size + 1 ≤ 9223372036854775807) = true := decide_eq_true c56
                                              try have c56b2 : (9223372036854775807 < x6_4.size + 1) = False := eq_false (Nat.not_lt.2 c56)
                                              try (have c56b2x := c56b2; simp only [ByteArray.size_extract, Nat.min_self] at c56b2x; try have c56b2y := eq_true (of_decide_eq_true c56b2x))
                                              have c57b0 := eq_true (of_decide_eq_true (by first | (with_reducible assumption) | assumption) : 0 ≤ x9_4)
                                              try (have c57b0x := c57b0; simp only [ByteArray.size_extract, Nat.min_self] at c57b0x; try have c57b0y := eq_true (of_decide_eq_true c57b0x))
                                              by_cases c58 : x9_4 ≤ (wrap64 (x9_4 + 1))
                                              · rw [if_pos c58] at H
                                                have c58b0 := eq_true c58
                                                try (have c58b0x := c58b0; simp only [ByteArray.size_extract, Nat.min_self] at c58b0x; try have c58b0y := eq_true (of_decide_eq_true c58b0x))
                                                have c58b1 : decide (x9_4 ≤ (wrap64 (x9_4 + 1))) = true := decide_eq_true c58
                                                by_cases c59 : (wrap64 (x9_4 + 1)) ≤ (((rd_T41 l1 x7_1).f2).size : Int)
                                                · rw [if_pos c59] at H
                                                  have c59b0 := eq_true c59
                                                  try (have c59b0x := c59b0; simp only [ByteArray.size_extract, Nat.min_self] at c59b0x; try have c59b0y := eq_true (of_decide_eq_true c59b0x))
                                                  have c59b1 : decide ((wrap64 (x9_4 + 1)) ≤ (((rd_T41 l1 x7_1).f2).size : Int)) = true := decide_eq_true c59
                                                  by_cases c60 : (x6_4 ++ (⟨#[92]⟩ : ByteArray)).size + (((rd_T41 l1 x7_1).f2).extract (x9_4 : Int).toNat ((wrap64 (x9_4 + 1)) : Int).toNat).size ≤ 9223372036854775807
                                                  · rw [if_pos c60] at H
                                                    have c60b0 := eq_true c60
                                                    try (have c60b0x := c60b0; simp only [ByteArray.size_extract, Nat.min_self] at c60b0x; try have c60b0y := eq_true (of_decide_eq_true c60b0x))
                                                    have c60b1 : decide ((x6_4 ++ (⟨#[92]⟩ : ByteArray)).size + (((rd_T41 l1 x7_1).f2).extract (x9_4 : Int).toNat ((wrap64 (x9_4 + 1)) : Int).toNat).size ≤ 9223372036854775807) = true := decide_eq_true c60
                                                    try (have c60b1x := c60b1; simp only [ByteArray.size_extract, Nat.min_self] at c60b1x; try have c60b1y := eq_true (of_decide_eq_true c60b1x))
                                                    try have c60b2 : (9223372036854775807 < (x6_4 ++ (⟨#[92]⟩ : ByteArray)).size + (((rd_T41 l1 x7_1).f2).extract (x9_4 : Int).toNat ((wrap64 (x9_4 + 1)) : Int).toNat).size) = False := eq_false (Nat.not_lt.2 c60)
                                                    try (have c60b2x := c60b2; simp only [ByteArray.size_extract, Nat.min_self] at c60b2x; try have c60b2y := eq_true (of_decide_eq_true c60b2x))
                                                    try (have c60b3 := c60b2; simp only [ByteArray.size_append] at c60b3)
                                                    have H' := Aside0.mk H
                                                    clear H
                                                    obtain ⟨hcz61_0, hcz61_1, hcz61_2, hfz61_0, hfz61_1, hfz61_2⟩ := bf3 BK115.out
                                                    have p46 : 0 ≤ (x9_4 : Int) := of_decide_eq_true (by first | (with_reducible assumption) | assumption)
                                                    have q46 : x9_4 < (((rd_T41 l1 x7_1).f2).size : Int) := of_decide_eq_true (by first | (with_reducible assumption) | assumption)
                                                    have hx46 := bt_at ((rd_T41 l1 x7_1).f2) x9_4
                                                    replace p46 := eq_true p46
                                                    replace q46 := eq_true q46
                                                    have p54 : 0 ≤ (x9_4 : Int) := of_decide_eq_true (by first | (with_reducible assumption) | assumption)
                                                    have q54 : x9_4 < (((rd_T41 l1 x7_1).f2).size : Int) := of_decide_eq_true (by first | (with_reducible assumption) | assumption)
                                                    have hx54 := bt_at ((rd_T41 l1 x7_1).f2) x9_4
                                                    replace p54 := eq_true p54
                                                    replace q54 := eq_true q54
                                                    go_wp2
                                                    go_roundg k4
                                                    case measure => have := HK1.out; have := HJ7.out; have := HJ24.out; have := HK4.out; omega
                                                    case rel => exact ⟨((x6_4 ++ (⟨#[92]⟩ : ByteArray)) ++ (((rd_T41 l1 x7_1).f2).extract (x9_4 : Int).toNat ((wrap64 (x9_4 + 1)) : Int).toNat)), (wrap64 (x9_4 + 1)), (by first | with_reducible rfl | (simp; done) | rfl | (simp [*]; done)), (by first | with_reducible rfl | (simp; done) | rfl | (simp [*]; done)), H', ⟨by have := HK1.out; have := HJ7.out; have := HJ24.out; have := HK4.out; omega⟩, ⟨by (with_reducible repeat (first | refine blk_drewN ?_ _ | refine blk_drew ?_ | refine blk_alloc ?_ _)); exact BK115.out⟩, ⟨by repeat (first | (with_reducible first | exact HB.out | apply below_alloc | apply pw_below_drewN | apply below_drew1 | refine below_set ?_ GE115.out) | exact HB.out)⟩⟩
                                                  · rw [if_neg c60] at H
                                                    exact absurd H (by simp)
                                                · rw [if_neg c59] at H
                                                  exact absurd H (by simp)
                                              · rw [if_neg c58] at H
                                                exact absurd H (by simp)
                                            · rw [if_neg c56] at H
                                              exact absurd H (by simp)
                                          · rw [if_neg c55] at H
                                            have c55b0 : ((bt ((rd_T41 l1 x7_1).f2) x9_4) == 92) = false := beq_eq_false_iff_ne.mpr c55
                                            have c55b1 : ((bt ((rd_T41 l1 x7_1).f2) x9_4) != 92) = true := bne_iff_ne.mpr c55
                                            have c62b0 := eq_true (of_decide_eq_true (by first | (with_reducible assumption) | assumption) : 0 ≤ x9_4)
                                            try (have c62b0x := c62b0; simp only [ByteArray.size_extract, Nat.min_self] at c62b0x; try have c62b0y := eq_true (of_decide_eq_true c62b0x))
                                            by_cases c63 : x9_4 ≤ (wrap64 (x9_4 + 1))
                                            · rw [if_pos c63] at H
                                              have c63b0 := eq_true c63
                                              try (have c63b0x := c63b0; simp only [ByteArray.size_extract, Nat.min_self] at c63b0x; try have c63b0y := eq_true (of_decide_eq_true c63b0x))
                                              have c63b1 : decide (x9_4 ≤ (wrap64 (x9_4 + 1))) = true := decide_eq_true c63
                                              by_cases c64 : (wrap64 (x9_4 + 1)) ≤ (((rd_T41 l1 x7_1).f2).size : Int)
                                              · rw [if_pos c64] at H
                                                have c64b0 := eq_true c64
                                                try (have c64b0x := c64b0; simp only [ByteArray.size_extract, Nat.min_self] at c64b0x; try have c64b0y := eq_true (of_decide_eq_true c64b0x))
                                                have c64b1 : decide ((wrap64 (x9_4 + 1)) ≤ (((rd_T41 l1 x7_1).f2).size : Int)) = true := decide_eq_true c64
                                                by_cases c65 : x6_4.size + (((rd_T41 l1 x7_1).f2).extract (x9_4 : Int).toNat ((wrap64 (x9_4 + 1)) : Int).toNat).size ≤ 9223372036854775807
                                                · rw [if_pos c65] at H
                                                  have c65b0 := eq_true c65
                                                  try (have c65b0x := c65b0; simp only [ByteArray.size_extract, Nat.min_self] at c65b0x; try have c65b0y := eq_true (of_decide_eq_true c65b0x))
                                                  have c65b1 : decide (x6_4.size + (((rd_T41 l1 x7_1).f2).extract (x9_4 : Int).toNat ((wrap64 (x9_4 + 1)) : Int).toNat).size ≤ 9223372036854775807) = true := decide_eq_true c65
                                                  try (have c65b1x := c65b1; simp only [ByteArray.size_extract, Nat.min_self] at c65b1x; try have c65b1y := eq_true (of_decide_eq_true c65b1x))
                                                  try have c65b2 : (9223372036854775807 < x6_4.size + (((rd_T41 l1 x7_1).f2).extract (x9_4 : Int).toNat ((wrap64 (x9_4 + 1)) : Int).toNat).size) = False := eq_false (Nat.not_lt.2 c65)
                                                  try (have c65b2x := c65b2; simp only [ByteArray.size_extract, Nat.min_self] at c65b2x; try have c65b2y := eq_true (of_decide_eq_true c65b2x))
                                                  have H' := Aside0.mk H
                                                  clear H
                                                  obtain ⟨hcz66_0, hcz66_1, hcz66_2, hfz66_0, hfz66_1, hfz66_2⟩ := bf3 BK115.out
                                                  have p46 : 0 ≤ (x9_4 : Int) := of_decide_eq_true (by first | (with_reducible assumption) | assumption)
                                                  have q46 : x9_4 < (((rd_T41 l1 x7_1).f2).size : Int) := of_decide_eq_true (by first | (with_reducible assumption) | assumption)
                                                  have hx46 := bt_at ((rd_T41 l1 x7_1).f2) x9_4
                                                  replace p46 := eq_true p46
                                                  replace q46 := eq_true q46
                                                  have p54 : 0 ≤ (x9_4 : Int) := of_decide_eq_true (by first | (with_reducible assumption) | assumption)
                                                  have q54 : x9_4 < (((rd_T41 l1 x7_1).f2).size : Int) := of_decide_eq_true (by first | (with_reducible assumption) | assumption)
                                                  have hx54 := bt_at ((rd_T41 l1 x7_1).f2) x9_4
                                                  replace p54 := eq_true p54
                                                  replace q54 := eq_true q54
                                                  go_wp2
                                                  go_roundg k4
                                                  case measure => have := HK1.out; have := HJ7.out; have := HJ24.out; have := HK4.out; omega
                                                  case rel => exact ⟨(x6_4 ++ (((rd_T41 l1 x7_1).f2).extract (x9_4 : Int).toNat ((wrap64 (x9_4 + 1)) : Int).toNat)), (wrap64 (x9_4 + 1)), (by first | with_reducible rfl | (simp; done) | rfl | (simp [*]; done)), (by first | with_reducible rfl | (simp; done) | rfl | (simp [*]; done)), H', ⟨by have := HK1.out; have := HJ7.out; have := HJ24.out; have := HK4.out; omega⟩, ⟨by (with_reducible repeat (first | refine blk_drewN ?_ _ | refine blk_drew ?_ | refine blk_alloc ?_ _)); exact BK115.out⟩, ⟨by repeat (first | (with_reducible first | exact HB.out | apply below_alloc | apply pw_below_drewN | apply below_drew1 | refine below_set ?_ GE115.out) | exact HB.out)⟩⟩
                                                · rw [if_neg c65] at H
                                                  exact absurd H (by simp)
                                              · rw [if_neg c64] at H
                                                exact absurd H (by simp)
                                            · rw [if_neg c63] at H
                                              exact absurd H (by simp)
                                      · rw [if_neg c45] at H
                                        exact absurd H (by simp)
                                    · rw [if_neg c44] at H
                                      have c44b0 : decide (x9_4 < (((rd_T41 l1 x7_1).f2).size : Int)) = false := decide_eq_false c44
                                      clear c44
                                      have H' := Aside0.mk H
                                      clear H
                                      obtain ⟨hcz67_0, hcz67_1, hcz67_2, hfz67_0, hfz67_1, hfz67_2⟩ := bf3 BK115.out
                                      go_wp2
                                      go_roundg k4
                                      case measure => have := HK1.out; have := HJ7.out; have := HJ24.out; have := HK4.out; omega
                                      case rel => exact ⟨(x6_4), (wrap64 (x7_1 + 1)), (by first | with_reducible rfl | (simp; done) | rfl | (simp [*]; done)), (by first | with_reducible rfl | (simp; done) | rfl | (simp [*]; done)), H', ⟨by have := HK1.out; have := HJ7.out; have := HJ24.out; have := HK4.out; omega⟩, ⟨by repeat (first | (with_reducible first | exact HB.out | apply below_alloc | apply pw_below_drewN | apply below_drew1 | refine below_set ?_ GE115.out) | exact HB.out)⟩⟩
                              · rw [if_neg c42] at H
                                have c42b0 : (((rd_T41 l1 x7_1).f0) == 3) = false := beq_eq_false_iff_ne.mpr c42
                                have c42b1 : (((rd_T41 l1 x7_1).f0) != 3) = true := bne_iff_ne.mpr c42
                                have H' := Aside0.mk H
                                clear H
                                obtain ⟨hcz68_0, hcz68_1, hcz68_2, hfz68_0, hfz68_1, hfz68_2⟩ := bf3 BK115.out
                                go_wp2
                                go_roundg kj24
                                case measure => have := HK1.out; have := HJ7.out; have := HJ24.out; omega
                                case rel => exact ⟨(x6_24), (wrap64 (x7_1 + 1)), (by first | with_reducible rfl | (simp; done) | rfl | (simp [*]; done)), (by first | with_reducible rfl | (simp; done) | rfl | (simp [*]; done)), H', ⟨by have := HK1.out; have := HJ7.out; have := HJ24.out; omega⟩, ⟨by repeat (first | (with_reducible first | exact HB.out | apply below_alloc | apply pw_below_drewN | apply below_drew1 | refine below_set ?_ GE115.out) | exact HB.out)⟩⟩
            · rw [if_neg c7] at H
              exact absurd H (by simp)
          · rw [if_neg c6] at H
            have c6b0 : decide (x7_1 < (l1.length : Int)) = false := decide_eq_false c6
            clear c6
            simp only [Option.some.injEq, Prod.mk.injEq] at H
            obtain ⟨rfl, rfl⟩ := H
            go_wp2
            go_ret2
            exact ⟨by first | rfl | (simp [errW_none, errW_some] <;> rfl) | (simp [*, errW_none, errW_some] <;> rfl), by repeat (first | (with_reducible first | exact HB.out | apply below_alloc | apply pw_below_drewN | apply below_drew1) | exact HB.out)⟩
    · rw [if_neg c5] at H
      have c5b0 : ((l1.length : Int) == (l0.length : Int)) = false := beq_eq_false_iff_ne.mpr c5
      have c5b1 : ((l1.length : Int) != (l0.length : Int)) = true := bne_iff_ne.mpr c5
      have c5b2 : (l1.length == l0.length) = false := by first | simpa using c5 | (simp at c5 ⊢; omega)
      simp only [Option.some.injEq, Prod.mk.injEq] at H
      obtain ⟨rfl, rfl⟩ := H
      go_enter Tryz.func9, Tryz.ntmps9
      go_wp2_with (first | ((with_reducible refine gate_callee (f := 19) rfl ?_); refine goesL_ (some 11) rfl rfl Tryz.func19 (by kernel_rfl) rfl #[.slice A0 l0.length c0] rfl (by (try simp only [List.map_toArray, List.map_cons, List.map_nil]); first | done | rfl | (simp only [List.length_drop, List.length_take]; rfl) | exact congrArg (fun x_ : Int => #[Value.int .u64 x_]) (show _ = _ % (18446744073709551616 : Int) by omega)) ?_; (with_reducible refine (headgateref12_Right.calls k _ _ l0 true _ ?side1 ?side2 A3.out).mono ?_); (case side1 => repeat (first | exact HR0.out | (with_reducible refine Kd.C_alloc ?_ _) | (with_reducible refine Kd.C_drewN ?_ _) | (with_reducible refine Kd.C_drew ?_))); (case side2 => exact HC0.out); rintro e w' ⟨rfl, ⟨nd, rfl⟩⟩; refine ⟨_, rfl, ?_⟩))
      go_ret2
      exact ⟨by first | rfl | (simp [errW_none, errW_some] <;> rfl) | (simp [*, errW_none, errW_some] <;> rfl), by repeat (first | (with_reducible first | exact HB.out | apply below_alloc | apply pw_below_drewN | apply below_drew1) | exact HB.out)⟩
  · replace c4 := Bool.eq_false_iff.mpr c4
    subst c4
    have H1 : (some ((⟨#[]⟩ : ByteArray), 120)) = some (r1, r2) := by rw [if_neg (show ¬ (false = true) by decide)] at H; exact H
    clear H
    have H := H1
    clear H1
    simp only [Option.some.injEq, Prod.mk.injEq] at H
    obtain ⟨rfl, rfl⟩ := H
    go_enter Tryz.func9, Tryz.ntmps9
    go_wp2_with (first | ((with_reducible refine gate_callee (f := 19) rfl ?_); refine goesL_ (some 11) rfl rfl Tryz.func19 (by kernel_rfl) rfl #[.slice A0 l0.length c0] rfl (by (try simp only [List.map_toArray, List.map_cons, List.map_nil]); first | done | rfl | (simp only [List.length_drop, List.length_take]; rfl) | exact congrArg (fun x_ : Int => #[Value.int .u64 x_]) (show _ = _ % (18446744073709551616 : Int) by omega)) ?_; (with_reducible refine (headgateref12_Right.calls k _ _ l0 false _ ?side1 ?side2 A3.out).mono ?_); (case side1 => repeat (first | exact HR0.out | (with_reducible refine Kd.C_alloc ?_ _) | (with_reducible refine Kd.C_drewN ?_ _) | (with_reducible refine Kd.C_drew ?_))); (case side2 => exact HC0.out); rintro e w' ⟨rfl, ⟨nd, rfl⟩⟩; refine ⟨_, rfl, ?_⟩))
    go_ret2
    exact ⟨by first | rfl | (simp [errW_none, errW_some] <;> rfl) | (simp [*, errW_none, errW_some] <;> rfl), by repeat (first | (with_reducible first | exact HB.out | apply below_alloc | apply pw_below_drewN | apply below_drew1) | exact HB.out)⟩

end Go.Proofs.YtnjlgeenhmamjaaGreatDoor.Q
