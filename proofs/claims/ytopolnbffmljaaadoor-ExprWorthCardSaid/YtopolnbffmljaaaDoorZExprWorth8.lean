/- Texts of the claim, put together. -/
import Derived.Test.YtopolnbffmljaaaDoorZExprWorth6
import Derived.Test.YtopolnbffmljaaaDoorZExprWorth4
import Derived.Lib.Strings
import Derived.Test.YtopolnbffmljaaaDoorZExprWorth7
namespace Go.Proofs.YtopolnbffmljaaaDoor.U8
def fB (n m : Nat) : Array Bool := ((List.range n).map (Nat.testBit m)).toArray
end Go.Proofs.YtopolnbffmljaaaDoor.U8
open Go.Proofs.YtopolnbffmljaaaDoor.U8
open Go.RowKit Go.Proofs.YtopolnbffmljaaaDoorW.PrintWords Go.Proofs.YtopolnbffmljaaaDoorW.PrintLast Go.Proofs.YtopolnbffmljaaaDoorW.PrintMore
set_option linter.unusedVariables false
set_option linter.unusedSimpArgs false
open List renaming setIfInBounds_toArray → zA, set_cons_zero → zB, set_cons_succ → zC
namespace Go.Proofs.YtopolnbffmljaaaDoor.Q
theorem toList_inj {s t : ByteArray} (h : s.toList = t.toList) : s = t := by
 rw [Lib.toList_data, Lib.toList_data] at h
 exact ByteArray.ext (Array.ext' h)
theorem toList_beq (s t : ByteArray) : (s.toList == t.toList) = decide (s = t) := by
 by_cases h : s = t
 ·subst h; simp
 ·rw [decide_eq_false h]
  exact beq_eq_false_iff_ne.2 (fun e => h (toList_inj e))
abbrev Co := S58
def findN (name : ByteArray) : List Co → Int → Int
 | [], _ => -1
 | c :: r, i => if c.f0 = name then i else findN name r (i + 1)
theorem findN_le (name : ByteArray) : ∀ (l : List Co) (i : Int), 0 ≤ i → findN name l i = -1 ∨ (i ≤ findN name l i ∧ findN name l i < i + l.length)
 | [], i, _ => .inl rfl
 | c :: r, i, h => by
  unfold findN
  split
  ·right; simp only [List.length_cons]; omega
  ·rcases findN_le name r (i + 1) (by omega) with h1 | h1
   ·exact .inl h1
   ·right; simp only [List.length_cons]; omega
theorem co_drop (l : List Co) (i : Nat) (h : i < l.length) : l.drop i = rd_T58 l (i : Int) :: l.drop (i + 1) := by
 rw [List.drop_eq_getElem_cons h]
 unfold rd_T58
 rw [Int.toNat_natCast, List.getD_eq_getElem?_getD, List.getElem?_eq_getElem h]
 rfl
set_option maxHeartbeats 4000000 in
set_option maxRecDepth 100000 in
theorem find1_calls (s name : ByteArray) (n : Int) (p : Nat) (w : World) (hp : w.heap[p]? = some (.cells #[.string name] 9 (0, 0))) :
  Calls Tryd.prog 81 #[.agg #[.string s, .int .i64 n], .pointer (some ⟨p, 0, none⟩)] w fun e w' => e = .returned (.bool (decide (s = name))) ∧ Below w.heap.size w w' := by
 have hlt := blk_lt hp
 have cp : (w.alloc (.cells #[.string s, .int .i64 n] 58)).cell? ⟨p, 0, none⟩ = some (.string name) := (blk_cell (blk_alloc hp _) 0).trans rfl
 have fp := blk_frozen (blk_alloc hp (.cells #[.string s, .int .i64 n] 58)) 0
 have HB := Aside0.mk (below_alloc (Below.refl w.heap.size w) (.cells #[.string s, .int .i64 n] 58))
 clear hp
 go_enter Tryd.func81, Tryd.ntmps81
 go_wp2
 rw [toList_beq]
 first | exact ⟨rfl, HB.out⟩ | (go_ret; exact ⟨by first | rfl | rw [toList_beq], HB.out⟩)
set_option maxHeartbeats 4000000 in
set_option maxRecDepth 100000 in
theorem idx_calls (A : Option Addr) (c : Nat) (l : List Co) (name : ByteArray) (p : Nat) (w0 w : World) (hr : Kd.C k58 w0 A l.length l) (hn : l.length ≤ 140737488355328) (hb0 : Below w0.heap.size w0 w) (hp : w.heap[p]? = some (.cells #[.string name] 9 (0, 0))) :
  Calls Tryd.prog 80 #[.slice A l.length c, .func (.func 81) #[] #[.pointer (some ⟨p, 0, none⟩)]] w fun e w' => e = .returned (.int .i64 (findN name l 0)) ∧ Below w.heap.size w w' := by
 have HR := Aside0.mk hr
 have HP := Aside0.mk hp
 have HB0 := Aside0.mk hb0
 clear hr hp hb0
 go_enter Tryd.func80, Tryd.ntmps80
 go_wp2
 go_loopg [8] l.length (fun kq v8 wr => ∃ (i : Nat), v8 = .int .i64 i ∧ Aside0 (i + kq = l.length) ∧ Aside0 (findN name (l.drop i) i = findN name l 0) ∧ Aside0 (Below w.heap.size w wr))
 case atStart => exact ⟨0, rfl, ⟨by omega⟩, ⟨rfl⟩, ⟨Below.refl _ _⟩⟩
 case round =>
  obtain ⟨i, rfl, HI, HF, HB⟩ := hrel
  cases gk with
  | zero =>
   have hi : i = l.length := HI.out
   have hlb : decide ((i : Int) < (l.length : Int)) = false := decide_eq_false (by omega)
   have hlb2 : decide (i < l.length) = false := decide_eq_false (by omega)
   have HE : Aside0 ((-1 : Int) = findN name l 0) := ⟨by rw [← HF.out, hi, List.drop_length]; rfl⟩
   clear hi HI HF
   go_wp2
   first | exact ⟨by first | (rw [← HE.out]; rfl) | (rw [hR, ← HE.out]; rfl), HB.out⟩ | (go_ret; exact ⟨by first | (rw [← HE.out]; rfl) | (rw [hR, ← HE.out]; rfl), HB.out⟩)
  | succ k1 =>
   have hlt : i < l.length := by have := HI.out; omega
   have hlb : decide ((i : Int) < (l.length : Int)) = true := decide_eq_true (by omega)
   have hlb2 : decide (i < l.length) = true := decide_eq_true hlt
   have hw1 : wrap64 ((i : Int) + 1) = (i : Int) + 1 := wrap_in (by unfold in64; omega)
   obtain ⟨ad, rfl, x0, x1⟩ := at_T58 (Kd.C_below HR.out (below_step HB0.out HB.out)) (i : Int) (by omega) (by omega)
   have hd := co_drop l i hlt
   have hF := HF.out
   rw [hd] at hF
   obtain ⟨R, hR⟩ : ∃ R, findN name l 0 = R := ⟨_, rfl⟩
   rw [hR] at hF
   have hG : findN name (rd_T58 l (i : Int) :: l.drop (i + 1)) i = if (rd_T58 l (i : Int)).f0 = name then (i : Int) else findN name (l.drop (i + 1)) (i + 1) := rfl
   rw [hG] at hF
   clear hG
   rw [Int.toNat_natCast] at x0 x1
   generalize rd_T58 l (i : Int) = y at x0 x1 hF
   obtain ⟨s, n⟩ := y
   simp only at x0 x1 hF
   have hcall := find1_calls s name n p wr (blk_below HP.out HB.out)
   clear hd HF
   by_cases hs : s = name
   ·rw [if_pos hs] at hF
    have hd1 : decide (s = name) = true := decide_eq_true hs
    rw [hd1] at hcall
    have HE := Aside0.mk hF
    clear hF hs hd1
    go_wp2_with (go_at_call 81; refine hcall.mono ?_; rintro e w2 ⟨rfl, hb2⟩; have HB2 := Aside0.mk (below_step HB.out hb2); clear hb2 hcall)
    first | exact ⟨by first | (rw [← HE.out]; rfl) | (rw [hR, ← HE.out]; rfl), HB2.out⟩ | (go_ret; exact ⟨by first | (rw [← HE.out]; rfl) | (rw [hR, ← HE.out]; rfl), HB2.out⟩)
   ·rw [if_neg hs] at hF
    have hd1 : decide (s = name) = false := decide_eq_false hs
    rw [hd1] at hcall
    have HE := Aside0.mk hF
    clear hF hs hd1
    go_wp2_with (go_at_call 81; refine hcall.mono ?_; rintro e w2 ⟨rfl, hb2⟩; have HB2 := Aside0.mk (below_step HB.out hb2); clear hb2 hcall)
    go_roundg k1
    case measure => omega
    case rel => exact ⟨i + 1, by congr 1, ⟨by have := HI.out; omega⟩, ⟨by rw [hR, ← HE.out, show ((i + 1 : Nat) : Int) = (i : Int) + 1 by omega]⟩, HB2⟩
def decode_Find.f (l0 : List Co) (a1 : ByteArray) : Option (Int × Bool) := if l0.length ≤ 140737488355328 then some ((if findN a1 l0 0 < 0 then 0 else findN a1 l0 0), decide (findN a1 l0 0 ≥ 0)) else none
attribute [local go_sem] max2_int max_two
set_option maxHeartbeats 4000000 in
set_option maxRecDepth 100000 in
theorem decode_Find.calls (A0 : Option Addr) (c0 : Nat) (l0 : List Co) (a1 : ByteArray) (r1 : Int) (r2 : Bool) (w : World) (hr0 : Kd.C k58 w A0 l0.length l0) (hc0 : l0.length ≤ c0) (h : decode_Find.f l0 a1 = some (r1, r2)) :
  Calls Tryd.prog 52 #[.slice A0 l0.length c0, .string a1] w fun e w' => e = .returned (.tuple #[.int .i64 r1, .bool r2]) ∧ Below w.heap.size w w' := by
 unfold decode_Find.f at h
 split at h
 ·rename_i hn
  have h1 := Option.some.inj h
  injection h1 with e1 e2
  have hcall := idx_calls A0 c0 l0 a1 w.heap.size w (w.alloc (.cells #[.string a1] 9)) hr0 hn (below_alloc (Below.refl _ _) _) (blk_new w _)
  have HB := Aside0.mk (below_alloc (Below.refl w.heap.size w) (.cells #[.string a1] 9))
  clear hr0 h
  generalize findN a1 l0 0 = z at hcall e1 e2
  subst e1 e2
  go_enter Tryd.func52, Tryd.ntmps52
  go_wp2_with (go_at_call 80; refine hcall.mono ?_; rintro e w2 ⟨rfl, hb2⟩; have HB2 := Aside0.mk (below_step HB.out hb2); clear hb2 hcall)
  all_goals (first | exact ⟨rfl, HB2.out⟩ | (go_ret2; exact ⟨rfl, HB2.out⟩) | (go_ret; exact ⟨rfl, HB2.out⟩))
 ·cases h
end Go.Proofs.YtopolnbffmljaaaDoor.Q
namespace Go.Proofs.YtopolnbffmljaaaDoor.Q
attribute [local go_sem] max2_int min2_int max_two min_two max_three min_three max_four min_four   -- for this text's walks alone
mutual
def decode_Check.j0 : Nat → List (S58) → Bool → Option (Int)
 | 0, _, _ => none
 | k + 1, x0, x14 => if x14 = true then (some 120) else (decode_Check.l0 k x0 x0 (x0.length : Int) 0)
def decode_Check.l0 : Nat → List (S58) → List (S58) → Int → Int → Option (Int)
 | 0, _, _, _, _ => none
 | k + 1, x0, x15, x16, x17 => if x17 < x16 then (if 0 ≤ x17 then (if x17 < (x15.length : Int) then (if x17 ≤ (x0.length : Int) then ((decode_Find.f (x0.take (x17 : Int).toNat) ((rd_T58 x15 x17).f0)).bind fun bt107 => (if bt107.2 = true then (decode_Check.j2 k x0 x15 x16 x17 true) else ((decode_Name.f k ((rd_T58 x15 x17).f0)).bind fun t109 => (if t109 = true then (if ((rd_T58 x15 x17).f1) < 1 then (decode_Check.j2 k x0 x15 x16 x17 true) else (decode_Check.j2 k x0 x15 x16 x17 (decide (((rd_T58 x15 x17).f1) > 3)))) else (decode_Check.j2 k x0 x15 x16 x17 true))))) else (none)) else (none)) else (none)) else (some 0)
def decode_Check.j2 : Nat → List (S58) → List (S58) → Int → Int → Bool → Option (Int)
 | 0, _, _, _, _, _ => none
 | k + 1, x0, x15, x16, x17, x47 => if x47 = true then (some 120) else (decode_Check.l0 k x0 x15 x16 (wrap64 (x17 + 1)))
end
def decode_Check.f (k : Nat) (l0 : List (S58)) : Option (Int) := if (l0.length : Int) < 1 then (decode_Check.j0 k l0 true) else (decode_Check.j0 k l0 (decide ((l0.length : Int) > 12)))
def decode_Check.T6 : Bool × List (List Nat × List Nat) := (true, [([], []), ([], []), ([0, 1], [0, 1]), ([], []), ([3], [3]), ([2, 4], [2, 4]), ([5], [5]), ([6], [6]), ([6], [6]), ([7, 5, 0, 1, 2, 3, 4, 5, 6, 7], [7]), ([8, 9, 0, 1, 2, 3, 4, 5, 6, 7, 8, 9], [8])])
def decode_Check.B6 : List Nat := [0, 0, 3, 0, 8, 31, 63, 127, 127, 255, 1023]
theorem decode_Check.tab6 : rtab .any (opsOf Tryd.f32 6) = decode_Check.T6 := by kernel_rfl
theorem decode_Check.bits6 : waitsOk decode_Check.T6.2 decode_Check.B6 = true := by kernel_rfl
set_option maxHeartbeats 8000000 in
set_option maxRecDepth 100000 in
theorem decode_Check.calls (k : Nat) (A0 : Option Addr) (c0 : Nat) (l0 : List (S58)) (r : Int) (w : World) (hr0 : Kd.C k58 w A0 l0.length l0) (hc0 : l0.length ≤ c0) (h : decode_Check.f k l0 = some r) :
  Calls Tryd.prog 32 #[.slice A0 l0.length c0] w fun e w' => e = .returned (.int .i64 r) ∧ Below w.heap.size w w' := by
 have hu58 := Tryd.underlying58
 have HR0 := Aside0.mk hr0
 have HC0 := Aside0.mk hc0
 clear hr0 hc0
 have HB := Aside0.mk (Below.refl w.heap.size w)
 have H : (if (l0.length : Int) < 1 then (decode_Check.j0 k l0 true) else (decode_Check.j0 k l0 (decide ((l0.length : Int) > 12)))) = some r := h
 clear h
 have HC2 := Aside0.mk H
 clear H
 go_enter Tryd.func32, Tryd.ntmps32
 go_upto_region 1 with (fail)
 go_cut [14] (fun v14 wc => ∃ (kq : Nat) (x14_1 : Bool), v14 = .bool x14_1 ∧ Aside0 (decode_Check.j0 kq l0 x14_1 = some r) ∧ Aside0 (kq ≤ k) ∧ Aside0 (Below w.heap.size w wc))
 case first =>
  have H := HC2.out
  clear HC2
  by_cases c3 : (l0.length : Int) < 1
  ·rw [if_pos c3] at H
   have c3b0 : decide ((l0.length : Int) < 1) = true := decide_eq_true c3
   have c3b1 : decide (l0.length < 1) = true := decide_eq_true (by omega)
   clear c3
   (first | rw [c3b0] | (simp only [i64_w, i32_w]; rw [c3b0]) | skip)
   have H' := Aside0.mk H
   clear H
   go_wp2
   go_meet
   case rel => exact ⟨_, (true), (by first | rfl | (simp; done) | (simp [*]; done) | (simp; rw [Bool.eq_iff_iff]; simp; done)), H', ⟨by first | omega | exact Nat.le_refl _⟩, ⟨by repeat (first | (with_reducible first | exact HB.out | apply below_alloc | apply pw_below_drewN | apply below_drew1) | exact HB.out)⟩⟩
  ·rw [if_neg c3] at H
   have c3b0 : decide ((l0.length : Int) < 1) = false := decide_eq_false c3
   have c3b1 : decide (l0.length < 1) = false := decide_eq_false (by omega)
   clear c3
   (first | rw [c3b0] | (simp only [i64_w, i32_w]; rw [c3b0]) | skip)
   have H' := Aside0.mk H
   clear H
   go_wp2
   go_meet
   case rel => exact ⟨_, (decide ((l0.length : Int) > 12)), (by first | rfl | (simp; done) | (simp [*]; done) | (simp; rw [Bool.eq_iff_iff]; simp; done)), H', ⟨by first | omega | exact Nat.le_refl _⟩, ⟨by repeat (first | (with_reducible first | exact HB.out | apply below_alloc | apply pw_below_drewN | apply below_drew1) | exact HB.out)⟩⟩
 case rest =>
  clear HC2
  try clear p2
  try clear c3
  try clear c3b0
  try clear c3b1
  obtain ⟨kq, x14_1, rfl, HA, HJ1, HB⟩ := hcut
  cases kq with
  | zero => exact absurd HA.out (by simp [decode_Check.j0])
  | succ kj1 =>
   have H := HA.out
   clear HA
   simp only [decode_Check.j0] at H
   by_cases c4 : x14_1 = true
   ·subst c4
    have H1 : (some 120) = some r := by rw [if_pos rfl] at H; exact H
    clear H
    have H := H1
    clear H1
    obtain rfl := Option.some.inj H
    go_wp2
    go_ret
    exact ⟨by first | rfl | (simp [errW_none, errW_some] <;> rfl) | (simp [*, errW_none, errW_some] <;> rfl), by repeat (first | (with_reducible first | exact HB.out | apply below_alloc | apply pw_below_drewN | apply below_drew1) | exact HB.out)⟩
   ·replace c4 := Bool.eq_false_iff.mpr c4
    subst c4
    have H1 : (decode_Check.l0 kj1 l0 l0 (l0.length : Int) 0) = some r := by rw [if_neg (show ¬ (false = true) by decide)] at H; exact H
    clear H
    have H := H1
    clear H1
    have H' := Aside0.mk H
    clear H
    go_wp2
    go_loopg [17] kj1 (fun kq v17 w' => ∃ (x17_2 : Int), v17 = .int .i64 x17_2 ∧ Aside0 (decode_Check.l0 kq l0 l0 (l0.length : Int) x17_2 = some r) ∧ Aside0 (kq ≤ kj1) ∧ Aside0 (Below w.heap.size w w'))
    case atStart => exact ⟨(0), (by first | rfl | (simp; done) | (simp [*]; done) | (simp; rw [Bool.eq_iff_iff]; simp; done)), H', ⟨Nat.le_refl _⟩, ⟨by repeat (first | (with_reducible first | exact HB.out | apply below_alloc | apply pw_below_drewN | apply below_drew1) | exact HB.out)⟩⟩
    case round =>
     clear H'
     try clear p2
     try clear c3
     try clear c3b0
     try clear c3b1
     try clear c4
     try clear p2
     obtain ⟨x17_2, rfl, HA, HK2, HB⟩ := hrel
     cases gk with
     | zero => exact absurd HA.out (by simp [decode_Check.l0])
     | succ k2 =>
      have H := HA.out
      clear HA
      simp only [decode_Check.l0] at H
      by_cases c5 : x17_2 < (l0.length : Int)
      ·rw [if_pos c5] at H
       have c5b0 : decide (x17_2 < (l0.length : Int)) = true := decide_eq_true c5
       clear c5
       by_cases c6 : 0 ≤ x17_2
       ·rw [if_pos c6] at H
        have c6b0 : decide (0 ≤ x17_2) = true := decide_eq_true c6
        clear c6
        by_cases c7 : x17_2 < (l0.length : Int)
        ·rw [if_pos c7] at H
         have c7b0 : decide (x17_2 < (l0.length : Int)) = true := decide_eq_true c7
         clear c7
         have c8b0 := eq_true (of_decide_eq_true (by first | (with_reducible assumption) | assumption) : 0 ≤ x17_2)
         by_cases c9 : x17_2 ≤ (l0.length : Int)
         ·rw [if_pos c9] at H
          have c9b0 := eq_true c9
          have c9b1 : decide (x17_2 ≤ (l0.length : Int)) = true := decide_eq_true c9
          clear c9
          obtain ⟨y103, hy103⟩ : ∃ y_ : List (S58), y_ = (l0.take (x17_2 : Int).toNat) := ⟨_, rfl⟩
          replace H : ((decode_Find.f y103 ((rd_T58 l0 x17_2).f0)).bind fun bt107 => (if bt107.2 = true then (decode_Check.j2 k2 l0 l0 (l0.length : Int) x17_2 true) else ((decode_Name.f k2 ((rd_T58 l0 x17_2).f0)).bind fun t109 => (if t109 = true then (if ((rd_T58 l0 x17_2).f1) < 1 then (decode_Check.j2 k2 l0 l0 (l0.length : Int) x17_2 true) else (decode_Check.j2 k2 l0 l0 (l0.length : Int) x17_2 (decide (((rd_T58 l0 x17_2).f1) > 3)))) else (decode_Check.j2 k2 l0 l0 (l0.length : Int) x17_2 true))))) = some r := by first | (rw [hy103]; with_reducible exact H) | (have H2_ := (Option.bind_some _ _).symm.trans H; rw [hy103]; with_reducible exact H2_) | (have H2_ := (Option.bind_some _ _).symm.trans H; with_reducible exact H2_) | with_reducible exact H | (rw [hy103]; exact H) | exact H
          have Ny103 := Aside0.mk hy103
          clear hy103
          replace H := Option.bind_eq_some_iff.mp H
          obtain ⟨⟨t107, t108⟩, A100, H⟩ := H
          replace H : (if t108 = true then (decode_Check.j2 k2 l0 l0 (l0.length : Int) x17_2 true) else ((decode_Name.f k2 ((rd_T58 l0 x17_2).f0)).bind fun t109 => (if t109 = true then (if ((rd_T58 l0 x17_2).f1) < 1 then (decode_Check.j2 k2 l0 l0 (l0.length : Int) x17_2 true) else (decode_Check.j2 k2 l0 l0 (l0.length : Int) x17_2 (decide (((rd_T58 l0 x17_2).f1) > 3)))) else (decode_Check.j2 k2 l0 l0 (l0.length : Int) x17_2 true)))) = some r := H
          have A10 := Aside0.mk A100
          clear A100
          have HC11 := Aside0.mk H
          clear H
          have p101 : 0 ≤ (x17_2 : Int) := of_decide_eq_true (by first | (with_reducible assumption) | assumption)
          have q101 : x17_2 < (l0.length : Int) := of_decide_eq_true (by first | (with_reducible assumption) | assumption)
          obtain ⟨ad101, e101, hx101_0, hx101_1⟩ := at_T58 HR0.out x17_2 p101 q101
          cases e101
          replace hx101_0 := (HB.out.cell (World.block_lt_of_cell? w _ hx101_0)).trans hx101_0
          replace hx101_1 := (HB.out.cell (World.block_lt_of_cell? w _ hx101_1)).trans hx101_1
          replace p101 := eq_true p101
          replace q101 := eq_true q101
          try go_wp2_with (first | ((with_reducible refine gate_dst (N := 4) rfl ?_); (try (refine gate_guard (by rfl) ?_; dsimp only)); refine box_event ?hg (N := 4) ?hd (cs := #[.string (⟨#[]⟩ : ByteArray), .int .i64 0]) (t := 58) ?hr ?_; (case hd => rfl); (case hg => rfl); (case hr => first | (go_simp; done) | (go_simp; rfl)); intro gb102 hg w12 hbox hb; have n0_ := Aside0.mk (below_step (by repeat (first | (with_reducible first | exact HB.out | apply below_alloc | apply pw_below_drewN | apply below_drew1) | exact HB.out)) hb); have n1_ := Aside0.mk (hbox); have n2_ := Aside0.mk ((by rw [hg]; exact (below_size (by repeat (first | (with_reducible first | exact HB.out | apply below_alloc | apply pw_below_drewN | apply below_drew1) | exact HB.out))) : w.heap.size ≤ gb102)); have n3_ := Aside0.mk ((by rw [hg]; exact (below_size (by repeat (first | (with_reducible first | exact HB.out | apply below_alloc | apply pw_below_drewN | apply below_drew1) | exact HB.out))) : w.heap.size ≤ gb102)); clear HB; have HB := n0_; have BK102 := n1_; have GW102 := n2_; have GE102 := n3_; clear n0_ n1_ n2_ n3_; clear hb hbox hg; obtain ⟨hcz13_0, hcz13_1, hfz13_0, hfz13_1⟩ := bf2 BK102.out))
          have n0_ : Aside0 (((w12.setCell ⟨gb102, 0, none⟩ (.string ((rd_T58 l0 x17_2).f0))).setCell ⟨gb102, 1, none⟩ (.int .i64 ((rd_T58 l0 x17_2).f1))).heap[gb102]? = some (.cells #[.string ((rd_T58 l0 x17_2).f0), .int .i64 ((rd_T58 l0 x17_2).f1)] 58 (0, 0))) := ⟨by (with_reducible repeat (first | refine blk_drewN ?_ _ | refine blk_drew ?_ | refine blk_alloc ?_ _)); refine blk_put (cs := #[.string ((rd_T58 l0 x17_2).f0), .int .i64 0]) ?_ 1 _ rfl; (with_reducible repeat (first | refine blk_drewN ?_ _ | refine blk_drew ?_ | refine blk_alloc ?_ _)); refine blk_put (cs := #[.string (⟨#[]⟩ : ByteArray), .int .i64 0]) ?_ 0 _ rfl; (with_reducible repeat (first | refine blk_drewN ?_ _ | refine blk_drew ?_ | refine blk_alloc ?_ _)); exact BK102.out⟩
          have n1_ : Aside0 (Below w.heap.size w ((w12.setCell ⟨gb102, 0, none⟩ (.string ((rd_T58 l0 x17_2).f0))).setCell ⟨gb102, 1, none⟩ (.int .i64 ((rd_T58 l0 x17_2).f1)))) := ⟨by repeat (first | (with_reducible first | exact HB.out | apply below_alloc | apply pw_below_drewN | apply below_drew1 | refine below_set ?_ GE102.out) | exact HB.out)⟩
          (try clear BK102)
          (try clear HB)
          generalize ((w12.setCell ⟨gb102, 0, none⟩ (.string ((rd_T58 l0 x17_2).f0))).setCell ⟨gb102, 1, none⟩ (.int .i64 ((rd_T58 l0 x17_2).f1))) = w14 at n0_ n1_ ⊢
          have BK102 := n0_
          have HB := n1_
          clear n0_ n1_
          have n0_ := Aside0.mk (blk_drew BK102.out)
          have n1_ := Aside0.mk (below_drew1 HB.out)
          clear BK102
          clear HB
          have BK102 := n0_
          have HB := n1_
          clear n0_ n1_
          have q16 : (x17_2 : Int) ≤ ((l0.length : Int) : Int) := of_decide_eq_true (by first | (with_reducible assumption) | assumption)
          obtain ⟨i016, hi016, _, hsz16, _⟩ := info_parts info58
          have hroom16 : l0.length ≤ c0 := HC0.out
          have hC16 : Kd.C k58 _ (some ad101) l0.length l0 := HR0.out
          have hcut16 := cut_to (P := Tryd.prog) 27 58 .i64 Tryd.underlying27 hi016 (some ad101) l0.length c0 x17_2 (of_decide_eq_true (by first | (with_reducible assumption) | assumption)) q16 hroom16
          have hr16 := Kd.C_take (m := (x17_2 : Int).toNat) hC16 (by omega)
          have hy16 : y103.length = (x17_2 : Int).toNat := (by rw [Ny103.out, List.length_take]; omega)
          rw [← Ny103.out] at hr16
          rw [← hy16] at hcut16
          have HR106 := Aside0.mk hr16
          have HC106 := Aside0.mk (show y103.length ≤ c0 from by omega)
          clear hr16 hC16 hroom16 hi016 hsz16
          have KY16 := Aside0.mk hy16
          clear hy16
          replace q16 := eq_true q16
          refine start_ (n := 11) (S := fun w' => w'.cell? ⟨gb102, 0, none⟩ = some (.string ((rd_T58 l0 x17_2).f0)) ∧ w'.cell? ⟨gb102, 1, none⟩ = some (.int .i64 ((rd_T58 l0 x17_2).f1))) (ds := []) (fB 11 0) (by kernel_rfl) rfl rfl ⟨(blk_cell BK102.out 0).trans rfl, (blk_cell BK102.out 1).trans rfl⟩ (fun hHeld => ?_); refine with_tabW decode_Check.tab6 decode_Check.bits6 (fun HT_ HW_ => ?_)
          generalize w14.drew = w15 at BK102 HB HR106 hHeld ⊢
          refine pure_ (i := 0) (N := some 23) (v := ?_) (a' := ?_) (fB 11 1) rfl rfl (any_of HT_.out (by kernel_rfl)) (fun _ _ _ h => h) (Or.inl ⟨by rfl, by intro w'; go_simp; with_reducible rfl⟩) (by simp only [Act.put, zA, zB, zC, i64_w, i32_w]; rfl) ?_
          refine pure_ (i := 1) (N := some 24) (v := ?_) (a' := ?_) (fB 11 3) rfl rfl (any_of HT_.out (by kernel_rfl)) (fun _ _ _ h => h) (Or.inl ⟨by rfl, by intro w'; go_simp; with_reducible rfl⟩) (by simp only [Act.put, zA, zB, zC, i64_w, i32_w]; rfl) ?_
          refine pure_ (i := 2) (N := some 25) (v := ?_) (a' := ?_) (fB 11 7) rfl rfl (any_of HT_.out (by kernel_rfl)) (fun _ _ _ h => h) (Or.inl ⟨by rfl, by intro w'; go_simp; with_reducible rfl⟩) (by simp only [Act.put, zA, zB, zC, i64_w, i32_w]; rfl) ?_
          refine pure_ (i := 3) (N := some 26) (v := ?_) (a' := ?_) (fB 11 15) rfl rfl (any_of HT_.out (by kernel_rfl)) (fun _ _ _ h => h) (Or.inl ⟨by rfl, by intro w'; go_simp; with_reducible rfl⟩) (by simp only [Act.put, zA, zB, zC, i64_w, i32_w]; rfl) ?_
          refine take_ (i := 4) (N := some 27) (v := ?_) (a' := ?_) (fB 11 31) rfl rfl (take_ofW HT_.out HW_.out (by kernel_rfl)) (fun _ _ _ h => h) (Or.inl ⟨by rfl, by rintro w' ⟨s0, s1⟩; go_simp; with_reducible rfl⟩) hHeld (by simp only [Act.put, zA, zB, zC, i64_w, i32_w]; rfl) ?_
          refine one_ (i := 5) (N := some 28) (fB 11 63) rfl rfl (one_of HT_.out (by kernel_rfl)) (by decide) (fun K hK => ?_)
          refine goes_ Tryd.func52 (by kernel_rfl) rfl #[.slice (some ad101) y103.length c0, .string ((rd_T58 l0 x17_2).f0)] (by rfl) rfl rfl (by (try simp only [List.map_toArray, List.map_cons, List.map_nil]); first | done | rfl | (simp only [List.length_drop, List.length_take]; rfl) | exact congrArg (fun x_ : Int => #[Value.int .u64 x_]) (show _ = _ % (18446744073709551616 : Int) by omega)) ?_
          with_reducible refine (decode_Find.calls _ _ y103 ((rd_T58 l0 x17_2).f0) t107 t108 _ ?side1 ?side2 A10.out).mono ?_
          (case side1 => repeat (first | exact (Kd.C_below HR106.out HB.out) | (with_reducible refine Kd.C_alloc ?_ _) | (with_reducible refine Kd.C_drewN ?_ _) | (with_reducible refine Kd.C_drew ?_)))
          (case side2 => exact HC106.out)
          rintro e w17 ⟨rfl, hb⟩
          refine ⟨_, rfl, ?_⟩
          have n0_ := Aside0.mk (blk_below (g := gb102) (o := .cells #[.string ((rd_T58 l0 x17_2).f0), .int .i64 ((rd_T58 l0 x17_2).f1)] 58 (0, 0)) (by (with_reducible repeat (first | refine blk_drewN ?_ _ | refine blk_drew ?_ | refine blk_alloc ?_ _)); exact BK102.out) hb)
          have n1_ := Aside0.mk (below_step (by repeat (first | (with_reducible first | exact HB.out | apply below_alloc | apply pw_below_drewN | apply below_drew1 | refine below_set ?_ GE102.out) | exact HB.out)) hb)
          clear BK102
          clear HB
          have BK102 := n0_
          have HB := n1_
          clear n0_ n1_
          (try clear hb)
          (try clear hb2)
          (try clear hk)
          (try clear hi)
          refine hK.out _ _ ⟨(blk_cell BK102.out 0).trans rfl, (blk_cell BK102.out 1).trans rfl⟩ (fun hHeld => ?_)
          clear hK K
          refine norm_ (a' := ?_) ?_ ?_
          rotate_left
          ·show Act.put _ (some 28) _ = _
           simp only [Act.put, zA, zB, zC, i64_w, i32_w]
           rfl
          refine pure_ (i := 6) (N := some 22) (v := ?_) (a' := ?_) (fB 11 127) rfl rfl (any_of HT_.out (by kernel_rfl)) (fun _ _ _ h => h) (Or.inl ⟨by rfl, by intro w'; go_simp; with_reducible rfl⟩) (by simp only [Act.put, zA, zB, zC, i64_w, i32_w]; rfl) ?_
          refine pure_ (i := 7) (N := some 29) (v := ?_) (a' := ?_) (fB 11 255) rfl rfl (any_of HT_.out (by kernel_rfl)) (fun _ _ _ h => h) (Or.inl ⟨by rfl, by intro w'; go_simp; with_reducible rfl⟩) (by simp only [Act.put, zA, zB, zC, i64_w, i32_w]; rfl) ?_
          refine pure_ (i := 8) (N := some 30) (v := ?_) (a' := ?_) (fB 11 511) rfl rfl (any_of HT_.out (by kernel_rfl)) (fun _ _ _ h => h) (Or.inl ⟨by rfl, by intro w'; go_simp; with_reducible rfl⟩) (by simp only [Act.put, zA, zB, zC, i64_w, i32_w]; rfl) ?_
          refine pure_ (i := 9) (N := some 5) (v := ?_) (a' := ?_) (fB 11 1023) rfl rfl (any_of HT_.out (by kernel_rfl)) (fun _ _ _ h => h) (Or.inl ⟨by rfl, by intro w'; go_simp; with_reducible rfl⟩) (by simp only [Act.put, zA, zB, zC, i64_w, i32_w]; rfl) ?_
          refine pure_ (i := 10) (N := some 6) (v := ?_) (a' := ?_) (fB 11 2047) rfl rfl (any_of HT_.out (by kernel_rfl)) (fun _ _ _ h => h) (Or.inl ⟨by rfl, by intro w'; go_simp; with_reducible rfl⟩) (by simp only [Act.put, zA, zB, zC, i64_w, i32_w]; rfl) ?_
          refine done_ (done_of HT_.out (by kernel_rfl)) ?_
          go_upto_region 7 with (fail)
          go_cut [47] (fun v47 wc => ∃ (kq : Nat) (x47_10 : Bool), v47 = .bool x47_10 ∧ Aside0 (decode_Check.j2 kq l0 l0 (l0.length : Int) x17_2 x47_10 = some r) ∧ Aside0 (kq ≤ k2) ∧ Aside0 (wc.heap[gb102]? = some (.cells #[.string ((rd_T58 l0 x17_2).f0), .int .i64 ((rd_T58 l0 x17_2).f1)] 58 (0, 0))) ∧ Aside0 (Below w.heap.size w wc))
          case first =>
           have H := HC11.out
           clear HC11
           by_cases c18 : t108 = true
           ·subst c18
            have H1 : (decode_Check.j2 k2 l0 l0 (l0.length : Int) x17_2 true) = some r := by rw [if_pos rfl] at H; exact H
            clear H
            have H := H1
            clear H1
            have H' := Aside0.mk H
            clear H
            go_wp2
            go_meet
            case rel => exact ⟨_, (true), (by first | rfl | (simp; done) | (simp [*]; done) | (simp; rw [Bool.eq_iff_iff]; simp; done)), H', ⟨by have := HJ1.out; have := HK2.out; first | omega | exact Nat.le_refl _⟩, ⟨by (with_reducible repeat (first | refine blk_drewN ?_ _ | refine blk_drew ?_ | refine blk_alloc ?_ _)); exact BK102.out⟩, ⟨by repeat (first | (with_reducible first | exact HB.out | apply below_alloc | apply pw_below_drewN | apply below_drew1 | refine below_set ?_ GE102.out) | exact HB.out)⟩⟩
           ·replace c18 := Bool.eq_false_iff.mpr c18
            subst c18
            have H1 : ((decode_Name.f k2 ((rd_T58 l0 x17_2).f0)).bind fun t109 => (if t109 = true then (if ((rd_T58 l0 x17_2).f1) < 1 then (decode_Check.j2 k2 l0 l0 (l0.length : Int) x17_2 true) else (decode_Check.j2 k2 l0 l0 (l0.length : Int) x17_2 (decide (((rd_T58 l0 x17_2).f1) > 3)))) else (decode_Check.j2 k2 l0 l0 (l0.length : Int) x17_2 true))) = some r := by rw [if_neg (show ¬ (false = true) by decide)] at H; exact H
            clear H
            have H := H1
            clear H1
            replace H := Option.bind_eq_some_iff.mp H
            obtain ⟨t109, A190, H⟩ := H
            replace H : (if t109 = true then (if ((rd_T58 l0 x17_2).f1) < 1 then (decode_Check.j2 k2 l0 l0 (l0.length : Int) x17_2 true) else (decode_Check.j2 k2 l0 l0 (l0.length : Int) x17_2 (decide (((rd_T58 l0 x17_2).f1) > 3)))) else (decode_Check.j2 k2 l0 l0 (l0.length : Int) x17_2 true)) = some r := H
            have A19 := Aside0.mk A190
            clear A190
            by_cases c20 : t109 = true
            ·subst c20
             have H1 : (if ((rd_T58 l0 x17_2).f1) < 1 then (decode_Check.j2 k2 l0 l0 (l0.length : Int) x17_2 true) else (decode_Check.j2 k2 l0 l0 (l0.length : Int) x17_2 (decide (((rd_T58 l0 x17_2).f1) > 3)))) = some r := by rw [if_pos rfl] at H; exact H
             clear H
             have H := H1
             clear H1
             by_cases c21 : ((rd_T58 l0 x17_2).f1) < 1
             ·rw [if_pos c21] at H
              have c21b0 : decide (((rd_T58 l0 x17_2).f1) < 1) = true := decide_eq_true c21
              clear c21
              (first | rw [c21b0] | (simp only [i64_w, i32_w]; rw [c21b0]) | skip)
              have H' := Aside0.mk H
              clear H
              obtain ⟨hcz22_0, hcz22_1, hfz22_0, hfz22_1⟩ := bf2 BK102.out
              go_wp2_with (first | (go_at_call 53; (with_reducible refine (decode_Name.calls k2 ((rd_T58 l0 x17_2).f0) true _ A19.out).mono ?_); rintro e w' ⟨rfl, ⟨nd, rfl⟩⟩))
              go_meet
              case rel => exact ⟨_, (true), (by first | rfl | (simp; done) | (simp [*]; done) | (simp; rw [Bool.eq_iff_iff]; simp; done)), H', ⟨by have := HJ1.out; have := HK2.out; first | omega | exact Nat.le_refl _⟩, ⟨by (with_reducible repeat (first | refine blk_drewN ?_ _ | refine blk_drew ?_ | refine blk_alloc ?_ _)); exact BK102.out⟩, ⟨by repeat (first | (with_reducible first | exact HB.out | apply below_alloc | apply pw_below_drewN | apply below_drew1 | refine below_set ?_ GE102.out) | exact HB.out)⟩⟩
             ·rw [if_neg c21] at H
              have c21b0 : decide (((rd_T58 l0 x17_2).f1) < 1) = false := decide_eq_false c21
              clear c21
              (first | rw [c21b0] | (simp only [i64_w, i32_w]; rw [c21b0]) | skip)
              have H' := Aside0.mk H
              clear H
              obtain ⟨hcz23_0, hcz23_1, hfz23_0, hfz23_1⟩ := bf2 BK102.out
              go_wp2_with (first | (go_at_call 53; (with_reducible refine (decode_Name.calls k2 ((rd_T58 l0 x17_2).f0) true _ A19.out).mono ?_); rintro e w' ⟨rfl, ⟨nd, rfl⟩⟩))
              go_meet
              case rel => exact ⟨_, (decide (((rd_T58 l0 x17_2).f1) > 3)), (by first | rfl | (simp; done) | (simp [*]; done) | (simp; rw [Bool.eq_iff_iff]; simp; done)), H', ⟨by have := HJ1.out; have := HK2.out; first | omega | exact Nat.le_refl _⟩, ⟨by (with_reducible repeat (first | refine blk_drewN ?_ _ | refine blk_drew ?_ | refine blk_alloc ?_ _)); exact BK102.out⟩, ⟨by repeat (first | (with_reducible first | exact HB.out | apply below_alloc | apply pw_below_drewN | apply below_drew1 | refine below_set ?_ GE102.out) | exact HB.out)⟩⟩
            ·replace c20 := Bool.eq_false_iff.mpr c20
             subst c20
             have H1 : (decode_Check.j2 k2 l0 l0 (l0.length : Int) x17_2 true) = some r := by rw [if_neg (show ¬ (false = true) by decide)] at H; exact H
             clear H
             have H := H1
             clear H1
             have H' := Aside0.mk H
             clear H
             obtain ⟨hcz24_0, hcz24_1, hfz24_0, hfz24_1⟩ := bf2 BK102.out
             go_wp2_with (first | (go_at_call 53; (with_reducible refine (decode_Name.calls k2 ((rd_T58 l0 x17_2).f0) false _ A19.out).mono ?_); rintro e w' ⟨rfl, ⟨nd, rfl⟩⟩))
             go_meet
             case rel => exact ⟨_, (true), (by first | rfl | (simp; done) | (simp [*]; done) | (simp; rw [Bool.eq_iff_iff]; simp; done)), H', ⟨by have := HJ1.out; have := HK2.out; first | omega | exact Nat.le_refl _⟩, ⟨by (with_reducible repeat (first | refine blk_drewN ?_ _ | refine blk_drew ?_ | refine blk_alloc ?_ _)); exact BK102.out⟩, ⟨by repeat (first | (with_reducible first | exact HB.out | apply below_alloc | apply pw_below_drewN | apply below_drew1 | refine below_set ?_ GE102.out) | exact HB.out)⟩⟩
          case rest =>
           clear HC11
           try clear c1
           try clear p1
           try clear q1
           try clear hx1
           try clear c2
           try clear p2
           try clear c3
           try clear c3b0
           try clear c3b1
           try clear c4
           try clear c5
           try clear c5b0
           try clear c6
           try clear c6b0
           try clear c7
           try clear c7b0
           try clear c8
           try clear c8b0
           try clear c9
           try clear c9b0
           try clear c9b1
           try clear p10
           try clear q10
           try clear hx10
           try clear q16
           try clear c18
           try clear c20
           try clear c21
           try clear c21b0
           try clear hcz13_0
           try clear hcz13_1
           try clear hcz22_0
           try clear hcz22_1
           try clear hcz23_0
           try clear hcz23_1
           try clear hcz24_0
           try clear hcz24_1
           try clear hfz13_0
           try clear hfz13_1
           try clear hfz22_0
           try clear hfz22_1
           try clear hfz23_0
           try clear hfz23_1
           try clear hfz24_0
           try clear hfz24_1
           try clear hx101_0
           try clear hx101_1
           try clear p101
           try clear p2
           try clear q101
           try clear q16
           obtain ⟨kq, x47_10, rfl, HA, HJ10, BK102, HB⟩ := hcut
           cases kq with
           | zero => exact absurd HA.out (by simp [decode_Check.j2])
           | succ kj10 =>
            have H := HA.out
            clear HA
            simp only [decode_Check.j2] at H
            by_cases c25 : x47_10 = true
            ·subst c25
             have H1 : (some 120) = some r := by rw [if_pos rfl] at H; exact H
             clear H
             have H := H1
             clear H1
             obtain rfl := Option.some.inj H
             go_wp2
             go_ret
             exact ⟨by first | rfl | (simp [errW_none, errW_some] <;> rfl) | (simp [*, errW_none, errW_some] <;> rfl), by repeat (first | (with_reducible first | exact HB.out | apply below_alloc | apply pw_below_drewN | apply below_drew1 | refine below_set ?_ GE102.out) | exact HB.out)⟩
            ·replace c25 := Bool.eq_false_iff.mpr c25
             subst c25
             have H1 : (decode_Check.l0 kj10 l0 l0 (l0.length : Int) (wrap64 (x17_2 + 1))) = some r := by rw [if_neg (show ¬ (false = true) by decide)] at H; exact H
             clear H
             have H := H1
             clear H1
             have H' := Aside0.mk H
             clear H
             go_wp2
             go_roundg kj10
             case measure => have := HJ1.out; have := HK2.out; have := HJ10.out; omega
             case rel => exact ⟨(wrap64 (x17_2 + 1)), (by first | rfl | (simp; done) | (simp [*]; done) | (simp; rw [Bool.eq_iff_iff]; simp; done)), H', ⟨by have := HJ1.out; have := HK2.out; have := HJ10.out; omega⟩, ⟨by repeat (first | (with_reducible first | exact HB.out | apply below_alloc | apply pw_below_drewN | apply below_drew1 | refine below_set ?_ GE102.out) | exact HB.out)⟩⟩
         ·rw [if_neg c9] at H
          exact absurd H (by simp)
        ·rw [if_neg c7] at H
         exact absurd H (by simp)
       ·rw [if_neg c6] at H
        exact absurd H (by simp)
      ·rw [if_neg c5] at H
       have c5b0 : decide (x17_2 < (l0.length : Int)) = false := decide_eq_false c5
       clear c5
       obtain rfl := Option.some.inj H
       go_wp2
       go_ret
       exact ⟨by first | rfl | (simp [errW_none, errW_some] <;> rfl) | (simp [*, errW_none, errW_some] <;> rfl), by repeat (first | (with_reducible first | exact HB.out | apply below_alloc | apply pw_below_drewN | apply below_drew1) | exact HB.out)⟩
end Go.Proofs.YtopolnbffmljaaaDoor.Q
namespace Go.Proofs.YtopolnbffmljaaaDoor.Q
open Go.RowKit Go.Proofs.YtopolnbffmljaaaDoorW.PrintWords
def Ev {α : Type} (f : Nat → Option α) (v : α) : Prop := ∃ N, ∀ K, N ≤ K → f K = some v
theorem Ev.const {α : Type} {f : Nat → Option α} {v : α} (e : ∀ k, f (k + 1) = some v) : Ev f v := ⟨1, fun K hK => by
 obtain ⟨k, rfl⟩ : ∃ k, K = k + 1 := ⟨K - 1, by omega⟩
 exact e k⟩
theorem Ev.const' {α : Type} {f : Nat → Option α} {v : α} (e : ∀ k, f k = some v) : Ev f v := ⟨0, fun K _ => e K⟩
theorem Ev.step {α : Type} {f g : Nat → Option α} {v : α} (h : Ev g v) (e : ∀ k, f (k + 1) = g k) : Ev f v := by
 obtain ⟨N, h⟩ := h
 refine ⟨N + 1, fun K hK => ?_⟩
 obtain ⟨k, rfl⟩ : ∃ k, K = k + 1 := ⟨K - 1, by omega⟩
 rw [e]
 exact h k (by omega)
theorem Ev.same {α : Type} {f g : Nat → Option α} {v : α} (h : Ev g v) (e : ∀ k, f k = g k) : Ev f v := by
 obtain ⟨N, h⟩ := h
 exact ⟨N, fun K hK => by rw [e]; exact h K hK⟩
theorem Ev.bind {α β : Type} {f : Nat → Option α} {g : Nat → Option β} {h : Nat → β → Option α} {x : β} {v : α} (hg : Ev g x) (hh : Ev (fun k => h k x) v) (e : ∀ k, f k = (g k).bind (h k)) : Ev f v := by
 obtain ⟨N, hg⟩ := hg
 obtain ⟨M, hh⟩ := hh
 refine ⟨N + M, fun K hK => ?_⟩
 rw [e, hg K (by omega)]
 exact hh K (by omega)
theorem Ev.bind1 {α β : Type} {f : Nat → Option α} {g : Nat → Option β} {h : Nat → β → Option α} {x : β} {v : α} (hg : Ev g x) (hh : Ev (fun k => h k x) v) (e : ∀ k, f (k + 1) = (g k).bind (h k)) : Ev f v :=
 (Ev.bind (f := fun k => (g k).bind (h k)) hg hh (fun _ => rfl)).step e
theorem Ev.get {α : Type} {f : Nat → Option α} {v : α} (h : Ev f v) : ∃ K, f K = some v := by
 obtain ⟨N, h⟩ := h
 exact ⟨N, h N (Nat.le_refl _)⟩
theorem w64n (i : Nat) (h : i ≤ 9223372036854775806) : wrap64 ((i : Int) + 1) = ((i + 1 : Nat) : Int) := (wrap_in (by unfold in64; omega)).trans (by omega)
def okc (i : Nat) (c : Int) : Bool := (decide (97 ≤ c) && decide (c ≤ 122)) || (decide (i ≠ 0) && decide (48 ≤ c) && decide (c ≤ 57))
def allF (s : ByteArray) : Nat → Nat → Bool
 | 0, _ => true
 | n + 1, i => okc i (bt s i) && allF s n (i + 1)
theorem allF_succ (s : ByteArray) (n i : Nat) : allF s (n + 1) i = (okc i (bt s i) && allF s n (i + 1)) := rfl
def nameS (s : ByteArray) : Bool := decide (s.size ≠ 0) && decide (s.size ≤ 16) && allF s s.size 0
theorem decName_l0 (s : ByteArray) (hs : s.size ≤ 140737488355328) : ∀ n i : Nat, i + n = s.size → Ev (fun k => decode_Name.l0 k s (s.size : Int) i) (if allF s n i = true then decide (s.size ≠ 0) && decide (s.size ≤ 16) else false)
 | 0, i, h => Ev.const fun k => by
  simp only [decode_Name.l0]
  rw [if_neg (by omega)]
  unfold allF
  rw [if_pos rfl]
  by_cases h0 : s.toList = []
  ·rw [if_pos h0]
   have : s.size = 0 := by rw [← data_length, ← Lib.toList_data, h0]; rfl
   simp [this]
  ·rw [if_neg h0]
   have : s.size ≠ 0 := fun e => h0 (by
    have h2 : s.toList.length = 0 := by rw [Lib.toList_data, data_length, e]
    exact List.length_eq_zero_iff.1 h2)
   simp [this]
   omega
 | n + 1, i, h => by
  have ih := decName_l0 s hs n (i + 1) (by omega)
  have hj : ∀ b : Bool, Ev (fun k => decode_Name.j1 k s (s.size : Int) i b) (if b = true then false else (if allF s n (i + 1) = true then decide (s.size ≠ 0) && decide (s.size ≤ 16) else false)) := fun b => by
   cases b with
   | true => exact Ev.const fun k => by simp only [decode_Name.j1]; rfl
   | false =>
    refine Ev.step ih fun k => ?_
    simp only [decode_Name.j1]
    rw [if_neg Bool.false_ne_true, w64n i (by omega)]
  obtain ⟨c, hc⟩ : ∃ c, bt s i = c := ⟨_, rfl⟩
  have hok : (if allF s (n + 1) i = true then decide (s.size ≠ 0) && decide (s.size ≤ 16) else false) = (if (!(okc i c)) = true then false else (if allF s n (i + 1) = true then decide (s.size ≠ 0) && decide (s.size ≤ 16) else false)) := by
   rw [allF_succ, hc]
   cases okc i c <;> simp
  rw [hok]
  refine Ev.step (hj (!(okc i c))) fun k => ?_
  simp only [decode_Name.l0]
  rw [if_pos (by omega), if_pos (by omega), if_pos (by omega), hc]
  unfold okc
  by_cases h1 : c < 97
  ·rw [if_pos h1]
   by_cases h0 : (i : Int) = 0
   ·rw [if_pos h0]
    have e : (!(decide (97 ≤ c) && decide (c ≤ 122) || decide (i ≠ 0) && decide (48 ≤ c) && decide (c ≤ 57))) = true := by
     rw [decide_eq_false (show ¬ 97 ≤ c by omega), decide_eq_false (show ¬ i ≠ 0 by omega)]; rfl
    rw [e]
   ·rw [if_neg h0]
    by_cases h2 : c < 48
    ·rw [if_pos h2]
     have e : (!(decide (97 ≤ c) && decide (c ≤ 122) || decide (i ≠ 0) && decide (48 ≤ c) && decide (c ≤ 57))) = true := by
      rw [decide_eq_false (show ¬ 97 ≤ c by omega), decide_eq_false (show ¬ 48 ≤ c by omega), Bool.and_false]; rfl
     rw [e]
    ·rw [if_neg h2]
     have e : (!(decide (97 ≤ c) && decide (c ≤ 122) || decide (i ≠ 0) && decide (48 ≤ c) && decide (c ≤ 57))) = decide (c > 57) := by
      rw [decide_eq_false (show ¬ 97 ≤ c by omega), decide_eq_true (show 48 ≤ c by omega), decide_eq_true (show i ≠ 0 by omega)]
      by_cases h3 : c ≤ 57
      ·rw [decide_eq_true h3, decide_eq_false (show ¬ c > 57 by omega)]; rfl
      ·rw [decide_eq_false h3, decide_eq_true (show c > 57 by omega)]; rfl
     rw [e]
  ·rw [if_neg h1]
   by_cases h4 : c > 122
   ·rw [if_pos h4]
    have e : (!(decide (97 ≤ c) && decide (c ≤ 122) || decide (i ≠ 0) && decide (48 ≤ c) && decide (c ≤ 57))) = true := by
     rw [decide_eq_false (show ¬ c ≤ 122 by omega), decide_eq_false (show ¬ c ≤ 57 by omega), Bool.and_false, Bool.and_false]; rfl
    rw [e]
    by_cases h0 : (i : Int) = 0
    ·rw [if_pos h0]
    ·rw [if_neg h0, if_neg (show ¬ c < 48 by omega), decide_eq_true (show c > 57 by omega)]
   ·rw [if_neg h4]
    have e : (!(decide (97 ≤ c) && decide (c ≤ 122) || decide (i ≠ 0) && decide (48 ≤ c) && decide (c ≤ 57))) = false := by
     rw [decide_eq_true (show 97 ≤ c by omega), decide_eq_true (show c ≤ 122 by omega)]; rfl
    rw [e]
theorem decName_ev (s : ByteArray) (hs : s.size ≤ 140737488355328) : Ev (fun k => decode_Name.f k s) (nameS s) := by
 have h := decName_l0 s hs s.size 0 (by omega)
 have e : (if allF s s.size 0 = true then decide (s.size ≠ 0) && decide (s.size ≤ 16) else false) = nameS s := by
  unfold nameS
  cases allF s s.size 0 <;> simp
 rw [e] at h
 exact h.same fun k => rfl
theorem refName_l0 (s : ByteArray) (hs : s.size ≤ 140737488355328) : ∀ n i : Nat, 1 ≤ i → i + n = s.size → Ev (fun k => headgateref12_Name.l0 k s i) (allF s n i)
 | 0, i, h1, h => Ev.const fun k => by
  simp only [headgateref12_Name.l0]
  rw [if_neg (by omega)]
  rfl
 | n + 1, i, hi, h => by
  have ih := refName_l0 s hs n (i + 1) (by omega) (by omega)
  have hj : ∀ b : Bool, Ev (fun k => headgateref12_Name.j2 k s i b) (if b = true then false else allF s n (i + 1)) := fun b => by
   cases b with
   | true => exact Ev.const fun k => by simp only [headgateref12_Name.j2]; rfl
   | false =>
    refine Ev.step ih fun k => ?_
    simp only [headgateref12_Name.j2]
    rw [if_neg Bool.false_ne_true, w64n i (by omega)]
  obtain ⟨c, hc⟩ : ∃ c, bt s i = c := ⟨_, rfl⟩
  have hok : allF s (n + 1) i = (if (!(okc i c)) = true then false else allF s n (i + 1)) := by
   rw [allF_succ, hc]
   cases okc i c <;> simp
  rw [hok]
  refine Ev.step (hj (!(okc i c))) fun k => ?_
  simp only [headgateref12_Name.l0]
  rw [if_pos (by omega), if_pos (by omega), hc]
  unfold okc
  have hi0 : decide (i ≠ 0) = true := decide_eq_true (by omega)
  rw [hi0]
  by_cases h1 : c ≥ 97
  ·rw [if_pos h1]
   by_cases h2 : c ≤ 122
   ·rw [if_pos h2, decide_eq_true (show 97 ≤ c by omega), decide_eq_true h2]; rfl
   ·rw [if_neg h2, if_pos (show c ≥ 48 by omega), decide_eq_true (show 97 ≤ c by omega), decide_eq_false h2, decide_eq_true (show 48 ≤ c by omega)]; rfl
  ·rw [if_neg h1, decide_eq_false (show ¬ 97 ≤ c by omega)]
   by_cases h2 : c ≥ 48
   ·rw [if_pos h2, decide_eq_true (show 48 ≤ c by omega)]; rfl
   ·rw [if_neg h2, decide_eq_false (show ¬ 48 ≤ c by omega)]; rfl
theorem refName_ev (s : ByteArray) (hs : s.size ≤ 140737488355328) : Ev (fun k => headgateref12_Name.f k s) (nameS s) := by
 have hj : ∀ b : Bool, 1 ≤ s.size ∨ b = true → Ev (fun k => headgateref12_Name.j0 k s b) (if b = true then false else allF s (s.size - 1) 1) := fun b hb => by
  cases b with
  | true => exact Ev.const fun k => by simp only [headgateref12_Name.j0]; rfl
  | false =>
   have h1 : 1 ≤ s.size := hb.resolve_right Bool.false_ne_true
   refine Ev.step (refName_l0 s hs (s.size - 1) 1 (by omega) (by omega)) fun k => ?_
   simp only [headgateref12_Name.j0]
   rw [if_neg Bool.false_ne_true]
   rfl
 by_cases h0 : s.size = 0
 ·have e : nameS s = false := by unfold nameS; simp [h0]
  rw [e]
  refine (hj true (.inr rfl)).same fun k => ?_
  unfold headgateref12_Name.f
  rw [if_pos (by omega)]
 ·by_cases h16 : s.size ≤ 16
  ·obtain ⟨m, hm⟩ : ∃ m, s.size = m + 1 := ⟨s.size - 1, by omega⟩
   have e : nameS s = (if (!(okc 0 (bt s 0))) = true then false else allF s (s.size - 1) 1) := by
    unfold nameS
    rw [decide_eq_true h0, decide_eq_true h16, hm]
    show (true && true && (okc 0 (bt s ((0 : Nat) : Int)) && allF s m (0 + 1))) = _
    rw [show m + 1 - 1 = m by omega, show ((0 : Nat) : Int) = 0 by rfl]
    cases okc 0 (bt s 0) <;> simp
   rw [e]
   refine (hj (!(okc 0 (bt s 0))) (.inl (by omega))).same fun k => ?_
   unfold headgateref12_Name.f okc
   rw [if_neg (by omega), if_neg (by omega), if_pos (by omega)]
   by_cases h1 : bt s 0 < 97
   ·rw [if_pos h1, decide_eq_false (show ¬ 97 ≤ bt s 0 by omega)]; rfl
   ·rw [if_neg h1, decide_eq_true (show 97 ≤ bt s 0 by omega)]
    by_cases h2 : bt s 0 ≤ 122
    ·rw [decide_eq_true h2, decide_eq_false (show ¬ bt s 0 > 122 by omega)]; rfl
    ·rw [decide_eq_false h2, decide_eq_true (show bt s 0 > 122 by omega)]; rfl
  ·have e : nameS s = false := by unfold nameS; simp [h16]
   rw [e]
   refine (hj true (.inr rfl)).same fun k => ?_
   unfold headgateref12_Name.f
   rw [if_neg (by omega), if_pos (by omega)]
theorem refFind_l0 (l : List Co) (name : ByteArray) (hl : l.length ≤ 140737488355328) : ∀ n i : Nat, i + n = l.length → Ev (fun k => headgateref12_Find.l0 k l name i) (findN name (l.drop i) i)
 | 0, i, h => Ev.const fun k => by
  simp only [headgateref12_Find.l0]
  rw [if_neg (by omega), List.drop_of_length_le (by omega)]
  rfl
 | n + 1, i, h => by
  have ih := refFind_l0 l name hl n (i + 1) (by omega)
  rw [co_drop l i (by omega)]
  unfold findN
  by_cases he : (rd_T58 l (i : Int)).f0 = name
  ·rw [if_pos he]
   exact Ev.const fun k => by
    simp only [headgateref12_Find.l0]
    rw [if_pos (by omega), if_pos (by omega), if_pos (by rw [he])]
  ·rw [if_neg he, show (i : Int) + 1 = ((i + 1 : Nat) : Int) by omega]
   refine Ev.step ih fun k => ?_
   simp only [headgateref12_Find.l0]
   rw [if_pos (by omega), if_pos (by omega), if_neg (fun e => he (toList_inj e)), w64n i (by omega)]
theorem refFind_ev (l : List Co) (name : ByteArray) (hl : l.length ≤ 140737488355328) : Ev (fun k => headgateref12_Find.f k l name) (findN name l 0) :=
 (refFind_l0 l name hl l.length 0 (by omega)).same fun k => rfl
theorem big_l0 (l : List Co) (hl : l.length ≤ 140737488355328) : ∀ n i : Nat, i + n = l.length → ∃ b, Ev (fun k => headgateref12_Big.l0 k l i) b ∧ (b = false → ∀ c ∈ l.drop i, c.f0.size ≤ 200)
 | 0, i, h => ⟨false, Ev.const fun k => by
  simp only [headgateref12_Big.l0]
  rw [if_neg (by omega)], fun _ c hc => by rw [List.drop_of_length_le (by omega)] at hc; simp at hc⟩
 | n + 1, i, h => by
  obtain ⟨b, ih, hb⟩ := big_l0 l hl n (i + 1) (by omega)
  by_cases he : ((rd_T58 l (i : Int)).f0.size : Int) > 200
  ·exact ⟨true, Ev.const fun k => by
    simp only [headgateref12_Big.l0]
    rw [if_pos (by omega), if_pos (by omega), if_pos he], fun h => by cases h⟩
  ·refine ⟨b, Ev.step ih fun k => ?_, fun hbf c hc => ?_⟩
   ·simp only [headgateref12_Big.l0]
    rw [if_pos (by omega), if_pos (by omega), if_neg he, w64n i (by omega)]
   ·rw [co_drop l i (by omega)] at hc
    rcases List.mem_cons.1 hc with rfl | hc
    ·omega
    ·exact hb hbf c hc
theorem big_ev (l : List Co) (hl : l.length ≤ 140737488355328) : ∃ b, Ev (fun k => headgateref12_Big.f k l) b ∧ (b = false → l.length ≤ 40 ∧ ∀ c ∈ l, c.f0.size ≤ 200) := by
 by_cases h : (l.length : Int) > 40
 ·exact ⟨true, Ev.const' fun k => by unfold headgateref12_Big.f; rw [if_pos h], fun e => by cases e⟩
 ·obtain ⟨b, h1, h2⟩ := big_l0 l hl l.length 0 (by omega)
  exact ⟨b, h1.same fun k => by unfold headgateref12_Big.f; rw [if_neg h]; rfl, fun e => ⟨by omega, h2 e⟩⟩
def kindS (c : Co) : Bool := decide (1 ≤ c.f1) && decide (c.f1 ≤ 3)
def colS (l : List Co) (i : Nat) : Bool := nameS (rd_T58 l (i : Int)).f0 && decide (findN (rd_T58 l (i : Int)).f0 l 0 = i) && kindS (rd_T58 l (i : Int))
def allC (l : List Co) : Nat → Nat → Bool
 | 0, _ => true
 | n + 1, i => colS l i && allC l n (i + 1)
def rightS (l : List Co) : Bool := decide (l.length ≠ 0) && decide (l.length ≤ 12) && allC l l.length 0
theorem co_mem (l : List Co) (i : Nat) (h : i < l.length) : rd_T58 l (i : Int) ∈ l := by
 have : rd_T58 l (i : Int) ∈ l.drop i := by rw [co_drop l i h]; simp
 exact List.mem_of_mem_drop this
theorem refRight_l0 (l : List Co) (hl : l.length ≤ 140737488355328) (hn : ∀ c ∈ l, c.f0.size ≤ 140737488355328) : ∀ n i : Nat, i + n = l.length → Ev (fun k => headgateref12_Right.l0 k l i) (allC l n i)
 | 0, i, h => Ev.const fun k => by
  simp only [headgateref12_Right.l0]
  rw [if_neg (by omega)]
  rfl
 | n + 1, i, h => by
  have ih := refRight_l0 l hl hn n (i + 1) (by omega)
  have hj : ∀ b : Bool, Ev (fun k => headgateref12_Right.j2 k l i b) (if b = true then false else allC l n (i + 1)) := fun b => by
   cases b with
   | true => exact Ev.const fun k => by simp only [headgateref12_Right.j2]; rfl
   | false =>
    refine Ev.step ih fun k => ?_
    simp only [headgateref12_Right.j2]
    rw [if_neg Bool.false_ne_true, w64n i (by omega)]
  have hok : allC l (n + 1) i = (if (!(colS l i)) = true then false else allC l n (i + 1)) := by
   show (colS l i && allC l n (i + 1)) = _
   cases colS l i <;> simp
  rw [hok]
  have hm := co_mem l i (by omega)
  unfold colS
  obtain ⟨c, hc⟩ : ∃ c, rd_T58 l (i : Int) = c := ⟨_, rfl⟩
  rw [hc] at hm ⊢
  have hN := refName_ev c.f0 (hn c hm)
  have hF := refFind_ev l c.f0 hl
  refine Ev.bind1 hN (h := fun k t => if t = true then ((headgateref12_Find.f k l c.f0).bind fun t106 => if t106 = (i : Int) then (if c.f1 < 1 then headgateref12_Right.j2 k l i true else headgateref12_Right.j2 k l i (decide (c.f1 > 3))) else headgateref12_Right.j2 k l i true) else headgateref12_Right.j2 k l i true) ?_ (fun k => by
   simp only [headgateref12_Right.l0]
   rw [if_pos (by omega), if_pos (by omega), hc])
  cases nameS c.f0 with
  | false => exact (hj true).same fun k => by rw [if_neg Bool.false_ne_true]
  | true =>
   have hk : (!(true && decide (findN c.f0 l 0 = (i : Int)) && kindS c)) = true ∨ True := .inr trivial
   refine Ev.bind (h := fun k t106 => if t106 = (i : Int) then (if c.f1 < 1 then headgateref12_Right.j2 k l i true else headgateref12_Right.j2 k l i (decide (c.f1 > 3))) else headgateref12_Right.j2 k l i true) hF ?_ (fun k => by rw [if_pos rfl])
   by_cases hf : findN c.f0 l 0 = (i : Int)
   ·rw [decide_eq_true hf]
    unfold kindS
    by_cases h1 : c.f1 < 1
    ·rw [decide_eq_false (show ¬ 1 ≤ c.f1 by omega)]
     exact (hj true).same fun k => by rw [if_pos hf, if_pos h1]
    ·rw [decide_eq_true (show 1 ≤ c.f1 by omega)]
     by_cases h3 : c.f1 ≤ 3
     ·rw [decide_eq_true h3]
      exact (hj false).same fun k => by rw [if_pos hf, if_neg h1, decide_eq_false (show ¬ c.f1 > 3 by omega)]
     ·rw [decide_eq_false h3]
      exact (hj true).same fun k => by rw [if_pos hf, if_neg h1, decide_eq_true (show c.f1 > 3 by omega)]
   ·rw [decide_eq_false hf]
    exact (hj true).same fun k => by rw [if_neg hf]
theorem refRight_ev (l : List Co) (hl : l.length ≤ 140737488355328) (hn : ∀ c ∈ l, c.f0.size ≤ 140737488355328) : Ev (fun k => headgateref12_Right.f k l) (rightS l) := by
 have hj : ∀ b : Bool, Ev (fun k => headgateref12_Right.j0 k l b) (if b = true then false else allC l l.length 0) := fun b => by
  cases b with
  | true => exact Ev.const fun k => by simp only [headgateref12_Right.j0]; rfl
  | false =>
   refine Ev.step (refRight_l0 l hl hn l.length 0 (by omega)) fun k => ?_
   simp only [headgateref12_Right.j0]
   rw [if_neg Bool.false_ne_true]
   rfl
 unfold rightS
 by_cases h0 : l.length = 0
 ·rw [decide_eq_false (show ¬ l.length ≠ 0 by omega)]
  exact (hj true).same fun k => by unfold headgateref12_Right.f; rw [if_pos (by omega)]
 ·rw [decide_eq_true (show l.length ≠ 0 by omega)]
  by_cases h12 : l.length ≤ 12
  ·rw [decide_eq_true h12]
   exact (hj false).same fun k => by unfold headgateref12_Right.f; rw [if_neg (by omega), decide_eq_false (show ¬ (l.length : Int) > 12 by omega)]
  ·rw [decide_eq_false h12]
   exact (hj true).same fun k => by unfold headgateref12_Right.f; rw [if_neg (by omega), decide_eq_true (show (l.length : Int) > 12 by omega)]
theorem findN_take (name : ByteArray) : ∀ (l : List Co) (i : Nat) (z : Int), 0 ≤ z → (findN name (l.take i) z = if 0 ≤ findN name l z ∧ findN name l z < z + i then findN name l z else -1)
 | [], i, z, hz => by simp [findN]
 | c :: r, 0, z, hz => by
  simp only [List.take_zero]
  rw [if_neg (by
   rcases findN_le name (c :: r) z hz with h | h <;> omega)]
  rfl
 | c :: r, i + 1, z, hz => by
  rw [List.take_succ_cons]
  unfold findN
  by_cases h : c.f0 = name
  ·rw [if_pos h, if_pos h, if_pos (by omega)]
  ·rw [if_neg h, if_neg h, findN_take name r i (z + 1) (by omega), show z + ((i + 1 : Nat) : Int) = z + 1 + (i : Int) by omega]
theorem findN_at (l : List Co) (i : Nat) (h : i < l.length) : 0 ≤ findN (rd_T58 l (i : Int)).f0 l 0 ∧ findN (rd_T58 l (i : Int)).f0 l 0 ≤ i := by
 have key : ∀ (l : List Co) (c : Co) (z : Int) (i : Nat), 0 ≤ z → l[i]? = some c → 0 ≤ findN c.f0 l z ∧ findN c.f0 l z ≤ z + i := by
  intro l
  induction l with
  | nil => intro c z i hz h; simp at h
  | cons d r ih =>
   intro c z i hz h
   unfold findN
   split
   ·omega
   ·rename_i hne
    cases i with
    | zero =>
     simp only [List.getElem?_cons_zero, Option.some.injEq] at h
     exact absurd (by rw [h]) hne
    | succ i =>
     have := ih c (z + 1) i (by omega) (by simpa using h)
     omega
 have e : l[i]? = some (rd_T58 l (i : Int)) := by
  unfold rd_T58
  rw [Int.toNat_natCast, List.getD_eq_getElem?_getD, List.getElem?_eq_getElem h]
  rfl
 have := key l _ 0 i (by omega) e
 omega
theorem check_l0 (l : List Co) (hl : l.length ≤ 140737488355328) (hn : ∀ c ∈ l, c.f0.size ≤ 140737488355328) : ∀ n i : Nat, i + n = l.length → Ev (fun k => decode_Check.l0 k l l (l.length : Int) i) (if allC l n i = true then 0 else 120)
 | 0, i, h => Ev.const fun k => by
  simp only [decode_Check.l0]
  rw [if_neg (by omega)]
  rfl
 | n + 1, i, h => by
  have ih := check_l0 l hl hn n (i + 1) (by omega)
  have hj : ∀ b : Bool, Ev (fun k => decode_Check.j2 k l l (l.length : Int) i b) (if b = true then 120 else (if allC l n (i + 1) = true then 0 else 120)) := fun b => by
   cases b with
   | true => exact Ev.const fun k => by simp only [decode_Check.j2]; rfl
   | false =>
    refine Ev.step ih fun k => ?_
    simp only [decode_Check.j2]
    rw [if_neg Bool.false_ne_true, w64n i (by omega)]
  have hok : (if allC l (n + 1) i = true then (0 : Int) else 120) = (if (!(colS l i)) = true then 120 else (if allC l n (i + 1) = true then 0 else 120)) := by
   show (if (colS l i && allC l n (i + 1)) = true then (0 : Int) else 120) = _
   cases colS l i <;> simp
  rw [hok]
  have hm := co_mem l i (by omega)
  have hat := findN_at l i (by omega)
  unfold colS
  obtain ⟨c, hc⟩ : ∃ c, rd_T58 l (i : Int) = c := ⟨_, rfl⟩
  rw [hc] at hm hat ⊢
  have hN := decName_ev c.f0 (hn c hm)
  have htk := findN_take c.f0 l i 0 (by omega)
  have hfd : decode_Find.f (l.take i) c.f0 = some ((if findN c.f0 (l.take i) 0 < 0 then 0 else findN c.f0 (l.take i) 0), decide (findN c.f0 (l.take i) 0 ≥ 0)) := by
   unfold decode_Find.f
   rw [if_pos (by rw [List.length_take]; omega)]
  have hunf : ∀ k, decode_Check.l0 (k + 1) l l (l.length : Int) i = (if decide (findN c.f0 (l.take i) 0 ≥ 0) = true then decode_Check.j2 k l l (l.length : Int) i true else ((decode_Name.f k c.f0).bind fun t109 => if t109 = true then (if c.f1 < 1 then decode_Check.j2 k l l (l.length : Int) i true else decode_Check.j2 k l l (l.length : Int) i (decide (c.f1 > 3))) else decode_Check.j2 k l l (l.length : Int) i true)) := fun k => by
   conv => lhs; simp only [decode_Check.l0]
   rw [if_pos (by omega), if_pos (by omega), if_pos (by omega), if_pos (by omega), hc, Int.toNat_natCast, hfd]
   rfl
  by_cases hf : findN c.f0 l 0 = (i : Int)
  ·have htk2 : findN c.f0 (l.take i) 0 = -1 := by rw [htk, if_neg (by omega)]
   rw [decide_eq_true hf]
   refine Ev.bind1 hN (h := fun k t109 => if t109 = true then (if c.f1 < 1 then decode_Check.j2 k l l (l.length : Int) i true else decode_Check.j2 k l l (l.length : Int) i (decide (c.f1 > 3))) else decode_Check.j2 k l l (l.length : Int) i true) ?_ (fun k => by
    rw [hunf k, htk2, if_neg (by decide)])
   cases nameS c.f0 with
   | false => exact (hj true).same fun k => by rw [if_neg Bool.false_ne_true]
   | true =>
    unfold kindS
    by_cases h1 : c.f1 < 1
    ·rw [decide_eq_false (show ¬ 1 ≤ c.f1 by omega)]
     exact (hj true).same fun k => by rw [if_pos rfl, if_pos h1]
    ·rw [decide_eq_true (show 1 ≤ c.f1 by omega)]
     by_cases h3 : c.f1 ≤ 3
     ·rw [decide_eq_true h3]
      exact (hj false).same fun k => by rw [if_pos rfl, if_neg h1, decide_eq_false (show ¬ c.f1 > 3 by omega)]
     ·rw [decide_eq_false h3]
      exact (hj true).same fun k => by rw [if_pos rfl, if_neg h1, decide_eq_true (show c.f1 > 3 by omega)]
  ·have htk2 : 0 ≤ findN c.f0 (l.take i) 0 := by rw [htk, if_pos (by omega)]; omega
   rw [decide_eq_false hf]
   have e : (!(nameS c.f0 && false && kindS c)) = true := by cases nameS c.f0 <;> rfl
   rw [e]
   refine Ev.step (hj true) fun k => ?_
   rw [hunf k, if_pos (decide_eq_true htk2)]
theorem check_ev (l : List Co) (hl : l.length ≤ 140737488355328) (hn : ∀ c ∈ l, c.f0.size ≤ 140737488355328) : Ev (fun k => decode_Check.f k l) (if rightS l = true then 0 else 120) := by
 have hj : ∀ b : Bool, Ev (fun k => decode_Check.j0 k l b) (if b = true then 120 else (if allC l l.length 0 = true then 0 else 120)) := fun b => by
  cases b with
  | true => exact Ev.const fun k => by simp only [decode_Check.j0]; rfl
  | false =>
   refine Ev.step (check_l0 l hl hn l.length 0 (by omega)) fun k => ?_
   simp only [decode_Check.j0]
   rw [if_neg Bool.false_ne_true]
   rfl
 unfold rightS
 by_cases h0 : l.length = 0
 ·rw [decide_eq_false (show ¬ l.length ≠ 0 by omega)]
  exact (hj true).same fun k => by unfold decode_Check.f; rw [if_pos (by omega)]
 ·rw [decide_eq_true (show l.length ≠ 0 by omega)]
  by_cases h12 : l.length ≤ 12
  ·rw [decide_eq_true h12]
   exact (hj false).same fun k => by unfold decode_Check.f; rw [if_neg (by omega), decide_eq_false (show ¬ (l.length : Int) > 12 by omega)]
  ·rw [decide_eq_false h12]
   exact (hj true).same fun k => by unfold decode_Check.f; rw [if_neg (by omega), decide_eq_true (show (l.length : Int) > 12 by omega)]
end Go.Proofs.YtopolnbffmljaaaDoor.Q
namespace Go.Proofs.YtopolnbffmljaaaDoor.Q
def chkV (v : S23) : Int :=
 if v.f0 = 0 then (if v.f1 = 0 ∧ v.f2.toList = [] then 0 else 31)
 else if v.f0 = 1 then (if v.f2.toList = [] then 0 else 31)
 else if v.f0 = 2 then (if (v.f1 = 0 ∨ v.f1 = 1) ∧ v.f2.toList = [] then 0 else 31)
 else if v.f0 = 3 then (if v.f1 = 0 ∧ v.f2.size ≤ 200 then 0 else 31) else 30
theorem chk_ev (v : S23) : Go.Proofs.YtopolnbffmljaaaDoorW.PrintWords.Ev (fun k => value_Check.f k v.f0 v.f1 v.f2) (chkV v) := by
 obtain ⟨k0, n, s⟩ := v
 unfold value_Check.f chkV
 simp only
 have hj1 : ∀ b : Bool, Go.Proofs.YtopolnbffmljaaaDoorW.PrintWords.Ev (fun k => value_Check.j1 k b) (if b = true then 31 else 0) := by
  intro b
  refine Go.Proofs.YtopolnbffmljaaaDoorW.PrintWords.Ev.step (f := fun _ => some (if b = true then 31 else 0)) (fun k => ?_) (Go.Proofs.YtopolnbffmljaaaDoorW.PrintWords.Ev.now _)
  simp only [value_Check.j1]
  split <;> rfl
 have hj0 : ∀ (g : Bool), Go.Proofs.YtopolnbffmljaaaDoorW.PrintWords.Ev (fun k => value_Check.j0 k g k0 n s) (if g = true then (if k0 = 3 then 0 else (if s.toList = [] then 0 else 31)) else 31) := by
  intro g
  cases g with
  | false =>
   refine Go.Proofs.YtopolnbffmljaaaDoorW.PrintWords.Ev.step (fun k => ?_) (hj1 true)
   simp only [value_Check.j0]
   rw [if_neg (by simp)]
  | true =>
   by_cases h3 : k0 = 3
   ·simp only [if_true, if_pos h3]
    refine Go.Proofs.YtopolnbffmljaaaDoorW.PrintWords.Ev.step (fun k => ?_) (hj1 false)
    simp only [value_Check.j0]
    rw [if_pos trivial, if_pos h3]
   ·simp only [if_true, if_neg h3]
    have h := hj1 (s.toList != [])
    have e : (if (s.toList != []) = true then (31 : Int) else 0) = (if s.toList = [] then 0 else 31) := by
     by_cases hs : s.toList = []
     ·rw [if_neg (by simp [hs]), if_pos hs]
     ·rw [if_pos (by simp [hs]), if_neg hs]
    rw [e] at h
    refine Go.Proofs.YtopolnbffmljaaaDoorW.PrintWords.Ev.step (fun k => ?_) h
    simp only [value_Check.j0]
    rw [if_pos trivial, if_neg h3]
 by_cases h0 : k0 = 0
 ·rw [if_pos h0]
  refine Go.Proofs.YtopolnbffmljaaaDoorW.PrintWords.Ev.congr (fun k => if_pos h0) ?_
  have h := hj0 (n == 0)
  rw [if_neg (show ¬ k0 = 3 by omega)] at h
  by_cases hn : n = 0
  ·rw [if_pos (by simp [hn])] at h
   have e : (if n = 0 ∧ s.toList = [] then (0 : Int) else 31) = (if s.toList = [] then 0 else 31) := by simp [hn]
   rw [e]
   exact h
  ·rw [if_neg (by simp [hn])] at h
   rw [if_neg (fun z => hn z.1)]
   exact h
 ·rw [if_neg h0]
  refine Go.Proofs.YtopolnbffmljaaaDoorW.PrintWords.Ev.congr (fun k => if_neg h0) ?_
  by_cases h1 : k0 = 1
  ·rw [if_pos h1]
   refine Go.Proofs.YtopolnbffmljaaaDoorW.PrintWords.Ev.congr (fun k => if_pos h1) ?_
   have h := hj0 true
   rw [if_pos rfl, if_neg (show ¬ k0 = 3 by omega)] at h
   exact h
  ·rw [if_neg h1]
   refine Go.Proofs.YtopolnbffmljaaaDoorW.PrintWords.Ev.congr (fun k => if_neg h1) ?_
   by_cases h2 : k0 = 2
   ·rw [if_pos h2]
    refine Go.Proofs.YtopolnbffmljaaaDoorW.PrintWords.Ev.congr (fun k => if_pos h2) ?_
    by_cases hn : n = 0
    ·refine Go.Proofs.YtopolnbffmljaaaDoorW.PrintWords.Ev.congr (fun k => if_pos hn) ?_
     have h := hj0 true
     rw [if_pos rfl, if_neg (show ¬ k0 = 3 by omega)] at h
     have e : (if (n = 0 ∨ n = 1) ∧ s.toList = [] then (0 : Int) else 31) = (if s.toList = [] then 0 else 31) := by simp [hn]
     rw [e]
     exact h
    ·refine Go.Proofs.YtopolnbffmljaaaDoorW.PrintWords.Ev.congr (fun k => if_neg hn) ?_
     have h := hj0 (n == 1)
     rw [if_neg (show ¬ k0 = 3 by omega)] at h
     by_cases hn1 : n = 1
     ·rw [if_pos (by simp [hn1])] at h
      have e : (if (n = 0 ∨ n = 1) ∧ s.toList = [] then (0 : Int) else 31) = (if s.toList = [] then 0 else 31) := by simp [hn1]
      rw [e]
      exact h
     ·rw [if_neg (by simp [hn1])] at h
      rw [if_neg (fun z => by omega)]
      exact h
   ·rw [if_neg h2]
    refine Go.Proofs.YtopolnbffmljaaaDoorW.PrintWords.Ev.congr (fun k => if_neg h2) ?_
    by_cases h3 : k0 = 3
    ·rw [if_pos h3]
     refine Go.Proofs.YtopolnbffmljaaaDoorW.PrintWords.Ev.congr (fun k => if_pos h3) ?_
     by_cases hn : n = 0
     ·refine Go.Proofs.YtopolnbffmljaaaDoorW.PrintWords.Ev.congr (fun k => if_pos hn) ?_
      have h := hj0 (decide ((s.size : Int) ≤ 200))
      rw [if_pos h3] at h
      by_cases hs : s.size ≤ 200
      ·rw [if_pos (by simp; omega)] at h
       rw [if_pos ⟨hn, hs⟩]
       exact h
      ·rw [if_neg (by simp; omega)] at h
       rw [if_neg (fun z => hs z.2)]
       exact h
     ·refine Go.Proofs.YtopolnbffmljaaaDoorW.PrintWords.Ev.congr (fun k => if_neg hn) ?_
      have h := hj0 false
      rw [if_neg (by simp)] at h
      rw [if_neg (fun z => hn z.1)]
      exact h
    ·rw [if_neg h3]
     exact Go.Proofs.YtopolnbffmljaaaDoorW.PrintWords.Ev.congr (fun k => if_neg h3) (Go.Proofs.YtopolnbffmljaaaDoorW.PrintWords.Ev.now _)
theorem refChk_ev (k n : Int) (s : ByteArray) : Go.Proofs.YtopolnbffmljaaaDoorW.PrintWords.Ev (fun K => headgateref03_Check.f K k n s) (chkV ⟨k, n, s⟩) := by
 unfold headgateref03_Check.f chkV
 simp only
 have hj1 : ∀ b : Bool, Go.Proofs.YtopolnbffmljaaaDoorW.PrintWords.Ev (fun K => headgateref03_Check.j1 K b) (if b = true then 31 else 0) := by
  intro b
  refine Go.Proofs.YtopolnbffmljaaaDoorW.PrintWords.Ev.step (f := fun _ => some (if b = true then 31 else 0)) (fun k => ?_) (Go.Proofs.YtopolnbffmljaaaDoorW.PrintWords.Ev.now _)
  simp only [headgateref03_Check.j1]
  split <;> rfl
 by_cases hneg : k < 0
 ·refine Go.Proofs.YtopolnbffmljaaaDoorW.PrintWords.Ev.congr (fun _ => if_pos hneg) (Go.Proofs.YtopolnbffmljaaaDoorW.PrintWords.Ev.step (f := fun _ => some 30) (fun K => ?_) ?_)
  ·simp only [headgateref03_Check.j0]
   rw [if_pos trivial]
  ·rw [if_neg (by omega), if_neg (by omega), if_neg (by omega), if_neg (by omega)]
   exact Go.Proofs.YtopolnbffmljaaaDoorW.PrintWords.Ev.now _
 refine Go.Proofs.YtopolnbffmljaaaDoorW.PrintWords.Ev.congr (fun _ => if_neg hneg) ?_
 by_cases hbig : k > 3
 ·rw [decide_eq_true hbig]
  refine Go.Proofs.YtopolnbffmljaaaDoorW.PrintWords.Ev.step (f := fun _ => some 30) (fun K => ?_) ?_
  ·simp only [headgateref03_Check.j0]
   rw [if_pos trivial]
  ·rw [if_neg (by omega), if_neg (by omega), if_neg (by omega), if_neg (by omega)]
   exact Go.Proofs.YtopolnbffmljaaaDoorW.PrintWords.Ev.now _
 rw [decide_eq_false hbig]
 by_cases h3 : k = 3
 ·rw [if_neg (by omega), if_neg (by omega), if_neg (by omega), if_pos h3]
  by_cases hn : n = 0
  ·by_cases hs : s.size ≤ 200
   ·rw [if_pos ⟨hn, hs⟩]
    refine Go.Proofs.YtopolnbffmljaaaDoorW.PrintWords.Ev.step (f := fun _ => some 0) (fun K => ?_) (Go.Proofs.YtopolnbffmljaaaDoorW.PrintWords.Ev.now _)
    simp only [headgateref03_Check.j0]
    rw [if_neg (by simp), if_pos h3, if_pos hn, if_neg (by omega)]
   ·rw [if_neg (fun h => hs h.2)]
    refine Go.Proofs.YtopolnbffmljaaaDoorW.PrintWords.Ev.step (f := fun _ => some 31) (fun K => ?_) (Go.Proofs.YtopolnbffmljaaaDoorW.PrintWords.Ev.now _)
    simp only [headgateref03_Check.j0]
    rw [if_neg (by simp), if_pos h3, if_pos hn, if_pos (by omega)]
  ·rw [if_neg (fun h => hn h.1)]
   refine Go.Proofs.YtopolnbffmljaaaDoorW.PrintWords.Ev.step (f := fun _ => some 31) (fun K => ?_) (Go.Proofs.YtopolnbffmljaaaDoorW.PrintWords.Ev.now _)
   simp only [headgateref03_Check.j0]
   rw [if_neg (by simp), if_pos h3, if_neg hn]
 ·by_cases hs : s.toList = []
  ·by_cases h0 : k = 0
   ·rw [if_pos h0]
    by_cases hn : n = 0
    ·rw [if_pos ⟨hn, hs⟩]
     refine Go.Proofs.YtopolnbffmljaaaDoorW.PrintWords.Ev.step (fun K => ?_) (hj1 false)
     simp only [headgateref03_Check.j0]
     rw [if_neg (by simp), if_neg h3, if_pos hs, if_pos h0, if_pos hn, if_neg (by omega)]
    ·rw [if_neg (fun h => hn h.1)]
     refine Go.Proofs.YtopolnbffmljaaaDoorW.PrintWords.Ev.step (fun K => ?_) (hj1 true)
     simp only [headgateref03_Check.j0]
     rw [if_neg (by simp), if_neg h3, if_pos hs, if_pos h0, if_neg hn]
   ·rw [if_neg h0]
    by_cases h1 : k = 1
    ·rw [if_pos h1, if_pos hs]
     refine Go.Proofs.YtopolnbffmljaaaDoorW.PrintWords.Ev.step (fun K => ?_) (hj1 false)
     simp only [headgateref03_Check.j0]
     rw [if_neg (by simp), if_neg h3, if_pos hs, if_neg h0, if_neg (by omega)]
    ·rw [if_neg h1]
     have h2 : k = 2 := by omega
     rw [if_pos h2]
     by_cases hn : n = 0
     ·rw [if_pos ⟨.inl hn, hs⟩]
      refine Go.Proofs.YtopolnbffmljaaaDoorW.PrintWords.Ev.step (fun K => ?_) (hj1 false)
      simp only [headgateref03_Check.j0]
      rw [if_neg (by simp), if_neg h3, if_pos hs, if_neg h0, if_pos h2, if_pos hn]
     ·have hj := hj1 (n != 1)
      have e : (if (n != 1) = true then (31 : Int) else 0) = (if (n = 0 ∨ n = 1) ∧ s.toList = [] then 0 else 31) := by
       by_cases hn1 : n = 1
       ·rw [if_neg (by simp [hn1]), if_pos ⟨.inr hn1, hs⟩]
       ·rw [if_pos (by simpa using hn1), if_neg (fun h => by omega)]
      rw [e] at hj
      refine Go.Proofs.YtopolnbffmljaaaDoorW.PrintWords.Ev.step (fun K => ?_) hj
      simp only [headgateref03_Check.j0]
      rw [if_neg (by simp), if_neg h3, if_pos hs, if_neg h0, if_pos h2, if_neg hn]
  ·have e : (if k = 0 then (if n = 0 ∧ s.toList = [] then (0 : Int) else 31) else if k = 1 then (if s.toList = [] then 0 else 31) else if k = 2 then (if (n = 0 ∨ n = 1) ∧ s.toList = [] then 0 else 31) else if k = 3 then (if n = 0 ∧ s.size ≤ 200 then 0 else 31) else 30) = 31 := by
    by_cases h0 : k = 0
    ·rw [if_pos h0, if_neg (fun h => hs h.2)]
    ·rw [if_neg h0]
     by_cases h1 : k = 1
     ·rw [if_pos h1, if_neg hs]
     ·rw [if_neg h1, if_pos (show k = 2 by omega), if_neg (fun h => hs h.2)]
   rw [e]
   refine Go.Proofs.YtopolnbffmljaaaDoorW.PrintWords.Ev.step (fun K => ?_) (hj1 true)
   simp only [headgateref03_Check.j0]
   rw [if_neg (by simp), if_neg h3, if_neg hs]
end Go.Proofs.YtopolnbffmljaaaDoor.Q
