/- Comparisons of values and rows in plain words. -/
import Derived.Test.YtindffllmlifiaaDoorZValueBack6
import Derived.Test.YtindffllmlifiaaDoorZValueBack1
import Derived.Test.YtindffllmlifiaaDoorZValueBack4
namespace Go.Proofs.YtindffllmlifiaaDoor.Q
open Go.RowKit Go.Proofs.YtindffllmlifiaaDoorW.PrintWords Go.Proofs.YtindffllmlifiaaDoorW.PrintLast Go.Proofs.YtindffllmlifiaaDoorW.PrintMore
set_option linter.unusedVariables false
set_option linter.unusedSimpArgs false
def c2 (x y : Int) : Int := if x < y then -1 else if x > y then 1 else 0
/-- Which of two values comes first. -/
def cmpV (a0 a1 : Int) (a2 : ByteArray) (b0 b1 : Int) (b2 : ByteArray) : Int :=
  if c2 a0 b0 = 0 then (if c2 a1 b1 = 0 then Lib.compareBytes a2.data.toList b2.data.toList else c2 a1 b1) else c2 a0 b0
theorem rd3 (x y z : Int) : rd [x, y, z] 0 = x ∧ rd [x, y, z] 1 = y ∧ rd [x, y, z] 2 = z := ⟨rfl, rfl, rfl⟩
theorem value_Cmp_eq (a0 a1 : Int) (a2 : ByteArray) (b0 b1 : Int) (b2 : ByteArray) : value_Cmp.f 5 a0 a1 a2 b0 b1 b2 = some (cmpV a0 a1 a2 b0 b1 b2) := by
  have h1 : ∀ x y, cmp_Compare_int.f x y = some (c2 x y) := fun x y => by
    unfold cmp_Compare_int.f cmp_isNaN_int.f c2
    simp only [bne_self_eq_false, Option.bind_some]
    rw [if_neg (by simp), if_neg (by simp)]
    split
    · rfl
    · split <;> rfl
  have h2 : ∀ x y, cmp_Compare_int64.f x y = some (c2 x y) := fun x y => by
    unfold cmp_Compare_int64.f cmp_isNaN_int64.f c2
    simp only [bne_self_eq_false, Option.bind_some]
    rw [if_neg (by simp), if_neg (by simp)]
    split
    · rfl
    · split <;> rfl
  have h3 : ∀ x y z : Int, cmp_Or_int.f 5 [x, y, z] = some (if x = 0 then (if y = 0 then z else y) else x) := fun x y z => by
    have e0 : wrap64 (0 + 1) = 1 := by unfold wrap64; omega
    have e1 : wrap64 (1 + 1) = 2 := by unfold wrap64; omega
    have e2 : wrap64 (2 + 1) = 3 := by unfold wrap64; omega
    unfold cmp_Or_int.f
    simp only [cmp_Or_int.l0, (rd3 x y z).1, (rd3 x y z).2.1, (rd3 x y z).2.2, List.length_cons, List.length_nil, e0, e1, e2]
    by_cases hx : x = 0
    · by_cases hy : y = 0
      · by_cases hz : z = 0 <;> simp [hx, hy, hz]
      · simp [hx, hy]
    · simp [hx]
  unfold value_Cmp.f strings_Compare.f cmpV
  rw [h1, h2]
  simp only [Option.bind_some]
  rw [h3]
  rfl
theorem cmp_calls (a0 a1 : Int) (a2 : ByteArray) (b0 b1 : Int) (b2 : ByteArray) (w : World) :
    Calls Tryd.prog 26 #[.agg #[.int .i64 a0, .int .i64 a1, .string a2], .agg #[.int .i64 b0, .int .i64 b1, .string b2]] w fun e w' => e = .returned (.int .i64 (cmpV a0 a1 a2 b0 b1 b2)) ∧ Below w.heap.size w w' :=
  value_Cmp.calls 5 a0 a1 a2 b0 b1 b2 _ w (value_Cmp_eq a0 a1 a2 b0 b1 b2)
theorem bl_cmp : ∀ a b : List UInt8, (Op.bytesLess a b = true ↔ Lib.compareBytes a b = -1) ∧ (a = b ↔ Lib.compareBytes a b = 0) ∧ (Lib.compareBytes a b = -1 ∨ Lib.compareBytes a b = 0 ∨ Lib.compareBytes a b = 1)
  | [], [] => by simp [Op.bytesLess, Lib.compareBytes]
  | [], _ :: _ => by simp [Op.bytesLess, Lib.compareBytes]
  | _ :: _, [] => by simp [Op.bytesLess, Lib.compareBytes]
  | x :: a, y :: b => by
    obtain ⟨h1, h2, h3⟩ := bl_cmp a b
    unfold Op.bytesLess Lib.compareBytes
    by_cases hl : x < y
    · have hne : x ≠ y := by rintro rfl; exact absurd hl (by simp)
      simp [hl, hne]
    · by_cases hg : y < x
      · have hne : x ≠ y := by rintro rfl; exact absurd hg (by simp)
        simp [hl, hg, hne]
      · have heq : x = y := by
          have a1 : x.toNat = y.toNat := by
            simp only [UInt8.lt_iff_toNat_lt] at hl hg
            omega
          exact UInt8.toNat_inj.1 a1
        subst heq
        simp [hl, h1, h2, h3]
theorem cmpV_in (a0 a1 : Int) (a2 : ByteArray) (b0 b1 : Int) (b2 : ByteArray) : cmpV a0 a1 a2 b0 b1 b2 = -1 ∨ cmpV a0 a1 a2 b0 b1 b2 = 0 ∨ cmpV a0 a1 a2 b0 b1 b2 = 1 := by
  unfold cmpV
  have h : ∀ x y, c2 x y = -1 ∨ c2 x y = 0 ∨ c2 x y = 1 := fun x y => by unfold c2; split; exact .inl rfl; split; exact .inr (.inr rfl); exact .inr (.inl rfl)
  split
  · split
    · exact (bl_cmp _ _).2.2
    · exact h _ _
  · exact h _ _
theorem cb_anti : ∀ a b : List UInt8, Lib.compareBytes b a = - Lib.compareBytes a b
  | [], [] => rfl
  | [], _ :: _ => rfl
  | _ :: _, [] => rfl
  | x :: a, y :: b => by
    have h := cb_anti a b
    unfold Lib.compareBytes
    by_cases hl : x < y
    · have hg : ¬ y < x := by simp only [UInt8.lt_iff_toNat_lt] at hl ⊢; omega
      simp [hl, hg]
    · by_cases hg : y < x
      · simp [hl, hg]
      · simp [hl, hg, h]
/-- Which of two rows comes first. -/
def cmpRowV : List S23 → List S23 → Int
  | [], [] => 0
  | [], _ :: _ => -1
  | _ :: _, [] => 1
  | a :: x, b :: y => if cmpV a.f0 a.f1 a.f2 b.f0 b.f1 b.f2 = 0 then cmpRowV x y else cmpV a.f0 a.f1 a.f2 b.f0 b.f1 b.f2
end Go.Proofs.YtindffllmlifiaaDoor.Q
/- value.CmpRow: walked. -/
namespace Go.Proofs.YtindffllmlifiaaDoor.Q
open Go.RowKit Go.Proofs.YtindffllmlifiaaDoorW.PrintWords Go.Proofs.YtindffllmlifiaaDoorW.PrintLast Go.Proofs.YtindffllmlifiaaDoorW.PrintMore
set_option linter.unusedVariables false
set_option linter.unusedSimpArgs false
set_option maxHeartbeats 4000000 in
set_option maxRecDepth 100000 in
theorem CmpRow_walk (A0 : Option Addr) (c0 : Nat) (l : List S23) (A1 : Option Addr) (c1 : Nat) (m : List S23) (hl : l.length ≤ 9223372036854775806) (hm : m.length ≤ 9223372036854775806) (w : World) (hr0 : Kd.C k23 w A0 l.length l) (hc0 : l.length ≤ c0) (hr1 : Kd.C k23 w A1 m.length m) (hc1 : m.length ≤ c1) :
    Calls Tryd.prog 28 #[.slice A0 l.length c0, .slice A1 m.length c1] w fun e w' => e = .returned (.int .i64 (cmpRowV l m)) ∧ Below w.heap.size w w' := by
  have HR0 := Aside0.mk hr0
  have HR1 := Aside0.mk hr1
  obtain ⟨R, hR⟩ : ∃ R, cmpRowV l m = R := ⟨_, rfl⟩
  have HR := Aside0.mk hR
  rw [hR]
  clear hr0 hr1 hR
  by_cases hcase : m.length < l.length
  · have hc1 : ((m.length : Int) < (l.length : Int)) = True := eq_true (by omega)
    have hc2 : (m.length < l.length) = True := eq_true hcase
    have hc3 : decide ((m.length : Int) < (l.length : Int)) = true := decide_eq_true (by omega)
    have HN := Aside0.mk hcase
    clear hcase
    go_enter Tryd.func28, Tryd.ntmps28
    go_wp2
    go_loopg [12] m.length (fun kq v12 wr => ∃ (i : Nat), v12 = .int .i64 i ∧ Aside0 (i + kq = m.length) ∧ Aside0 (cmpRowV (l.drop i) (m.drop i) = R) ∧ Aside0 (Below w.heap.size w wr))
    case atStart => exact ⟨0, rfl, ⟨by omega⟩, ⟨HR.out⟩, ⟨Below.refl _ _⟩⟩
    case round =>
      obtain ⟨i, rfl, HI, HD, HB⟩ := hrel
      cases gk with
      | zero =>
        have hi : i = m.length := HI.out
        have hlb : decide ((i : Int) < (m.length : Int)) = false := decide_eq_false (by omega)
        have hlb2 : decide (i < m.length) = false := decide_eq_false (by omega)
        have hres : Aside0 (cmp_Compare_int.f (l.length : Int) (m.length : Int) = some R) := ⟨by
          have h := HD.out
          rw [hi] at h
          have hc : ∀ x y, cmp_Compare_int.f x y = some (c2 x y) := fun x y => by
            unfold cmp_Compare_int.f cmp_isNaN_int.f c2
            simp only [bne_self_eq_false, Option.bind_some]
            rw [if_neg (by simp), if_neg (by simp)]
            split
            · rfl
            · split <;> rfl
          rw [hc, ← h]
          congr 1
          have hn := HN.out
          rw [List.drop_of_length_le (show m.length ≤ m.length by omega)]
          unfold c2
          obtain ⟨y, ys, hy⟩ : ∃ y ys, l.drop m.length = y :: ys := by
            cases hm : l.drop m.length with
            | nil => have := congrArg List.length hm; rw [List.length_drop, List.length_nil] at this; omega
            | cons y ys => exact ⟨y, ys, rfl⟩
          rw [hy, if_neg (by omega), if_pos (by omega)]
          rfl⟩
        clear hi
        go_wp2_with (go_at_call 36; refine (cmp_Compare_int.calls _ _ R _ hres.out).mono ?_; rintro e w2 ⟨rfl, hb2⟩; have HB2 : Aside0 (Below w.heap.size w w2) := ⟨by first | exact below_step HB.out hb2 | (obtain ⟨n, rfl⟩ := hb2.out; exact pw_below_drewN HB.out n)⟩; clear hb2)
        go_ret
        exact ⟨rfl, HB2.out⟩
      | succ k1 =>
        have hlt : i < m.length := by have := HI.out; omega
        have hil : i < l.length := by have := HN.out; omega
        have him : i < m.length := by have := HN.out; omega
        have hlb : decide ((i : Int) < (m.length : Int)) = true := decide_eq_true (by omega)
        have hlb2 : decide (i < m.length) = true := decide_eq_true hlt
        have hilp : (i : Int) < (l.length : Int) := by omega
        have himp : (i : Int) < (m.length : Int) := by omega
        have hw1 : wrap64 ((i : Int) + 1) = (i : Int) + 1 := wrap_in (by unfold in64; omega)
        obtain ⟨ad, rfl, x0, x1, x2⟩ := at_T23 (Kd.C_below HR0.out HB.out) (i : Int) (by omega) hilp
        obtain ⟨bd, rfl, y0, y1, y2⟩ := at_T23 (Kd.C_below HR1.out HB.out) (i : Int) (by omega) himp
        have hd := HD.out
        have hdl := rdV_drop l (i : Int) (by omega) hilp
        have hdm := rdV_drop m (i : Int) (by omega) himp
        have e1 : ((i : Int) + 1).toNat = i + 1 := by omega
        rw [Int.toNat_natCast, e1] at hdl hdm
        rw [hdl, hdm] at hd
        obtain ⟨x, hx⟩ : ∃ x, rd_T23 l (i : Int) = x := ⟨_, rfl⟩
        obtain ⟨y, hy⟩ : ∃ y, rd_T23 m (i : Int) = y := ⟨_, rfl⟩
        rw [hx] at x0 x1 x2 hd
        rw [hy] at y0 y1 y2 hd
        rw [Int.toNat_natCast] at x0 x1 x2 y0 y1 y2
        have hd2 : (if cmpV x.f0 x.f1 x.f2 y.f0 y.f1 y.f2 = 0 then cmpRowV (l.drop (i + 1)) (m.drop (i + 1)) else cmpV x.f0 x.f1 x.f2 y.f0 y.f1 y.f2) = R := hd
        have hcall := cmp_calls x.f0 x.f1 x.f2 y.f0 y.f1 y.f2
        obtain ⟨cv, hcv⟩ : ∃ cv, cmpV x.f0 x.f1 x.f2 y.f0 y.f1 y.f2 = cv := ⟨_, rfl⟩
        rw [hcv] at hcall hd2
        clear hd hdl hdm hx hy hcv e1 hil him hlt
        by_cases hc : cv = 0
        · rw [if_pos hc] at hd2
          have HD2 := Aside0.mk hd2
          subst hc
          clear hd2
          go_upto_region 4 with (fail)
          go_region_with (go_at_call 26; refine (hcall _).mono ?_; rintro e w2 ⟨rfl, hb2⟩; have HB2 : Aside0 (Below w.heap.size w w2) := ⟨below_step (by with_reducible repeat (first | exact HB.out | apply pw_below_drewN | apply below_drew1)) hb2⟩; clear hb2)
          all_goals go_wp2
          all_goals go_roundg k1
          all_goals first | omega | exact ⟨i + 1, by congr 1, ⟨by have := HI.out; omega⟩, HD2, HB2⟩
        · rw [if_neg hc] at hd2
          subst hd2
          have hcb : (cv == 0) = false := beq_eq_false_iff_ne.2 hc
          have hcn : (cv != 0) = true := bne_iff_ne.2 hc
          clear hc
          go_upto_region 4 with (fail)
          go_region_with (go_at_call 26; refine (hcall _).mono ?_; rintro e w2 ⟨rfl, hb2⟩; have HB2 : Aside0 (Below w.heap.size w w2) := ⟨below_step (by with_reducible repeat (first | exact HB.out | apply pw_below_drewN | apply below_drew1)) hb2⟩; clear hb2)
          all_goals go_wp2
          all_goals go_ret
          all_goals exact ⟨rfl, HB2.out⟩
  · have hc1 : ((m.length : Int) < (l.length : Int)) = False := eq_false (by omega)
    have hc2 : (m.length < l.length) = False := eq_false hcase
    have hc3 : decide ((m.length : Int) < (l.length : Int)) = false := decide_eq_false (by omega)
    have HN := Aside0.mk hcase
    clear hcase
    go_enter Tryd.func28, Tryd.ntmps28
    go_wp2
    go_loopg [12] l.length (fun kq v12 wr => ∃ (i : Nat), v12 = .int .i64 i ∧ Aside0 (i + kq = l.length) ∧ Aside0 (cmpRowV (l.drop i) (m.drop i) = R) ∧ Aside0 (Below w.heap.size w wr))
    case atStart => exact ⟨0, rfl, ⟨by omega⟩, ⟨HR.out⟩, ⟨Below.refl _ _⟩⟩
    case round =>
      obtain ⟨i, rfl, HI, HD, HB⟩ := hrel
      cases gk with
      | zero =>
        have hi : i = l.length := HI.out
        have hlb : decide ((i : Int) < (l.length : Int)) = false := decide_eq_false (by omega)
        have hlb2 : decide (i < l.length) = false := decide_eq_false (by omega)
        have hres : Aside0 (cmp_Compare_int.f (l.length : Int) (m.length : Int) = some R) := ⟨by
          have h := HD.out
          rw [hi] at h
          have hc : ∀ x y, cmp_Compare_int.f x y = some (c2 x y) := fun x y => by
            unfold cmp_Compare_int.f cmp_isNaN_int.f c2
            simp only [bne_self_eq_false, Option.bind_some]
            rw [if_neg (by simp), if_neg (by simp)]
            split
            · rfl
            · split <;> rfl
          rw [hc, ← h]
          congr 1
          have hn := HN.out
          rw [List.drop_of_length_le (show l.length ≤ l.length by omega)]
          unfold c2
          by_cases he : l.length = m.length
          · rw [List.drop_of_length_le (show m.length ≤ l.length by omega), if_neg (by omega), if_neg (by omega)]
            rfl
          · obtain ⟨y, ys, hy⟩ : ∃ y ys, m.drop l.length = y :: ys := by
              cases hm : m.drop l.length with
              | nil => have := congrArg List.length hm; rw [List.length_drop, List.length_nil] at this; omega
              | cons y ys => exact ⟨y, ys, rfl⟩
            rw [hy, if_pos (by omega)]
            rfl⟩
        clear hi
        go_wp2_with (go_at_call 36; refine (cmp_Compare_int.calls _ _ R _ hres.out).mono ?_; rintro e w2 ⟨rfl, hb2⟩; have HB2 : Aside0 (Below w.heap.size w w2) := ⟨by first | exact below_step HB.out hb2 | (obtain ⟨n, rfl⟩ := hb2.out; exact pw_below_drewN HB.out n)⟩; clear hb2)
        go_ret
        exact ⟨rfl, HB2.out⟩
      | succ k1 =>
        have hlt : i < l.length := by have := HI.out; omega
        have hil : i < l.length := by have := HN.out; omega
        have him : i < m.length := by have := HN.out; omega
        have hlb : decide ((i : Int) < (l.length : Int)) = true := decide_eq_true (by omega)
        have hlb2 : decide (i < l.length) = true := decide_eq_true hlt
        have hilp : (i : Int) < (l.length : Int) := by omega
        have himp : (i : Int) < (m.length : Int) := by omega
        have hw1 : wrap64 ((i : Int) + 1) = (i : Int) + 1 := wrap_in (by unfold in64; omega)
        obtain ⟨ad, rfl, x0, x1, x2⟩ := at_T23 (Kd.C_below HR0.out HB.out) (i : Int) (by omega) hilp
        obtain ⟨bd, rfl, y0, y1, y2⟩ := at_T23 (Kd.C_below HR1.out HB.out) (i : Int) (by omega) himp
        have hd := HD.out
        have hdl := rdV_drop l (i : Int) (by omega) hilp
        have hdm := rdV_drop m (i : Int) (by omega) himp
        have e1 : ((i : Int) + 1).toNat = i + 1 := by omega
        rw [Int.toNat_natCast, e1] at hdl hdm
        rw [hdl, hdm] at hd
        obtain ⟨x, hx⟩ : ∃ x, rd_T23 l (i : Int) = x := ⟨_, rfl⟩
        obtain ⟨y, hy⟩ : ∃ y, rd_T23 m (i : Int) = y := ⟨_, rfl⟩
        rw [hx] at x0 x1 x2 hd
        rw [hy] at y0 y1 y2 hd
        rw [Int.toNat_natCast] at x0 x1 x2 y0 y1 y2
        have hd2 : (if cmpV x.f0 x.f1 x.f2 y.f0 y.f1 y.f2 = 0 then cmpRowV (l.drop (i + 1)) (m.drop (i + 1)) else cmpV x.f0 x.f1 x.f2 y.f0 y.f1 y.f2) = R := hd
        have hcall := cmp_calls x.f0 x.f1 x.f2 y.f0 y.f1 y.f2
        obtain ⟨cv, hcv⟩ : ∃ cv, cmpV x.f0 x.f1 x.f2 y.f0 y.f1 y.f2 = cv := ⟨_, rfl⟩
        rw [hcv] at hcall hd2
        clear hd hdl hdm hx hy hcv e1 hil him hlt
        by_cases hc : cv = 0
        · rw [if_pos hc] at hd2
          have HD2 := Aside0.mk hd2
          subst hc
          clear hd2
          go_upto_region 4 with (fail)
          go_region_with (go_at_call 26; refine (hcall _).mono ?_; rintro e w2 ⟨rfl, hb2⟩; have HB2 : Aside0 (Below w.heap.size w w2) := ⟨below_step (by with_reducible repeat (first | exact HB.out | apply pw_below_drewN | apply below_drew1)) hb2⟩; clear hb2)
          all_goals go_wp2
          all_goals go_roundg k1
          all_goals first | omega | exact ⟨i + 1, by congr 1, ⟨by have := HI.out; omega⟩, HD2, HB2⟩
        · rw [if_neg hc] at hd2
          subst hd2
          have hcb : (cv == 0) = false := beq_eq_false_iff_ne.2 hc
          have hcn : (cv != 0) = true := bne_iff_ne.2 hc
          clear hc
          go_upto_region 4 with (fail)
          go_region_with (go_at_call 26; refine (hcall _).mono ?_; rintro e w2 ⟨rfl, hb2⟩; have HB2 : Aside0 (Below w.heap.size w w2) := ⟨below_step (by with_reducible repeat (first | exact HB.out | apply pw_below_drewN | apply below_drew1)) hb2⟩; clear hb2)
          all_goals go_wp2
          all_goals go_ret
          all_goals exact ⟨rfl, HB2.out⟩
def value_CmpRow.f (l0 l1 : List S23) : Option Int := if l0.length ≤ 9223372036854775806 ∧ l1.length ≤ 9223372036854775806 then some (cmpRowV l0 l1) else none
theorem value_CmpRow.calls (A0 : Option Addr) (c0 : Nat) (l0 : List S23) (A1 : Option Addr) (c1 : Nat) (l1 : List S23) (r : Int) (w : World) (hr0 : Kd.C k23 w A0 l0.length l0) (hc0 : l0.length ≤ c0) (hr1 : Kd.C k23 w A1 l1.length l1) (hc1 : l1.length ≤ c1) (h : value_CmpRow.f l0 l1 = some r) :
    Calls Tryd.prog 28 #[.slice A0 l0.length c0, .slice A1 l1.length c1] w fun e w' => e = .returned (.int .i64 r) ∧ Below w.heap.size w w' := by
  unfold value_CmpRow.f at h
  split at h
  · rename_i hi
    rw [← Option.some.inj h]
    exact CmpRow_walk A0 c0 l0 A1 c1 l1 hi.1 hi.2 w hr0 hc0 hr1 hc1
  · cases h
end Go.Proofs.YtindffllmlifiaaDoor.Q
