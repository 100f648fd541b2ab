/- Windows: the laws of which there are, of their shift and of what lies in them: of the printed functions alone; no machine in it. -/
import Derived.Test.YtjmladgjpielmaaHWinB
import Derived.Test.YtjmladgjpielmaaBx1
import Derived.Test.YtjmladgjpielmaaBx2
namespace Go.Proofs.Ytjmladgjpielmaa.Q
open Go.RowKit Go.Proofs.YtjmladgjpielmaaW.PrintWords Go.Proofs.YtjmladgjpielmaaW.PrintLast Go.Proofs.YtjmladgjpielmaaW.PrintMore
set_option linter.unusedVariables false
set_option linter.unusedSimpArgs false

/-- n multiples of s in a row, above p times s. -/
def up (p : Int) (n : Nat) (s : Int) : List Int := (List.range n).map fun i : Nat => (p + 1 + (i : Int)) * s
theorem wins_up (t size slide : Int) : wins t size slide = up ((t - size) / slide) (t / slide - (t - size) / slide).toNat slide := rfl
theorem up_length (p : Int) (n : Nat) (s : Int) : (up p n s).length = n := by simp [up]
theorem up_rd (p : Int) (n : Nat) (s : Int) {i : Int} (h0 : 0 ≤ i) (h1 : i < (n : Int)) : rd (up p n s) i = (p + 1 + i) * s := by
  unfold rd up
  obtain ⟨m, rfl⟩ := Int.eq_ofNat_of_zero_le h0
  rw [List.getD_eq_getElem?_getD, List.getElem?_map, List.getElem?_range (by omega)]
  rfl
theorem up_cons (j : Int) (n : Nat) (s : Int) : [j * s] ++ up j n s = up (j - 1) (n + 1) s := by
  unfold up
  rw [List.range_succ_eq_map, List.map_cons, List.map_map, List.singleton_append]
  congr 1
  · congr 1
    simp
    try omega
  · refine List.map_congr_left fun i _ => ?_
    show (j + 1 + (i : Int)) * s = (j - 1 + 1 + ((i + 1 : Nat) : Int)) * s
    congr 1
    omega
theorem mul_mono {a b s : Int} (h : a ≤ b) (hs : 1 ≤ s) : a * s ≤ b * s := Int.mul_le_mul_of_nonneg_right h (by omega)

theorem Right_eq (k : Nat) (size slide : Int) (hs : in64 size) (hl : in64 slide) : headgateref14_Right.f (k + 1) size slide = some (decide (winRight size slide)) := by
  unfold headgateref14_Right.f
  simp only [headgateref14_Right.j0]
  unfold in64 at hs hl
  by_cases h1 : slide < 1
  · rw [if_pos h1, if_pos trivial, decide_eq_false (fun z : winRight size slide => by unfold winRight at z; omega)]
  rw [if_neg h1]
  by_cases h2 : size < slide
  · rw [if_pos h2, if_pos trivial, decide_eq_false (fun z : winRight size slide => by unfold winRight at z; omega)]
  rw [if_neg h2]
  by_cases h3 : size > 72057594037927936
  · rw [if_pos (decide_eq_true h3), decide_eq_false (fun z : winRight size slide => by unfold winRight at z; omega)]
  rw [if_neg (by simpa using h3)]
  have e : (size - 1) / slide < 64 ↔ size - 1 < 64 * slide := Int.ediv_lt_iff_lt_mul (by omega)
  by_cases h4 : slide > 1125899906842624
  · rw [if_pos h4, decide_eq_true (show winRight size slide from ⟨by omega, by omega, by omega, by omega⟩)]
  · rw [if_neg h4, wrap_in (x := 64 * slide) (by unfold in64; omega)]
    congr 1
    rw [decide_eq_decide]
    exact ⟨fun z => ⟨by omega, by omega, by omega, by omega⟩, fun z => by unfold winRight at z; omega⟩

theorem ref_loop {t size slide : Int} (ht : timeOk t) (hr : winRight size slide) : ∀ (d : Nat) (j : Int) (n : Nat), j = (t - size) / slide + d → j ≤ t / slide → n = (t / slide - j).toNat →
    Ev (fun k => headgateref14_Of.l0 k t size slide (up j n slide) (j * slide)) (wins t size slide, 0) := by
  obtain ⟨a1, a2, a3, a4, a5, a6, a7, a8, a9⟩ := win_nums hr ht
  have hr' := hr
  have ht' := ht
  unfold winRight at hr'
  unfold timeOk at ht'
  have e1 : ((t - size) / slide + 1) * slide = (t - size) / slide * slide + slide := by rw [Int.add_mul]; omega
  intro d
  induction d with
  | zero =>
    intro j n hj hq hn
    have hj' : j = (t - size) / slide := by omega
    subst hj'
    refine Ev.step (f := fun _ => some (wins t size slide, 0)) (fun k => ?_) (Ev.now _)
    simp only [headgateref14_Of.l0]
    rw [wrap_in (x := t - (t - size) / slide * slide) (by unfold in64; omega), if_neg (by omega), wins_up, hn]
  | succ d ih =>
    intro j n hj hq hn
    have m1 := mul_mono (show (t - size) / slide + 1 ≤ j by omega) hr'.1
    have m2 := mul_mono hq hr'.1
    have e2 : (j - 1) * slide = j * slide - slide := by rw [Int.sub_mul]; omega
    refine Ev.step (fun k => ?_) (ih (j - 1) (n + 1) (by omega) (by omega) (by omega))
    simp only [headgateref14_Of.l0]
    rw [wrap_in (x := t - j * slide) (by unfold in64; omega), if_pos (by omega), Option.bind_some, if_pos (by rw [up_length]; simp; omega), up_cons, wrap_in (x := j * slide - slide) (by unfold in64; omega), e2]
theorem refOf_eq (t size slide : Int) (ht : in64 t) (hs : in64 size) (hl : in64 slide) : Ev (fun k => headgateref14_Of.f k t size slide) (winsOf t size slide, winErr t size slide) := by
  unfold headgateref14_Of.f
  refine Ev.bind (a := decide (winRight size slide)) (Ev.step (f := fun _ => some (decide (winRight size slide))) (fun k => Right_eq k size slide hs hl) (Ev.now _)) ?_
  by_cases hr : winRight size slide
  · refine Ev.congr (fun k => if_pos (decide_eq_true hr)) ?_
    by_cases hk : timeOk t
    · have he : winErr t size slide = 0 := (winErr_0 _ _ _).2 ⟨hr, hk⟩
      have hk' := hk
      unfold timeOk at hk'
      have hw : winsOf t size slide = wins t size slide := by unfold winsOf; rw [if_pos he]
      rw [he, hw]
      refine Ev.congr (fun k => if_neg (by omega)) ?_
      obtain ⟨a1, a2, a3, a4, a5, a6, a7, a8, a9⟩ := win_nums hr hk
      have hr' := hr
      unfold winRight at hr'
      have e1 : (t / slide + 1) * slide = t / slide * slide + slide := by rw [Int.add_mul]; omega
      have hl := ref_loop hk hr (t / slide - (t - size) / slide).toNat (t / slide) 0 (by omega) (by omega) (by omega)
      refine Ev.step (fun k => ?_) hl
      simp only [headgateref14_Of.j0]
      rw [if_neg (by simp; omega), ref_Floor_eq _ _ ht (by assumption)]
      unfold floorS
      rw [if_neg (by omega), Option.bind_some]
      show headgateref14_Of.l0 _ _ _ _ _ (wrap64 (t / slide * slide)) = _
      rw [wrap_in (x := t / slide * slide) (by unfold in64; omega)]
      rfl
    · have he : winErr t size slide = 2 := by unfold winErr; rw [if_pos hr, if_neg hk]
      have hw : winsOf t size slide = [] := by unfold winsOf; rw [if_neg (by omega)]
      rw [he, hw]
      unfold timeOk at hk
      by_cases h1 : t < -72057594037927936
      · refine Ev.congr (fun k => if_pos h1) ?_
        exact Ev.step (f := fun _ => some ([], 2)) (fun k => by simp only [headgateref14_Of.j0]; rw [if_pos trivial]) (Ev.now _)
      · refine Ev.congr (fun k => if_neg h1) ?_
        exact Ev.step (f := fun _ => some ([], 2)) (fun k => by simp only [headgateref14_Of.j0]; rw [if_pos (by simp; omega)]) (Ev.now _)
  · have he : winErr t size slide = 140 := by unfold winErr; rw [if_neg hr]
    have hw : winsOf t size slide = [] := by unfold winsOf; rw [if_neg (by omega)]
    rw [he, hw]
    refine Ev.congr (fun k => if_neg (by simpa using hr)) ?_
    exact Ev.now _
theorem Check_ev (size slide : Int) (hs : in64 size) (hl : in64 slide) : Ev (fun k => window_Check.f k size slide) (if winRight size slide then 0 else 140) := Ev.step (fun k => Check_eq k size slide hs hl) (Ev.now _)
theorem alive_eq : headgatelaw14_alive.f = some true := by
  unfold headgatelaw14_alive.f
  rw [window_Of.f_eq (by decide) (by decide) (by decide), window_Of.f_eq (by decide) (by decide) (by decide)]
  decide

theorem of_loop (x : List Int) (hx : x.length ≤ 64) : ∀ (d : Nat) (i : Int), 0 ≤ i → i + d = x.length → Ev (fun k => headgatelaw14_WindowOf.l0 k x x i) true := by
  intro d
  induction d with
  | zero =>
    intro i h0 h1
    exact Ev.step (f := fun _ => some true) (fun k => by simp only [headgatelaw14_WindowOf.l0]; rw [if_neg (by omega)]) (Ev.now _)
  | succ d ih =>
    intro i h0 h1
    refine Ev.step (fun k => ?_) (ih (i + 1) (by omega) (by omega))
    simp only [headgatelaw14_WindowOf.l0]
    rw [if_pos (by omega), if_pos h0, if_pos (by omega), if_pos trivial, wrap_in (x := i + 1) (by unfold in64; omega)]
theorem WindowOf_pure (a0 a1 a2 : Int) (w0 : (Lit.int .i64 a0).wf = true) (w1 : (Lit.int .i64 a1).wf = true) (w2 : (Lit.int .i64 a2).wf = true) : ∃ k, headgatelaw14_WindowOf.f k a0 a1 a2 = some true := by
  have h0 := wf64 w0
  have h1 := wf64 w1
  have h2 := wf64 w2
  refine Ev.rounds ?_
  unfold headgatelaw14_WindowOf.f
  rw [alive_eq]
  refine Ev.congr (fun k => (Option.bind_some _ _).trans (if_pos rfl)) ?_
  rw [window_Of.f_eq h0 h1 h2]
  refine Ev.congr (fun k => Option.bind_some _ _) ?_
  refine Ev.bind (refOf_eq a0 a1 a2 h0 h1 h2) ?_
  refine Ev.congr (fun k => (if_pos rfl).trans (if_pos rfl)) ?_
  refine Ev.bind (Check_ev a1 a2 h1 h2) ?_
  refine Ev.bind (Ev.step (f := fun _ => some (decide (winRight a1 a2))) (fun k => Right_eq k a1 a2 h1 h2) (Ev.now _)) ?_
  refine Ev.step (fun k => ?_) (of_loop (winsOf a0 a1 a2) (winsOf_length _ _ _) (winsOf a0 a1 a2).length 0 (by omega) (by omega))
  simp only [headgatelaw14_WindowOf.j0]
  rw [if_neg (by by_cases hr : winRight a1 a2 <;> simp [hr])]

theorem wrap32 {x : Int} (h : (Lit.int .i32 x).wf = true) : -2147483648 ≤ x ∧ x ≤ 2147483647 := by
  have hmin : IntKind.i32.min = -2147483648 := rfl
  have hmax : IntKind.i32.max = 2147483647 := rfl
  simp only [Lit.wf, Bool.and_eq_true, decide_eq_true_eq] at h
  omega
theorem wrap16 {x : Int} (h : (Lit.int .i16 x).wf = true) : -32768 ≤ x ∧ x ≤ 32767 := by
  have hmin : IntKind.i16.min = -32768 := rfl
  have hmax : IntKind.i16.max = 32767 := rfl
  simp only [Lit.wf, Bool.and_eq_true, decide_eq_true_eq] at h
  omega
theorem up_shift (p c : Int) (n : Nat) (s : Int) {i : Int} (h0 : 0 ≤ i) (h1 : i < (n : Int)) : rd (up (p + c) n s) i = rd (up p n s) i + c * s := by
  rw [up_rd _ _ _ h0 h1, up_rd _ _ _ h0 h1, ← Int.add_mul]
  congr 1
  omega
theorem shift_loop (s c p : Int) (n : Nat) (hn : n ≤ 64) (hc : in64 c) (hcs : in64 (c * s)) (hin : ∀ i : Int, 0 ≤ i → i < (n : Int) → in64 (rd (up p n s) i + c * s)) : ∀ (d : Nat) (i : Int), 0 ≤ i → i + d = n → Ev (fun k => headgatelaw14_WindowShifts.l0 k s c (up p n s) (up (p + c) n s) i) true := by
  intro d
  induction d with
  | zero =>
    intro i h0 h1
    exact Ev.step (f := fun _ => some true) (fun k => by simp only [headgatelaw14_WindowShifts.l0]; rw [if_neg (by rw [up_length]; omega)]) (Ev.now _)
  | succ d ih =>
    intro i h0 h1
    refine Ev.step (fun k => ?_) (ih (i + 1) (by omega) (by omega))
    simp only [headgatelaw14_WindowShifts.l0]
    rw [if_pos (by rw [up_length]; omega), if_pos h0, if_pos (by rw [up_length]; omega), wrap_in (x := c) hc, wrap_in (x := c * s) hcs, wrap_in (hin i h0 (by omega)), if_pos (up_shift _ _ _ _ h0 (by omega)), wrap_in (x := i + 1) (by unfold in64; omega)]
theorem WindowShifts_pure (a0 a1 a2 a3 : Int) (w0 : (Lit.int .i32 a0).wf = true) (w1 : (Lit.int .i64 a1).wf = true) (w2 : (Lit.int .i64 a2).wf = true) (w3 : (Lit.int .i16 a3).wf = true) : ∃ k, headgatelaw14_WindowShifts.f k a0 a1 a2 a3 = some true := by
  have h0 := wrap32 w0
  have h1 := wf64 w1
  have h2 := wf64 w2
  have h3 := wrap16 w3
  refine Ev.rounds ?_
  unfold headgatelaw14_WindowShifts.f
  rw [alive_eq, wrap_in (x := a0) (by unfold in64; omega), wrap_in (x := a3) (by unfold in64; omega)]
  refine Ev.congr (fun k => (Option.bind_some _ _).trans (if_pos rfl)) ?_
  by_cases hb : a1 > 1099511627776
  · exact Ev.congr (fun k => if_pos hb) (Ev.now _)
  refine Ev.congr (fun k => if_neg hb) ?_
  rw [window_Of.f_eq (a0 := a0) (by unfold in64; omega) h1 h2]
  refine Ev.congr (fun k => Option.bind_some _ _) ?_
  have ht : timeOk a0 := by unfold timeOk; omega
  by_cases hr : winRight a1 a2
  · have he : winErr a0 a1 a2 = 0 := (winErr_0 _ _ _).2 ⟨hr, ht⟩
    have hr' := hr
    unfold winRight at hr'
    obtain ⟨m, hm⟩ : ∃ m, a3 * a2 = m := ⟨_, rfl⟩
    have hm1 : -32768 * a2 ≤ m := by rw [← hm]; exact Int.mul_le_mul_of_nonneg_right (by omega) (by omega)
    have hm2 : m ≤ 32767 * a2 := by rw [← hm]; exact Int.mul_le_mul_of_nonneg_right (by omega) (by omega)
    have ht2 : timeOk (a0 + m) := by unfold timeOk; omega
    have he2 : winErr (a0 + m) a1 a2 = 0 := (winErr_0 _ _ _).2 ⟨hr, ht2⟩
    have hw1 : winsOf a0 a1 a2 = wins a0 a1 a2 := by unfold winsOf; rw [if_pos he]
    have hw2 : winsOf (a0 + m) a1 a2 = wins (a0 + m) a1 a2 := by unfold winsOf; rw [if_pos he2]
    rw [hm, wrap_in (x := m) (by unfold in64; omega), wrap_in (x := a0 + m) (by unfold in64; omega), window_Of.f_eq (a0 := a0 + m) (by unfold in64; omega) h1 h2, he, he2, hw1, hw2]
    refine Ev.congr (fun k => (if_pos rfl).trans ((Option.bind_some _ _).trans (if_pos rfl))) ?_
    have d1 : (a0 + m) / a2 = a0 / a2 + a3 := by rw [← hm]; exact Int.add_mul_ediv_right _ _ (by omega)
    have d2 : (a0 + m - a1) / a2 = (a0 - a1) / a2 + a3 := by rw [← hm, show a0 + a3 * a2 - a1 = a0 - a1 + a3 * a2 by omega]; exact Int.add_mul_ediv_right _ _ (by omega)
    obtain ⟨b1, b2, b3, b4, b5, b6, b7, b8, b9⟩ := win_nums hr ht
    have e2 : wins (a0 + m) a1 a2 = up ((a0 - a1) / a2 + a3) (a0 / a2 - (a0 - a1) / a2).toNat a2 := by
      rw [wins_up, d1, d2]
      congr 2
      omega
    have e1 := wins_up a0 a1 a2
    refine Ev.step (fun k => ?_) (shift_loop a2 a3 ((a0 - a1) / a2) (a0 / a2 - (a0 - a1) / a2).toNat (by omega) (by unfold in64; omega) (by rw [hm]; unfold in64; omega) (fun i i0 i1 => ?_) (a0 / a2 - (a0 - a1) / a2).toNat 0 (by omega) (by omega))
    · simp only [headgatelaw14_WindowShifts.j0]
      rw [if_neg (by rw [e1, e2, up_length, up_length]; simp), e1, e2]
    · obtain ⟨j, rfl⟩ := Int.eq_ofNat_of_zero_le i0
      have := wins_in hr ht (i := j) (by rw [wins_length]; omega)
      rw [hm, up_rd _ _ _ i0 i1]
      unfold in64
      omega
  · have he : winErr a0 a1 a2 = 140 := by unfold winErr; rw [if_neg hr]
    rw [he]
    refine Ev.congr (fun k => if_neg (by show ¬ (140 : Int) = 0; decide)) ?_
    refine Ev.bind (Check_ev a1 a2 h1 h2) ?_
    rw [if_neg hr]
    exact Ev.now _

theorem Has_eq (a0 a1 a2 : Int) (h0 : in64 a0) (h1 : in64 a1) (h2 : in64 a2) : window_Has.f a0 a1 a2 = some (decide (a0 ≤ a2 ∧ a2 - a0 < a1)) := by
  unfold window_Has.f mx
  unfold in64 at h0 h1 h2
  by_cases h : a2 ≥ a0
  · rw [if_pos h]
    congr 1
    rw [decide_eq_decide]
    simp only [wrapu]
    split <;> omega
  · rw [if_neg h]
    congr 1
    symm
    rw [decide_eq_false_iff_not]
    omega
theorem refHas_eq (a0 a1 a2 : Int) (h0 : in64 a0) (h1 : in64 a1) (h2 : in64 a2) : headgateref14_Has.f a0 a1 a2 = some (decide (a0 ≤ a2 ∧ a2 - a0 < a1)) := by
  unfold headgateref14_Has.f
  unfold in64 at h0 h1 h2
  by_cases h : a2 < a0
  · rw [if_pos h]
    congr 1
    symm
    rw [decide_eq_false_iff_not]
    omega
  rw [if_neg h]
  by_cases h' : a1 ≤ 0
  · rw [if_pos h']
    congr 1
    symm
    rw [decide_eq_false_iff_not]
    omega
  rw [if_neg h', wrap_in (x := a1 - 1) (by unfold in64; omega)]
  congr 1
  rw [decide_eq_decide]
  simp only [wrapu]
  omega
theorem has_loop {t size slide : Int} (hr : winRight size slide) (ht : timeOk t) (hs : in64 size) (hl : in64 slide) (htt : in64 t) : ∀ (d : Nat) (i : Int), 0 ≤ i → i + d = (wins t size slide).length →
    Ev (fun k => headgatelaw14_WindowHas.l0 k t size slide (wins t size slide) i) true := by
  obtain ⟨a1, a2, a3, a4, a5, a6, a7, a8, a9⟩ := win_nums hr ht
  have hr' := hr
  have ht' := ht
  unfold winRight at hr'
  unfold timeOk at ht'
  have e1 : ((t - size) / slide + 1) * slide = (t - size) / slide * slide + slide := by rw [Int.add_mul]; omega
  have e2 : (t / slide + 1) * slide = t / slide * slide + slide := by rw [Int.add_mul]; omega
  rw [wins_up]
  obtain ⟨p, hp⟩ : ∃ p, (t - size) / slide = p := ⟨_, rfl⟩
  obtain ⟨q, hq⟩ : ∃ q, t / slide = q := ⟨_, rfl⟩
  rw [hp] at a1 a2 a4 a5 a8 a9 e1 ⊢
  rw [hq] at a2 a3 a4 a6 a7 a9 e2 ⊢
  have hn : ∀ i : Int, 0 ≤ i → i < ((q - p).toNat : Int) → ∃ x, rd (up p (q - p).toNat slide) i = x ∧ t - size < x ∧ x ≤ t ∧ Int.tmod x slide = 0 := by
    intro i i0 i1
    refine ⟨_, up_rd _ _ _ i0 i1, ?_, ?_, Int.mul_tmod_left _ _⟩
    · have := mul_mono (show p + 1 ≤ p + 1 + i by omega) hr'.1
      omega
    · have := mul_mono (show p + 1 + i ≤ q by omega) hr'.1
      omega
  intro d
  induction d with
  | zero =>
    intro i h0 h1
    rw [up_length] at h1
    refine Ev.step (f := fun _ => some true) (fun k => ?_) (Ev.now _)
    simp only [headgatelaw14_WindowHas.l0]
    rw [up_length, if_neg (by omega), if_pos (by omega), if_pos (by omega), up_rd _ _ _ (by omega) (by omega), wrap_in (x := ((q - p).toNat : Int) - 1) (by unfold in64; omega), up_rd _ _ _ (by omega) (by omega),
      show (p + 1 + 0) * slide = (p + 1) * slide by rw [Int.add_zero], show (p + 1 + (((q - p).toNat : Int) - 1)) = q by omega, wrap_in (x := (p + 1) * slide - slide) (by unfold in64; omega), wrap_in (x := q * slide + slide) (by unfold in64; omega),
      Has_eq _ _ _ (by unfold in64; omega) hs htt, Has_eq _ _ _ (by unfold in64; omega) hs htt]
    rw [Option.bind_some, if_neg (by simp; omega), if_pos (by omega), if_pos (by omega), Option.bind_some, if_neg (by simp; omega)]
    by_cases hz : size = slide
    · rw [if_pos hz]
      congr 1
      have e3 : t / slide = (t - slide) / slide + 1 := by
        have := Int.add_mul_ediv_right (t - slide) 1 (show slide ≠ 0 by omega)
        rw [show t - slide + 1 * slide = t by omega] at this
        exact this
      rw [hz] at hp
      rw [hp, hq] at e3
      simp
      omega
    · rw [if_neg hz]
  | succ d ih =>
    intro i h0 h1
    rw [up_length] at h1
    obtain ⟨x, hx, x1, x2, x3⟩ := hn i h0 (by omega)
    have hj : Ev (fun k => headgatelaw14_WindowHas.j1 k t size slide (up p (q - p).toNat slide) i false) true := by
      refine Ev.step (fun k => ?_) (ih (i + 1) (by omega) (by rw [up_length]; omega))
      simp only [headgatelaw14_WindowHas.j1]
      rw [if_neg (by simp), wrap_in (x := i + 1) (by unfold in64; omega)]
    refine Ev.step (fun k => ?_) hj
    simp only [headgatelaw14_WindowHas.l0]
    rw [if_pos (by rw [up_length]; omega), if_pos h0, hx, Has_eq _ _ _ (by unfold in64; omega) hs htt, Option.bind_some, if_pos (by simp; omega), if_neg (by omega), if_pos x3]
    by_cases hi : i > 0
    · rw [if_pos hi, wrap_in (x := i - 1) (by unfold in64; omega), if_pos (by omega), if_pos (by rw [up_length]; omega)]
      obtain ⟨y, hy, y1, y2, y3⟩ := hn (i - 1) (by omega) (by omega)
      have hxy : x = y + slide := by
        rw [← hx, ← hy, up_rd _ _ _ (by omega) (by omega), up_rd _ _ _ (by omega) (by omega), show p + 1 + i = p + 1 + (i - 1) + 1 by omega, Int.add_mul (p + 1 + (i - 1)) 1]
        omega
      rw [hy, wrap_in (x := y + slide) (by unfold in64; omega), show (x != y + slide) = false by simp [hxy]]
    · rw [if_neg hi]
theorem WindowHas_pure (a0 a1 a2 a3 : Int) (w0 : (Lit.int .i64 a0).wf = true) (w1 : (Lit.int .i64 a1).wf = true) (w2 : (Lit.int .i64 a2).wf = true) (w3 : (Lit.int .i64 a3).wf = true) : ∃ k, headgatelaw14_WindowHas.f k a0 a1 a2 a3 = some true := by
  have h0 := wf64 w0
  have h1 := wf64 w1
  have h2 := wf64 w2
  have h3 := wf64 w3
  refine Ev.rounds ?_
  unfold headgatelaw14_WindowHas.f
  rw [alive_eq]
  refine Ev.congr (fun k => (Option.bind_some _ _).trans (if_pos rfl)) ?_
  rw [Has_eq _ _ _ h0 h2 h1, refHas_eq _ _ _ h0 h2 h1]
  refine Ev.congr (fun k => (Option.bind_some _ _).trans ((Option.bind_some _ _).trans (if_neg (by simp)))) ?_
  rw [window_Of.f_eq h1 h2 h3]
  refine Ev.congr (fun k => Option.bind_some _ _) ?_
  by_cases he : winErr a1 a2 a3 = 0
  · obtain ⟨hr, ht⟩ := (winErr_0 _ _ _).1 he
    have hw1 : winsOf a1 a2 a3 = wins a1 a2 a3 := by unfold winsOf; rw [if_pos he]
    refine Ev.congr (fun k => if_pos he) ?_
    show Ev (fun k => headgatelaw14_WindowHas.l0 k a1 a2 a3 (winsOf a1 a2 a3) 0) true
    rw [hw1]
    exact has_loop hr ht h2 h3 h1 (wins a1 a2 a3).length 0 (by omega) (by omega)
  · have hw1 : winsOf a1 a2 a3 = [] := by unfold winsOf; rw [if_neg he]
    refine Ev.congr (fun k => if_neg he) ?_
    rw [hw1]
    exact Ev.now _
end Go.Proofs.Ytjmladgjpielmaa.Q
