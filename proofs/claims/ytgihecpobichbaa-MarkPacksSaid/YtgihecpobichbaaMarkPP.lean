/- Marks as bytes and back, in plain words: no program in it. -/
import Derived.Test.YtgihecpobichbaaVarN
import Derived.Test.YtgihecpobichbaaDx1
import Derived.Test.YtgihecpobichbaaMx1
import Derived.Test.YtgihecpobichbaaOx1
import Derived.Test.YtgihecpobichbaaQx1
import Derived.Test.YtgihecpobichbaaRx1
namespace Go.Proofs.Ytgihecpobichbaa.Q
open Go.RowKit Go.Proofs.YtgihecpobichbaaW.PrintWords Go.Proofs.YtgihecpobichbaaW.PrintLast Go.Proofs.YtgihecpobichbaaW.PrintMore
set_option linter.unusedVariables false
set_option linter.unusedSimpArgs false

theorem alive19 : headgatelaw19_alive.f = some true := by kernel_rfl
theorem few_total (x : List (List Int)) (hx : x.length ≤ 9223372036854775806) : ∀ (d : Nat) (n i : Int), 0 ≤ i → i + d = x.length → 0 ≤ n → n ≤ 5000 → ∃ b, Ev (fun k => headgatelaw19_few.l0 k x n i) b := by
  intro d
  induction d with
  | zero =>
    intro n i h0 h1 h2 h3
    exact ⟨true, Ev.step (f := fun _ => some true) (fun k => by simp only [headgatelaw19_few.l0]; rw [if_neg (by omega)]) (Ev.now _)⟩
  | succ d ih =>
    intro n i h0 h1 h2 h3
    have hm : 0 ≤ mn ((rd_L18 x i).length : Int) 5000 ∧ mn ((rd_L18 x i).length : Int) 5000 ≤ 5000 := by
      unfold mn
      split <;> omega
    have e1 : wrap64 ((wrap64 (n + 1)) + (mn ((rd_L18 x i).length : Int) 5000)) = n + 1 + mn ((rd_L18 x i).length : Int) 5000 := by
      rw [wrap_in (x := n + 1) (by unfold in64; omega), wrap_in (by unfold in64; omega)]
    have e2 : wrap64 (i + 1) = i + 1 := wrap_in (by unfold in64; omega)
    by_cases hs : n + 1 + mn ((rd_L18 x i).length : Int) 5000 > 5000
    · exact ⟨false, Ev.step (f := fun _ => some false) (fun k => by simp only [headgatelaw19_few.l0]; rw [if_pos (by omega), if_pos h0, e1, if_pos hs]) (Ev.now _)⟩
    · obtain ⟨b, hb⟩ := ih (n + 1 + mn ((rd_L18 x i).length : Int) 5000) (i + 1) (by omega) (by omega) (by omega) (by omega)
      exact ⟨b, Ev.step (fun k => by simp only [headgatelaw19_few.l0]; rw [if_pos (by omega), if_pos h0, e1, if_neg hs, e2]) hb⟩
theorem few_some (x : List (List Int)) (hx : x.length ≤ 9223372036854775806) : ∃ b, Ev (fun k => headgatelaw19_few.f k x) b := few_total x hx x.length 0 0 (by omega) (by omega) (by omega) (by omega)
/-- What a mark is, whatever it has seen. -/
def GoodM (d a m : Int) (b : Bool) : Prop := 0 ≤ d ∧ d ≤ 72057594037927936 ∧ -72057594037927937 ≤ a ∧ a ≤ 72057594037927936 ∧ -72057594037927936 ≤ m ∧ m ≤ 72057594037927936 ∧ (b = false → m = 0)
theorem see_good {d a m : Int} {b : Bool} (h : GoodM d a m b) (t : Int) : ∃ m' b', Ev (fun k => headgateref19_See.f k a m b d t) (a, m', b', d) ∧ GoodM d a m' b' := by
  unfold headgateref19_See.f
  by_cases h1 : t < -72057594037927936
  · simp only [if_pos h1]
    exact ⟨m, b, Ev.step (f := fun _ => some (a, m, b, d)) (fun k => by simp only [headgateref19_See.j0]; rfl) (Ev.now _), h⟩
  · simp only [if_neg h1]
    by_cases h2 : t > 72057594037927936
    · refine ⟨m, b, Ev.step (f := fun _ => some (a, m, b, d)) (fun k => ?_) (Ev.now _), h⟩
      simp only [headgateref19_See.j0, decide_eq_true h2, if_true]
    · refine ⟨if b = true then if t > m then t else m else t, true, Ev.step (f := fun _ => some (a, if b = true then if t > m then t else m else t, true, d)) (fun k => ?_) (Ev.now _), ?_⟩
      · simp only [headgateref19_See.j0, decide_eq_false h2]
        rw [if_neg (by simp)]
        cases b
        · simp
        · simp only [if_true]
          by_cases h3 : t > m
          · rw [if_pos h3, if_pos h3]
          · rw [if_neg h3, if_neg h3]
      · unfold GoodM at h ⊢
        split
        · split <;> simp <;> omega
        · simp
          omega
theorem next_good {d a m : Int} {b : Bool} (h : GoodM d a m b) : ∃ a', headgateref19_Next.f a m b d = some (a', m, b, d) ∧ GoodM d a' m b := by
  unfold headgateref19_Next.f
  unfold GoodM at *
  rw [wrap_in (x := m - d) (by unfold in64; omega)]
  cases b
  · exact ⟨a, by simp, h⟩
  · simp only [if_true]
    by_cases h3 : m - d > a
    · rw [if_pos h3]
      exact ⟨m - d, rfl, h.1, h.2.1, by omega, by omega, h.2.2.2.2.1, h.2.2.2.2.2.1, fun z => by cases z⟩
    · rw [if_neg h3]
      exact ⟨a, rfl, h⟩
theorem of_good (x : List (List Int)) (d : Int) (hx : x.length ≤ 9223372036854775806) (hl : ∀ i : Int, (rd_L18 x i).length ≤ 9223372036854775806) : ∀ (n : Nat) (i : Int), 0 ≤ i → i + n = x.length → ∀ (a m : Int) (b : Bool), GoodM d a m b →
    ∃ a' m' b', Ev (fun k => headgateref19_Of.l0 k x i a m b d) (a', m', b', d) ∧ GoodM d a' m' b' := by
  intro n
  induction n with
  | zero =>
    intro i h0 h1 a m b hg
    exact ⟨a, m, b, Ev.step (f := fun _ => some (a, m, b, d)) (fun k => by simp only [headgateref19_Of.l0]; rw [if_neg (by omega)]) (Ev.now _), hg⟩
  | succ n ih =>
    intro i h0 h1
    have hr := hl i
    have row : ∀ (c : Nat) (j : Int), 0 ≤ j → j + c = ((rd_L18 x i).length : Int) → ∀ (a m : Int) (b : Bool), GoodM d a m b → ∃ a' m' b', Ev (fun k => headgateref19_Of.l1 k x i j a m b d) (a', m', b', d) ∧ GoodM d a' m' b' := by
      intro c
      induction c with
      | zero =>
        intro j h2 h3 a m b hg
        obtain ⟨a1, e1, g1⟩ := next_good hg
        obtain ⟨a2, m2, b2, e2, g2⟩ := ih (i + 1) (by omega) (by omega) a1 m b g1
        refine ⟨a2, m2, b2, Ev.step (fun k => ?_) e2, g2⟩
        have ew : wrap64 (i + 1) = i + 1 := wrap_in (by unfold in64; omega)
        simp only [headgateref19_Of.l1]
        rw [if_pos h0, if_pos (by omega), if_neg (by omega), e1, ew]
        rfl
      | succ c ihc =>
        intro j h2 h3 a m b hg
        obtain ⟨m1, b1, e1, g1⟩ := see_good hg (rd (rd_L18 x i) j)
        obtain ⟨a2, m2, b2, e2, g2⟩ := ihc (j + 1) (by omega) (by omega) a m1 b1 g1
        have ew : wrap64 (j + 1) = j + 1 := wrap_in (by unfold in64; omega)
        refine ⟨a2, m2, b2, Ev.step (fun k => ?_) (Ev.bind (f := fun k (y : Int × Int × Bool × Int) => headgateref19_Of.l1 k x i (wrap64 (j + 1)) y.1 y.2.1 y.2.2.1 y.2.2.2) e1 (by rw [ew]; exact e2)), g2⟩
        simp only [headgateref19_Of.l1]
        rw [if_pos h0, if_pos (by omega), if_pos (by omega), if_pos h2]
    intro a m b hg
    obtain ⟨a2, m2, b2, e2, g2⟩ := row (rd_L18 x i).length 0 (by omega) (by omega) a m b hg
    refine ⟨a2, m2, b2, Ev.step (fun k => ?_) e2, g2⟩
    simp only [headgateref19_Of.l0]
    rw [if_pos (by omega)]
theorem of_all (x : List (List Int)) (d : Int) (hd : 0 ≤ d ∧ d ≤ 72057594037927936) (hx : x.length ≤ 9223372036854775806) (hl : ∀ i : Int, (rd_L18 x i).length ≤ 9223372036854775806) :
    ∃ a' m' b', Ev (fun k => headgateref19_Of.f k d x) (a', m', b', d) ∧ GoodM d a' m' b' :=
  of_good x d hx hl x.length 0 (by omega) (by omega) _ _ _ (by unfold GoodM; exact ⟨hd.1, hd.2, by omega, by omega, by omega, by omega, fun _ => rfl⟩)
/-- Are three ints a mark? -/
def okM (l : List Int) : Prop := l.length = 3 ∧ -72057594037927937 ≤ rd l 0 ∧ (rd l 0 ≤ 72057594037927936 ∨ rd l 0 = 1152921504606846976) ∧ -72057594037927936 ≤ rd l 1 ∧ rd l 1 ≤ 72057594037927936 ∧ (rd l 2 = 1 ∨ (rd l 2 = 0 ∧ rd l 1 = 0))
instance (l : List Int) : Decidable (okM l) := by unfold okM; infer_instance
def unM (d : Int) (r : List Int × Int) : Int × Int × Bool × Int × Bool := if r.2 = 0 ∧ okM r.1 then (rd r.1 0, rd r.1 1, rd r.1 2 == 1, d, true) else (0, 0, false, 0, false)
theorem unM_ref (d : Int) (s : ByteArray) (hs : s.size ≤ 1000000) : Ev (fun k => headgateref19_Unpack.f k d s) (unM d (readI (bytesOf s))) := by
  unfold headgateref19_Unpack.f
  refine Ev.bind (refUnnums s hs) ?_
  obtain ⟨l, e⟩ := readI (bytesOf s)
  simp only [unM]
  have hj2 : ∀ (bb : Bool) (a m : Int) (b : Bool), Ev (fun k => headgateref19_Unpack.j2 k bb a m b d) (if bb = true then (0, 0, false, 0, false) else (a, m, b, d, true)) := by
    intro bb a m b
    refine Ev.step (f := fun _ => some (if bb = true then (0, 0, false, 0, false) else (a, m, b, d, true))) (fun k => ?_) (Ev.now _)
    simp only [headgateref19_Unpack.j2]
    split <;> rfl
  by_cases he : e = 0
  · simp only [he, decide_true, if_true, true_and]
    by_cases h3 : l.length = 3
    · have hb : ((l.length : Int) != 3) = false := by simp; omega
      rw [hb]
      have hj1 : ∀ bb : Bool, bb = (if -72057594037927937 ≤ rd l 0 ∧ (rd l 0 ≤ 72057594037927936 ∨ rd l 0 = 1152921504606846976) ∧ -72057594037927936 ≤ rd l 1 ∧ rd l 1 ≤ 72057594037927936 then false else true) → Ev (fun k => headgateref19_Unpack.j1 k l bb (rd l 0) (rd l 1) (rd l 2 == 1) d) (if okM l then (rd l 0, rd l 1, rd l 2 == 1, d, true) else (0, 0, false, 0, false)) := by
        intro bb hbb
        by_cases hr : -72057594037927937 ≤ rd l 0 ∧ (rd l 0 ≤ 72057594037927936 ∨ rd l 0 = 1152921504606846976) ∧ -72057594037927936 ≤ rd l 1 ∧ rd l 1 ≤ 72057594037927936
        · rw [if_pos hr] at hbb
          subst hbb
          by_cases h1 : rd l 2 = 1
          · have h := hj2 false (rd l 0) (rd l 1) (rd l 2 == 1)
            rw [if_neg (by simp)] at h
            rw [if_pos (show okM l from ⟨h3, hr.1, hr.2.1, hr.2.2.1, hr.2.2.2, .inl h1⟩)]
            refine Ev.step (fun k => ?_) h
            simp only [headgateref19_Unpack.j1]
            rw [if_neg (by simp), if_pos (by omega), if_pos h1]
          · by_cases h0 : rd l 2 = 0
            · have h := hj2 (rd l 1 != 0) (rd l 0) (rd l 1) (rd l 2 == 1)
              have e2 : (if (rd l 1 != 0) = true then ((0 : Int), (0 : Int), false, (0 : Int), false) else (rd l 0, rd l 1, rd l 2 == 1, d, true)) = (if okM l then (rd l 0, rd l 1, rd l 2 == 1, d, true) else (0, 0, false, 0, false)) := by
                by_cases hm : rd l 1 = 0
                · rw [if_neg (by simp [hm]), if_pos (show okM l from ⟨h3, hr.1, hr.2.1, hr.2.2.1, hr.2.2.2, .inr ⟨h0, hm⟩⟩)]
                · rw [if_pos (by simp [hm]), if_neg (fun h => by have := h.2.2.2.2.2; omega)]
              rw [e2] at h
              refine Ev.step (fun k => ?_) h
              simp only [headgateref19_Unpack.j1]
              rw [if_neg (by simp), if_pos (by omega), if_neg h1, if_pos h0]
            · have h := hj2 true (rd l 0) (rd l 1) (rd l 2 == 1)
              rw [if_pos rfl] at h
              rw [if_neg (fun h => by have := h.2.2.2.2.2; omega)]
              refine Ev.step (fun k => ?_) h
              simp only [headgateref19_Unpack.j1]
              rw [if_neg (by simp), if_pos (by omega), if_neg h1, if_neg h0]
        · rw [if_neg hr] at hbb
          subst hbb
          rw [if_neg (fun h => hr ⟨h.2.1, h.2.2.1, h.2.2.2.1, h.2.2.2.2.1⟩)]
          refine Ev.step (f := fun _ => some (0, 0, false, 0, false)) (fun k => ?_) (Ev.now _)
          simp only [headgateref19_Unpack.j1]
          rw [if_pos trivial]
      have fin : ∀ bb : Bool, bb = (if -72057594037927937 ≤ rd l 0 ∧ (rd l 0 ≤ 72057594037927936 ∨ rd l 0 = 1152921504606846976) ∧ -72057594037927936 ≤ rd l 1 ∧ rd l 1 ≤ 72057594037927936 then false else true) → (∀ k, headgateref19_Unpack.j0 (k + 1) d l false = headgateref19_Unpack.j1 k l bb (rd l 0) (rd l 1) (rd l 2 == 1) d) → Ev (fun k => headgateref19_Unpack.j0 k d l false) (if okM l then (rd l 0, rd l 1, rd l 2 == 1, d, true) else (0, 0, false, 0, false)) := fun bb h1 h2 => Ev.step h2 (hj1 bb h1)
      by_cases c1 : rd l 0 < -72057594037927937
      · refine fin true (by rw [if_neg (by omega)]) (fun k => ?_)
        simp only [headgateref19_Unpack.j0]
        rw [if_neg (by simp), if_pos (by omega), if_pos (by omega), if_pos (by omega), if_pos c1]
      · by_cases c2 : rd l 0 > 72057594037927936
        · by_cases c3 : rd l 0 = 1152921504606846976
          · by_cases c4 : rd l 1 < -72057594037927936
            · refine fin true (by rw [if_neg (by omega)]) (fun k => ?_)
              simp only [headgateref19_Unpack.j0]
              rw [if_neg (by simp), if_pos (by omega), if_pos (by omega), if_pos (by omega), if_neg c1, if_pos c2, if_pos c3, if_pos c4]
            · refine fin (decide (rd l 1 > 72057594037927936)) ?_ (fun k => ?_)
              · by_cases c5 : rd l 1 > 72057594037927936
                · rw [if_neg (by omega), decide_eq_true c5]
                · rw [if_pos (by omega), decide_eq_false c5]
              · simp only [headgateref19_Unpack.j0]
                rw [if_neg (by simp), if_pos (by omega), if_pos (by omega), if_pos (by omega), if_neg c1, if_pos c2, if_pos c3, if_neg c4]
          · refine fin true (by rw [if_neg (by omega)]) (fun k => ?_)
            simp only [headgateref19_Unpack.j0]
            rw [if_neg (by simp), if_pos (by omega), if_pos (by omega), if_pos (by omega), if_neg c1, if_pos c2, if_neg c3]
        · by_cases c4 : rd l 1 < -72057594037927936
          · refine fin true (by rw [if_neg (by omega)]) (fun k => ?_)
            simp only [headgateref19_Unpack.j0]
            rw [if_neg (by simp), if_pos (by omega), if_pos (by omega), if_pos (by omega), if_neg c1, if_neg c2, if_pos c4]
          · refine fin (decide (rd l 1 > 72057594037927936)) ?_ (fun k => ?_)
            · by_cases c5 : rd l 1 > 72057594037927936
              · rw [if_neg (by omega), decide_eq_true c5]
              · rw [if_pos (by omega), decide_eq_false c5]
            · simp only [headgateref19_Unpack.j0]
              rw [if_neg (by simp), if_pos (by omega), if_pos (by omega), if_pos (by omega), if_neg c1, if_neg c2, if_neg c4]
    · have hb : ((l.length : Int) != 3) = true := by simp; omega
      rw [hb, if_neg (fun h => h3 h.1)]
      refine Ev.step (f := fun _ => some (0, 0, false, 0, false)) (fun k => ?_) (Ev.now _)
      simp only [headgateref19_Unpack.j0]
      rw [if_pos trivial]
  · have hf : decide (e = 0) = false := decide_eq_false he
    rw [if_neg (show ¬ (e = 0 ∧ okM l) from fun h => he h.1)]
    simp only [hf, Bool.false_eq_true, if_false]
    refine Ev.step (f := fun _ => some (0, 0, false, 0, false)) (fun k => ?_) (Ev.now _)
    simp only [headgateref19_Unpack.j0]
    rw [if_pos trivial]
theorem time_eq (m : Int) : mark_time.f m = some (decide (-72057594037927936 ≤ m ∧ m ≤ 72057594037927936)) := by
  unfold mark_time.f
  by_cases h1 : m ≥ -72057594037927936
  · rw [if_pos h1]
    by_cases h2 : m ≤ 72057594037927936
    · rw [decide_eq_true h2, decide_eq_true (show _ ∧ _ from ⟨h1, h2⟩)]
    · rw [decide_eq_false h2, decide_eq_false (fun h => h2 h.2)]
  · rw [if_neg h1, decide_eq_false (fun h => h1 h.1)]
def unMc (d : Int) (r : List Int × Int) : Int × Int × Bool × Int × Int := if r.2 = 0 ∧ okM r.1 then (rd r.1 0, rd r.1 1, rd r.1 2 == 1, d, 0) else (0, 0, false, 0, 41)
theorem new_eq (d : Int) (hd : 0 ≤ d ∧ d ≤ 72057594037927936) : mark_New.f d = some (-72057594037927937, 0, false, d, 0) := by
  unfold mark_New.f
  rw [if_neg (by omega), if_neg (by omega)]
theorem new_bad (d : Int) (hd : ¬ (0 ≤ d ∧ d ≤ 72057594037927936)) : mark_New.f d = some (0, 0, false, 0, 2) := by
  unfold mark_New.f
  by_cases h : d < 0
  · rw [if_pos h]
  · rw [if_neg h, if_pos (by omega)]
theorem unM_bad (d : Int) (hd : ¬ (0 ≤ d ∧ d ≤ 72057594037927936)) (l1 : List Int) : mark_Unpack.f 0 d l1 = some (0, 0, false, 0, 2) := by
  unfold mark_Unpack.f
  rw [new_bad d hd]
  rfl
theorem unM_code (d : Int) (hd : 0 ≤ d ∧ d ≤ 72057594037927936) (l1 : List Int) (h1 : l1.length ≤ 1000000000) : Ev (fun k => mark_Unpack.f k d l1) (unMc d (readI l1)) := by
  unfold mark_Unpack.f
  rw [new_eq d hd]
  simp only [Option.bind_some, if_true]
  refine Ev.bind (Ev.congr (f := fun _ => some (readI l1)) (fun k => if_pos h1) (Ev.now _)) ?_
  obtain ⟨l, e⟩ := readI l1
  simp only [unMc]
  by_cases he : e = 0
  · simp only [he, if_true, true_and]
    by_cases h3 : l.length = 3
    · have hb : ((l.length : Int) != 3) = false := by simp; omega
      rw [hb]
      have fin : ∀ bb : Bool, bb = decide (¬ okM l) → (∀ k, mark_Unpack.j0 (k + 1) l false (-72057594037927937) 0 false d = mark_Unpack.j1 k (rd l 0) (rd l 1) (rd l 2) bb (-72057594037927937) 0 false d) → Ev (fun k => mark_Unpack.j0 k l false (-72057594037927937) 0 false d) (if okM l then (rd l 0, rd l 1, rd l 2 == 1, d, 0) else (0, 0, false, 0, 41)) := by
        intro bb hbb hj
        refine Ev.step hj (Ev.step (f := fun _ => some (if okM l then (rd l 0, rd l 1, rd l 2 == 1, d, 0) else (0, 0, false, 0, 41))) (fun k => ?_) (Ev.now _))
        simp only [mark_Unpack.j1]
        by_cases ho : okM l
        · rw [if_pos ho, hbb, decide_eq_false (fun h => h ho), if_neg (by simp)]
        · rw [if_neg ho, hbb, decide_eq_true ho, if_pos rfl]
      have hok : okM l ↔ -72057594037927937 ≤ rd l 0 ∧ (rd l 0 ≤ 72057594037927936 ∨ rd l 0 = 1152921504606846976) ∧ -72057594037927936 ≤ rd l 1 ∧ rd l 1 ≤ 72057594037927936 ∧ (rd l 2 = 1 ∨ (rd l 2 = 0 ∧ rd l 1 = 0)) := ⟨fun h => h.2, fun h => ⟨h3, h⟩⟩
      have yes : ¬ okM l → true = decide (¬ okM l) := fun h => (decide_eq_true h).symm
      have no : okM l → false = decide (¬ okM l) := fun h => (decide_eq_false (fun z => z h)).symm
      have tail : (-72057594037927937 ≤ rd l 0 ∧ (rd l 0 ≤ 72057594037927936 ∨ rd l 0 = 1152921504606846976)) → (∀ k, mark_Unpack.j0 (k + 1) l false (-72057594037927937) 0 false d = (if decide (-72057594037927936 ≤ rd l 1 ∧ rd l 1 ≤ 72057594037927936) = true then (if (rd l 2) = 0 then (mark_Unpack.j1 k (rd l 0) (rd l 1) (rd l 2) ((rd l 1) != 0) (-72057594037927937) 0 false d) else (if (rd l 2) = 1 then (mark_Unpack.j1 k (rd l 0) (rd l 1) (rd l 2) false (-72057594037927937) 0 false d) else (mark_Unpack.j1 k (rd l 0) (rd l 1) (rd l 2) true (-72057594037927937) 0 false d))) else (mark_Unpack.j1 k (rd l 0) (rd l 1) (rd l 2) true (-72057594037927937) 0 false d))) → Ev (fun k => mark_Unpack.j0 k l false (-72057594037927937) 0 false d) (if okM l then (rd l 0, rd l 1, rd l 2 == 1, d, 0) else (0, 0, false, 0, 41)) := by
        intro hr hj
        by_cases ht : -72057594037927936 ≤ rd l 1 ∧ rd l 1 ≤ 72057594037927936
        · by_cases h0 : rd l 2 = 0
          · refine fin (rd l 1 != 0) ?_ (fun k => by rw [hj k, decide_eq_true ht, if_pos rfl, if_pos h0])
            by_cases hm : rd l 1 = 0
            · rw [← no (hok.2 ⟨hr.1, hr.2, ht.1, ht.2, .inr ⟨h0, hm⟩⟩)]
              simp [hm]
            · rw [← yes (fun z => by have := (hok.1 z).2.2.2.2; omega)]
              simp [hm]
          · by_cases h1 : rd l 2 = 1
            · exact fin false (no (hok.2 ⟨hr.1, hr.2, ht.1, ht.2, .inl h1⟩)) (fun k => by rw [hj k, decide_eq_true ht, if_pos rfl, if_neg h0, if_pos h1])
            · exact fin true (yes (fun z => by have := (hok.1 z).2.2.2.2; omega)) (fun k => by rw [hj k, decide_eq_true ht, if_pos rfl, if_neg h0, if_neg h1])
        · exact fin true (yes (fun z => ht ⟨(hok.1 z).2.2.1, (hok.1 z).2.2.2.1⟩)) (fun k => by rw [hj k, decide_eq_false ht, if_neg (by simp)])
      by_cases c1 : rd l 0 < -72057594037927937
      · refine fin true (yes (fun z => by have := (hok.1 z).1; omega)) (fun k => ?_)
        simp only [mark_Unpack.j0]
        rw [if_neg (by simp), if_pos (by omega), if_pos (by omega), if_pos (by omega), if_pos c1]
      · by_cases c2 : rd l 0 > 72057594037927936
        · by_cases c3 : rd l 0 = 1152921504606846976
          · refine tail ⟨by omega, .inr c3⟩ (fun k => ?_)
            simp only [mark_Unpack.j0]
            rw [if_neg (by simp), if_pos (by omega), if_pos (by omega), if_pos (by omega), if_neg c1, if_pos c2, if_pos c3, time_eq]
            rfl
          · refine fin true (yes (fun z => by have := (hok.1 z).2.1; omega)) (fun k => ?_)
            simp only [mark_Unpack.j0]
            rw [if_neg (by simp), if_pos (by omega), if_pos (by omega), if_pos (by omega), if_neg c1, if_pos c2, if_neg c3]
        · refine tail ⟨by omega, .inl (by omega)⟩ (fun k => ?_)
          simp only [mark_Unpack.j0]
          rw [if_neg (by simp), if_pos (by omega), if_pos (by omega), if_pos (by omega), if_neg c1, if_neg c2, time_eq]
          rfl
    · have hb : ((l.length : Int) != 3) = true := by simp; omega
      rw [hb, if_neg (fun h => h3 h.1)]
      refine Ev.step (f := fun _ => some (0, 0, false, 0, 41)) (fun k => ?_) (Ev.now _)
      simp only [mark_Unpack.j0]
      rw [if_pos trivial]
  · rw [if_neg (show ¬ (e = 0 ∧ okM l) from fun h => he h.1)]
    simp only [if_neg he]
    refine Ev.step (f := fun _ => some (0, 0, false, 0, 41)) (fun k => ?_) (Ev.now _)
    simp only [mark_Unpack.j0]
    rw [if_pos trivial]
/-- A mark's bytes, by the package, by the document, and back. -/
def seenI (b : Bool) : Int := if b = true then 1 else 0
theorem pack_parts {d a m : Int} {b : Bool} (h : GoodM d a m b) : (∀ x ∈ [a, m, seenI b], in64 x) ∧ (numsAll [a, m, seenI b]).length ≤ 16777216 ∧ okM [a, m, seenI b] := by
  unfold GoodM at h
  refine ⟨?_, by have := numsAll_len [a, m, seenI b]; simp only [List.length_cons, List.length_nil] at this; omega, ?_⟩
  · intro x hx
    simp only [List.mem_cons, List.not_mem_nil, or_false] at hx
    unfold in64
    rcases hx with rfl | rfl | rfl
    · omega
    · omega
    · unfold seenI
      split <;> omega
  · refine ⟨rfl, h.2.2.1, .inl h.2.2.2.1, h.2.2.2.2.1, h.2.2.2.2.2.1, ?_⟩
    cases b
    · exact .inr ⟨rfl, h.2.2.2.2.2.2 rfl⟩
    · exact .inl rfl
theorem pack_code {d a m : Int} {b : Bool} (h : GoodM d a m b) : Ev (fun k => mark_Mark_Pack.f k a m b d) (numsAll [a, m, seenI b]) := by
  obtain ⟨h1, h2, h3⟩ := pack_parts h
  have hc := codeNums_ev [a, m, seenI b] (by simp) h1
  unfold codeNums at hc
  rw [if_neg (by omega)] at hc
  unfold mark_Mark_Pack.f
  cases b
  · exact Ev.congr (fun k => if_neg (by simp)) (Ev.bind hc (Ev.now _))
  · exact Ev.congr (fun k => if_pos rfl) (Ev.bind hc (Ev.now _))
theorem pack_ref {d a m : Int} {b : Bool} (h : GoodM d a m b) : Ev (fun k => headgateref19_Pack.f k a m b d) (strOfNums (numsAll [a, m, seenI b])) := by
  obtain ⟨h1, h2, h3⟩ := pack_parts h
  have hc : Ev (fun k => headgateref04_Nums.f k [a, m, seenI b]) (refNums [a, m, seenI b]) := Ev.congr (f := fun _ => some _) (fun k => if_pos ⟨by simp, h1⟩) (Ev.now _)
  unfold refNums at hc
  rw [if_neg (by omega)] at hc
  unfold headgateref19_Pack.f
  cases b
  · exact Ev.congr (fun k => if_neg (by simp)) (Ev.bind hc (Ev.now _))
  · exact Ev.congr (fun k => if_pos rfl) (Ev.bind hc (Ev.now _))
theorem pack_back {d a m : Int} {b : Bool} (h : GoodM d a m b) : Ev (fun k => mark_Unpack.f k d (numsAll [a, m, seenI b])) (a, m, b, d, 0) := by
  obtain ⟨h1, h2, h3⟩ := pack_parts h
  have hu := unM_code d ⟨h.1, h.2.1⟩ (numsAll [a, m, seenI b]) (by omega)
  rw [readI_back _ h1 h2] at hu
  unfold unMc at hu
  rw [if_pos ⟨rfl, h3⟩] at hu
  have e : (rd [a, m, seenI b] 2 == 1) = b := by cases b <;> rfl
  simp only [e] at hu
  exact hu
end Go.Proofs.Ytgihecpobichbaa.Q
