/- Lists as bytes and back, and the document's numbers at any place, in plain words: no program in it. -/
import Derived.Test.YtgihecpobichbaaVar
namespace Go.Proofs.Ytgihecpobichbaa.Q
open Go.RowKit Go.Proofs.YtgihecpobichbaaW.PrintWords Go.Proofs.YtgihecpobichbaaW.PrintLast Go.Proofs.YtgihecpobichbaaW.PrintMore
set_option linter.unusedVariables false
set_option linter.unusedSimpArgs false

def Bytes (l : List Int) : Prop := ∀ x ∈ l, 0 ≤ x ∧ x ≤ 255
theorem Bytes.right {a b : List Int} (h : Bytes (a ++ b)) : Bytes b := fun x hx => h x (List.mem_append.2 (.inr hx))
theorem Bytes.left {a b : List Int} (h : Bytes (a ++ b)) : Bytes a := fun x hx => h x (List.mem_append.2 (.inl hx))
theorem Bytes.app {a b : List Int} (ha : Bytes a) (hb : Bytes b) : Bytes (a ++ b) := fun x hx => (List.mem_append.1 hx).elim (ha x) (hb x)
theorem Bytes.nil : Bytes [] := fun x hx => absurd hx (by simp)
def flat {α : Type} (enc : α → List Int) : List α → List Int
  | [] => []
  | a :: l => enc a ++ flat enc l
theorem flat_append {α : Type} (enc : α → List Int) : ∀ (a b : List α), flat enc (a ++ b) = flat enc a ++ flat enc b
  | [], b => rfl
  | n :: a, b => by
    show enc n ++ flat enc (a ++ b) = enc n ++ flat enc a ++ flat enc b
    rw [flat_append enc a b, List.append_assoc]
theorem flat_bytes {α : Type} (enc : α → List Int) : ∀ (l : List α), (∀ a ∈ l, Bytes (enc a)) → Bytes (flat enc l)
  | [], _ => Bytes.nil
  | a :: l, h => (h a (by simp)).app (flat_bytes enc l (fun x hx => h x (by simp [hx])))
theorem flat_len {α : Type} (enc : α → List Int) (he : ∀ a, 0 < (enc a).length) : ∀ (l : List α), l.length ≤ (flat enc l).length
  | [] => by simp [flat]
  | a :: l => by
    have h1 := he a
    have h2 := flat_len enc he l
    simp only [flat, List.length_append, List.length_cons]
    omega
theorem readN_back {α : Type} (item : List Int → Option (α × List Int)) (enc : α → List Int) (r : List Int) : ∀ (l : List α), (∀ a ∈ l, ∀ r, item (enc a ++ r) = some (a, r)) → readN item l.length (flat enc l ++ r) = some (l, r)
  | [], _ => rfl
  | a :: l, h => by
    show readN item (l.length + 1) ((enc a ++ flat enc l) ++ r) = _
    rw [List.append_assoc]
    simp only [readN]
    rw [h a (by simp)]
    simp only [Option.bind_some]
    rw [readN_back item enc r l (fun x hx => h x (by simp [hx]))]
    rfl
theorem readN_only {α : Type} (item : List Int → Option (α × List Int)) (enc : α → List Int) (good : α → Prop) (hi : ∀ l a r, Bytes l → item l = some (a, r) → l = enc a ++ r ∧ good a) :
    ∀ (n : Nat) (l : List Int) (xs : List α) (r : List Int), Bytes l → readN item n l = some (xs, r) → l = flat enc xs ++ r ∧ xs.length = n ∧ ∀ x ∈ xs, good x
  | 0, l, xs, r, hb, h => by
    simp only [readN, Option.some.injEq, Prod.mk.injEq] at h
    obtain ⟨rfl, rfl⟩ := h
    exact ⟨rfl, rfl, by simp⟩
  | n + 1, l, xs, r, hb, h => by
    simp only [readN] at h
    obtain ⟨⟨a, l1⟩, h1, h2⟩ := Option.bind_eq_some_iff.1 h
    obtain ⟨⟨ys, r1⟩, h3, h4⟩ := Option.map_eq_some_iff.1 h2
    simp only [Prod.mk.injEq] at h4 h3
    obtain ⟨rfl, rfl⟩ := h4
    obtain ⟨e1, g1⟩ := hi l a l1 hb h1
    have hb1 : Bytes l1 := (e1 ▸ hb).right
    obtain ⟨e2, e3, e4⟩ := readN_only item enc good hi n l1 ys r1 hb1 h3
    refine ⟨?_, by simp [e3], ?_⟩
    · rw [e1, e2]
      simp [flat]
    · intro x hx
      rcases List.mem_cons.1 hx with rfl | h
      · exact g1
      · exact e4 x h
theorem readN_short {α : Type} (item : List Int → Option (α × List Int)) (hl : ∀ l a r, item l = some (a, r) → r.length < l.length) : ∀ (n : Nat) (l : List Int), l.length < n → readN item n l = none
  | 0, l, h => absurd h (by omega)
  | n + 1, l, h => by
    simp only [readN]
    cases hi : item l with
    | none => rfl
    | some p =>
      obtain ⟨a, r⟩ := p
      have := hl l a r hi
      simp only [Option.bind_some]
      rw [readN_short item hl n r (by omega)]
      rfl
theorem readN_less {α : Type} (item : List Int → Option (α × List Int)) (hl : ∀ l a r, item l = some (a, r) → r.length < l.length) : ∀ (n : Nat) (l : List Int) (xs : List α) (r : List Int), readN item n l = some (xs, r) → r.length ≤ l.length
  | 0, l, xs, r, h => by
    simp only [readN, Option.some.injEq, Prod.mk.injEq] at h
    rw [h.2]
    exact Nat.le_refl _
  | n + 1, l, xs, r, h => by
    simp only [readN] at h
    obtain ⟨⟨a, l1⟩, h1, h2⟩ := Option.bind_eq_some_iff.1 h
    obtain ⟨⟨ys, r1⟩, h3, h4⟩ := Option.map_eq_some_iff.1 h2
    simp only [Prod.mk.injEq] at h4 h3
    obtain ⟨rfl, rfl⟩ := h4
    have := hl l a l1 h1
    have := readN_less item hl n l1 ys r1 h3
    omega
theorem drop_at (a b : List Int) : (a ++ b).drop ((a.length : Int)).toNat = b := by
  simp
theorem readItems_back {α : Type} (item : List Int → Option (α × List Int)) (enc : α → List Int) (he : ∀ a, 0 < (enc a).length) (l : List α) (r : List Int) (hl : l.length < 1000000000000000000) (h : ∀ a ∈ l, ∀ r, item (enc a ++ r) = some (a, r)) :
    readItems item (numR 9 (l.length : Int) ++ flat enc l ++ r) = some (l, r) := by
  unfold readItems
  have hu := un_numR (n := (l.length : Int)) (by omega) (by omega) (flat enc l ++ r)
  rw [List.append_assoc, hu, if_pos rfl]
  simp only [drop_at]
  have := flat_len enc he l
  rw [if_neg (by rw [List.length_append]; omega), Int.toNat_natCast]
  exact readN_back item enc r l h
theorem readItems_only {α : Type} (item : List Int → Option (α × List Int)) (enc : α → List Int) (good : α → Prop) (hi : ∀ l a r, Bytes l → item l = some (a, r) → l = enc a ++ r ∧ good a) (l : List Int) (xs : List α) (r : List Int) (hb : Bytes l)
    (h : readItems item l = some (xs, r)) : l = numR 9 (xs.length : Int) ++ flat enc xs ++ r ∧ ∀ x ∈ xs, good x := by
  unfold readItems at h
  split at h
  · rename_i h0
    split at h
    · cases h
    · obtain ⟨n, k, hu⟩ : ∃ n k, un l = (n, k, 0) := ⟨(un l).1, (un l).2.1, by rw [← h0]⟩
      rw [hu] at h
      obtain ⟨r0, e1, e2, e3, e4⟩ := un_only hb hu
      simp only [e1, e2, drop_at] at h
      obtain ⟨f1, f2, f3⟩ := readN_only item enc good hi n.toNat r0 xs r (e1 ▸ hb).right h
      refine ⟨?_, f3⟩
      rw [e1, f2, f1, show ((n.toNat : Nat) : Int) = n by omega, List.append_assoc]
  · cases h
/-- All of some bytes, read as a list. -/
def readX {α : Type} (item : List Int → Option (α × List Int)) (l : List Int) : List α × Int :=
  match readItems item l with
  | some (xs, l') => if l'.length > 0 ∨ l.length > 16777216 then ([], 41) else (xs, 0)
  | none => ([], 41)
theorem readX_err {α : Type} (item : List Int → Option (α × List Int)) (l : List Int) : (readX item l).2 = 0 ∨ readX item l = ([], 41) := by
  unfold readX
  split
  · split
    · exact .inr rfl
    · exact .inl rfl
  · exact .inr rfl
theorem readX_back {α : Type} (item : List Int → Option (α × List Int)) (enc : α → List Int) (he : ∀ a, 0 < (enc a).length) (l : List α) (hl : (numR 9 (l.length : Int) ++ flat enc l).length ≤ 16777216) (h : ∀ a ∈ l, ∀ r, item (enc a ++ r) = some (a, r)) :
    readX item (numR 9 (l.length : Int) ++ flat enc l) = (l, 0) := by
  have h1 := readItems_back item enc he l [] (by have := flat_len enc he l; rw [List.length_append] at hl; omega) h
  rw [List.append_nil] at h1
  unfold readX
  rw [h1]
  simp only [List.length_nil]
  rw [if_neg (by omega)]
theorem readX_only {α : Type} (item : List Int → Option (α × List Int)) (enc : α → List Int) (good : α → Prop) (hi : ∀ l a r, Bytes l → item l = some (a, r) → l = enc a ++ r ∧ good a) (l : List Int) (xs : List α) (hb : Bytes l)
    (h : readX item l = (xs, 0)) : l = numR 9 (xs.length : Int) ++ flat enc xs ∧ (∀ x ∈ xs, good x) ∧ l.length ≤ 16777216 := by
  unfold readX at h
  split at h
  · rename_i ys l' hr
    split at h
    · simp at h
    · rename_i hn
      simp only [Prod.mk.injEq, and_true] at h
      subst h
      obtain ⟨e, g⟩ := readItems_only item enc good hi l ys l' hb hr
      have : l' = [] := List.eq_nil_of_length_eq_zero (by omega)
      subst this
      rw [List.append_nil] at e
      exact ⟨e, g, by omega⟩
  · simp at h
/-- Ints. -/
def encI (a : Int) : List Int := numR 9 (zig a)
theorem itemI_back {a : Int} (h : in64 a) (r : List Int) : itemI (encI a ++ r) = some (a, r) := by
  unfold itemI encI
  have hz := zig_range h
  rw [un_numR hz.1 hz.2, if_pos rfl]
  simp only [drop_at]
  rw [unz_zig h]
theorem itemI_only (l : List Int) (a : Int) (r : List Int) (hb : Bytes l) (h : itemI l = some (a, r)) : l = encI a ++ r ∧ in64 a := by
  unfold itemI at h
  split at h
  · rename_i h0
    obtain ⟨n, k, hu⟩ : ∃ n k, un l = (n, k, 0) := ⟨(un l).1, (un l).2.1, by rw [← h0]⟩
    rw [hu] at h
    obtain ⟨r0, e1, e2, e3, e4⟩ := un_only hb hu
    simp only [e1, e2, drop_at, Option.some.injEq, Prod.mk.injEq] at h
    obtain ⟨rfl, rfl⟩ := h
    have := zig_unz e3 e4
    refine ⟨?_, this.2⟩
    unfold encI
    rw [this.1]
    exact e1
  · cases h
theorem unS_pos : ∀ (l : List Int) (i : Nat) (n : Int), (unS i n l).2.2 = 0 → (i : Int) < (unS i n l).2.1 ∧ l ≠ []
  | [], i, n, h => absurd h (by simp [unS])
  | c :: l, i, n, h => by
    unfold unS at h ⊢
    split
    · rename_i hb
      rw [if_pos hb] at h
      simp at h
    · rename_i hb
      rw [if_neg hb] at h
      split
      · simp
        omega
      · rename_i h1
        rw [if_neg h1] at h
        have := (unS_pos l (i + 1) _ h).1
        refine ⟨?_, by simp⟩
        omega
theorem un_pos {l : List Int} (h : (un l).2.2 = 0) : 0 < (un l).2.1 ∧ (un l).2.1 ≤ (l.length : Int) := by
  have h1 := (unS_pos l 0 0 h).1
  have h2 := (unS_le l 0 0).2
  unfold un
  simp at h1 h2
  omega
theorem itemI_less (l : List Int) (a : Int) (r : List Int) (h : itemI l = some (a, r)) : r.length < l.length := by
  unfold itemI at h
  split at h
  · rename_i h0
    have := un_pos h0
    simp only [Option.some.injEq, Prod.mk.injEq] at h
    rw [← h.2, List.length_drop]
    omega
  · cases h
def refAt (s : ByteArray) (a : Int) : Int × Int := if a < 0 then (0, -1) else if (un ((bytesOf s).drop a.toNat)).2.2 = 0 then ((un ((bytesOf s).drop a.toNat)).1, a + (un ((bytesOf s).drop a.toNat)).2.1) else (0, -1)
def refOfA (a : Nat) (r : Int × Int × Int) : Int × Int := if r.2.2 = 0 then (r.1, (a : Int) + r.2.1) else (0, -1)
theorem ref_at_step (s : ByteArray) (hs : s.size ≤ 1000000) (a : Nat) (ha : a ≤ s.size) (i : Nat) (n : Int) (hi : i ≤ 9) (h0 : 0 ≤ n) (h1 : n < 2 ^ (7 * i))
    (ih : i < 9 → ∀ n' : Int, 0 ≤ n' → n' < 2 ^ (7 * (i + 1)) → Ev (fun k => headgateref04_Unnum.l0 k s (a : Int) n' ((i + 1 : Nat) : Int)) (refOfA a (unS (i + 1) n' ((bytesOf s).drop (a + i + 1))))) :
    Ev (fun k => headgateref04_Unnum.l0 k s (a : Int) n (i : Int)) (refOfA a (unS i n ((bytesOf s).drop (a + i)))) := by
  have hl := bytesOf_length s
  obtain ⟨p, hp⟩ : ∃ p : Int, p = (a : Int) + (i : Int) := ⟨_, rfl⟩
  have hd := fun (h : a + i < s.size) => rd_drop (bytesOf s) p (by omega) (by omega)
  rw [show (p + 1).toNat = a + i + 1 by omega, show p.toNat = a + i by omega, rd_bytesOf] at hd
  have e1 : Aside0 (wrap64 ((a : Int) + (i : Int)) = p) := ⟨by
    rw [← hp]
    exact wrap_in (by unfold in64; omega)⟩
  have e2 : Aside0 (wrap64 (7 * (i : Int)) = 7 * (i : Int)) := ⟨wrap_in (by unfold in64; omega)⟩
  have e3 : IntKind.u64.wrap (7 * (i : Int)) = 7 * (i : Int) := wrap_u _ (by omega) (by omega)
  have e4 : Aside0 (wrap64 ((i : Int) + 1) = ((i + 1 : Nat) : Int)) := ⟨by
    have h : wrap64 ((i : Int) + 1) = (i : Int) + 1 := wrap_in (by unfold in64; omega)
    rw [h]
    omega⟩
  have e4b : Aside0 (wrap64 (p + 1) = (a : Int) + ((i : Int) + 1)) := ⟨by
    have h : wrap64 (p + 1) = p + 1 := wrap_in (by unfold in64; omega)
    rw [h]
    omega⟩
  by_cases hsz : a + i < s.size
  · rw [hd hsz]
    have hr := bt_range s p
    have e5 : IntKind.u64.wrap (bt s p) = bt s p := wrap_u _ hr.1 (by omega)
    obtain ⟨c, hc⟩ : ∃ c, bt s p = c := ⟨_, rfl⟩
    rw [hc] at hr e5 ⊢
    have hj2 : ∀ b : Bool, b = (i == 9 && decide (c > 1)) → Ev (fun k => headgateref04_Unnum.j2 k s (a : Int) n (i : Int) c b) (refOfA a (unS i n (c :: (bytesOf s).drop (a + i + 1)))) := by
      intro b hb
      unfold unS
      by_cases hB : i = 9 ∧ c > 1
      · have hu : unBad i c = true := by unfold unBad; simp [hB.1, hB.2]
        have hbt : b = true := by rw [hb]; simp [hB.1, hB.2]
        subst hbt
        rw [if_pos hu]
        exact Ev.step (f := fun _ => some (0, -1)) (fun k => by simp only [headgateref04_Unnum.j2]; rw [if_pos trivial]) (Ev.now _)
      · have h9 : i = 9 → c ≤ 1 := fun h => by
          rcases Int.lt_or_le 1 c with h' | h'
          · exact absurd ⟨h, h'⟩ hB
          · exact h'
        have hb9 : (i == 9 && decide (c > 1)) = false := by
          by_cases h : i = 9
          · have := h9 h
            simp [h]; omega
          · simp [h]
        rw [hb9] at hb
        subst hb
        have hv := ref_val i hi n c h0 h1 hr.1 hr.2 h9
        obtain ⟨a1, a2, a3, a4⟩ := unAdd_eq i hi n c h0 h1 hr.1 hr.2 h9
        by_cases hlt : c < 128
        · by_cases hz : i > 0 ∧ c = 0
          · have hu : unBad i c = true := by unfold unBad; rw [hb9]; simp [hz.2]; omega
            rw [if_pos hu]
            refine Ev.step (f := fun _ => some (0, -1)) (fun k => ?_) (Ev.now _)
            simp only [headgateref04_Unnum.j2]
            rw [if_neg (by simp), e2.out, e3, if_pos (by omega), if_pos hlt, if_pos (by omega), if_pos hz.2]
          · have hu : ¬ unBad i c = true := by
              unfold unBad
              rw [hb9]
              simp
              omega
            rw [if_neg hu, if_pos hlt]
            refine Ev.step (f := fun _ => some (unAdd i n c, (a : Int) + ((i : Int) + 1))) (fun k => ?_) (Ev.now _)
            simp only [headgateref04_Unnum.j2]
            rw [if_neg (by simp), e2.out, e3, if_pos (by omega), if_pos hlt, e1.out, e4b.out, hv]
            by_cases hp : (i : Int) > 0
            · rw [if_pos hp, if_neg (by omega)]
            · rw [if_neg hp]
        · have hu : ¬ unBad i c = true := by
            unfold unBad
            rw [hb9]
            simp
            omega
          rw [if_neg hu, if_neg hlt]
          have h9' : i < 9 := by omega
          have hp : 0 ≤ (c % 128) * 2 ^ (7 * i) := Int.mul_nonneg (by omega) (Int.pow_nonneg (by omega))
          refine Ev.step (fun k => ?_) (ih h9' (unAdd i n c) (by rw [a1]; omega) (by rw [a1]; exact a2))
          simp only [headgateref04_Unnum.j2]
          rw [if_neg (by simp), e2.out, e3, if_pos (by omega), if_neg hlt, hv, e4.out]
    refine Ev.step (f := fun k => headgateref04_Unnum.j1 k s (a : Int) n (i : Int) false) (fun k => ?_) (Ev.step (fun k => ?_) (hj2 _ rfl))
    · simp only [headgateref04_Unnum.l0]
      rw [if_pos (by omega), if_neg (by omega), e1.out, decide_eq_false (by omega)]
    · simp only [headgateref04_Unnum.j1]
      rw [if_neg (by simp), e1.out, if_pos (by omega), if_pos (by omega), hc, e5]
      by_cases h9 : (i : Int) = 9
      · have h9' : i = 9 := by omega
        subst h9'
        rw [if_pos h9]
        rfl
      · rw [if_neg h9]
        have h9' : (i == 9) = false := by simp; omega
        rw [h9', Bool.false_and]
  · rw [List.drop_of_length_le (by omega)]
    refine Ev.step (f := fun k => headgateref04_Unnum.j1 k s (a : Int) n (i : Int) true) (fun k => ?_) (Ev.step (f := fun _ => some (0, -1)) (fun k => ?_) (Ev.now _))
    · simp only [headgateref04_Unnum.l0]
      rw [if_pos (by omega), if_neg (by omega), e1.out, decide_eq_true (by omega)]
    · simp only [headgateref04_Unnum.j1]
      rw [if_pos trivial]
theorem ref_at_ev (s : ByteArray) (hs : s.size ≤ 1000000) (a : Nat) (ha : a ≤ s.size) : ∀ (d i : Nat) (n : Int), i + d = 9 → 0 ≤ n → n < 2 ^ (7 * i) → Ev (fun k => headgateref04_Unnum.l0 k s (a : Int) n (i : Int)) (refOfA a (unS i n ((bytesOf s).drop (a + i)))) := by
  intro d
  induction d with
  | zero =>
    intro i n hi h0 h1
    obtain rfl : i = 9 := by omega
    exact ref_at_step s hs a ha 9 n (by omega) h0 h1 (fun h => absurd h (by omega))
  | succ d ih =>
    intro i n hi h0 h1
    exact ref_at_step s hs a ha i n (by omega) h0 h1 (fun h n' h0' h1' => ih (i + 1) n' (by omega) h0' h1')
theorem ref_at_nat (s : ByteArray) (hs : s.size ≤ 1000000) (a : Nat) (ha : a ≤ s.size) : Ev (fun k => headgateref04_Unnum.f k s (a : Int)) (refOfA a (un ((bytesOf s).drop a))) := ref_at_ev s hs a ha 9 0 0 rfl (by omega) (by decide)
theorem ref_at (s : ByteArray) (hs : s.size ≤ 1000000) (a : Int) (ha : a ≤ s.size) : Ev (fun k => headgateref04_Unnum.f k s a) (refAt s a) := by
  unfold refAt
  by_cases hn : a < 0
  · rw [if_pos hn]
    refine Ev.step (f := fun k => headgateref04_Unnum.j1 k s a 0 0 true) (fun k => ?_) (Ev.step (f := fun _ => some (0, -1)) (fun k => ?_) (Ev.now _))
    · show headgateref04_Unnum.l0 (k + 1) s a 0 0 = _
      simp only [headgateref04_Unnum.l0]
      rw [if_pos (by omega), if_pos hn]
    · simp only [headgateref04_Unnum.j1]
      rw [if_pos trivial]
  · rw [if_neg hn]
    obtain ⟨m, rfl⟩ := Int.eq_ofNat_of_zero_le (show 0 ≤ a by omega)
    exact ref_at_nat s hs m (by omega)
end Go.Proofs.Ytgihecpobichbaa.Q
