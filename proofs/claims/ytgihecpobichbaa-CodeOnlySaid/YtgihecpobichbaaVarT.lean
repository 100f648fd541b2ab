/- What package code tells of lists, in plain words: no program in it. -/
import Derived.Test.YtgihecpobichbaaVarX
import Derived.Test.YtgihecpobichbaaFx
namespace Go.Proofs.Ytgihecpobichbaa.Q
open Go.RowKit Go.Proofs.YtgihecpobichbaaW.PrintWords Go.Proofs.YtgihecpobichbaaW.PrintLast Go.Proofs.YtgihecpobichbaaW.PrintMore
set_option linter.unusedVariables false
set_option linter.unusedSimpArgs false

theorem word_ev (s : ByteArray) (hs : s.size ≤ 1000000000) : Ev (fun k => code_word.f k s) (encW s) := by
  unfold code_word.f
  have hw : IntKind.u64.wrap (s.size : Int) = (s.size : Int) := wrap_u _ (by omega) (by omega)
  rw [hw]
  have hl := numR_len 9 (s.size : Int)
  exact Ev.bind (Ev.of (fun k => code_Num.mono _ k) (code_Num_eq (s.size : Int) (by omega) (by omega) 0)) (Ev.congr (fun k => if_pos (by omega)) (Ev.now _))
theorem encW_len (s : ByteArray) : (encW s).length ≤ s.size + 10 := by
  have h1 := numR_len 9 (s.size : Int)
  have h2 := bytesOf_length s
  unfold encW
  rw [List.length_append]
  omega
theorem one_ev (v : Va) (hs : v.f2.size ≤ 1000000000) (h : in64 v.f1) : Ev (fun k => code_one.f k v.f0 v.f1 v.f2) (encV v) := by
  unfold code_one.f encV
  simp only [Option.bind_some]
  by_cases h1 : v.f0 = 1
  · rw [if_pos h1]
    refine Ev.congr (fun k => if_pos h1) ?_
    have hz := zig_range h
    have hl := numR_len 9 (zig v.f1)
    rw [whole_zig h]
    simp only [Option.bind_some]
    exact Ev.bind (Ev.of (fun k => code_Num.mono _ k) (code_Num_eq (zig v.f1) hz.1 hz.2 0)) (Ev.congr (fun k => if_pos (by simp only [List.length_cons, List.length_nil]; omega)) (Ev.now _))
  · rw [if_neg h1]
    refine Ev.congr (fun k => if_neg h1) ?_
    by_cases h2 : v.f0 = 2
    · rw [if_pos h2]
      refine Ev.congr (fun k => if_pos h2) ?_
      exact Ev.congr (fun k => if_pos (by simp)) (Ev.now _)
    · rw [if_neg h2]
      refine Ev.congr (fun k => if_neg h2) ?_
      by_cases h3 : v.f0 = 3
      · rw [if_pos h3]
        refine Ev.congr (fun k => if_pos h3) ?_
        have := encW_len v.f2
        exact Ev.bind (word_ev v.f2 hs) (Ev.congr (fun k => if_pos (by simp only [List.length_cons, List.length_nil]; omega)) (Ev.now _))
      · rw [if_neg h3]
        refine Ev.congr (fun k => if_neg h3) ?_
        rw [List.append_nil]
        exact Ev.now _
theorem list_loop {α : Type} (enc : α → List Int) (rdf : List α → Int → α) (hrd : ∀ (l : List α) (j : Int), 0 ≤ j → j < (l.length : Int) → l.drop j.toNat = rdf l j :: l.drop (j + 1).toNat) (one : Nat → α → Option (List Int)) (L : Nat → List Int → List α → Int → Int → Option (List Int))
    (hL : ∀ k xs l n i, L (k + 1) xs l n i = if i < n then (if 0 ≤ i then (if i < (l.length : Int) then ((one k (rdf l i)).bind fun t => (if xs.length + t.length < 140737488355328 then L k (xs ++ t) l n (wrap64 (i + 1)) else none)) else none) else none) else some xs)
    (l : List α) (hlen : l.length ≤ 1000000000) (hone : ∀ x ∈ l, Ev (fun k => one k x) (enc x)) : ∀ (d : Nat) (i : Int) (xs : List Int), 0 ≤ i → i + d = l.length → (xs ++ flat enc (l.drop i.toNat)).length < 140737488355328 → Ev (fun k => L k xs l (l.length : Int) i) (xs ++ flat enc (l.drop i.toNat)) := by
  intro d
  induction d with
  | zero =>
    intro i xs h0 hi hb
    rw [List.drop_of_length_le (by omega)]
    refine Ev.step (f := fun _ => some (xs ++ [])) (fun k => ?_) (Ev.now _)
    rw [hL, if_neg (by omega), List.append_nil]
  | succ d ih =>
    intro i xs h0 hi hb
    have hd := hrd l i h0 (by omega)
    have e2 : wrap64 (i + 1) = i + 1 := wrap_in (by unfold in64; omega)
    obtain ⟨y, hy⟩ : ∃ y, rdf l i = y := ⟨_, rfl⟩
    rw [hy] at hd
    have hm : y ∈ l := by
      have : y ∈ l.drop i.toNat := by rw [hd]; simp
      exact List.mem_of_mem_drop this
    rw [hd] at hb ⊢
    have hfl : xs ++ flat enc (y :: l.drop (i + 1).toNat) = (xs ++ enc y) ++ flat enc (l.drop (i + 1).toNat) := by
      rw [List.append_assoc]
      rfl
    rw [hfl] at hb ⊢
    have h2 := ih (i + 1) (xs ++ enc y) (by omega) (by omega) hb
    rw [List.length_append, List.length_append] at hb
    refine Ev.step (fun k => ?_) (Ev.bind (f := fun k t => if xs.length + t.length < 140737488355328 then L k (xs ++ t) l (l.length : Int) (wrap64 (i + 1)) else none) (hone y hm) (Ev.congr (fun k => if_pos (by omega)) (by rw [e2]; exact h2)))
    rw [hL, if_pos (by omega), if_pos h0, if_pos (by omega), hy]
/-- What List makes of some items. -/
def listB {α : Type} (enc : α → List Int) (l : List α) : List Int := numR 9 (l.length : Int) ++ flat enc l
theorem list_ev {α : Type} (enc : α → List Int) (rdf : List α → Int → α) (hrd : ∀ (l : List α) (j : Int), 0 ≤ j → j < (l.length : Int) → l.drop j.toNat = rdf l j :: l.drop (j + 1).toNat) (one : Nat → α → Option (List Int)) (L : Nat → List Int → List α → Int → Int → Option (List Int))
    (hL : ∀ k xs l n i, L (k + 1) xs l n i = if i < n then (if 0 ≤ i then (if i < (l.length : Int) then ((one k (rdf l i)).bind fun t => (if xs.length + t.length < 140737488355328 then L k (xs ++ t) l n (wrap64 (i + 1)) else none)) else none) else none) else some xs)
    (l : List α) (hlen : l.length ≤ 1000000000) (hone : ∀ x ∈ l, Ev (fun k => one k x) (enc x)) (hb : (listB enc l).length < 140737488355328) :
    Ev (fun k => (code_Num.f k (IntKind.u64.wrap (l.length : Int))).bind fun t => L k t l (l.length : Int) 0) (listB enc l) := by
  have hw : IntKind.u64.wrap (l.length : Int) = (l.length : Int) := wrap_u _ (by omega) (by omega)
  rw [hw]
  refine Ev.bind (Ev.of (fun k => code_Num.mono _ k) (code_Num_eq (l.length : Int) (by omega) (by omega) 0)) ?_
  have := list_loop enc rdf hrd one L hL l hlen hone l.length 0 (numR 9 (l.length : Int)) (by omega) (by omega) hb
  exact this
def toldB (b : List Int) : List Int × Int := if b.length > 16777216 then ([], 42) else (b, 0)
theorem told_eq (b : List Int) : code_told.f b = some (toldB b) := by
  unfold code_told.f toldB
  by_cases h : b.length > 16777216
  · rw [if_pos h, if_pos (by omega)]
  · rw [if_neg h, if_neg (by omega)]
theorem rdC_drop (l : List Co) (j : Int) (h0 : 0 ≤ j) (h1 : j < (l.length : Int)) : l.drop j.toNat = rd_T43 l j :: l.drop (j + 1).toNat := by
  have e : (j + 1).toNat = j.toNat + 1 := by omega
  have hl : j.toNat < l.length := by omega
  rw [e, List.drop_eq_getElem_cons hl]
  unfold rd_T43
  rw [List.getD_eq_getElem?_getD, List.getElem?_eq_getElem hl]
  rfl
theorem rdP_drop (l : List Pa) (j : Int) (h0 : 0 ≤ j) (h1 : j < (l.length : Int)) : l.drop j.toNat = rd_T74 l j :: l.drop (j + 1).toNat := by
  have e : (j + 1).toNat = j.toNat + 1 := by omega
  have hl : j.toNat < l.length := by omega
  rw [e, List.drop_eq_getElem_cons hl]
  unfold rd_T74
  rw [List.getD_eq_getElem?_getD, List.getElem?_eq_getElem hl]
  rfl
theorem rdR_drop (l : List (List Va)) (j : Int) (h0 : 0 ≤ j) (h1 : j < (l.length : Int)) : l.drop j.toNat = rd_L12 l j :: l.drop (j + 1).toNat := by
  have e : (j + 1).toNat = j.toNat + 1 := by omega
  have hl : j.toNat < l.length := by omega
  rw [e, List.drop_eq_getElem_cons hl]
  unfold rd_L12
  rw [List.getD_eq_getElem?_getD, List.getElem?_eq_getElem hl]
  rfl
/-- Sizes: nothing that is told here is greater than this. -/
theorem flat_le {α : Type} (enc : α → List Int) (m : Nat) : ∀ (l : List α), (∀ x ∈ l, (enc x).length ≤ m) → (flat enc l).length ≤ m * l.length
  | [], _ => by simp [flat]
  | a :: l, h => by
    have h1 := h a (by simp)
    have h2 := flat_le enc m l (fun x hx => h x (by simp [hx]))
    simp only [flat, List.length_append, List.length_cons]
    rw [Nat.mul_add, Nat.mul_one]
    omega
theorem listB_le {α : Type} (enc : α → List Int) (m : Nat) (l : List α) (h : ∀ x ∈ l, (enc x).length ≤ m) : (listB enc l).length ≤ m * l.length + 10 := by
  have h1 := numR_len 9 (l.length : Int)
  have h2 := flat_le enc m l h
  unfold listB
  rw [List.length_append]
  omega
theorem encV_len (v : Va) : (encV v).length ≤ v.f2.size + 20 := by
  have h1 := numR_len 9 (zig v.f1)
  have h2 := encW_len v.f2
  unfold encV encI
  split
  · simp only [List.length_append, List.length_cons, List.length_nil]
    omega
  · split
    · simp
    · split
      · simp only [List.length_append, List.length_cons, List.length_nil]
        omega
      · simp
/-- Rows. -/
def codeRows (l : List (List Va)) : List Int × Int := if l.all rowOk = true then toldB (listB encR l) else ([], 41)
theorem rowB_ev (r : List Va) (hr : goodR r) : Ev (fun k => code_Rows_1.f k r) (encR r) := by
  have hp := goodR_parts hr
  have hlen : ∀ v ∈ r, (encV v).length ≤ 400 := by
    intro v hv
    have h1 := encV_len v
    have h2 := chk_parts (hp.2 v hv).1
    have h3 : v.f2.size ≤ 200 := by
      rcases h2 with ⟨_, _, h⟩ | ⟨_, h⟩ | ⟨_, _, h⟩ | ⟨_, _, h⟩
      · rw [toList_nil h]; exact Nat.zero_le _
      · rw [toList_nil h]; exact Nat.zero_le _
      · rw [toList_nil h]; exact Nat.zero_le _
      · exact h
    omega
  have hsz := listB_le encV 400 r hlen
  unfold code_Rows_1.f
  refine Ev.congr (f := fun k => api_Value_60.f k r ()) (fun k => by cases api_Value_60.f k r () <;> rfl) ?_
  unfold api_Value_60.f
  refine list_ev encV rd_T116 rdV_drop (fun k v => code_one.f k v.f0 v.f1 v.f2) api_Value_60.l0 (fun k xs l n i => by rw [api_Value_60.l0]) r (by omega) (fun v hv => ?_) (by omega)
  have h2 := hlen v hv
  have h3 := encV_len v
  refine one_ev v ?_ (hr.2 v hv)
  have h2 := chk_parts (hp.2 v hv).1
  rcases h2 with ⟨_, _, h⟩ | ⟨_, h⟩ | ⟨_, _, h⟩ | ⟨_, _, h⟩
  · rw [toList_nil h]; exact Nat.zero_le _
  · rw [toList_nil h]; exact Nat.zero_le _
  · rw [toList_nil h]; exact Nat.zero_le _
  · omega
theorem encR_len (r : List Va) (hr : goodR r) : (encR r).length ≤ 5000 := by
  have hp := goodR_parts hr
  have hlen : ∀ v ∈ r, (encV v).length ≤ 400 := by
    intro v hv
    have h1 := encV_len v
    have h2 := chk_parts (hp.2 v hv).1
    have h3 : v.f2.size ≤ 200 := by
      rcases h2 with ⟨_, _, h⟩ | ⟨_, h⟩ | ⟨_, _, h⟩ | ⟨_, _, h⟩
      · rw [toList_nil h]; exact Nat.zero_le _
      · rw [toList_nil h]; exact Nat.zero_le _
      · rw [toList_nil h]; exact Nat.zero_le _
      · exact h
    omega
  have hsz := listB_le encV 400 r hlen
  have : (encR r).length = (listB encV r).length := rfl
  omega
theorem codeRows_loop (l : List (List Va)) (hlen : l.length ≤ 1000000000) (hin : ∀ r ∈ l, r.length ≤ 9223372036854775806 ∧ ∀ v ∈ r, in64 v.f1) : ∀ (d : Nat) (i : Int), 0 ≤ i → i + d = l.length → (∀ r ∈ l.take i.toNat, rowOk r = true) →
    Ev (fun k => code_Rows.l0 k l l (l.length : Int) i) (codeRows l) := by
  intro d
  induction d with
  | zero =>
    intro i h0 hi hok
    rw [List.take_of_length_le (by omega)] at hok
    have hall : l.all rowOk = true := List.all_eq_true.2 hok
    unfold codeRows
    rw [if_pos hall]
    have hg : ∀ r ∈ l, goodR r := fun r hr => ⟨hok r hr, (hin r hr).2⟩
    have hsz := listB_le encR 5000 l (fun r hr => encR_len r (hg r hr))
    have hA : Ev (fun k => api_Value_58.f k l ()) (listB encR l) := by
      unfold api_Value_58.f
      exact list_ev encR rd_L12 rdR_drop (fun k r => code_Rows_1.f k r) api_Value_58.l0 (fun k xs l n i => by rw [api_Value_58.l0]) l hlen (fun r hr => rowB_ev r (hg r hr)) (by omega)
    refine Ev.step (f := fun k => (api_Value_58.f k l ()).bind fun t215 => ((code_told.f t215).bind fun bt218 => (some (bt218.1, bt218.2)))) (fun k => ?_) (Ev.bind hA ?_)
    · simp only [code_Rows.l0]
      rw [if_neg (by omega)]
    · rw [told_eq]
      exact Ev.now _
  | succ d ih =>
    intro i h0 hi hok
    have hd := rdR_drop l i h0 (by omega)
    have e2 : wrap64 (i + 1) = i + 1 := wrap_in (by unfold in64; omega)
    obtain ⟨y, hy⟩ : ∃ y, rd_L12 l i = y := ⟨_, rfl⟩
    rw [hy] at hd
    have hm : y ∈ l := by
      have : y ∈ l.drop i.toNat := by rw [hd]; simp
      exact List.mem_of_mem_drop this
    cases hr : rowOk y with
    | false =>
      have hall : ¬ l.all rowOk = true := fun h => by
        have := List.all_eq_true.1 h y hm
        rw [hr] at this
        cases this
      unfold codeRows
      rw [if_neg hall]
      refine Ev.step (fun k => ?_) (Ev.bind (f := fun k t214 => (if t214 = true then (code_Rows.l0 k l l (l.length : Int) (wrap64 (i + 1))) else (some (([] : List Int), 41)))) (row_ev y (hin y hm).1) (by rw [hr]; exact Ev.congr (fun k => if_neg (by simp)) (Ev.now _)))
      simp only [code_Rows.l0]
      rw [if_pos (by omega), if_pos h0, if_pos (by omega), hy]
    | true =>
      have h2 := ih (i + 1) (by omega) (by omega) (by
        have e : l.take (i + 1).toNat = l.take i.toNat ++ [y] := by
          have h1 : (i + 1).toNat = i.toNat + 1 := by omega
          have hl : i.toNat < l.length := by omega
          have h3 : l[i.toNat] = y := by
            rw [← hy]
            unfold rd_L12
            rw [List.getD_eq_getElem?_getD, List.getElem?_eq_getElem hl]
            rfl
          rw [h1, List.take_add_one, List.getElem?_eq_getElem hl, h3]
          rfl
        rw [e]
        intro r hr'
        rcases List.mem_append.1 hr' with h | h
        · exact hok r h
        · rw [List.mem_singleton.1 h]; exact hr)
      refine Ev.step (fun k => ?_) (Ev.bind (f := fun k t214 => (if t214 = true then (code_Rows.l0 k l l (l.length : Int) (wrap64 (i + 1))) else (some (([] : List Int), 41)))) (row_ev y (hin y hm).1) (by rw [hr]; exact Ev.congr (fun k => if_pos rfl) (by rw [e2]; exact h2)))
      simp only [code_Rows.l0]
      rw [if_pos (by omega), if_pos h0, if_pos (by omega), hy]
theorem codeRows_ev (l : List (List Va)) (hlen : l.length ≤ 1000000000) (hin : ∀ r ∈ l, r.length ≤ 9223372036854775806 ∧ ∀ v ∈ r, in64 v.f1) : Ev (fun k => code_Rows.f k l) (codeRows l) :=
  codeRows_loop l hlen hin l.length 0 (by omega) (by omega) (by simp)
/-- Pairs. -/
theorem encP_len (p : Pa) : (encP p).length ≤ p.f0.size + p.f1.size + 20 := by
  have h1 := encW_len p.f0
  have h2 := encW_len p.f1
  unfold encP
  rw [List.length_append]
  omega
theorem codePairs_ev (l : List Pa) (hlen : l.length ≤ 20000) (hs : ∀ p ∈ l, p.f0.size ≤ 1000000 ∧ p.f1.size ≤ 1000000) : Ev (fun k => code_Pairs.f k l) (toldB (listB encP l)) := by
  have hsz := listB_le encP 2000020 l (fun p hp => by have := encP_len p; have := hs p hp; omega)
  unfold code_Pairs.f
  refine Ev.bind (a := listB encP l) ?_ (by rw [told_eq]; exact Ev.now _)
  unfold api_Pair_68.f
  refine list_ev encP rd_T74 rdP_drop (fun k p => code_Pairs_1.f k p.f0 p.f1) api_Pair_68.l0 (fun k xs l n i => by rw [api_Pair_68.l0]) l (by omega) (fun p hp => ?_) (by omega)
  have h := hs p hp
  have e1 := encW_len p.f0
  have e2 := encW_len p.f1
  unfold code_Pairs_1.f
  exact Ev.bind (word_ev p.f0 (by omega)) (Ev.bind (word_ev p.f1 (by omega)) (Ev.congr (fun k => if_pos (by omega)) (Ev.now _)))
/-- Columns. -/
def okC (c : Co) : Bool := decide (0 ≤ c.f1 ∧ c.f1 ≤ 255)
def codeCols (l : List Co) : List Int × Int := if l.all okC = true then toldB (listB encC l) else ([], 41)
theorem encC_len (c : Co) : (encC c).length ≤ c.f0.size + 20 := by
  have h1 := encW_len c.f0
  unfold encC
  simp only [List.length_append, List.length_cons, List.length_nil]
  omega
theorem codeCols_loop (l : List Co) (hlen : l.length ≤ 20000) (hs : ∀ c ∈ l, c.f0.size ≤ 1000000) : ∀ (d : Nat) (i : Int), 0 ≤ i → i + d = l.length → (∀ c ∈ l.take i.toNat, okC c = true) →
    Ev (fun k => code_Cols.l0 k l l (l.length : Int) i) (codeCols l) := by
  have hsz := listB_le encC 1000020 l (fun c hc => by have := encC_len c; have := hs c hc; omega)
  have hA : Ev (fun k => api_Column_64.f k l ()) (listB encC l) := by
    unfold api_Column_64.f
    refine list_ev encC rd_T43 rdC_drop (fun k c => code_Cols_1.f k c.f0 c.f1) api_Column_64.l0 (fun k xs l n i => by rw [api_Column_64.l0]) l (by omega) (fun c hc => ?_) (by omega)
    have h := hs c hc
    have e1 := encW_len c.f0
    unfold code_Cols_1.f
    simp only [Option.bind_some]
    exact Ev.bind (word_ev c.f0 (by omega)) (Ev.congr (fun k => if_pos (by simp only [List.length_cons, List.length_nil]; omega)) (Ev.now _))
  intro d
  induction d with
  | zero =>
    intro i h0 hi hok
    rw [List.take_of_length_le (by omega)] at hok
    have hall : l.all okC = true := List.all_eq_true.2 hok
    unfold codeCols
    rw [if_pos hall]
    refine Ev.step (f := fun k => (api_Column_64.f k l ()).bind fun t130 => ((code_told.f t130).bind fun bt133 => (some (bt133.1, bt133.2)))) (fun k => ?_) (Ev.bind hA ?_)
    · simp only [code_Cols.l0]
      rw [if_neg (by omega)]
    · rw [told_eq]
      exact Ev.now _
  | succ d ih =>
    intro i h0 hi hok
    have hd := rdC_drop l i h0 (by omega)
    have e2 : wrap64 (i + 1) = i + 1 := wrap_in (by unfold in64; omega)
    obtain ⟨y, hy⟩ : ∃ y, rd_T43 l i = y := ⟨_, rfl⟩
    rw [hy] at hd
    have hm : y ∈ l := by
      have : y ∈ l.drop i.toNat := by rw [hd]; simp
      exact List.mem_of_mem_drop this
    by_cases hc : 0 ≤ y.f1 ∧ y.f1 ≤ 255
    · have h2 := ih (i + 1) (by omega) (by omega) (by
        have e : l.take (i + 1).toNat = l.take i.toNat ++ [y] := by
          have h1 : (i + 1).toNat = i.toNat + 1 := by omega
          have hl : i.toNat < l.length := by omega
          have h3 : l[i.toNat] = y := by
            rw [← hy]
            unfold rd_T43
            rw [List.getD_eq_getElem?_getD, List.getElem?_eq_getElem hl]
            rfl
          rw [h1, List.take_add_one, List.getElem?_eq_getElem hl, h3]
          rfl
        rw [e]
        intro r hr'
        rcases List.mem_append.1 hr' with h | h
        · exact hok r h
        · rw [List.mem_singleton.1 h]; exact decide_eq_true hc)
      refine Ev.step (fun k => ?_) h2
      simp only [code_Cols.l0]
      rw [if_pos (by omega), if_pos h0, if_pos (by omega), hy, if_neg (by omega), if_neg (by omega), e2]
    · have hall : ¬ l.all okC = true := fun h => by
        have := of_decide_eq_true (List.all_eq_true.1 h y hm)
        exact hc this
      unfold codeCols
      rw [if_neg hall]
      refine Ev.step (f := fun _ => some ([], 41)) (fun k => ?_) (Ev.now _)
      simp only [code_Cols.l0]
      rw [if_pos (by omega), if_pos h0, if_pos (by omega), hy]
      by_cases hn : y.f1 < 0
      · rw [if_pos hn]
      · rw [if_neg hn, if_pos (by omega)]
theorem codeCols_ev (l : List Co) (hlen : l.length ≤ 20000) (hs : ∀ c ∈ l, c.f0.size ≤ 1000000) : Ev (fun k => code_Cols.f k l) (codeCols l) :=
  codeCols_loop l hlen hs l.length 0 (by omega) (by omega) (by simp)
end Go.Proofs.Ytgihecpobichbaa.Q
