/- Numbers: sums of lists in whatever order and groups, and the least of some, of the printed functions alone; no machine in it. -/
import Derived.Test.YtapffiacgfdfaaaNumP
namespace Go.Proofs.Ytapffiacgfdfaaa.Q
open Go.RowKit Go.Proofs.YtapffiacgfdfaaaW.PrintWords Go.Proofs.YtapffiacgfdfaaaW.PrintLast Go.Proofs.YtapffiacgfdfaaaW.PrintMore
set_option linter.unusedVariables false
set_option linter.unusedSimpArgs false

/-- A whole number as a sum, as far as a sum goes. -/
def nrm (x : Int) : Int × Int := (wrap64 (x / 18446744073709551616), x % 18446744073709551616)
theorem nrm_parts (x : Int) : Parts (nrm x).1 (nrm x).2 := by
  unfold Parts nrm wrap64
  dsimp only
  omega
theorem nrm_both (x y : Int) : num_Both.f (nrm x).1 (nrm x).2 (nrm y).1 (nrm y).2 = some (nrm (x + y)) := by
  rw [both_some (nrm_parts x) (nrm_parts y)]
  unfold bothS nrm wrap64
  congr 1
  refine Prod.ext ?_ ?_
  · dsimp only
    omega
  · dsimp only
    omega
theorem nrm_add (x n : Int) (hn : in64 n) : num_Add.f (nrm x).1 (nrm x).2 n = some (nrm (x + n)) := by
  unfold num_Add.f
  have e : num_wide.f n = some ((nrm n).1, (nrm n).2) := by
    unfold num_wide.f nrm
    unfold in64 at hn
    rw [wrapu]
    congr 1
    refine Prod.ext ?_ rfl
    unfold wrap64
    dsimp only
    omega
  rw [e, Option.bind_some, nrm_both, Option.bind_some]
theorem nrm_zero : nrm 0 = (0, 0) := by
  unfold nrm
  rw [wrap_in (by unfold in64; omega)]
  rfl
theorem rd_drop (l : List Int) (j : Int) (h0 : 0 ≤ j) (h1 : j < (l.length : Int)) : l.drop j.toNat = rd l j :: l.drop (j + 1).toNat := by
  have e : (j + 1).toNat = j.toNat + 1 := by omega
  have hl : j.toNat < l.length := by omega
  rw [e, List.drop_eq_getElem_cons hl]
  unfold rd
  rw [List.getD_eq_getElem?_getD, List.getElem?_eq_getElem hl]
  rfl
theorem rd_mem (l : List Int) (j : Int) (h0 : 0 ≤ j) (h1 : j < (l.length : Int)) : rd l j ∈ l := by
  have hl : j.toNat < l.length := by omega
  unfold rd
  rw [List.getD_eq_getElem?_getD, List.getElem?_eq_getElem hl]
  exact List.getElem_mem hl
/-- The sum of the first n. -/
def upto (l : List Int) (n : Nat) : Int := (l.take n).sum
theorem upto_succ (l : List Int) (j : Int) (h0 : 0 ≤ j) (h1 : j < (l.length : Int)) : upto l (j + 1).toNat = upto l j.toNat + rd l j := by
  have e : (j + 1).toNat = j.toNat + 1 := by omega
  have hl : j.toNat < l.length := by omega
  unfold upto rd
  rw [e, List.take_succ_eq_append_getElem hl, List.sum_append, List.getD_eq_getElem?_getD, List.getElem?_eq_getElem hl]
  simp
theorem orders_down (l : List Int) (hl : ∀ x ∈ l, in64 x) (a b c : Int) (e : a = b + c) (m : Int) (hm : m ≤ 300) (hml : m ≤ (l.length : Int)) (ha : a = upto l m.toNat) (hm0 : 0 ≤ m) : ∀ (n : Nat) (i x : Int), i + 1 = n → i < m → x = a - upto l (i + 1).toNat →
    Ev (fun k => headgatelaw01_NumOrders.l1 k l i (nrm a).1 (nrm a).2 (nrm b).1 (nrm b).2 (nrm c).1 (nrm c).2 (nrm x).1 (nrm x).2) true := by
  intro n
  induction n with
  | zero =>
    intro i x h0 h1 hx
    have hi : i = -1 := by omega
    have hu : upto l (i + 1).toNat = 0 := by
      rw [show (i + 1).toNat = 0 by omega]
      rfl
    have hxa : x = a := by omega
    refine Ev.step (f := fun _ => some true) (fun k => ?_) (Ev.now _)
    simp only [headgatelaw01_NumOrders.l1]
    rw [if_neg (by omega), hxa, if_pos (by simp), nrm_both, ← e, Option.bind_some, if_pos (by simp), nrm_both, show c + b = a by omega, Option.bind_some]
    simp
  | succ n ih =>
    intro i x h0 h1 hx
    have h3 := upto_succ l i (by omega) (by omega)
    refine Ev.step (fun k => ?_) (ih (i - 1) (x + rd l i) (by omega) (by omega) (by rw [show i - 1 + 1 = i by omega]; omega))
    simp only [headgatelaw01_NumOrders.l1]
    rw [if_pos (by omega), if_pos (by omega), if_pos (by omega), nrm_add x _ (hl _ (rd_mem l i (by omega) (by omega))), Option.bind_some, wrap_in (x := i - 1) (by unfold in64; omega)]
theorem orders_up (l : List Int) (hl : ∀ x ∈ l, in64 x) (cut : Int) (hlen : (l.length : Int) ≤ 9223372036854775800) : ∀ (n : Nat) (i a b c : Int), 0 ≤ i → i + n = mn (l.length : Int) 300 → a = b + c → a = upto l i.toNat →
    Ev (fun k => headgatelaw01_NumOrders.l0 k l cut i (nrm a).1 (nrm a).2 (nrm b).1 (nrm b).2 (nrm c).1 (nrm c).2 0 0) true := by
  have hmn : mn (l.length : Int) 300 ≤ 300 ∧ mn (l.length : Int) 300 ≤ (l.length : Int) ∧ 0 ≤ mn (l.length : Int) 300 ∧ (mn (l.length : Int) 300 = (l.length : Int) ∨ mn (l.length : Int) 300 = 300) := by
    unfold mn
    split <;> omega
  intro n
  induction n with
  | zero =>
    intro i a b c h0 h1 e ha
    have hd := orders_down l hl a b c e (mn (l.length : Int) 300) hmn.1 hmn.2.1 (by rw [ha]; congr 2; omega) hmn.2.2.1 (mn (l.length : Int) 300).toNat (mn (l.length : Int) 300 - 1) 0 (by omega) (by omega) (by rw [show mn (l.length : Int) 300 - 1 + 1 = i by omega]; omega)
    simp only [nrm_zero] at hd
    refine Ev.step (f := fun k => headgatelaw01_NumOrders.j1 k l cut i false (nrm a).1 (nrm a).2 (nrm b).1 (nrm b).2 (nrm c).1 (nrm c).2 0 0) (fun k => ?_) (Ev.step (fun k => ?_) hd)
    · simp only [headgatelaw01_NumOrders.l0]
      by_cases h : i < (l.length : Int)
      · rw [if_pos h, decide_eq_false (by omega)]
      · rw [if_neg h]
    · simp only [headgatelaw01_NumOrders.j1]
      rw [if_neg (by simp)]
  | succ n ih =>
    intro i a b c h0 h1 e ha
    have h3 := upto_succ l i h0 (by omega)
    have hr := hl _ (rd_mem l i h0 (by omega))
    have ew : wrap64 (i + 1) = i + 1 := wrap_in (by unfold in64; omega)
    by_cases ht : Int.tmod i 7 < wrap64 (Int.tmod cut 7)
    · refine Ev.step (f := fun k => headgatelaw01_NumOrders.j1 k l cut i true (nrm a).1 (nrm a).2 (nrm b).1 (nrm b).2 (nrm c).1 (nrm c).2 0 0) (fun k => ?_) (Ev.step (fun k => ?_) (ih (i + 1) (a + rd l i) (b + rd l i) c (by omega) (by omega) (by omega) (by omega)))
      · simp only [headgatelaw01_NumOrders.l0]
        rw [if_pos (by omega), decide_eq_true (by omega)]
      · simp only [headgatelaw01_NumOrders.j1]
        rw [if_pos trivial, if_pos h0, if_pos (by omega), nrm_add a _ hr, Option.bind_some, if_pos ht, nrm_add b _ hr, Option.bind_some, ew]
    · refine Ev.step (f := fun k => headgatelaw01_NumOrders.j1 k l cut i true (nrm a).1 (nrm a).2 (nrm b).1 (nrm b).2 (nrm c).1 (nrm c).2 0 0) (fun k => ?_) (Ev.step (fun k => ?_) (ih (i + 1) (a + rd l i) b (c + rd l i) (by omega) (by omega) (by omega) (by omega)))
      · simp only [headgatelaw01_NumOrders.l0]
        rw [if_pos (by omega), decide_eq_true (by omega)]
      · simp only [headgatelaw01_NumOrders.j1]
        rw [if_pos trivial, if_pos h0, if_pos (by omega), nrm_add a _ hr, Option.bind_some, if_neg ht, nrm_add c _ hr, Option.bind_some, ew]
theorem alive_ev : Ev (fun k => headgatelaw01_alive.f k) true := ⟨2, fun k hk => by obtain ⟨m, rfl⟩ : ∃ m, k = m + 2 := ⟨k - 2, by omega⟩; exact num_alive m⟩
theorem NumOrders_pure (l : List Int) (cut : Int) (h : l.length * 8 ≤ 140737488351232 ∧ ∀ y ∈ l, (Lit.int .i64 y).wf = true) (_ : (Lit.int .u8 cut).wf = true) : ∃ k, headgatelaw01_NumOrders.f k l cut = some true := by
  have hl : ∀ x ∈ l, in64 x := fun x hx => wf64 (h.2 x hx)
  have hmn : 0 ≤ mn (l.length : Int) 300 := by unfold mn; split <;> omega
  have z := orders_up l hl cut (by omega) (mn (l.length : Int) 300).toNat 0 0 0 0 (by omega) (by omega) (by omega) rfl
  refine Ev.rounds (Ev.congr (fun k => by unfold headgatelaw01_NumOrders.f; rfl) (Ev.bind alive_ev (f := fun k t => if t = true then headgatelaw01_NumOrders.l0 k l cut 0 0 0 0 0 0 0 0 0 else some false) ?_))
  simp only [if_true]
  rw [nrm_zero] at z
  exact z

theorem least_loop (l : List Int) (hlen : (l.length : Int) ≤ 9223372036854775800) (a0 : Int) : ∀ (n : Nat) (i a : Int), 0 ≤ i → i + n = (l.length : Int) → a ≤ a0 → (∀ j, 0 ≤ j → j < i → a ≤ rd l j) → (a = a0 ∨ ∃ j, 0 ≤ j ∧ j < i ∧ rd l j = a) →
    ∃ r, Ev (fun k => num_Least_int64.l0 k a l (l.length : Int) i) r ∧ r ≤ a0 ∧ (∀ j, 0 ≤ j → j < (l.length : Int) → r ≤ rd l j) ∧ (r = a0 ∨ ∃ j, 0 ≤ j ∧ j < (l.length : Int) ∧ rd l j = r) := by
  intro n
  induction n with
  | zero =>
    intro i a h0 h1 h2 h3 h4
    obtain rfl : i = (l.length : Int) := by omega
    exact ⟨a, Ev.step (f := fun _ => some a) (fun k => by simp only [num_Least_int64.l0]; rw [if_neg (by omega)]) (Ev.now _), h2, h3, h4⟩
  | succ n ih =>
    intro i a h0 h1 h2 h3 h4
    have hm : mn a (rd l i) ≤ a ∧ mn a (rd l i) ≤ rd l i ∧ (mn a (rd l i) = a ∨ mn a (rd l i) = rd l i) := by
      unfold mn
      split <;> omega
    obtain ⟨r, hr, h5⟩ := ih (i + 1) (mn a (rd l i)) (by omega) (by omega) (by omega) (fun j j0 j1 => by
        by_cases e : j = i
        · rw [e]; exact hm.2.1
        · have := h3 j j0 (by omega); omega) (by
        rcases hm.2.2 with e | e
        · rcases h4 with h4 | ⟨j, j0, j1, j2⟩
          · exact .inl (by omega)
          · exact .inr ⟨j, j0, by omega, by omega⟩
        · exact .inr ⟨i, h0, by omega, e.symm⟩)
    exact ⟨r, Ev.step (fun k => by simp only [num_Least_int64.l0]; rw [if_pos (by omega), if_pos h0, if_pos (by omega), wrap_in (x := i + 1) (by unfold in64; omega)]) hr, h5⟩
theorem least_law (l : List Int) (hlen : (l.length : Int) ≤ 9223372036854775800) (a0 r : Int) (hr : r ≤ a0) (hall : ∀ j, 0 ≤ j → j < (l.length : Int) → r ≤ rd l j) : ∀ (n : Nat) (i : Int) (b : Bool), 0 ≤ i → i + n = (l.length : Int) → (b = true ∨ ∃ j, i ≤ j ∧ j < (l.length : Int) ∧ rd l j = r) →
    Ev (fun k => headgatelaw01_NumLeast.l0 k a0 l r b i) true := by
  intro n
  induction n with
  | zero =>
    intro i b h0 h1 h2
    obtain rfl : b = true := h2.elim id (fun ⟨j, j0, j1, _⟩ => by omega)
    exact Ev.step (f := fun _ => some true) (fun k => by simp only [headgatelaw01_NumLeast.l0]; rw [if_neg (by omega), if_pos trivial, decide_eq_true hr]) (Ev.now _)
  | succ n ih =>
    intro i b h0 h1 h2
    have h3 := hall i h0 (by omega)
    have ew : wrap64 (i + 1) = i + 1 := wrap_in (by unfold in64; omega)
    cases b with
    | true => exact Ev.step (fun k => by simp only [headgatelaw01_NumLeast.l0]; rw [if_pos (by omega), if_pos trivial, if_pos h0, if_neg (by omega), ew]) (ih (i + 1) true (by omega) (by omega) (.inl rfl))
    | false =>
      refine Ev.step (fun k => ?_) (ih (i + 1) (rd l i == r) (by omega) (by omega) ?_)
      · simp only [headgatelaw01_NumLeast.l0]
        rw [if_pos (by omega), if_neg (by simp), if_pos h0, if_neg (by omega), ew]
      · obtain ⟨j, j0, j1, j2⟩ := h2.resolve_left (by simp)
        by_cases e : j = i
        · exact .inl (by rw [← e, j2]; simp)
        · exact .inr ⟨j, by omega, j1, j2⟩
theorem NumLeast_pure (a : Int) (l : List Int) (_ : (Lit.int .i64 a).wf = true) (h : l.length * 8 ≤ 140737488351232 ∧ ∀ y ∈ l, (Lit.int .i64 y).wf = true) : ∃ k, headgatelaw01_NumLeast.f k a l = some true := by
  obtain ⟨r, hr, h1, h2, h3⟩ := least_loop l (by omega) a l.length 0 a (by omega) (by omega) (by omega) (fun j j0 j1 => by omega) (.inl rfl)
  refine Ev.rounds (Ev.congr (fun k => by unfold headgatelaw01_NumLeast.f; rfl) (Ev.bind alive_ev (f := fun k t => if t = true then ((num_Least_int64.f k a l).bind fun t181 => (headgatelaw01_NumLeast.l0 k a l t181 (t181 == a) 0)) else some false) ?_))
  simp only [if_true]
  refine Ev.bind (g := fun k => num_Least_int64.f k a l) hr (f := fun k t => headgatelaw01_NumLeast.l0 k a l t (t == a) 0) ?_
  refine least_law l (by omega) a r h1 h2 l.length 0 _ (by omega) (by omega) ?_
  rcases h3 with h3 | h3
  · exact .inl (by rw [h3]; simp)
  · exact .inr h3
end Go.Proofs.Ytapffiacgfdfaaa.Q
