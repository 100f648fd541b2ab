/- Ranges: the law of which go on and which tile: of the printed functions alone; no machine in it. -/
import Derived.Test.YtdafccmanekliaaOffsA
namespace Go.Proofs.Ytdafccmanekliaa.Q
open Go.RowKit Go.Proofs.YtdafccmanekliaaW.PrintWords Go.Proofs.YtdafccmanekliaaW.PrintLast Go.Proofs.YtdafccmanekliaaW.PrintMore
set_option linter.unusedVariables false
set_option linter.unusedSimpArgs false

theorem all_loop (a b : List Rg) (hl : a.length ≤ 9223372036854775806) (hab : a.length = b.length) : ∀ (d : Nat) (i : Int), 0 ≤ i → i + d = a.length → Ev (fun k => api_Range.l0 k a b (a.length : Int) i) (goes (a.drop i.toNat) (b.drop i.toNat)) := by
  intro d
  induction d with
  | zero =>
    intro i h0 h1
    rw [List.drop_of_length_le (by omega)]
    exact Ev.step (f := fun _ => some true) (fun k => by simp only [api_Range.l0]; rw [if_neg (by omega)]) (Ev.now _)
  | succ d ih =>
    intro i h0 h1
    have e2 : wrap64 (i + 1) = i + 1 := wrap_in (by unfold in64; omega)
    rw [rg_drop a i h0 (by omega), rg_drop b i h0 (by omega)]
    unfold goes
    cases hg : ((rd_T31 a i).f1 == (rd_T31 b i).f0) with
    | true =>
      rw [Bool.true_and]
      refine Ev.step (fun k => ?_) (ih (i + 1) (by omega) (by omega))
      simp only [api_Range.l0, offs_Follows_1.f]
      rw [if_pos (by omega), if_pos h0, if_pos (by omega), if_pos (by omega), hg, Option.bind_some, if_pos rfl, e2]
    | false =>
      rw [Bool.false_and]
      refine Ev.step (f := fun _ => some false) (fun k => ?_) (Ev.now _)
      simp only [api_Range.l0, offs_Follows_1.f]
      rw [if_pos (by omega), if_pos h0, if_pos (by omega), if_pos (by omega), hg, Option.bind_some, if_neg (by simp)]
theorem Follows_ev (a b : List Rg) (ha : a.length ≤ 9223372036854775806) (hb : b.length ≤ 9223372036854775806) : Ev (fun k => offs_Follows.f k a b) (follows a b) := by
  unfold offs_Follows.f follows
  refine Ev.bind (Check_ev a ha) ?_
  cases h1 : rightR a with
  | false => exact Ev.congr (fun k => if_neg (by simp)) (by simpa using Ev.now false)
  | true =>
    refine Ev.congr (fun k => if_pos (by simp)) ?_
    refine Ev.bind (Check_ev b hb) ?_
    cases h2 : rightR b with
    | false => exact Ev.congr (fun k => if_neg (by simp)) (by simpa using Ev.now false)
    | true =>
      refine Ev.congr (fun k => if_pos (by simp)) ?_
      refine Ev.bind (a := decide (a.length = b.length) && goes a b) ?_ (by simpa using Ev.now _)
      unfold api_Range.f
      by_cases h3 : a.length = b.length
      · rw [decide_eq_true h3, Bool.true_and]
        exact Ev.congr (fun k => if_pos (by omega)) (all_loop a b ha h3 a.length 0 (by omega) (by omega))
      · rw [decide_eq_false h3, Bool.false_and]
        exact Ev.congr (fun k => if_neg (by omega)) (Ev.now _)
theorem ref_loop (a b : List Rg) (hl : a.length ≤ 9223372036854775806) (hab : a.length = b.length) : ∀ (d : Nat) (i : Int), 0 ≤ i → i + d = a.length → Ev (fun k => headgateref08_Follows.l0 k a b i) (goes (a.drop i.toNat) (b.drop i.toNat)) := by
  intro d
  induction d with
  | zero =>
    intro i h0 h1
    rw [List.drop_of_length_le (by omega)]
    exact Ev.step (f := fun _ => some true) (fun k => by simp only [headgateref08_Follows.l0]; rw [if_neg (by omega)]) (Ev.now _)
  | succ d ih =>
    intro i h0 h1
    have e2 : wrap64 (i + 1) = i + 1 := wrap_in (by unfold in64; omega)
    rw [rg_drop a i h0 (by omega), rg_drop b i h0 (by omega)]
    unfold goes
    by_cases hg : (rd_T31 a i).f1 = (rd_T31 b i).f0
    · rw [beq_iff_eq.mpr hg, Bool.true_and]
      refine Ev.step (fun k => ?_) (ih (i + 1) (by omega) (by omega))
      simp only [headgateref08_Follows.l0]
      rw [if_pos (by omega), if_pos h0, if_pos (by omega), if_pos hg, e2]
    · rw [beq_eq_false_iff_ne.mpr hg, Bool.false_and]
      refine Ev.step (f := fun _ => some false) (fun k => ?_) (Ev.now _)
      simp only [headgateref08_Follows.l0]
      rw [if_pos (by omega), if_pos h0, if_pos (by omega), if_neg hg]
theorem refFollows_ev (a b : List Rg) (ha : a.length ≤ 9223372036854775806) (hb : b.length ≤ 9223372036854775806) : Ev (fun k => headgateref08_Follows.f k a b) (follows a b) := by
  have hj : Ev (fun k => headgateref08_Follows.j0 k a b true) false := Ev.step (f := fun _ => some false) (fun k => by simp only [headgateref08_Follows.j0]; rw [if_pos trivial]) (Ev.now _)
  unfold headgateref08_Follows.f follows
  refine Ev.bind (Right_ev a ha) ?_
  cases h1 : rightR a with
  | false => exact Ev.congr (fun k => if_neg (by simp)) (by simpa using hj)
  | true =>
    refine Ev.congr (fun k => if_pos (by simp)) ?_
    refine Ev.bind (Right_ev b hb) ?_
    cases h2 : rightR b with
    | false => exact Ev.congr (fun k => if_neg (by simp)) (by simpa using hj)
    | true =>
      refine Ev.congr (fun k => if_pos (by simp)) ?_
      by_cases h3 : a.length = b.length
      · rw [decide_eq_true h3, Bool.true_and, Bool.true_and, Bool.true_and, show ((a.length : Int) != (b.length : Int)) = false by simp [h3]]
        exact Ev.step (fun k => by simp only [headgateref08_Follows.j0]; rw [if_neg (by simp)]) (ref_loop a b ha h3 a.length 0 (by omega) (by omega))
      · rw [decide_eq_false h3, Bool.and_false, Bool.false_and, show ((a.length : Int) != (b.length : Int)) = true by simp; omega]
        exact hj

theorem tiles_loop (l : List (List Rg)) (hl : l.length ≤ 9223372036854775806) (hm : ∀ x ∈ l, x.length ≤ 9223372036854775806) : ∀ (d : Nat) (i : Int) (was : List Rg), was.length ≤ 9223372036854775806 → 0 ≤ i → i + d = l.length → Ev (fun k => offs_Tiles.l0 k was l (l.length : Int) i) (chain was (l.drop i.toNat)) := by
  intro d
  induction d with
  | zero =>
    intro i was hw h0 h1
    rw [List.drop_of_length_le (by omega)]
    exact Ev.step (f := fun _ => some true) (fun k => by simp only [offs_Tiles.l0]; rw [if_neg (by omega)]) (Ev.now _)
  | succ d ih =>
    intro i was hw h0 h1
    have e2 : wrap64 (i + 1) = i + 1 := wrap_in (by unfold in64; omega)
    have hx : (rd_L10 l i).length ≤ 9223372036854775806 := hm _ (by
      have := rl_drop l i h0 (by omega)
      exact List.mem_of_mem_drop (this ▸ List.mem_cons_self ..))
    rw [rl_drop l i h0 (by omega)]
    unfold chain
    refine Ev.step (f := fun k => (offs_Follows.f k was (rd_L10 l i)).bind fun t120 => (if t120 = true then (offs_Tiles.l0 k (rd_L10 l i) l (l.length : Int) (i + 1)) else (some false))) (fun k => ?_) ?_
    · simp only [offs_Tiles.l0]
      rw [if_pos (by omega), if_pos h0, if_pos (by omega), e2]
    · refine Ev.bind (Follows_ev was _ hw hx) ?_
      cases follows was (rd_L10 l i) with
      | true => exact Ev.congr (fun k => if_pos rfl) (by simpa using ih (i + 1) _ hx (by omega) (by omega))
      | false => exact Ev.congr (fun k => if_neg (by simp)) (by simpa using Ev.now false)
/-- How the first one must begin: n ranges of nothing. -/
def begins (n : Nat) : List Rg := List.replicate (if n < 5 then n else 5) z31
def tiles : List (List Rg) → Bool
  | [] => true
  | x :: xs => chain (begins x.length) (x :: xs)
theorem tiles_cons (x : List Rg) (xs : List (List Rg)) : tiles (x :: xs) = chain (begins x.length) (x :: xs) := rfl
theorem chain_cons (w x : List Rg) (xs : List (List Rg)) : chain w (x :: xs) = (follows w x && chain x xs) := rfl
theorem follows_bad (a x : List Rg) (h : ¬ (1 ≤ x.length ∧ x.length ≤ 4)) : follows a x = false := by
  unfold follows rightR
  rw [show decide (1 ≤ x.length ∧ x.length ≤ 4) = false by simpa using h]
  simp
theorem Tiles_ev (l : List (List Rg)) (hl : l.length ≤ 9223372036854775806) (hm : ∀ x ∈ l, x.length ≤ 9223372036854775806) : Ev (fun k => offs_Tiles.f k l) (tiles l) := by
  unfold offs_Tiles.f
  cases l with
  | nil => exact Ev.congr (fun k => if_pos (by simp)) (Ev.now _)
  | cons x xs =>
    have e0 : rd_L10 (x :: xs) 0 = x := rfl
    have hlen : ((x :: xs).length : Int) = xs.length + 1 := by simp
    refine Ev.congr (fun k => (if_neg (by omega)).trans (if_pos (by omega))) ?_
    rw [e0, tiles_cons]
    unfold offs_Start.f
    by_cases h1 : (x.length : Int) < 1
    · rw [if_pos h1]
      rw [chain_cons, follows_bad _ x (by omega), Bool.false_and]
      exact Ev.congr (fun k => (Option.bind_some _ _).trans (if_neg (by simp))) (Ev.now _)
    rw [if_neg h1]
    by_cases h2 : (x.length : Int) > 4
    · rw [if_pos h2]
      rw [chain_cons, follows_bad _ x (by omega), Bool.false_and]
      exact Ev.congr (fun k => (Option.bind_some _ _).trans (if_neg (by simp))) (Ev.now _)
    rw [if_neg h2, if_pos (by omega), if_pos (by omega)]
    refine Ev.congr (fun k => (Option.bind_some _ _).trans (if_pos rfl)) ?_
    have := tiles_loop (x :: xs) hl hm (x :: xs).length 0 (begins x.length) (by unfold begins; rw [List.length_replicate]; split <;> omega) (by omega) (by omega)
    unfold begins at this ⊢
    rw [if_pos (by omega)] at this ⊢
    simpa using this
theorem start_loop (n : Nat) (hn : n ≤ 9223372036854775806) : ∀ (d i : Nat), i + d = (if n < 5 then n else 5) → Ev (fun k => headgateref08_Start.l0 k (n : Int) (List.replicate i z31) (i : Int)) (begins n) := by
  intro d
  induction d with
  | zero =>
    intro i h
    refine Ev.step (f := fun _ => some (begins n)) (fun k => ?_) (Ev.now _)
    simp only [headgateref08_Start.l0]
    unfold begins
    by_cases h5 : n < 5
    · rw [if_pos h5] at h ⊢
      rw [if_neg (by omega), show i = n by omega]
    · rw [if_neg h5] at h ⊢
      obtain rfl : i = 5 := by omega
      by_cases h6 : ((5 : Nat) : Int) < (n : Int)
      · rw [if_pos h6, if_neg (by omega)]
      · rw [if_neg h6]
  | succ d ih =>
    intro i h
    have hi : i < n ∧ i < 5 := by split at h <;> omega
    refine Ev.step (fun k => ?_) (ih (i + 1) (by omega))
    simp only [headgateref08_Start.l0]
    rw [if_pos (by omega), if_pos (by omega), if_pos (by rw [List.length_replicate]; omega), wrap_in (x := (i : Int) + 1) (by unfold in64; omega), show ([(⟨0, 0⟩ : Rg)] : List Rg) = [z31] from rfl, ← List.replicate_succ']
    rfl
theorem Start_ev (n : Nat) (hn : n ≤ 9223372036854775806) : Ev (fun k => headgateref08_Start.f k (n : Int)) (begins n) := start_loop n hn (if n < 5 then n else 5) 0 (Nat.zero_add _)
theorem refTiles_loop (l : List (List Rg)) (hl : l.length ≤ 9223372036854775806) (hm : ∀ x ∈ l, x.length ≤ 9223372036854775806) : ∀ (d : Nat) (i : Int), 1 ≤ i → i + d = l.length → Ev (fun k => headgateref08_Tiles.l0 k l i) (chain (rd_L10 l (i - 1)) (l.drop i.toNat)) := by
  intro d
  induction d with
  | zero =>
    intro i h0 h1
    rw [List.drop_of_length_le (by omega)]
    exact Ev.step (f := fun _ => some true) (fun k => by simp only [headgateref08_Tiles.l0]; rw [if_neg (by omega)]) (Ev.now _)
  | succ d ih =>
    intro i h0 h1
    have e2 : wrap64 (i + 1) = i + 1 := wrap_in (by unfold in64; omega)
    have e3 : wrap64 (i - 1) = i - 1 := wrap_in (by unfold in64; omega)
    have hmem : ∀ j : Int, 0 ≤ j → j < (l.length : Int) → (rd_L10 l j).length ≤ 9223372036854775806 := fun j j0 j1 => hm _ (by
      have := rl_drop l j j0 j1
      exact List.mem_of_mem_drop (this ▸ List.mem_cons_self ..))
    rw [rl_drop l i (by omega) (by omega)]
    unfold chain
    refine Ev.step (f := fun k => (headgateref08_Follows.f k (rd_L10 l (i - 1)) (rd_L10 l i)).bind fun t210 => (headgateref08_Tiles.j1 k l i (!t210))) (fun k => ?_) ?_
    · simp only [headgateref08_Tiles.l0]
      rw [if_pos (by omega), if_neg (by omega), if_pos (by omega), e3, if_pos (by omega), if_pos (by omega), if_pos (by omega)]
    · refine Ev.bind (refFollows_ev _ _ (hmem _ (by omega) (by omega)) (hmem _ (by omega) (by omega))) ?_
      cases follows (rd_L10 l (i - 1)) (rd_L10 l i) with
      | true =>
        refine Ev.step (fun k => by simp only [headgateref08_Tiles.j1]; rw [if_neg (by simp), e2]) ?_
        have := ih (i + 1) (by omega) (by omega)
        rw [show i + 1 - 1 = i by omega] at this
        simpa using this
      | false => exact Ev.step (f := fun _ => some false) (fun k => by simp only [headgateref08_Tiles.j1]; rw [if_pos (by simp)]) (by simpa using Ev.now false)
theorem refTiles_ev (l : List (List Rg)) (hl : l.length ≤ 9223372036854775806) (hm : ∀ x ∈ l, x.length ≤ 9223372036854775806) : Ev (fun k => headgateref08_Tiles.f k l) (tiles l) := by
  unfold headgateref08_Tiles.f
  cases l with
  | nil => exact Ev.step (f := fun _ => some true) (fun k => by simp only [headgateref08_Tiles.l0]; rw [if_neg (by simp)]) (Ev.now _)
  | cons x xs =>
    have e0 : rd_L10 (x :: xs) 0 = x := rfl
    have hx := hm x (List.mem_cons_self ..)
    have hlen : ((x :: xs).length : Int) = xs.length + 1 := by simp
    rw [tiles_cons, chain_cons]
    refine Ev.step (f := fun k => (headgateref08_Start.f k (x.length : Int)).bind fun t200 => ((headgateref08_Follows.f k t200 x).bind fun t204 => (headgateref08_Tiles.j1 k (x :: xs) 0 (!t204)))) (fun k => ?_) ?_
    · simp only [headgateref08_Tiles.l0]
      rw [if_pos (by omega), if_pos trivial, if_pos (by omega), e0]
      congr 1
      funext t
      congr 1
      funext u
      cases u with
      | true => rw [if_pos rfl, if_neg (by omega)]; rfl
      | false => rw [if_neg (by simp)]; rfl
    · refine Ev.bind (Start_ev x.length hx) ?_
      refine Ev.bind (refFollows_ev _ _ (by unfold begins; rw [List.length_replicate]; split <;> omega) hx) ?_
      cases hf : follows (begins x.length) x with
      | true =>
        refine Ev.step (fun k => by simp only [headgateref08_Tiles.j1]; rw [if_neg (by simp), show wrap64 (0 + 1) = 1 from wrap_in (x := 0 + 1) (by unfold in64; omega)]) ?_
        have := refTiles_loop (x :: xs) hl hm xs.length 1 (by omega) (by omega)
        rw [show (1 : Int) - 1 = 0 from rfl, e0] at this
        simpa using this
      | false => exact Ev.step (f := fun _ => some false) (fun k => by simp only [headgateref08_Tiles.j1]; rw [if_pos (by simp)]) (by simpa using Ev.now false)

theorem alive_ev : Ev (fun k => headgatelaw08_alive.f k) true := Ev.of (fun k => headgatelaw08_alive.mono k) (k := 60) (by kernel_rfl)

theorem follows_loop (l : List (List Rg)) (hl : l.length ≤ 9223372036854775806) (hm : ∀ x ∈ l, x.length ≤ 9223372036854775806) : ∀ (d : Nat) (i : Int), 1 ≤ i → l.length ≤ i + d → Ev (fun k => headgatelaw08_OffsFollows.l0 k l i) true := by
  have hend : ∀ i : Int, (l.length : Int) ≤ i → Ev (fun k => headgatelaw08_OffsFollows.l0 k l i) true := by
    intro i h
    refine Ev.step (f := fun k => (offs_Tiles.f k l).bind fun t218 => ((headgateref08_Tiles.f k l).bind fun t219 => (some (t218 == t219)))) (fun k => by simp only [headgatelaw08_OffsFollows.l0]; rw [if_neg (by omega)]) ?_
    refine Ev.bind (Tiles_ev l hl hm) (Ev.bind (refTiles_ev l hl hm) ?_)
    simpa using Ev.now true
  intro d
  induction d with
  | zero =>
    intro i h0 h1
    exact hend i (by omega)
  | succ d ih =>
    intro i h0 h1
    by_cases hi : (l.length : Int) ≤ i
    · exact hend i hi
    have e2 : wrap64 (i + 1) = i + 1 := wrap_in (by unfold in64; omega)
    have e3 : wrap64 (i - 1) = i - 1 := wrap_in (by unfold in64; omega)
    have hmem : ∀ j : Int, 0 ≤ j → j < (l.length : Int) → (rd_L10 l j).length ≤ 9223372036854775806 := fun j j0 j1 => hm _ (by
      have := rl_drop l j j0 j1
      exact List.mem_of_mem_drop (this ▸ List.mem_cons_self ..))
    refine Ev.step (f := fun k => (offs_Follows.f k (rd_L10 l (i - 1)) (rd_L10 l i)).bind fun t214 => ((headgateref08_Follows.f k (rd_L10 l (i - 1)) (rd_L10 l i)).bind fun t217 => (if (t214 != t217) = true then (some false) else (headgatelaw08_OffsFollows.l0 k l (i + 1))))) (fun k => ?_) ?_
    · simp only [headgatelaw08_OffsFollows.l0]
      rw [if_pos (by omega), e3, e2, if_pos (by omega), if_pos (by omega), if_pos (by omega)]
    · refine Ev.bind (Follows_ev _ _ (hmem _ (by omega) (by omega)) (hmem _ (by omega) (by omega))) (Ev.bind (refFollows_ev _ _ (hmem _ (by omega) (by omega)) (hmem _ (by omega) (by omega))) ?_)
      exact Ev.congr (fun k => if_neg (by simp)) (ih (i + 1) (by omega) (by omega))
theorem OffsFollows_pure' (l : List (List Rg)) (hl : l.length ≤ 9223372036854775806) (hm : ∀ x ∈ l, x.length ≤ 9223372036854775806) : ∃ k, headgatelaw08_OffsFollows.f k l = some true := by
  refine Ev.rounds ?_
  unfold headgatelaw08_OffsFollows.f
  refine Ev.bind alive_ev ?_
  refine Ev.congr (fun k => if_pos rfl) ?_
  by_cases h : (l.length : Int) > 300
  · exact Ev.congr (fun k => if_pos h) (Ev.now _)
  · exact Ev.congr (fun k => if_neg h) (follows_loop l hl hm l.length 1 (by omega) (by omega))
theorem OffsFollows_pure (l : List (List Rg)) (h : l.length * 24 ≤ 140737488351232 ∧ ∀ y ∈ l, y.length * 16 ≤ 140737488351232 ∧ ∀ z ∈ y, (Lit.int .i64 z.f0).wf = true ∧ (Lit.int .i64 z.f1).wf = true) : ∃ k, headgatelaw08_OffsFollows.f k l = some true :=
  OffsFollows_pure' l (by omega) (fun x hx => by have := (h.2 x hx).1; omega)
end Go.Proofs.Ytdafccmanekliaa.Q
