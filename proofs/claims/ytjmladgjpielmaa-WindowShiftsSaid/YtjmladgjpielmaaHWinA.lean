/- window.All's iterator: what it hands to its loop, whatever the loop's body does above the boxes: walked. -/
import Derived.Test.YtjmladgjpielmaaWinA
import Derived.RangeFuncBox
import Derived.RangeFuncLeaves
import Derived.Shelf.Abstract
import Derived.WalkKit
import Derived.OwnWalkIn
import Derived.TacticsInMore
import Derived.LoopNIn
import Derived.LoopIn
import Derived.Maps.AppendAt
namespace Go.Proofs.Ytjmladgjpielmaa.Q
open Go.RowKit Go.Shelf Go.Proofs.YtjmladgjpielmaaW.PrintWords Go.Proofs.YtjmladgjpielmaaW.PrintLast Go.Proofs.YtjmladgjpielmaaW.PrintMore
set_option linter.unusedVariables false
set_option linter.unusedSimpArgs false
attribute [local go_sem] Oper.semAt_some
theorem wide_fn (f : Nat) : Fence.wide.fn f = True := rfl
attribute [local go_sem] wide_fn

/-- What window.All hands out. -/
def winsOf (t size slide : Int) : List Int := if winErr t size slide = 0 then wins t size slide else []
theorem winErr_0 (t size slide : Int) : winErr t size slide = 0 ↔ winRight size slide ∧ timeOk t := by
  unfold winErr
  by_cases h1 : winRight size slide
  · by_cases h2 : timeOk t
    · simp [h1, h2]
    · simp [h1, h2]
  · simp [h1]
theorem wins_length (t size slide : Int) : (wins t size slide).length = (t / slide - (t - size) / slide).toNat := by simp [wins]
theorem wins_take {t size slide : Int} {i : Nat} (h : i < (wins t size slide).length) : (wins t size slide).take (i + 1) = (wins t size slide).take i ++ [((t - size) / slide + 1 + (i : Int)) * slide] := by
  rw [List.take_succ_eq_append_getElem h]
  congr 2
  simp [wins]
theorem wins_in {t size slide : Int} (hr : winRight size slide) (ht : timeOk t) {i : Nat} (h : i < (wins t size slide).length) : -72057594037927936 - 72057594037927936 ≤ ((t - size) / slide + 1 + (i : Int)) * slide ∧ ((t - size) / slide + 1 + (i : Int)) * slide ≤ 72057594037927936 := by
  obtain ⟨a1, a2, a3, a4, a5, a6, a7, a8, a9⟩ := win_nums hr ht
  rw [wins_length] at h
  unfold winRight at hr
  unfold timeOk at ht
  have b1 : ((t - size) / slide + 1) * slide ≤ ((t - size) / slide + 1 + (i : Int)) * slide := Int.mul_le_mul_of_nonneg_right (by omega) (by omega)
  have b2 : ((t - size) / slide + 1 + (i : Int)) * slide ≤ t / slide * slide := Int.mul_le_mul_of_nonneg_right (by omega) (by omega)
  omega
theorem drawn_by {w w' : World} (h : Drawn0 w w') : w.grownBy w' none := by
  obtain ⟨n, rfl⟩ := h.out
  exact ⟨rfl, rfl, rfl, Nat.le_refl _, fun _ _ _ => rfl⟩
theorem drawn_cell {w w' : World} (h : Drawn0 w w') (a : Addr) : w'.cell? a = w.cell? a := by
  obtain ⟨n, rfl⟩ := h.out
  rfl
theorem drawn_abides {α : Type} {n₀ : Nat} {J : α → World → Prop} (hJ : AbidesFrom n₀ J) {x : α} {w w' : World} (h : Drawn0 w w') (hx : J x w) : J x w' :=
  hJ x w w' none hx (drawn_by h) (fun r e => by cases e)

set_option maxHeartbeats 4000000 in
set_option maxRecDepth 100000 in
theorem all1_in (n : Nat) (hn : 1 ≤ n) (l B : Nat) (t size slide : Int) (ht : in64 t) (hs : in64 size) (hl : in64 slide) (Kp : World → World → Prop) (hKp : ∀ {A C : World}, Kp A C → C.cell? ⟨B + 2, 0, none⟩ = A.cell? ⟨B + 2, 0, none⟩) (J Jx : List Int → World → Prop)
    (hY : ∀ pre x W, J pre W → pre.length < (winsOf t size slide).length → YieldAt Fence.wide (n - 1) Try.prog l #[.int .i64 x] W fun e W' =>
      (e = .returned (.bool true) ∧ J (pre ++ [x]) W' ∧ Kp W W') ∨ (e = .returned (.bool false) ∧ Jx (pre ++ [x]) W'))
    (W : World) (h1 : W.cell? ⟨B, 0, none⟩ = some (.int .i64 t)) (h2 : W.cell? ⟨B + 1, 0, none⟩ = some (.int .i64 size)) (h3 : W.cell? ⟨B + 2, 0, none⟩ = some (.int .i64 slide)) (hJ : AbidesFrom W.heap.size J) (h0 : J [] W) :
    CallsIn Fence.wide n Try.prog 18 #[.func (.yield l) #[] #[], .pointer (some ⟨B, 0, none⟩), .pointer (some ⟨B + 1, 0, none⟩), .pointer (some ⟨B + 2, 0, none⟩)] W fun e W' => (∃ v, e = .returned v) ∧
      ((∃ ys, ys = winsOf t size slide ∧ J ys W') ∨ (∃ pre, pre <+: winsOf t size slide ∧ Jx pre W')) := by
  refine callsIn_of_wp Try.func18 rfl trivial ?_ rfl
  simp only [Try.ntmps18, List.size_toArray, List.length_cons, List.length_nil, Nat.reduceAdd, Nat.reduceSub, Array.replicate_succ, Array.replicate_zero, List.push_toArray, List.append_toArray, List.nil_append, List.cons_append]
  by_cases hc : winErr t size slide = 0
  · obtain ⟨hr, hk⟩ := (winErr_0 t size slide).1 hc
    have hwo : winsOf t size slide = wins t size slide := by unfold winsOf; rw [if_pos hc]
    obtain ⟨a1, a2, a3, a4, a5, a6, a7, a8, a9⟩ := win_nums hr hk
    have hr' := hr
    have hk' := hk
    unfold winRight at hr'
    unfold timeOk at hk'
    have hfl1 : num_Floor.f (t - size) slide = some ((t - size) / slide, 0) := by
      rw [num_Floor_eq _ _ (by unfold in64; omega) hl]
      unfold floorS
      rw [if_neg (by omega)]
    have hfl2 : num_Floor.f t slide = some (t / slide, 0) := by
      rw [num_Floor_eq _ _ ht hl]
      unfold floorS
      rw [if_neg (by omega)]
    have hsub : wrap64 (t - size) = t - size := wrap_in (by unfold in64; omega)
    have hadd : wrap64 ((t - size) / slide + 1) = (t - size) / slide + 1 := wrap_in (by unfold in64; omega)
    have hck : ∀ w, CallsIn Fence.wide (n - 1) Try.prog 15 #[.int .i64 t, .int .i64 size, .int .i64 slide] w fun e w' => e = .returned (.int .i64 0) ∧ Drawn0 w w' := fun w => callsIn_wide.2 (window_check.calls 1 t size slide 0 _ ((check_eq 0 t size slide hs hl).trans (by rw [hc])))
    have hfc1 : ∀ w, CallsIn Fence.wide (n - 1) Try.prog 19 #[.int .i64 (t - size), .int .i64 slide] w fun e w' => e = .returned (.tuple #[.int .i64 ((t - size) / slide), .int .i64 0]) ∧ Drawn0 w w' := fun w => callsIn_wide.2 (num_Floor.calls _ _ _ _ _ hfl1)
    have hfc2 : ∀ w, CallsIn Fence.wide (n - 1) Try.prog 19 #[.int .i64 t, .int .i64 slide] w fun e w' => e = .returned (.tuple #[.int .i64 (t / slide), .int .i64 0]) ∧ Drawn0 w w' := fun w => callsIn_wide.2 (num_Floor.calls _ _ _ _ _ hfl2)
    clear hfl1 hfl2
    obtain ⟨p, hp⟩ : ∃ p, (t - size) / slide = p := ⟨_, rfl⟩
    obtain ⟨q, hq⟩ : ∃ q, t / slide = q := ⟨_, rfl⟩
    rw [hp] at hfc1
    rw [hq] at hfc2
    gi_wp2_with (first
      | (gi_at_call 15; refine (hck _).mono ?_; rintro e w1 ⟨rfl, hd1⟩; have h1a := (drawn_cell hd1 _).trans h1; have h2a := (drawn_cell hd1 _).trans h2; have h3a := (drawn_cell hd1 _).trans h3)
      | (gi_at_call 19; refine (hfc1 _).mono ?_; rintro e w2 ⟨rfl, hd2⟩; have h1b := (drawn_cell hd2 _).trans h1a; have h2b := (drawn_cell hd2 _).trans h2a; have h3b := (drawn_cell hd2 _).trans h3a; clear hfc1)
      | (gi_at_call 19; refine (hfc2 _).mono ?_; rintro e w3 ⟨rfl, hd3⟩; have h1c := (drawn_cell hd3 _).trans h1b; have h2c := (drawn_cell hd3 _).trans h2b; have h3c := (drawn_cell hd3 _).trans h3b))
    have hJ3 : J [] w3 := by
      have e1 : J [] w1 := drawn_abides hJ hd1 h0
      have e2 : J [] w2 := hJ _ _ _ none e1 (drawn_by hd2) (fun r e => by cases e)
      exact hJ _ _ _ none e2 (drawn_by hd3) (fun r e => by cases e)
    have hlen : (wins t size slide).length = (q - p).toNat := by rw [wins_length, hp, hq]
    gi_loopw [5] (fun x wr => ∃ i : Nat, x = .int .i64 (p + 1 + (i : Int)) ∧ i ≤ (wins t size slide).length ∧ J ((wins t size slide).take i) wr ∧ wr.cell? ⟨B + 2, 0, none⟩ = some (.int .i64 slide))
      (fun x wr => match x with | .int _ z => (q + 1 - z).toNat | _ => 0)
    case atStart =>
      exact ⟨0, by simp, by omega, by simpa using hJ3, h3c⟩
    case round =>
      obtain ⟨i, rfl, hi, hJi, h3r⟩ := hrel
      by_cases hlast : p + 1 + (i : Int) ≤ q
      · have hin := wins_in hr hk (i := i) (by omega)
        rw [hp] at hin
        have htk := wins_take (t := t) (size := size) (slide := slide) (i := i) (by omega)
        rw [hp] at htk
        obtain ⟨fn, tmps, assign, body, hy, hR⟩ := hY _ ((p + 1 + (i : Int)) * slide) wr hJi (by rw [hwo, List.length_take]; omega)
        obtain ⟨m, hm⟩ : ∃ m, (p + 1 + (i : Int)) * slide = m := ⟨_, rfl⟩
        rw [hm] at *
        gi_wp2
        refine hR.mono ?_
        rintro e W3 (⟨rfl, hJ4, hk4⟩ | ⟨rfl, hJx4⟩)
        · gi_wp2
          go_roundw
          case rel => exact ⟨i + 1, by congr 1; omega, by omega, by rw [htk]; exact hJ4, (hKp hk4).trans h3r⟩
          case measure => simp; omega
        · gi_wp2
          refine bodyPost_ret (results_none rfl _ _ _) rfl ?_
          exact ⟨⟨_, rfl⟩, .inr ⟨_, by rw [hwo, ← htk]; exact List.take_prefix _ _, hJx4⟩⟩
      · gi_wp2
        go_end0
        rw [List.take_of_length_le (by omega)] at hJi
        exact ⟨⟨_, rfl⟩, .inl (hwo ▸ hJi)⟩
  · have hwo : winsOf t size slide = [] := by unfold winsOf; rw [if_neg hc]
    have hck : ∀ w, CallsIn Fence.wide (n - 1) Try.prog 15 #[.int .i64 t, .int .i64 size, .int .i64 slide] w fun e w' => e = .returned (.int .i64 (winErr t size slide)) ∧ Drawn0 w w' := fun w => callsIn_wide.2 (window_check.calls 1 t size slide _ _ (check_eq 0 t size slide hs hl))
    gi_wp2_with (gi_at_call 15; refine (hck _).mono ?_; rintro e w1 ⟨rfl, hd1⟩)
    all_goals first
      | (exfalso; rename_i hz; exact hc (by simpa using hz))
      | (refine bodyPost_ret (results_none rfl _ _ _) rfl ?_; exact ⟨⟨_, rfl⟩, .inl ⟨_, rfl, by rw [hwo]; exact drawn_abides hJ hd1 h0⟩⟩)
end Go.Proofs.Ytjmladgjpielmaa.Q
