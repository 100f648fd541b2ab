/- slices.AppendSeq, slices.Collect and window.Of over window.All's iterator: walked. -/
import Derived.Test.YtjmladgjpielmaaHWinA
namespace Go.Proofs.Ytjmladgjpielmaa.Q
open Go.RowKit Go.Shelf Go.Proofs.YtjmladgjpielmaaW.PrintWords Go.Proofs.YtjmladgjpielmaaW.PrintLast Go.Proofs.YtjmladgjpielmaaW.PrintMore
set_option linter.unusedVariables false
set_option linter.unusedSimpArgs false
attribute [local go_sem] Oper.semAt_some wide_fn

theorem drawn_size {w w' : World} (h : Drawn0 w w') : w'.heap.size = w.heap.size := by
  obtain ⟨n, rfl⟩ := h.out
  rfl
theorem drawn_below {w w' : World} (h : Drawn0 w w') : Below w.heap.size w w' := by
  obtain ⟨n, rfl⟩ := h.out
  exact ⟨rfl, rfl, rfl, Nat.le_refl _, fun _ _ => rfl⟩
theorem all1_stops (n : Nat) (hn : 1 ≤ n) (B : Nat) (t size slide : Int) (ht : in64 t) (hs : in64 size) (hl : in64 slide) (w : World) (hw : B + 2 < w.heap.size) (Kp : World → World → Prop) (hKp : ∀ {A C : World}, Kp A C → C.cell? ⟨B + 2, 0, none⟩ = A.cell? ⟨B + 2, 0, none⟩)
    (h1 : w.cell? ⟨B, 0, none⟩ = some (.int .i64 t)) (h2 : w.cell? ⟨B + 1, 0, none⟩ = some (.int .i64 size)) (h3 : w.cell? ⟨B + 2, 0, none⟩ = some (.int .i64 slide)) :
    SeqStopsK Fence.wide n Try.prog 18 #[.pointer (some ⟨B, 0, none⟩), .pointer (some ⟨B + 1, 0, none⟩), .pointer (some ⟨B + 2, 0, none⟩)] (fun x : Int => #[Value.int .i64 x]) Kp (fun ys => ys = winsOf t size slide) (fun pre => pre <+: winsOf t size slide) (winsOf t size slide).length w :=
  fun l J Jx W hW hJ _ hY h0 => all1_in n hn l B t size slide ht hs hl Kp hKp J Jx hY W ((hW.cell (p := ⟨B, 0, none⟩) (by simp; omega)).trans h1) ((hW.cell (p := ⟨B + 1, 0, none⟩) (by simp; omega)).trans h2) ((hW.cell (p := ⟨B + 2, 0, none⟩) (by simp; omega)).trans h3) hJ h0

theorem winsOf_length (t size slide : Int) : (winsOf t size slide).length ≤ 64 := by
  unfold winsOf
  split
  · rename_i h
    obtain ⟨hr, hk⟩ := (winErr_0 t size slide).1 h
    obtain ⟨a1, a2, a3, a4, a5, a6, a7, a8, a9⟩ := win_nums hr hk
    rw [wins_length]
    omega
  · simp
theorem infoI64 : (Try.prog.info? 2).map (fun i => (i.zero, i.size, i.bytes)) = some (some (.int .i64 0), 1, 8) := by kernel_rfl
theorem undI64s : Try.prog.underlying 23 = some (.slice 2) := by kernel_rfl

set_option maxHeartbeats 4000000 in
set_option maxRecDepth 100000 in
theorem AppendSeq_in (n : Nat) (hn : 2 ≤ n) (B : Nat) (t size slide : Int) (ht : in64 t) (hs : in64 size) (hl : in64 slide) (w : World) (hB : B + 2 < w.heap.size)
    (h1 : w.cell? ⟨B, 0, none⟩ = some (.int .i64 t)) (h2 : w.cell? ⟨B + 1, 0, none⟩ = some (.int .i64 size)) (h3 : w.cell? ⟨B + 2, 0, none⟩ = some (.int .i64 slide)) :
    CallsIn Fence.wide n Try.prog 20 #[.slice none 0 0, .func (.func 18) #[] #[.pointer (some ⟨B, 0, none⟩), .pointer (some ⟨B + 1, 0, none⟩), .pointer (some ⟨B + 2, 0, none⟩)]] w fun e W' =>
      ∃ v, e = .returned v ∧ W'.ownsRow w.heap.size 2 1 v (winsOf t size slide).length ((winsOf t size slide).map (Value.int .i64)) ∧ Below w.heap.size w W' := by
  have hn1 : 1 ≤ n := by omega
  obtain ⟨i0, hi, hz0, hz1, hz2⟩ := info_parts infoI64
  have hlen := winsOf_length t size slide
  have hmx : (64 : Nat) ≤ maxLen := by decide
  obtain ⟨ws, hws⟩ : ∃ ws, winsOf t size slide = ws := ⟨_, rfl⟩
  rw [hws] at hlen
  refine callsIn_of_wp_marks Try.func20 rfl trivial ?_ rfl
  simp only [Try.ntmps20, List.size_toArray, List.length_cons, List.length_nil, Nat.reduceAdd, Nat.reduceSub, Array.replicate_succ, Array.replicate_zero, List.push_toArray, List.append_toArray, List.nil_append, List.cons_append]
  gi_wp2
  have bO := Boxed.new w 23 (.slice none 0 0)
  have hB0 : Below w.heap.size w (w.alloc (.cells #[.slice none 0 0] 23)) := (Below.refl _ w).alloc (Nat.le_refl _) _
  refine wpIn_rangeFunc_ownG rfl hn1 (gf := 18) (lb := #[.pointer (some ⟨B, 0, none⟩), .pointer (some ⟨B + 1, 0, none⟩), .pointer (some ⟨B + 2, 0, none⟩)]) rfl trivial (enters_of Try.func18 (by kernel_rfl) rfl)
    (all1_stops (n - 1) (by omega) B t size slide ht hs hl w hB (Below w.heap.size) (fun h => h.cell (p := ⟨B + 2, 0, none⟩) hB) h1 h2 h3) belowK_t (belowK_b (by simp)) hB0 (fun _ => rfl)
    (fun (pre : List Int) W => (∃ v, Boxed W w.heap.size 23 v ∧ W.ownsRow w.heap.size 2 1 v pre.length (pre.map (Value.int .i64)) ∧ True) ∧ Below w.heap.size w W)
    (fun _ _ _ => False)
    (OwnFrom.and (Own.from (holdsRow_own w.heap.size w.heap.size 23 2 1 (fun pre : List Int => pre.length) (fun pre : List Int => pre.map (Value.int .i64)) (fun pre v => True)) _) (ownFrom_below (Nat.le_refl _) (by simp)))
    (fun _ _ _ _ _ hs _ _ => hs)
    ⟨⟨_, bO, World.ownsRow_nil _ _ _ _, trivial⟩, hB0⟩
    (fun x => { tmps := #[.slice none 0 0, .func (.func 18) #[] #[.pointer (some ⟨B, 0, none⟩), .pointer (some ⟨B + 1, 0, none⟩), .pointer (some ⟨B + 2, 0, none⟩)], .pointer (some ⟨w.heap.size, 0, none⟩), undef, .slice none 0 0, .int .i64 x, .func (.func 18) #[] #[.pointer (some ⟨B, 0, none⟩), .pointer (some ⟨B + 1, 0, none⟩), .pointer (some ⟨B + 2, 0, none⟩)], .int .i64 x, undef, undef, undef, undef, undef], defers := [] }) ?assign ?body ?done ?stop
  case assign =>
    intro l x W K hK
    gi_wp2
    exact hK
  case body =>
    rintro l pre x W ⟨⟨v, hv, hrow, _⟩, hBl⟩ hlt
    have hc := hv.cell
    rw [hws] at hlt
    gi_wp2_with (gi_at_builtin; refine wpListIn_append_own _ rfl _ _ 23 rfl w.heap.size 2 i0 (.int .i64 0) 1 8 undI64s hi hz0 hz1 hz2 rfl (by decide) _ _ _ rfl (hrow.alloc _) ⟨W.heap.size, 0, none⟩ 1 1 [.int .i64 x] rfl rfl (cell_one_new _ _ _) (by simp [Value.oneCell']) (by omega) (by omega) (by have := hBl.size; simp; omega) ?_; intro v' w1 hown' hgrow _; obtain ⟨g', cap', rfl⟩ := ownsRow_succ hown'; obtain ⟨hv1, hv2, hr2, hk2, hb2⟩ := hv.appended (by decide) hrow hBl.size (Nat.le_refl _) hown' hgrow; have hc1 := hv1.cell; have hf1 := hv1.frozen)
    exact ⟨hk2.from _, hb2, ⟨_, hv2, by simpa using hr2, trivial⟩, hBl.trans hb2⟩
  case done =>
    rintro D ys W hD hys ⟨⟨v, hv, hrow, _⟩, hBl⟩ hK
    rw [hws] at hys
    subst hys
    have hc := hv.cell
    gi_wp2
    refine ⟨by simp, .inl ⟨_, _, rfl, run_takeDeferred hK, ?_⟩⟩
    rw [hws]
    exact ⟨_, results_tmp rfl _ _ _, v, rfl, ownsRow_putObj hrow _ hK rfl, hBl.trans (belowK_b (w := w) (Nat.le_refl _) W D _ _ (by simp at hD; omega) hK rfl rfl)⟩
  case stop =>
    rintro D c pre W _ _ h _
    exact h.elim

set_option maxHeartbeats 4000000 in
set_option maxRecDepth 100000 in
theorem Collect_in (n : Nat) (hn : 3 ≤ n) (B : Nat) (t size slide : Int) (ht : in64 t) (hs : in64 size) (hl : in64 slide) (w : World) (hB : B + 2 < w.heap.size)
    (h1 : w.cell? ⟨B, 0, none⟩ = some (.int .i64 t)) (h2 : w.cell? ⟨B + 1, 0, none⟩ = some (.int .i64 size)) (h3 : w.cell? ⟨B + 2, 0, none⟩ = some (.int .i64 slide)) :
    CallsIn Fence.wide n Try.prog 16 #[.func (.func 18) #[] #[.pointer (some ⟨B, 0, none⟩), .pointer (some ⟨B + 1, 0, none⟩), .pointer (some ⟨B + 2, 0, none⟩)]] w fun e W' =>
      ∃ v, e = .returned v ∧ W'.ownsRow w.heap.size 2 1 v (winsOf t size slide).length ((winsOf t size slide).map (Value.int .i64)) ∧ Below w.heap.size w W' := by
  have hn1 : 1 ≤ n := by omega
  refine callsIn_of_wp Try.func16 rfl trivial ?_ rfl
  simp only [Try.ntmps16, List.size_toArray, List.length_cons, List.length_nil, Nat.reduceAdd, Nat.reduceSub, Array.replicate_succ, Array.replicate_zero, List.push_toArray, List.append_toArray, List.nil_append, List.cons_append]
  gi_wp2_with (gi_at_call 20; refine (AppendSeq_in (n - 1) (by omega) B t size slide ht hs hl _ hB h1 h2 h3).mono ?_; rintro e w1 ⟨v, rfl, hv, hb⟩)
  all_goals refine bodyPost_ret (results_tmp rfl _ _ _) rfl ?_
  all_goals exact ⟨v, rfl, hv, hb⟩
set_option maxHeartbeats 4000000 in
set_option maxRecDepth 100000 in
theorem All_in (n : Nat) (t size slide : Int) (w : World) :
    CallsIn Fence.wide n Try.prog 12 #[.int .i64 t, .int .i64 size, .int .i64 slide] w fun e w' =>
      e = .returned (.func (.func 18) #[] #[.pointer (some ⟨w.heap.size, 0, none⟩), .pointer (some ⟨w.heap.size + 1, 0, none⟩), .pointer (some ⟨w.heap.size + 2, 0, none⟩)]) ∧
      w' = ((w.alloc (.cells #[.int .i64 t] 2)).alloc (.cells #[.int .i64 size] 2)).alloc (.cells #[.int .i64 slide] 2) := by
  refine callsIn_of_wp Try.func12 rfl trivial ?_ rfl
  simp only [Try.ntmps12, List.size_toArray, List.length_cons, List.length_nil, Nat.reduceAdd, Nat.reduceSub, Array.replicate_succ, Array.replicate_zero, List.push_toArray, List.append_toArray, List.nil_append, List.cons_append]
  gi_wp2
  go_ret
  exact ⟨rfl, rfl⟩
/-- The three boxes that window.All lays. -/
structure WinBoxes (w w' : World) (t size slide : Int) : Prop where
  grew : w'.heap.size = w.heap.size + 3
  c0 : w'.cell? ⟨w.heap.size, 0, none⟩ = some (.int .i64 t)
  c1 : w'.cell? ⟨w.heap.size + 1, 0, none⟩ = some (.int .i64 size)
  c2 : w'.cell? ⟨w.heap.size + 2, 0, none⟩ = some (.int .i64 slide)
  below : Below w.heap.size w w'
theorem winBoxes (w : World) (t size slide : Int) : WinBoxes w (((w.alloc (.cells #[.int .i64 t] 2)).alloc (.cells #[.int .i64 size] 2)).alloc (.cells #[.int .i64 slide] 2)) t size slide := by
  have b0 := Boxed.new w 2 (.int .i64 t)
  have b1 := Boxed.new (w.alloc (.cells #[.int .i64 t] 2)) 2 (.int .i64 size)
  have b2 := Boxed.new ((w.alloc (.cells #[.int .i64 t] 2)).alloc (.cells #[.int .i64 size] 2)) 2 (.int .i64 slide)
  simp only [World.size_alloc] at b1 b2
  exact ⟨by simp, ((b0.alloc _).alloc _).cell, (b1.alloc _).cell, b2.cell, (((Below.refl _ w).alloc (Nat.le_refl _) _).alloc (by simp) _).alloc (by simp; omega) _⟩

def window_Of.f (a0 : Int) (a1 : Int) (a2 : Int) : Option (List Int × Int) := if in64 a0 ∧ in64 a1 ∧ in64 a2 then some (winsOf a0 a1 a2, winErr a0 a1 a2) else none
theorem window_Of.f_eq {a0 a1 a2 : Int} (h0 : in64 a0) (h1 : in64 a1) (h2 : in64 a2) : window_Of.f a0 a1 a2 = some (winsOf a0 a1 a2, winErr a0 a1 a2) := by
  unfold window_Of.f
  rw [if_pos ⟨h0, h1, h2⟩]
set_option maxHeartbeats 4000000 in
set_option maxRecDepth 100000 in
theorem window_Of.calls_in (n : Nat) (hn : 4 ≤ n) (a0 a1 a2 : Int) (ha0 : in64 a0) (ha1 : in64 a1) (ha2 : in64 a2) (w : World) :
    CallsIn Fence.wide n Try.prog 8 #[.int .i64 a0, .int .i64 a1, .int .i64 a2] w fun e w' => ∃ v0_ : Value, e = .returned (.tuple #[v0_, .int .i64 (winErr a0 a1 a2)]) ∧
      w'.ownsRow w.heap.size 2 1 v0_ (winsOf a0 a1 a2).length ((winsOf a0 a1 a2).map (Value.int .i64)) ∧ Below w.heap.size w w' := by
  have hck : ∀ w, CallsIn Fence.wide (n - 1) Try.prog 15 #[.int .i64 a0, .int .i64 a1, .int .i64 a2] w fun e w' => e = .returned (.int .i64 (winErr a0 a1 a2)) ∧ Drawn0 w w' := fun w => callsIn_wide.2 (window_check.calls 1 a0 a1 a2 _ _ (check_eq 0 a0 a1 a2 ha1 ha2))
  obtain ⟨c, hc⟩ : ∃ c, winErr a0 a1 a2 = c := ⟨_, rfl⟩
  rw [hc] at hck ⊢
  have hn1 : 1 ≤ n := by omega
  refine callsIn_of_wp Try.func8 rfl trivial ?_ rfl
  simp only [Try.ntmps8, List.size_toArray, List.length_cons, List.length_nil, Nat.reduceAdd, Nat.reduceSub, Array.replicate_succ, Array.replicate_zero, List.push_toArray, List.append_toArray, List.nil_append, List.cons_append]
  by_cases h0 : c = 0
  · subst h0
    gi_wp2_with (first
      | (gi_at_call 15; refine (hck _).mono ?_; rintro e w1 ⟨rfl, hd1⟩)
      | (gi_at_call 12; refine (All_in (n - 1) _ _ _ _).mono ?_; rintro e w2 ⟨rfl, rfl⟩)
      | (gi_at_call 16; go_loud (refine (Collect_in (n - 1) (by omega) w1.heap.size a0 a1 a2 ha0 ha1 ha2 _ (by rw [(winBoxes w1 a0 a1 a2).grew]; omega) (winBoxes w1 a0 a1 a2).c0 (winBoxes w1 a0 a1 a2).c1 (winBoxes w1 a0 a1 a2).c2).mono ?_; rintro e w3 ⟨v, rfl, hv, hb⟩; rw [(winBoxes w1 a0 a1 a2).grew] at hv hb)))
    all_goals go_ret2
    all_goals have hz1 : w1.heap.size = w.heap.size := drawn_size hd1
    all_goals exact ⟨_, rfl, own_weaken hv (by omega), (drawn_below hd1).trans ((hz1 ▸ (winBoxes w1 a0 a1 a2).below).trans (hb.mono (by omega)))⟩
  · have hwo : winsOf a0 a1 a2 = [] := by unfold winsOf; rw [if_neg (by rw [hc]; exact h0)]
    have hcb : (c != 0) = true := by simpa using h0
    rw [hwo]
    gi_wp2_with (gi_at_call 15; refine (hck _).mono ?_; rintro e w1 ⟨rfl, hd1⟩)
    all_goals go_ret2
    all_goals exact ⟨_, rfl, World.ownsRow_nil _ _ _ _, drawn_below hd1⟩
theorem window_Of.calls (a0 a1 a2 : Int) (r1 : List Int) (r2 : Int) (w : World) (h : window_Of.f a0 a1 a2 = some (r1, r2)) :
    Calls Try.prog 8 #[.int .i64 a0, .int .i64 a1, .int .i64 a2] w fun e w' => ∃ v0_ : Value, e = .returned (.tuple #[v0_, .int .i64 r2]) ∧ Kd.R (Kd.int .i64) 2 w' w.heap.size (fun _ => True) v0_ r1 ∧ Below w.heap.size w w' := by
  unfold window_Of.f at h
  split at h <;> cases h
  rename_i hi
  obtain ⟨ha0, ha1, ha2⟩ := hi
  refine (callsIn_wide.1 (window_Of.calls_in 4 (by omega) a0 a1 a2 ha0 ha1 ha2 w)).mono ?_
  rintro e w' ⟨v, rfl, hv, hb⟩
  exact ⟨v, rfl, Kd.R_of_own (by simpa [encs] using hv) (fun _ _ => trivial), hb⟩
end Go.Proofs.Ytjmladgjpielmaa.Q
