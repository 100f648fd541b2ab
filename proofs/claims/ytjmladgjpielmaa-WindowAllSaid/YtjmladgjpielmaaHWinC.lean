/- headgatelaw14.WindowAll: walked. -/
import Derived.Test.YtjmladgjpielmaaWinP
import Derived.Sort.LoopGhostIn
import Derived.RangeFuncNested
namespace Go.Proofs.Ytjmladgjpielmaa.Q
open Go.RowKit Go.Shelf Go.Proofs.YtjmladgjpielmaaW.PrintWords Go.Proofs.YtjmladgjpielmaaW.PrintLast Go.Proofs.YtjmladgjpielmaaW.PrintMore
set_option linter.unusedVariables false
set_option linter.unusedSimpArgs false
attribute [local go_sem] Oper.semAt_some wide_fn

theorem boxed_under {W W' : World} {B n : Nat} {t : TypeId} {v : Value} (h : Boxed W B t v) (hb : Below n W W') (hn : B < n) : Boxed W' B t v := (hb.block B hn).trans h
/-- The mark that a range over a function leaves among the deferred calls. -/
def mark (D : Nat) : Deferred := { target := .collected D, args := #[] }
theorem leaves_marks {F : Fence} {n : Nat} {fn : Func} {tmps : Array Value} {R : Ending → World → Prop} (b : Nat) : ∀ (Ds : List Nat) (W : World), Ds.Nodup → (∀ D ∈ Ds, b ≤ D ∧ W.heap[D]? = some (.deferred (some []))) →
    (∀ W', Below b W W' → LeavesIn F n Try.prog fn tmps R [] .returning W') → LeavesInM F n Try.prog fn tmps R (Ds.map mark) .returning W
  | [], W, _, _, h => h W (Below.refl _ _)
  | D :: Ds, W, hn, hD, h => by
    obtain ⟨h1, h2⟩ := hD D (List.mem_cons_self ..)
    have hlt : D < W.heap.size := (Array.getElem?_eq_some_iff.1 h2).1
    refine ⟨by simp, .inl ⟨_, _, rfl, run_takeDeferred h2, ?_⟩⟩
    have hb : Below b W (W.putObj D (.deferred none)) := (Below.refl b W).grown (grownBy_putObj' W D _) (by omega) (fun k e => by cases e; omega)
    refine leaves_marks b Ds _ (List.nodup_cons.1 hn).2 (fun E hE => ?_) (fun W' hW => h W' (hb.trans hW))
    obtain ⟨e1, e2⟩ := hD E (List.mem_cons_of_mem _ hE)
    refine ⟨e1, ?_⟩
    rw [World.putObj_heap_other (show E ≠ D from fun e => (List.nodup_cons.1 hn).1 (e ▸ hE))]
    exact e2

theorem own_under {W W' : World} {B e size n : Nat} {v : Value} {xs : List Value} (h : W.ownsRow B e size v n xs) (hb : Below W.heap.size W W') : W'.ownsRow B e size v n xs :=
  ⟨h.1, h.2.imp id fun ⟨g, cap, cur, e1, e2, e3, r⟩ => ⟨g, cap, cur, e1, e2, (hb.block g (Array.getElem?_eq_some_iff.1 e3).1).trans e3, r⟩⟩
theorem snoc_pre {pre ws : List Int} {x : Int} (h : pre <+: ws) (hlt : pre.length < ws.length) : pre ++ [x] <+: ws ↔ x = rdOf 0 ws (pre.length : Int) := by
  obtain ⟨t, rfl⟩ := h
  cases t with
  | nil => simp at hlt
  | cons z t =>
    have e : rdOf 0 (pre ++ z :: t) (pre.length : Int) = z := by simp [rdOf]
    rw [e, List.prefix_append_right_inj, List.cons_prefix_cons]
    simp
/-- Between two turns of the law's loop. -/
structure WaAt (w : World) (few : Int) (ws : List Int) (A : Option Addr) (cap B9 B11 i : Nat) (Ds : List Nat) (W : World) : Prop where
  b7 : Boxed W w.heap.size 5 (.int .u8 few)
  b8 : Boxed W (w.heap.size + 1) 4 (.bool false)
  b9 : Boxed W B9 23 (.slice A ws.length cap)
  b11 : Boxed W B11 3 (.int .i64 i)
  row : W.ownsRow (w.heap.size + 2) 2 1 (.slice A ws.length cap) ws.length (encs (Value.int .i64) ws)
  below : Below w.heap.size w W
  o1 : w.heap.size + 1 < B9
  o2 : B9 < B11
  ds : ∀ D ∈ Ds, w.heap.size + 2 ≤ D ∧ W.heap[D]? = some (.deferred (some []))
  nd : Ds.Nodup

theorem waAt_next {w W V : World} {few : Int} {ws : List Int} {A : Option Addr} {cap B9 B11 i D : Nat} {Ds : List Nat} (hat : WaAt w few ws A cap B9 B11 i Ds W) (hWV : Below W.heap.size W V) (hD : W.heap.size ≤ D)
    (hK : V.heap[D]? = some (.deferred (some []))) (z : Int) (hz : z = (i : Int) + 1) : WaAt w few ws A cap B9 V.heap.size (i + 1) (D :: Ds) (V.alloc (.cells #[.int .i64 z] 3)) := by
  have n7 := hat.b7.lt
  have n8 := hat.b8.lt
  have n9 := hat.b9.lt
  have hs := hWV.size
  have hb := Below.alloc (Below.refl V.heap.size V) (Nat.le_refl _) (.cells #[.int .i64 z] 3)
  refine ⟨(boxed_under hat.b7 hWV n7).alloc _, (boxed_under hat.b8 hWV n8).alloc _, (boxed_under hat.b9 hWV n9).alloc _, ?_, (own_under hat.row hWV).alloc _, (hat.below.trans (hWV.mono (by omega))).trans (hb.mono (by omega)), hat.o1, by omega, fun E hE => ?_, List.nodup_cons.2 ⟨fun hE => ?_, hat.nd⟩⟩
  · have := Boxed.new V 3 (.int .i64 z)
    rw [hz] at this ⊢
    exact this
  · rcases List.mem_cons.1 hE with rfl | hE
    · exact ⟨by omega, (hb.block _ (Array.getElem?_eq_some_iff.1 hK).1).trans hK⟩
    · obtain ⟨e1, e2⟩ := hat.ds E hE
      have hl : E < W.heap.size := (Array.getElem?_eq_some_iff.1 e2).1
      exact ⟨e1, (hb.block _ (by omega)).trans ((hWV.block _ hl).trans e2)⟩
  · obtain ⟨e1, e2⟩ := hat.ds D hE
    have hl : D < W.heap.size := (Array.getElem?_eq_some_iff.1 e2).1
    omega

set_option maxHeartbeats 4000000 in
set_option maxRecDepth 100000 in
theorem WindowAll_in (t size slide few : Int) (ht : in64 t) (hs : in64 size) (hl : in64 slide) (hf : 0 ≤ few ∧ few ≤ 255) (w : World) :
    CallsIn Fence.wide 9 Try.prog 4 #[.int .i64 t, .int .i64 size, .int .i64 slide, .int .u8 few] w fun e w' => e = .returned (.bool true) ∧ Below w.heap.size w w' := by
  have hal : ∀ w, CallsIn Fence.wide (9 - 1) Try.prog 7 #[] w fun e w' => e = .returned (.bool true) ∧ Below w.heap.size w w' := fun w => callsIn_wide.2 (headgatelaw14_alive.calls true w alive_eq)
  obtain ⟨k, hk⟩ := (refOf_eq t size slide ht hs hl).rounds
  have hof : ∀ w, CallsIn Fence.wide (9 - 1) Try.prog 9 #[.int .i64 t, .int .i64 size, .int .i64 slide] w fun e w' => ∃ A cap, e = .returned (.tuple #[.slice A (winsOf t size slide).length cap, .int .i64 (winErr t size slide)]) ∧
      w'.ownsRow w.heap.size 2 1 (.slice A (winsOf t size slide).length cap) (winsOf t size slide).length (encs (Value.int .i64) (winsOf t size slide)) ∧ Below w.heap.size w w' := by
    intro w
    refine callsIn_wide.2 ((headgateref14_Of.calls k t size slide _ _ w hk).mono ?_)
    rintro e w' ⟨v, rfl, hv, hb⟩
    have ho := Kd.own_of_R hv
    rcases ho.2 with ⟨rfl, h0⟩ | ⟨g, cap, cur, rfl, _⟩
    · exact ⟨none, 0, by rw [h0], by rw [h0] at ho ⊢; exact ho, hb⟩
    · exact ⟨_, cap, rfl, ho, hb⟩
  clear hk
  have hlen := winsOf_length t size slide
  have hst : ∀ (n : Nat) (hn : 1 ≤ n) (B : Nat) (w : World) (hw : B + 2 < w.heap.size) (Kp : World → World → Prop) (hKp : ∀ {A C : World}, Kp A C → C.cell? ⟨B + 2, 0, none⟩ = A.cell? ⟨B + 2, 0, none⟩)
    (h1 : w.cell? ⟨B, 0, none⟩ = some (.int .i64 t)) (h2 : w.cell? ⟨B + 1, 0, none⟩ = some (.int .i64 size)) (h3 : w.cell? ⟨B + 2, 0, none⟩ = some (.int .i64 slide)),
    SeqStopsK Fence.wide n Try.prog 18 #[.pointer (some ⟨B, 0, none⟩), .pointer (some ⟨B + 1, 0, none⟩), .pointer (some ⟨B + 2, 0, none⟩)] (fun x : Int => #[Value.int .i64 x]) Kp (fun ys => ys = winsOf t size slide) (fun pre => pre <+: winsOf t size slide) (winsOf t size slide).length w :=
    fun n hn B w hw Kp hKp h1 h2 h3 => all1_stops n hn B t size slide ht hs hl w hw Kp hKp h1 h2 h3
  obtain ⟨ws, hws⟩ : ∃ ws, winsOf t size slide = ws := ⟨_, rfl⟩
  obtain ⟨c, hc⟩ : ∃ c, winErr t size slide = c := ⟨_, rfl⟩
  rw [hws] at hof hlen hst
  rw [hc] at hof
  have hn1 : 1 ≤ 9 := by omega
  refine callsIn_of_wp_marks Try.func4 rfl trivial ?_ rfl
  simp only [Try.ntmps4, List.size_toArray, List.length_cons, List.length_nil, Nat.reduceAdd, Nat.reduceSub, Array.replicate_succ, Array.replicate_zero, List.push_toArray, List.append_toArray, List.nil_append, List.cons_append]
  gi_wp2_with (first
    | (gi_at_call 7; refine (hal _).mono ?_; rintro e w1 ⟨rfl, hb1⟩)
    | (gi_at_call 9; refine (hof _).mono ?_; rintro e w2 ⟨A, cap, rfl, hv, hb2⟩))
  have hW0 : WaAt w few ws A cap w2.heap.size (w2.heap.size + 1) 0 [] ((w2.alloc (.cells #[.slice A ws.length cap] 23)).alloc (.cells #[.int .i64 0] 3)) := by
    have q1 := (Boxed.new w 5 (.int .u8 few)).alloc (.cells #[.bool false] 4)
    have q2 := Boxed.new (w.alloc (.cells #[.int .u8 few] 5)) 4 (.bool false)
    have q3 := Boxed.new w2 23 (.slice A ws.length cap)
    have q4 := Boxed.new (w2.alloc (.cells #[.slice A ws.length cap] 23)) 3 (.int .i64 0)
    simp only [World.size_alloc] at q2 q4 hb1 hb2
    have s1 := hb1.size
    have s2 := hb2.size
    simp only [World.size_alloc] at s1
    refine ⟨(((boxed_under (boxed_under q1 hb1 (by omega)) hb2 (by omega)).alloc _).alloc _), (((boxed_under (boxed_under q2 hb1 (by omega)) hb2 (by omega)).alloc _).alloc _), q3.alloc _, q4, own_weaken ((hv.alloc _).alloc _) (by omega), ?_, by omega, by omega, by simp, by simp⟩
    refine ((Below.trans ?_ (hb1.mono (by omega))).trans (hb2.mono (by omega))).trans ((((Below.refl _ w2).alloc (by omega) _).alloc (by simp; omega) _))
    exact ((Below.refl _ w).alloc (Nat.le_refl _) _).alloc (by simp) _
  refine wpIn_loop_ghost (fun n a W => ∃ (i B9 B11 : Nat) (Ds : List Nat) (g12 g23 g24 g25 g26 g27 g28 g29 g30 g54 g55 g56 g57 g58 g59 g60 g61 g62 : Value), n = 2 - i ∧ i ≤ 2 ∧ a = { tmps := #[.int .i64 t, .int .i64 size, .int .i64 slide, .int .u8 few, undef, undef, undef, .pointer (some ⟨w.heap.size, 0, none⟩), .pointer (some ⟨w.heap.size + 1, 0, none⟩), .pointer (some ⟨B9, 0, none⟩), .int .i64 c, .pointer (some ⟨B11, 0, none⟩), g12, undef, .bool true, .bool false, .tuple #[.slice A ws.length cap, .int .i64 c], .int .i64 t, .int .i64 size, .int .i64 slide, .tuple #[.slice A ws.length cap, .int .i64 c], .slice A ws.length cap, .int .i64 c, g23, g24, g25, g26, g27, g28, g29, g30, undef, undef, undef, undef, undef, undef, undef, undef, undef, undef, undef, undef, undef, undef, undef, undef, undef, undef, undef, undef, undef, undef, undef, g54, g55, g56, g57, g58, g59, g60, g61, g62], defers := Ds.map mark } ∧ WaAt w few ws A cap B9 B11 i Ds W) 2
    ⟨0, _, _, [], _, _, _, _, _, _, _, _, _, _, _, _, _, _, _, _, _, _, rfl, by omega, rfl, hW0⟩ ?_
  rintro n a W ⟨i, B9, B11, Ds, g12, g23, g24, g25, g26, g27, g28, g29, g30, g54, g55, g56, g57, g58, g59, g60, g61, g62, rfl, hi, rfl, hat⟩
  have hc7 := hat.b7.cell
  have hc8 := hat.b8.cell
  have hf8 := hat.b8.frozen
  have hc9 := hat.b9.cell
  have hc11 := hat.b11.cell
  have hf11 := hat.b11.frozen
  have n7 := hat.b7.lt
  have n8 := hat.b8.lt
  have n9 := hat.b9.lt
  have n11 := hat.b11.lt
  by_cases hi2 : i < 2
  · gi_wp2_with (gi_at_call 12; refine (All_in (9 - 1) _ _ _ _).mono ?_; rintro e w3 ⟨rfl, rfl⟩)
    have hbx := winBoxes (W.alloc (.cells #[.int .i64 0] 3)) t size slide
    have f12 : Boxed ((((W.alloc (.cells #[.int .i64 0] 3)).alloc (.cells #[.int .i64 t] 2)).alloc (.cells #[.int .i64 size] 2)).alloc (.cells #[.int .i64 slide] 2)) W.heap.size 3 (.int .i64 0) := (((Boxed.new W 3 (.int .i64 0)).alloc _).alloc _).alloc _
    have f1 : Below W.heap.size W ((((W.alloc (.cells #[.int .i64 0] 3)).alloc (.cells #[.int .i64 t] 2)).alloc (.cells #[.int .i64 size] 2)).alloc (.cells #[.int .i64 slide] 2)) :=
      ((Below.refl _ W).alloc (Nat.le_refl _) _).trans (hbx.below.mono (by simp))
    have g0 : ((((W.alloc (.cells #[.int .i64 0] 3)).alloc (.cells #[.int .i64 t] 2)).alloc (.cells #[.int .i64 size] 2)).alloc (.cells #[.int .i64 slide] 2)).heap.size = W.heap.size + 4 := by simp
    have g1 := hbx.c0
    have g2 := hbx.c1
    have g3 := hbx.c2
    clear hbx
    simp only [World.size_alloc] at g1 g2 g3
    generalize ((((W.alloc (.cells #[.int .i64 0] 3)).alloc (.cells #[.int .i64 t] 2)).alloc (.cells #[.int .i64 size] 2)).alloc (.cells #[.int .i64 slide] 2)) = W3 at *
    have hat3 : ∀ V, Below W.heap.size W3 V → Boxed V w.heap.size 5 (.int .u8 few) ∧ Boxed V (w.heap.size + 1) 4 (.bool false) ∧ Boxed V B9 23 (.slice A ws.length cap) ∧ Boxed V B11 3 (.int .i64 i) ∧
        V.ownsRow (w.heap.size + 2) 2 1 (.slice A ws.length cap) ws.length (encs (Value.int .i64) ws) := by
      intro V hV
      have hWV := f1.trans hV
      exact ⟨boxed_under hat.b7 hWV n7, boxed_under hat.b8 hWV n8, boxed_under hat.b9 hWV n9, boxed_under hat.b11 hWV n11, own_under hat.row hWV⟩
    refine wpIn_rangeFunc_ownG rfl hn1 (gf := 18) (lb := #[.pointer (some ⟨W.heap.size + 1, 0, none⟩), .pointer (some ⟨W.heap.size + 2, 0, none⟩), .pointer (some ⟨W.heap.size + 3, 0, none⟩)]) rfl trivial (enters_of Try.func18 (by kernel_rfl) rfl)
      (hst (9 - 1) (by omega) (W.heap.size + 1) W3 (by omega) (fun X Y => Y.cell? ⟨W.heap.size + 1 + 2, 0, none⟩ = X.cell? ⟨W.heap.size + 1 + 2, 0, none⟩) (fun h => h) g1 g2 g3)
      (fun h k => k.trans h) (fun X l o o' hl h _ _ => World.cell?_of_block (World.putObj_heap_other (by show W.heap.size + 1 + 2 ≠ l; omega))) (Below.refl _ _) (fun _ => rfl)
      (fun (pre : List Int) V => (Boxed V W.heap.size 3 (.int .i64 pre.length) ∧ Below W.heap.size W3 V) ∧ (pre <+: ws ∧ (i = 0 → (pre.length : Int) ≤ few)))
      (fun c pre V => (c = .ret ∧ ¬ pre <+: ws) ∨ (c = .exit 2 ∧ i = 0 ∧ (Boxed V W.heap.size 3 (.int .i64 pre.length) ∧ Below W.heap.size W3 V)))
      (OwnFrom.and (OwnFrom.and (Own.from (boxed_own W.heap.size 3 (fun pre : List Int => .int .i64 pre.length)) _) (ownFrom_below (by omega) (by omega))) (fun _ _ _ _ h _ _ => h))
      (fun c s X Y row h hg hr => h.elim .inl (fun ⟨e1, e2, e3⟩ => .inr ⟨e1, e2, OwnFrom.and (Own.from (boxed_own W.heap.size 3 (fun pre : List Int => .int .i64 pre.length)) _) (ownFrom_below (by omega) (by omega)) s X Y row e3 hg hr⟩))
      ⟨⟨f12, Below.refl _ _⟩, List.nil_prefix, fun _ => by simp; omega⟩
      (fun x => { tmps := #[.int .i64 t, .int .i64 size, .int .i64 slide, .int .u8 few, undef, undef, undef, .pointer (some ⟨w.heap.size, 0, none⟩), .pointer (some ⟨w.heap.size + 1, 0, none⟩), .pointer (some ⟨B9, 0, none⟩), .int .i64 c, .pointer (some ⟨B11, 0, none⟩), .pointer (some ⟨W.heap.size, 0, none⟩), .int .i64 x, .bool true, .bool false, .tuple #[.slice A ws.length cap, .int .i64 c], .int .i64 t, .int .i64 size, .int .i64 slide, .tuple #[.slice A ws.length cap, .int .i64 c], .slice A ws.length cap, .int .i64 c, .int .i64 i, .bool true, g25, g26, .int .i64 t, .int .i64 size, .int .i64 slide, .func (.func 18) #[] #[.pointer (some ⟨W.heap.size + 1, 0, none⟩), .pointer (some ⟨W.heap.size + 2, 0, none⟩), .pointer (some ⟨W.heap.size + 3, 0, none⟩)], .int .i64 x, undef, undef, undef, undef, undef, undef, undef, undef, undef, undef, undef, undef, undef, undef, undef, undef, undef, undef, undef, undef, undef, undef, g54, g55, g56, g57, g58, g59, g60, g61, g62], defers := [] }) ?assign ?body ?done ?stop
    case assign =>
      intro l x V K hK
      gi_wp2
      exact hK
    case body =>
      rintro l pre x V ⟨⟨hb, hBl⟩, hpre, hfew⟩ hlt
      obtain ⟨m7, m8, m9, m11, mrow⟩ := hat3 V hBl
      have k7 := m7.cell
      have k8 := m8.cell
      have l8 := m8.frozen
      have k9 := m9.cell
      have k11 := m11.cell
      have k12 := hb.cell
      have l12 := hb.frozen
      obtain ⟨g, rfl⟩ : ∃ g, A = some ⟨g, 0, none⟩ := by
        rcases mrow.2 with ⟨e1, e2⟩ | ⟨g, cap', cur, e1, _⟩
        · omega
        · exact ⟨g, by cases e1; rfl⟩
      have krd := (own_at_of (d := 0) mrow (pre.length : Int) (by omega) (by omega)).1
      obtain ⟨y, hy⟩ : ∃ y, rdOf 0 ws (pre.length : Int) = y := ⟨_, rfl⟩
      rw [hy] at krd
      simp only [Int.toNat_natCast] at krd
      have s7 := (Boxed.other m7 (show w.heap.size ≠ W.heap.size by omega) (.int .i64 ((pre.length : Int) + 1))).cell
      have s11 := (Boxed.other m11 (show B11 ≠ W.heap.size by omega) (.int .i64 ((pre.length : Int) + 1))).cell
      have s12b := hb.set (.int .i64 ((pre.length : Int) + 1))
      have s12 := s12b.cell
      have hsn := snoc_pre (x := x) hpre hlt
      rw [hy] at hsn
      have hkf : ∀ u, KeepsFrom W3.heap.size V (V.setCell ⟨W.heap.size, 0, none⟩ u) := fun u => KeepsFrom.of_grownBy (grownBy_setCell' _ _ _) (fun j e => by cases e; omega)
      have hkf8 : ∀ u, KeepsFrom W3.heap.size V (V.setCell ⟨w.heap.size + 1, 0, none⟩ u) := fun u => KeepsFrom.of_grownBy (grownBy_setCell' _ _ _) (fun j e => by cases e; omega)
      have hbl : ∀ u, Below W.heap.size W3 (V.setCell ⟨W.heap.size, 0, none⟩ u) := fun u => hBl.trans ((Below.refl _ V).grown (grownBy_setCell' _ _ _) (Nat.le_of_lt hb.lt) (fun k e => by cases e; exact Nat.le_refl _))
      have hkp : ∀ u, (V.setCell ⟨W.heap.size, 0, none⟩ u).cell? ⟨W.heap.size + 1 + 2, 0, none⟩ = V.cell? ⟨W.heap.size + 1 + 2, 0, none⟩ := fun u => World.cell?_of_block (Below.heap_setCell _ _ _ _ (by show W.heap.size + 1 + 2 ≠ W.heap.size; omega))
      by_cases hxy : x = y
      · have hxb : (x != y) = false := by simp [hxy]
        gi_wp2
        all_goals first
          | (exfalso; rename_i hh; rcases hh with hh | hh; omega; simp [hxb] at hh; done)
          | exact ⟨hkf _, .inr ⟨rfl, by omega, by simpa using s12b, hbl _⟩⟩
          | exact ⟨hkf _, hkp _, ⟨by simpa using s12b, hbl _⟩, hsn.2 hxy, fun _ => by simp; omega⟩
      · have hxb : (x != y) = true := by simp [hxy]
        gi_wp2
        all_goals first
          | exact ⟨hkf8 _, .inl ⟨rfl, fun z => hxy (hsn.1 z)⟩⟩
    case done =>
      rintro D ys V hD rfl ⟨⟨hb, hBl⟩, hpre, hfew⟩ hK
      obtain ⟨m7, m8, m9, m11, mrow⟩ := hat3 V hBl
      have k9 := m9.cell
      have k11 := m11.cell
      have k12 := hb.cell
      gi_wp2
      all_goals refine ⟨2 - (i + 1), by omega, i + 1, B9, V.heap.size, D :: Ds, _, _, _, _, _, _, _, _, _, _, _, _, _, _, _, _, _, _, rfl, by omega, rfl, ?_⟩
      all_goals exact waAt_next hat (f1.trans hBl) (by omega) hK _ (by omega)
    case stop =>
      rintro D c pre V hD hpre (⟨rfl, hno⟩ | ⟨rfl, hi0, hb, hBl⟩) hK
      · exact absurd hpre hno
      obtain ⟨m7, m8, m9, m11, mrow⟩ := hat3 V hBl
      have k9 := m9.cell
      have k11 := m11.cell
      have k12 := hb.cell
      gi_wp2
      all_goals refine ⟨2 - (i + 1), by omega, i + 1, B9, V.heap.size, D :: Ds, _, _, _, _, _, _, _, _, _, _, _, _, _, _, _, _, _, _, rfl, by omega, rfl, ?_⟩
      all_goals exact waAt_next hat (f1.trans hBl) (by omega) hK _ (by omega)
  · obtain rfl : i = 2 := by omega
    gi_wp2
    refine leaves_marks (w.heap.size + 2) Ds _ hat.nd (fun D hD => ?_) (fun W' hW' => ?_)
    · obtain ⟨d1, d2⟩ := hat.ds D hD
      exact ⟨d1, (Below.heap_setCell _ _ _ _ (by show D ≠ w.heap.size + 1; omega)).trans d2⟩
    · have hz := (hat.b8.set (.bool true))
      have hz' := (boxed_under hz hW' (by omega)).cell
      refine ⟨.bool true, ?_, rfl, ?_⟩
      · simp [results, go_sem, hz']
      · exact (hat.below.trans ((Below.refl _ W).grown (grownBy_setCell' _ _ _) (by omega) (fun k e => by cases e; omega))).trans (hW'.mono (by omega))

/-- The law's function, as far as it is walked: true at every argument that its types hold. -/
def headgatelaw14_WindowAll.f (k : Nat) (a0 a1 a2 a3 : Int) : Option Bool := if in64 a0 ∧ in64 a1 ∧ in64 a2 ∧ 0 ≤ a3 ∧ a3 ≤ 255 then some true else none
theorem headgatelaw14_WindowAll.calls (k : Nat) (a0 a1 a2 a3 : Int) (r : Bool) (w : World) (h : headgatelaw14_WindowAll.f k a0 a1 a2 a3 = some r) :
    Calls Try.prog 4 #[.int .i64 a0, .int .i64 a1, .int .i64 a2, .int .u8 a3] w fun e w' => e = .returned (.bool r) ∧ Below w.heap.size w w' := by
  unfold headgatelaw14_WindowAll.f at h
  split at h <;> cases h
  rename_i hi
  obtain ⟨h0, h1, h2, h3⟩ := hi
  exact callsIn_wide.1 (WindowAll_in a0 a1 a2 a3 h0 h1 h2 h3 w)
theorem wfu8 {x : Int} (h : (Lit.int .u8 x).wf = true) : 0 ≤ x ∧ x ≤ 255 := by
  have hmin : IntKind.u8.min = 0 := rfl
  have hmax : IntKind.u8.max = 255 := rfl
  simp only [Lit.wf, Bool.and_eq_true, decide_eq_true_eq] at h
  omega
theorem WindowAll_pure (a0 a1 a2 a3 : Int) (w0 : (Lit.int .i64 a0).wf = true) (w1 : (Lit.int .i64 a1).wf = true) (w2 : (Lit.int .i64 a2).wf = true) (w3 : (Lit.int .u8 a3).wf = true) : ∃ k, headgatelaw14_WindowAll.f k a0 a1 a2 a3 = some true :=
  ⟨0, if_pos ⟨wf64 w0, wf64 w1, wf64 w2, wfu8 w3⟩⟩
end Go.Proofs.Ytjmladgjpielmaa.Q
