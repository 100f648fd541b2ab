/- The law ValueAll: walked. -/
import Derived.Test.YtindffllmlifiaaDoorZValueAll13
import Derived.Test.YtindffllmlifiaaDoorZValueAll12
import Derived.Test.YtindffllmlifiaaDoorZValueAll17
import Derived.Test.YtindffllmlifiaaDoorZValueAll2
import Derived.Sort.LoopGhostIn
import Derived.RangeFuncNested
namespace Go.Proofs.YtindffllmlifiaaDoor.Q
open Go.RowKit Go.Shelf Go.Proofs.YtindffllmlifiaaDoorW.PrintWords Go.Proofs.YtindffllmlifiaaDoorW.PrintLast Go.Proofs.YtindffllmlifiaaDoorW.PrintMore
set_option linter.unusedVariables false
set_option linter.unusedSimpArgs false
attribute [local go_sem] Oper.semAt_some wide_fn
theorem boxed_under {W W' : World} {B n : Nat} {t : TypeId} {v : Value} (h : Boxed W B t v) (hb : Below n W W') (hn : B < n) : Boxed W' B t v := (hb.block B hn).trans h
theorem boxed_drawn {W W' : World} {B : Nat} {t : TypeId} {v : Value} (h : Boxed W B t v) (hb : Drawn0 W W') : Boxed W' B t v := boxed_under h hb.below h.lt
/-- The mark that a range over a function leaves among the deferred calls. -/
def mark (D : Nat) : Deferred := { target := .collected D, args := #[] }
theorem leaves_marks {F : Fence} {n : Nat} {fn : Func} {tmps : Array Value} {R : Ending → World → Prop} (b : Nat) : ∀ (Ds : List Nat) (W : World), Ds.Nodup → (∀ D ∈ Ds, b ≤ D ∧ W.heap[D]? = some (.deferred (some []))) →
    (∀ W', Below b W W' → LeavesIn F n Tryd.prog fn tmps R [] .returning W') → LeavesInM F n Tryd.prog fn tmps R (Ds.map mark) .returning W
  | [], W, _, _, h => h W (Below.refl _ _)
  | D :: Ds, W, hn, hD, h => by
    obtain ⟨h1, h2⟩ := hD D (List.mem_cons_self ..)
    have hlt : D < W.heap.size := (Array.getElem?_eq_some_iff.1 h2).1
    refine ⟨by simp, .inl ⟨_, _, rfl, run_takeDeferred h2, ?_⟩⟩
    have hb : Below b W (W.putObj D (.deferred none)) := (Below.refl b W).grown (grownBy_putObj' W D _) (by omega) (fun k e => by cases e; omega)
    refine leaves_marks b Ds _ (List.nodup_cons.1 hn).2 (fun E hE => ?_) (fun W' hW => h W' (hb.trans hW))
    obtain ⟨e1, e2⟩ := hD E (List.mem_cons_of_mem _ hE)
    refine ⟨e1, ?_⟩
    rw [World.putObj_heap_other (show E ≠ D from fun e => (List.nodup_cons.1 hn).1 (e ▸ hE))]
    exact e2
/-- From W to W': nothing but what lies between lo and hi has changed. -/
structure Stn (lo hi : Nat) (W W' : World) : Prop where
  os : W'.os = W.os
  tape : W'.tape = W.tape
  output : W'.output = W.output
  size : W'.heap.size = W.heap.size
  block : ∀ k, (k < lo ∨ hi ≤ k) → W'.heap[k]? = W.heap[k]?
theorem Stn.refl (lo hi : Nat) (W : World) : Stn lo hi W W := ⟨rfl, rfl, rfl, rfl, fun _ _ => rfl⟩
theorem Stn.grown {lo hi g : Nat} {X W W' : World} (h : Stn lo hi X W) (hg : W.grownBy W' (some g)) (hs : W'.heap.size = W.heap.size) (h1 : lo ≤ g) (h2 : g < hi) : Stn lo hi X W' :=
  ⟨hg.os.trans h.os, hg.tape.trans h.tape, hg.output.trans h.output, hs.trans h.size, fun k hk => by
    rcases Nat.lt_or_ge k W.heap.size with hl | hl
    · exact (hg.block k hl (fun e => by cases e; omega)).trans (h.block k hk)
    · have e1 : W'.heap[k]? = none := by rw [Array.getElem?_eq_none_iff]; omega
      have e2 : W.heap[k]? = none := by rw [Array.getElem?_eq_none_iff]; omega
      rw [e1, ← h.block k hk, e2]⟩
theorem Stn.below {lo hi : Nat} {W W' : World} (h : Stn lo hi W W') : Below lo W W' := ⟨h.os, h.tape, h.output, by rw [h.size]; exact Nat.le_refl _, fun k hk => h.block k (.inl hk)⟩
theorem snoc_all {l : List Va} {pre : List (Nat × Va)} {x : Nat × Va} (h : pre <+: allOf l) (hlt : pre.length < l.length) : pre ++ [x] <+: allOf l ↔ x = (pre.length, rd_T23 l (pre.length : Int)) := by
  obtain ⟨t, ht⟩ := h
  have hl := allOf_length l
  cases t with
  | nil => rw [← ht] at hl; simp at hl; omega
  | cons z t =>
    have e : (allOf l)[pre.length]? = some z := by rw [← ht]; simp
    have e2 : (allOf l)[pre.length]? = some (pre.length, rd_T23 l (pre.length : Int)) := by
      rw [List.getElem?_eq_getElem (by omega)]
      simp [allOf]
    rw [e] at e2
    have e3 := Option.some.inj e2
    rw [← e3, ← ht, List.prefix_append_right_inj, List.cons_prefix_cons]
    simp
/-- Between two turns of the law's loop. -/
structure VaAt (wr : World) (B8 i : Nat) (Ds : List Nat) (W : World) : Prop where
  bel : Below wr.heap.size wr W
  b8 : Boxed W B8 3 (.int .i64 i)
  o4 : wr.heap.size ≤ B8
  ds : ∀ D ∈ Ds, wr.heap.size ≤ D ∧ W.heap[D]? = some (.deferred (some []))
  nd : Ds.Nodup
theorem vaAt_next {wr W V : World} {B8 i D : Nat} {Ds : List Nat} (hat : VaAt wr B8 i Ds W) (hWV : Below W.heap.size W V) (hD : W.heap.size ≤ D)
    (hK : V.heap[D]? = some (.deferred (some []))) (z : Int) (hz : z = (i : Int) + 1) : VaAt wr V.heap.size (i + 1) (D :: Ds) (V.alloc (.cells #[.int .i64 z] 3)) := by
  have n8 := hat.b8.lt
  have hs := hWV.size
  have hs0 := hat.bel.size
  have hb := Below.alloc (Below.refl V.heap.size V) (Nat.le_refl _) (.cells #[.int .i64 z] 3)
  refine ⟨(hat.bel.trans (hWV.mono (by omega))).trans (hb.mono (by omega)), ?_, by omega, fun E hE => ?_, List.nodup_cons.2 ⟨fun hE => ?_, hat.nd⟩⟩
  · have := Boxed.new V 3 (.int .i64 z)
    rw [hz] at this ⊢
    exact this
  · rcases List.mem_cons.1 hE with rfl | hE
    · exact ⟨by omega, (hb.block _ (Array.getElem?_eq_some_iff.1 hK).1).trans hK⟩
    · obtain ⟨e1, e2⟩ := hat.ds E hE
      have hl : E < W.heap.size := (Array.getElem?_eq_some_iff.1 e2).1
      exact ⟨e1, (hb.block _ (by omega)).trans ((hWV.block _ hl).trans e2)⟩
  · obtain ⟨e1, e2⟩ := hat.ds D hE
    have hl : D < W.heap.size := (Array.getElem?_eq_some_iff.1 e2).1
    omega
theorem copy_loop (l : List Va) (hl : l.length ≤ 4398046511102) : ∀ (d i : Nat), i + d = l.length → Ev (fun k => headgateref03_Copy.l0 k l (l.take i) (i : Int)) l
  | 0, i, h => by
    rw [List.take_of_length_le (by omega)]
    exact Ev.step (f := fun _ => some l) (fun k => by simp only [headgateref03_Copy.l0]; rw [if_neg (by omega)]) (Ev.now _)
  | d + 1, i, h => by
    have e4 : wrap64 ((i : Int) + 1) = ((i + 1 : Nat) : Int) := by rw [wrap_in (by unfold in64; omega)]; omega
    have hd := rdV_drop l (i : Int) (by omega) (by omega)
    rw [Int.toNat_natCast, show ((i : Int) + 1).toNat = i + 1 by omega] at hd
    have htk : l.take (i + 1) = l.take i ++ [rd_T23 l (i : Int)] := by
      rw [List.take_succ_eq_append_getElem (by omega)]
      congr 2
      have := congrArg List.head? hd
      rw [List.head?_drop, List.getElem?_eq_getElem (by omega)] at this
      exact Option.some.inj this
    refine Ev.step (f := fun k => headgateref03_Copy.l0 k l (l.take (i + 1)) ((i + 1 : Nat) : Int)) (fun k => ?_) (copy_loop l hl d (i + 1) (by omega))
    simp only [headgateref03_Copy.l0]
    rw [if_pos (by omega), if_pos (by omega), if_pos (by rw [List.length_take]; omega), e4, htk]
theorem copy_ev (l : List Va) (hl : l.length ≤ 4398046511102) : Ev (fun k => headgateref03_Copy.f k l) l := by
  have := copy_loop l hl l.length 0 (by omega)
  exact this
set_option maxHeartbeats 4000000 in
set_option maxRecDepth 100000 in
theorem ValueAll_in (A : Option Addr) (c : Nat) (l : List Va) (stop : Int) (hlen : l.length ≤ 4398046511102) (hs : 0 ≤ stop ∧ stop ≤ 255) (w : World) (hC : Kd.C k23 w A l.length l) (hc : l.length ≤ c) :
    CallsIn Fence.wide 9 Tryd.prog 5 #[.slice A l.length c, .int .u8 stop] w fun e w' => e = .returned (.bool true) ∧ Below w.heap.size w w' := by
  have hal : ∀ w, CallsIn Fence.wide (9 - 1) Tryd.prog 10 #[] w fun e w' => e = .returned (.bool true) ∧ Below w.heap.size w w' := fun w => callsIn_wide.2 (headgatelaw03_alive.calls 30 true w alive03)
  obtain ⟨b, hbv⟩ := Big_ev l
  obtain ⟨K1, hK1⟩ := hbv.rounds
  obtain ⟨K2, hK2⟩ := (copy_ev l hlen).rounds
  have hbig : ∀ W, Below w.heap.size w W → CallsIn Fence.wide (9 - 1) Tryd.prog 15 #[.slice A l.length c] W fun e w' => e = .returned (.bool b) ∧ Drawn0 W w' :=
    fun W hW => callsIn_wide.2 (headgateref03_Big.calls K1 A c l b W (Kd.C_below hC hW) hc hK1)
  have hcopy : ∀ W, Below w.heap.size w W → CallsIn Fence.wide (9 - 1) Tryd.prog 21 #[.slice A l.length c] W fun e w' => ∃ v0_ : Value, e = .returned (v0_) ∧ Kd.R k23 23 w' W.heap.size (fun _ => True) v0_ l ∧ Below W.heap.size W w' :=
    fun W hW => callsIn_wide.2 (headgateref03_Copy.calls K2 A c l l W (Kd.C_below hC hW) hc hK2)
  have hn1 : 1 ≤ 9 := by omega
  have ht1 : Below w.heap.size w (((w.alloc (.cells #[.slice A l.length c] 24)).alloc (.cells #[.int .u8 stop] 5)).alloc (.cells #[.bool false] 4)) := by
    repeat (first | exact Below.refl _ _ | apply below_alloc)
  have q1 := ((Boxed.new w 24 (.slice A l.length c)).alloc (.cells #[.int .u8 stop] 5)).alloc (.cells #[.bool false] 4)
  have q2 := (Boxed.new (w.alloc (.cells #[.slice A l.length c] 24)) 5 (.int .u8 stop)).alloc (.cells #[.bool false] 4)
  have q3 := Boxed.new ((w.alloc (.cells #[.slice A l.length c] 24)).alloc (.cells #[.int .u8 stop] 5)) 4 (.bool false)
  simp only [World.size_alloc] at q2 q3
  refine callsIn_of_wp_marks Tryd.func5 rfl trivial ?_ rfl
  simp only [Tryd.ntmps5, List.size_toArray, List.length_cons, List.length_nil, Nat.reduceAdd, Nat.reduceSub, Array.replicate_succ, Array.replicate_zero, List.push_toArray, List.append_toArray, List.nil_append, List.cons_append]
  obtain ⟨w0, hw0⟩ : ∃ w0, (((w.alloc (.cells #[.slice A l.length c] 24)).alloc (.cells #[.int .u8 stop] 5)).alloc (.cells #[.bool false] 4)) = w0 := ⟨_, rfl⟩
  rw [hw0] at ht1 q1 q2 q3
  have z0 := q3.lt
  have hend : ∀ (tmps : Array Value) (V : World) (Ds : List Nat), tmps[4]? = some (.pointer (some ⟨w.heap.size + 1 + 1, 0, none⟩)) → Boxed V (w.heap.size + 1 + 1) 4 (.bool true) → Below w.heap.size w V → Ds.Nodup → (∀ D ∈ Ds, w0.heap.size ≤ D ∧ V.heap[D]? = some (.deferred (some []))) →
      LeavesInM Fence.wide 9 Tryd.prog Tryd.f5 tmps (fun e w' => e = Ending.returned (Value.bool true) ∧ Below w.heap.size w w') (Ds.map mark) .returning V := by
    intro tmps V Ds ht hbx hB hnd hds
    refine leaves_marks w0.heap.size Ds _ hnd hds (fun W' hW' => ?_)
    have hz := (boxed_under hbx hW' (by omega)).cell
    refine ⟨.bool true, ?_, rfl, hB.trans (hW'.mono (by omega))⟩
    simp [results, go_sem, hz, ht]
  cases b with
  | true =>
    gi_wp2_with (first
      | (gi_at_call 10; refine (hal _).mono ?_; rintro e w1 ⟨rfl, hb1⟩; (try rw [hw0] at hb1); have p1 := boxed_under q1 hb1 (by omega); have p2 := boxed_under q2 hb1 (by omega); have p3 := boxed_under q3 hb1 (by omega); have x1 := p1.cell; have x3 := p3.cell; have y3 := p3.frozen)
      | (gi_at_call 15; refine (hbig _ (ht1.trans (hb1.mono (by omega)))).mono ?_; rintro e w2 ⟨rfl, hb2⟩; have r1 := boxed_drawn p1 hb2; have r2 := boxed_drawn p2 hb2; have r3 := boxed_drawn p3 hb2; have x1' := r1.cell; have x3' := r3.cell; have y3' := r3.frozen; clear x1 x3 y3))
    refine hend _ _ [] rfl (r3.set (.bool true)) (((ht1.trans (hb1.mono (by omega))).trans (hb2.below.mono (by have := hb1.size; omega))).trans ((Below.refl _ _).grown (grownBy_setCell' _ _ _) (by have := hb1.size; have := hb2.below.size; omega) (fun k e => by cases e; omega))) List.nodup_nil (fun D hD => by cases hD)
  | false =>
    gi_wp2_with (first
      | (gi_at_call 10; refine (hal _).mono ?_; rintro e w1 ⟨rfl, hb1⟩; (try rw [hw0] at hb1); have p1 := boxed_under q1 hb1 (by omega); have p2 := boxed_under q2 hb1 (by omega); have p3 := boxed_under q3 hb1 (by omega); have x1 := p1.cell; have x3 := p3.cell; have y3 := p3.frozen)
      | (gi_at_call 15; refine (hbig _ (ht1.trans (hb1.mono (by omega)))).mono ?_; rintro e w2 ⟨rfl, hb2⟩; have r1 := boxed_drawn p1 hb2; have r2 := boxed_drawn p2 hb2; have r3 := boxed_drawn p3 hb2; have x1' := r1.cell; have x3' := r3.cell; have y3' := r3.frozen; clear x1 x3 y3)
      | (gi_at_call 21; refine (hcopy _ ((ht1.trans (hb1.mono (by omega))).trans (hb2.below.mono (by have := hb1.size; omega)))).mono ?_; rintro e w3 ⟨v3, rfl, hr3, hb3⟩; obtain ⟨A3, c3, rfl⟩ := Kd.R_slice hr3)
      | (gi_at_call 22; refine (callsIn_wide.2 (All_calls A3 c3 l (by omega) w3 (Kd.R_reads' hr3).2.2)).mono ?_; rintro e w4 ⟨Bx, A4, c4, rfl, hBx, hbox, hrow4, hb4⟩))
    have hown : 0 < l.length → ∃ g cur, A3 = some ⟨g, 0, none⟩ ∧ w2.heap.size ≤ g ∧ g < w3.heap.size ∧ w3.heap[g]? = some (.cells cur 23 (0, 0)) ∧ 3 * l.length ≤ cur.size := by
      intro hp
      obtain ⟨inner, ho⟩ := Kd.R_own hr3
      rcases ho.2 with ⟨e, h0⟩ | ⟨g, cap, cur, e, hbg, hgc, hn1', hn2, hcs, _⟩
      · omega
      · injection e with e1 e2 e3
        refine ⟨g, cur, e1, hbg, (Array.getElem?_eq_some_iff.1 hgc).1, hgc, ?_⟩
        rw [hcs]
        show 3 * l.length ≤ cap * 3
        omega
    have hown4 : 0 < l.length → ∃ g cur, A3 = some ⟨g, 0, none⟩ ∧ w2.heap.size ≤ g ∧ g < w3.heap.size ∧ w4.heap[g]? = some (.cells cur 23 (0, 0)) ∧ 3 * l.length ≤ cur.size := by
      intro hp
      obtain ⟨g, cur, e1, e2, e3, e4, e5⟩ := hown hp
      exact ⟨g, cur, e1, e2, e3, (hb4.block g e3).trans e4, e5⟩
    clear hown
    gi_loopg [7] l.length (fun kq v7 wr => ∃ i : Nat, v7 = .int .i64 (i : Int) ∧ Aside0 (i + kq = l.length) ∧ Aside0 (Stn w2.heap.size w3.heap.size w4 wr) ∧
      Aside0 (0 < l.length → ∃ g cur, A3 = some ⟨g, 0, none⟩ ∧ w2.heap.size ≤ g ∧ g < w3.heap.size ∧ wr.heap[g]? = some (.cells cur 23 (0, 0)) ∧ 3 * l.length ≤ cur.size))
    case atStart => exact ⟨0, rfl, ⟨by omega⟩, ⟨Stn.refl _ _ _⟩, ⟨hown4⟩⟩
    case round =>
      obtain ⟨i, rfl, hik, hst, hcl⟩ := hrel
      by_cases hlt : i < l.length
      · have hlb : decide ((i : Int) < (l.length : Int)) = true := decide_eq_true (by omega)
        have hlb2 : decide (i < l.length) = true := decide_eq_true hlt
        obtain ⟨g, cur, rfl, e2, e3, e4, e5⟩ := hcl.out (by omega)
        obtain ⟨k1, rfl⟩ : ∃ k1, gk = k1 + 1 := ⟨gk - 1, by have := hik.out; omega⟩
        gi_wp2_with ((with_reducible refine gateIn_ (.store 23 (.tmp 29) (.tmp 28)) rfl ?_); refine wpIn_store_run wr rfl rfl _ _ _ rfl g (i * 3) _ cur _ [.int .i64 9, .int .i64 0, .string ⟨#[]⟩] rfl rfl e4 rfl (by kernel_rfl) (by simp only [List.length_cons, List.length_nil]; omega) (by intro q hq; simp only [List.mem_cons, List.not_mem_nil, or_false] at hq; rcases hq with rfl | rfl | rfl <;> rfl) ?_; intro wr2 cur2 f1 f2 f3 f4)
        go_roundg k1
        case rel => exact ⟨i + 1, by congr 1, ⟨by have := hik.out; omega⟩, ⟨hst.out.grown f3 f4 e2 e3⟩, ⟨fun _ => ⟨g, cur2, rfl, e2, e3, f1, by omega⟩⟩⟩
        case measure => omega
      · have hlb : decide ((i : Int) < (l.length : Int)) = false := decide_eq_false (by omega)
        have hlb2 : decide (i < l.length) = false := decide_eq_false hlt
        gi_wp2
        have hwr := hst.out
        have hje : i = l.length := by have := hik.out; omega
        clear hcl hown4 hst hik hlb hlb2 hlt
        obtain ⟨j, hj⟩ : ∃ j, i = j := ⟨_, rfl⟩
        rw [hj] at *
        have hzs := hwr.size
        have hb3s := hb3.size
        have hb4s := hb4.size
        have hb1s := hb1.size
        have hb2s := hb2.below.size
        have Hbx : Boxed wr Bx 24 (.slice A4 l.length c4) := (hwr.block Bx (.inr hBx)).trans hbox
        have Hlo : ∀ k, k < w2.heap.size → wr.heap[k]? = w2.heap[k]? := fun k hk => (hwr.block k (.inl hk)).trans ((hb4.block k (by omega)).trans (hb3.block k hk))
        have Hb2 : Boxed wr w.heap.size 24 (.slice A l.length c) := (Hlo _ (by omega)).trans r1
        have Hb3 : Boxed wr (w.heap.size + 1) 5 (.int .u8 stop) := (Hlo _ (by omega)).trans r2
        have Hb4 : Boxed wr (w.heap.size + 1 + 1) 4 (.bool false) := (Hlo _ (by omega)).trans r3
        have Hbel : Below w.heap.size w wr := (((ht1.trans (hb1.mono (by omega))).trans (hb2.below.mono (by omega))).trans (hb3.mono (by omega))).trans ((hb4.mono (by omega)).trans (hwr.below.mono (by omega)))
        obtain ⟨g4, Hg1, Hg2, HgA⟩ : ∃ g, w3.heap.size ≤ g ∧ g < w4.heap.size ∧ ∀ ad, A4 = some ad → ad.block = g := by
          cases A4 with
          | none => exact ⟨Bx, hBx, hbox.lt, fun ad e => by cases e⟩
          | some ad =>
            obtain ⟨inner, ho⟩ := Kd.R_own hrow4
            rcases ho.2 with ⟨e, _⟩ | ⟨g, cap, cur, e, hbg, hgc, _⟩
            · cases e
            · have e' : (Value.slice (some ad) l.length c4) = .slice (some ⟨g, 0, none⟩) l.length cap := e
              injection e' with e1
              injection e1 with e1
              subst e1
              exact ⟨g, hbg, (Array.getElem?_eq_some_iff.1 hgc).1, fun ad e => by cases e; rfl⟩
        have Hrow : Kd.C k23 wr A4 l.length l := (Kd.R_reads' (Kd.R_move (Kd.R_bound hrow4) (fun k hk => hwr.block k (.inr hk.2.1)))).2.2
        have Hcl : Kd.C k23 wr A l.length l := Kd.C_below hC Hbel
        have hbxl := hbox.lt
        have hW0 : VaAt wr wr.heap.size 0 [] (wr.alloc (.cells #[.int .i64 0] 3)) :=
          ⟨(Below.refl _ wr).alloc (Nat.le_refl _) _, Boxed.new wr 3 (.int .i64 0), Nat.le_refl _, (fun D hD => by cases hD), List.nodup_nil⟩
        refine wpIn_loop_ghost (fun n a W => ∃ (i B8 : Nat) (Ds : List Nat) (g9 g30 g31 g32 g33 g34 g64 g65 g66 g67 g68 g69 g70 g71 g72 : Value), n = 2 - i ∧ i ≤ 2 ∧ a = { tmps := #[.slice A l.length c, .int .u8 stop, .pointer (some ⟨w.heap.size, 0, none⟩), .pointer (some ⟨w.heap.size + 1, 0, none⟩), .pointer (some ⟨w.heap.size + 1 + 1, 0, none⟩), .slice A3 l.length c3, .func (.func 34) #[] #[.pointer (some ⟨Bx, 0, none⟩)], .int .i64 (j : Int), .pointer (some ⟨B8, 0, none⟩), g9, undef, undef, .bool true, .bool false, .slice A l.length c, .bool false, .slice A l.length c, .slice A3 l.length c3, .slice A3 l.length c3, .func (.func 34) #[] #[.pointer (some ⟨Bx, 0, none⟩)], .int .i64 (j : Int), .slice A3 l.length c3, .int .i64 (l.length : Int), .bool false, u24, u25, u26, u27, u28, u29, g30, g31, g32, g33, g34, undef, undef, undef, undef, undef, undef, undef, undef, undef, undef, undef, undef, undef, undef, undef, undef, undef, undef, undef, undef, undef, undef, undef, undef, undef, undef, undef, undef, undef, g64, g65, g66, g67, g68, g69, g70, g71, g72], defers := Ds.map mark } ∧ VaAt wr B8 i Ds W) 2
          ⟨0, _, [], _, _, _, _, _, _, _, _, _, _, _, _, _, _, _, rfl, by omega, rfl, hW0⟩ ?_
        rintro n a W ⟨i, B8, Ds, g9, g30, g31, g32, g33, g34, g64, g65, g66, g67, g68, g69, g70, g71, g72, rfl, hi, rfl, hat⟩
        have h8c := hat.b8.cell
        have h8l := hat.b8.lt
        have hWs := hat.bel.size
        have Wb2 := boxed_under Hb2 hat.bel Hb2.lt
        have Wb3 := boxed_under Hb3 hat.bel Hb3.lt
        have Wb4 := boxed_under Hb4 hat.bel Hb4.lt
        have Wbx := boxed_under Hbx hat.bel Hbx.lt
        have n4 := Hb4.lt
        by_cases hi2 : i < 2
        · gi_wp2
          have g0 : (W.alloc (.cells #[.int .i64 0] 3)).heap.size = W.heap.size + 1 := by simp
          have f9 := Boxed.new W 3 (.int .i64 0)
          have f1 : Below W.heap.size W (W.alloc (.cells #[.int .i64 0] 3)) := (Below.refl _ W).alloc (Nat.le_refl _) _
          have hat3 : ∀ V, Below W.heap.size (W.alloc (.cells #[.int .i64 0] 3)) V → Boxed V w.heap.size 24 (.slice A l.length c) ∧ Boxed V (w.heap.size + 1) 5 (.int .u8 stop) ∧ Boxed V (w.heap.size + 1 + 1) 4 (.bool false) ∧ Boxed V B8 3 (.int .i64 i) ∧ Kd.C k23 V A l.length l := by
            intro V hV
            have hWV := f1.trans hV
            exact ⟨boxed_under Wb2 hWV Wb2.lt, boxed_under Wb3 hWV Wb3.lt, boxed_under Wb4 hWV Wb4.lt, boxed_under hat.b8 hWV h8l, Kd.C_below Hcl (hat.bel.trans (hWV.mono hWs))⟩
          obtain ⟨W3, hW3⟩ : ∃ W3, W.alloc (.cells #[.int .i64 0] 3) = W3 := ⟨_, rfl⟩
          rw [hW3] at g0 f9 f1 hat3 ⊢
          clear hW3
          have Wbx3 := boxed_under Wbx f1 Wbx.lt
          have hrow3 : Kd.C k23 W3 A4 l.length l := Kd.C_below Hrow (hat.bel.trans (f1.mono hWs))
          refine wpIn_rangeFunc_ownH rfl hn1 (gf := 34) (lb := #[.pointer (some ⟨Bx, 0, none⟩)]) rfl trivial (enters_of Tryd.func34 (by kernel_rfl) rfl)
            (all1_stops (β := Nat × Va) id (allOf l) (9 - 1) (by omega) Bx g4 A4 c4 l W3 hrow3 HgA (by omega) (List.map_id _) Wbx3.lt (fun X Y => X.heap.size ≤ Y.heap.size ∧ ∀ k, k < W.heap.size → Y.heap[k]? = X.heap[k]?) (fun h => h.2 g4 (by omega)) Wbx3.cell (by omega))
            (fun h k => ⟨Nat.le_trans h.1 k.1, fun i h1 => (k.2 i h1).trans (h.2 i h1)⟩)
            (fun X lp o o' hl _ _ _ => ⟨by simp, fun k h1 => World.putObj_heap_other (by omega)⟩)
            (Below.refl _ _) (fun _ => rfl)
            (fun (pre : List (Nat × Va)) V => (Boxed V W.heap.size 3 (.int .i64 pre.length) ∧ Below W.heap.size W3 V) ∧ (pre <+: allOf l ∧ (i = 0 → (pre.length : Int) ≤ stop)))
            (fun c pre V => (c = .ret ∧ ¬ pre <+: allOf l) ∨ (c = .exit 4 ∧ i = 0 ∧ (Boxed V W.heap.size 3 (.int .i64 pre.length) ∧ Below W.heap.size W3 V)))
            (OwnFrom.and (OwnFrom.and (Own.from (boxed_own W.heap.size 3 (fun pre : List (Nat × Va) => .int .i64 pre.length)) _) (ownFrom_below (by omega) (by omega))) (fun _ _ _ _ h _ _ => h))
            (fun c s X Y row h hg hr => h.elim .inl (fun ⟨e1, e2, e3⟩ => .inr ⟨e1, e2, OwnFrom.and (Own.from (boxed_own W.heap.size 3 (fun pre : List (Nat × Va) => .int .i64 pre.length)) _) (ownFrom_below (by omega) (by omega)) s X Y row e3 hg hr⟩))
            ⟨⟨f9, Below.refl _ _⟩, List.nil_prefix, fun _ => by simp; omega⟩
            (fun x a' V => ∃ Bv, W3.heap.size ≤ Bv ∧ Vx V Bv x.2 ∧ a' = { tmps := #[.slice A l.length c, .int .u8 stop, .pointer (some ⟨w.heap.size, 0, none⟩), .pointer (some ⟨w.heap.size + 1, 0, none⟩), .pointer (some ⟨w.heap.size + 1 + 1, 0, none⟩), .slice A3 l.length c3, .func (.func 34) #[] #[.pointer (some ⟨Bx, 0, none⟩)], .int .i64 (j : Int), .pointer (some ⟨B8, 0, none⟩), .pointer (some ⟨W.heap.size, 0, none⟩), .int .i64 (x.1 : Int), .pointer (some ⟨Bv, 0, none⟩), .bool true, .bool false, .slice A l.length c, .bool false, .slice A l.length c, .slice A3 l.length c3, .slice A3 l.length c3, .func (.func 34) #[] #[.pointer (some ⟨Bx, 0, none⟩)], .int .i64 (j : Int), .slice A3 l.length c3, .int .i64 (l.length : Int), .bool false, u24, u25, u26, u27, u28, u29, .int .i64 (i : Int), .bool true, g32, g33, .func (.func 34) #[] #[.pointer (some ⟨Bx, 0, none⟩)], .int .i64 (x.1 : Int), .agg #[.int .i64 x.2.f0, .int .i64 x.2.f1, .string x.2.f2], undef, undef, undef, undef, undef, undef, undef, undef, undef, undef, undef, undef, undef, undef, undef, undef, undef, undef, undef, undef, undef, undef, undef, undef, undef, undef, undef, g64, g65, g66, g67, g68, g69, g70, g71, g72], defers := [] })
            (fun x a' s X Y row ⟨Bv, h1, h2, h3⟩ hg hr => ⟨Bv, h1, (hg.block Bv h2.lt (fun e => by obtain ⟨_, o, ho, hc⟩ := hr Bv e.symm; rw [show X.heap[Bv]? = _ from h2] at ho; cases ho; cases hc)).trans h2, h3⟩) ?assign ?body ?done ?stop
          case assign =>
            rintro lp pre x V K ⟨⟨hb, hBl⟩, hpre, hfew⟩ hK
            simp only [encIV, id]
            gi_wp2
            exact hK _ _ ((KeepsOthers.alloc _ _).from _) ⟨by simp, fun k h1 => (World.grownBy_alloc V _ none).block k (by have := hBl.size; omega) (by simp)⟩ ⟨⟨hb.alloc _, hBl.alloc (by have := hBl.size; omega) _⟩, hpre, hfew⟩ ⟨V.heap.size, hBl.size, blk_new V _, rfl⟩
          case body =>
            rintro lp pre x a' V hlp hrec ⟨⟨hb, hBl⟩, hpre, hfew⟩ ⟨Bv, hBv, hvx, rfl⟩ hlt
            obtain ⟨m2, m3, m4, m8, mC⟩ := hat3 V hBl
            obtain ⟨ad, hA, x0, x1, x2⟩ := at_T23 mC (pre.length : Int) (by omega) (by rw [allOf_length] at hlt; omega)
            subst hA
            have hll : pre.length < l.length := by rw [allOf_length] at hlt; exact hlt
            have hsn := snoc_all (x := x) hpre hll
            obtain ⟨u, hu⟩ : ∃ u, rd_T23 l (pre.length : Int) = u := ⟨_, rfl⟩
            rw [hu] at x0 x1 x2 hsn
            rw [Int.toNat_natCast] at x0 x1 x2
            obtain ⟨xi, v0, v1, v2⟩ := x
            obtain ⟨u0, u1, u2⟩ := u
            have y0 := hvx.c0
            have y1 := hvx.c1
            have y2 := hvx.c2
            simp only at x0 x1 x2 y0 y1 y2
            have k2 := m2.cell
            have k3 := m3.cell
            have k4 := m4.cell
            have k4f := m4.frozen
            have k8 := m8.cell
            have k9 := hb.cell
            have k9f := hb.frozen
            gi_wp2
            have hkf : ∀ nq B, B < W3.heap.size → ∀ u, KeepsFrom W3.heap.size V ((V.drewN nq).setCell ⟨B, 0, none⟩ u) := fun nq B hB u => by
              have h := KeepsFrom.of_grownBy (B := W3.heap.size) (show (V.drewN nq).grownBy ((V.drewN nq).setCell ⟨B, 0, none⟩ u) (some B) from grownBy_setCell' _ _ _) (fun j e => by cases e; exact hB)
              exact ⟨h.size, h.same⟩
            have hkp : ∀ nq u, V.heap.size ≤ ((V.drewN nq).setCell ⟨W.heap.size, 0, none⟩ u).heap.size ∧ ∀ k, k < W.heap.size → ((V.drewN nq).setCell ⟨W.heap.size, 0, none⟩ u).heap[k]? = V.heap[k]? := fun nq u =>
              ⟨(show (V.drewN nq).grownBy ((V.drewN nq).setCell ⟨W.heap.size, 0, none⟩ u) (some W.heap.size) from grownBy_setCell' _ _ _).size, fun k hk => Below.heap_setCell (V.drewN nq) _ _ _ (by show k ≠ W.heap.size; omega)⟩
            have hbl : ∀ nq u, Below W.heap.size W3 ((V.drewN nq).setCell ⟨W.heap.size, 0, none⟩ u) := fun nq u => by
              have hV : Below W.heap.size W3 (V.drewN nq) := ⟨hBl.os, hBl.tape, hBl.output, hBl.size, hBl.block⟩
              exact hV.trans ((Below.refl _ _).grown (grownBy_setCell' _ _ _) (Nat.le_of_lt hb.lt) (fun k e => by cases e; exact Nat.le_refl _))
            by_cases hxi : xi = pre.length
            · subst hxi
              have hge : decide ((pre.length : Int) ≥ (l.length : Int)) = false := decide_eq_false (by omega)
              have hge2 : decide (l.length ≤ pre.length) = false := decide_eq_false (by omega)
              by_cases e0 : v0 = u0
              · subst e0
                by_cases e1 : v1 = u1
                · subst e1
                  by_cases e2 : v2 = u2
                  · subst e2
                    refine wpIn_region_quiet_round (by kernel_rfl) (by kernel_rfl) (by kernel_rfl) ?_
                    repeat (quiet_step (fail))
                    refine wpQuiet_nil ?_
                    intro _ hw'
                    obtain ⟨nq, hw''⟩ := hw'
                    subst hw''
                    have K2 := Boxed.other (show Boxed (V.drewN nq) (w.heap.size + 1) 5 (.int .u8 stop) from m3) (show w.heap.size + 1 ≠ W.heap.size by omega) (.int .i64 ((pre.length : Int) + 1))
                    have K8 := Boxed.other (show Boxed (V.drewN nq) B8 3 (.int .i64 i) from m8) (show B8 ≠ W.heap.size by omega) (.int .i64 ((pre.length : Int) + 1))
                    have K9 := (show Boxed (V.drewN nq) W.heap.size 3 (.int .i64 pre.length) from hb).set (.int .i64 ((pre.length : Int) + 1))
                    have s3 := K2.cell
                    have s8 := K8.cell
                    have s9 := K9.cell
                    have s9f := K9.frozen
                    have HN := Aside0.mk (hkf nq W.heap.size (by omega) (.int .i64 ((pre.length : Int) + 1)))
                    have HK := Aside0.mk (hkp nq (.int .i64 ((pre.length : Int) + 1)))
                    have HB : Aside0 (Boxed ((V.drewN nq).setCell ⟨W.heap.size, 0, none⟩ (.int .i64 ((pre.length : Int) + 1))) W.heap.size 3 (.int .i64 ((pre ++ [(pre.length, (⟨v0, v1, v2⟩ : Va))]).length : Int))) := ⟨by simpa using K9⟩
                    have HL := Aside0.mk (hbl nq (.int .i64 ((pre.length : Int) + 1)))
                    have HP := Aside0.mk (hsn.2 rfl)
                    clear K2 K8 K9 hsn
                    gi_wp2
                    all_goals first
                      | exact ⟨HN.out, .inr ⟨rfl, by omega, HB.out, HL.out⟩⟩
                      | exact ⟨HN.out, .inr ⟨rfl, HB.out, HL.out⟩⟩
                      | exact ⟨HN.out, HK.out, ⟨HB.out, HL.out⟩, HP.out, fun _ => by simp; omega⟩
                      | exact ⟨HN.out, HK.out, ⟨HB.out, HL.out⟩, HP.out, by simp; omega⟩
                      | exact ⟨HN.out, HK.out, ⟨HB.out, HL.out⟩, HP.out⟩
                      | (exfalso; omega)
                      | (trace_state; sorry)
                  · have hne : ¬ ((pre.length, (⟨v0, v1, v2⟩ : Va)) = (pre.length, (⟨v0, v1, u2⟩ : Va))) := fun z => by injection z with _ z; injection z with _ _ z; exact e2 z
                    have hb2 : (v2.toList == u2.toList) = false := by
                      rw [beq_eq_false_iff_ne]
                      intro z
                      rw [Lib.toList_data, Lib.toList_data] at z
                      exact e2 (ByteArray.ext (Array.ext' z))
                    refine wpIn_region_quiet_round (by kernel_rfl) (by kernel_rfl) (by kernel_rfl) ?_
                    repeat (quiet_step (fail))
                    refine wpQuiet_nil ?_
                    intro _ hw'
                    obtain ⟨nq, hw''⟩ := hw'
                    subst hw''
                    have HN := Aside0.mk (hkf nq (w.heap.size + 1 + 1) (by omega) (.bool false))
                    have HP := Aside0.mk (fun z => hne (hsn.1 z))
                    clear hsn
                    gi_wp2
                    all_goals first
                      | exact ⟨HN.out, .inl ⟨rfl, HP.out⟩⟩
                      | exact ⟨HN.out, rfl, HP.out⟩
                      | (exfalso; omega)
                      | (trace_state; sorry)
                · have hne : ¬ ((pre.length, (⟨v0, v1, v2⟩ : Va)) = (pre.length, (⟨v0, u1, u2⟩ : Va))) := fun z => by injection z with _ z; injection z with _ z _; exact e1 z
                  have hb2 : (v1 == u1) = false := by
                    rw [beq_eq_false_iff_ne]; exact e1
                  refine wpIn_region_quiet_round (by kernel_rfl) (by kernel_rfl) (by kernel_rfl) ?_
                  repeat (quiet_step (fail))
                  refine wpQuiet_nil ?_
                  intro _ hw'
                  obtain ⟨nq, hw''⟩ := hw'
                  subst hw''
                  have HN := Aside0.mk (hkf nq (w.heap.size + 1 + 1) (by omega) (.bool false))
                  have HP := Aside0.mk (fun z => hne (hsn.1 z))
                  clear hsn
                  gi_wp2
                  all_goals first
                    | exact ⟨HN.out, .inl ⟨rfl, HP.out⟩⟩
                    | exact ⟨HN.out, rfl, HP.out⟩
                    | (exfalso; omega)
                    | (trace_state; sorry)
              · have hne : ¬ ((pre.length, (⟨v0, v1, v2⟩ : Va)) = (pre.length, (⟨u0, u1, u2⟩ : Va))) := fun z => by injection z with _ z; injection z with z _ _; exact e0 z
                have hb2 : (v0 == u0) = false := by
                  rw [beq_eq_false_iff_ne]; exact e0
                refine wpIn_region_quiet_round (by kernel_rfl) (by kernel_rfl) (by kernel_rfl) ?_
                repeat (quiet_step (fail))
                refine wpQuiet_nil ?_
                intro _ hw'
                obtain ⟨nq, hw''⟩ := hw'
                subst hw''
                have HN := Aside0.mk (hkf nq (w.heap.size + 1 + 1) (by omega) (.bool false))
                have HP := Aside0.mk (fun z => hne (hsn.1 z))
                clear hsn
                gi_wp2
                all_goals first
                  | exact ⟨HN.out, .inl ⟨rfl, HP.out⟩⟩
                  | exact ⟨HN.out, rfl, HP.out⟩
                  | (exfalso; omega)
                  | (trace_state; sorry)
            · have hne : ¬ ((xi, (⟨v0, v1, v2⟩ : Va)) = (pre.length, (⟨u0, u1, u2⟩ : Va))) := fun z => by injection z with z _; exact hxi z
              have hb2 : ((xi : Int) != (pre.length : Int)) = true := by
                rw [bne_iff_ne]; omega
              have hb3 : (xi == pre.length) = false := by
                rw [beq_eq_false_iff_ne]; exact hxi
              refine wpIn_region_quiet_round (by kernel_rfl) (by kernel_rfl) (by kernel_rfl) ?_
              repeat (quiet_step (fail))
              refine wpQuiet_nil ?_
              intro _ hw'
              obtain ⟨nq, hw''⟩ := hw'
              subst hw''
              have HN := Aside0.mk (hkf nq (w.heap.size + 1 + 1) (by omega) (.bool false))
              have HP := Aside0.mk (fun z => hne (hsn.1 z))
              clear hsn
              gi_wp2
              all_goals first
                | exact ⟨HN.out, .inl ⟨rfl, HP.out⟩⟩
                | exact ⟨HN.out, rfl, HP.out⟩
                | (exfalso; omega)
                | (trace_state; sorry)
          case done =>
            rintro D ys V hD rfl ⟨⟨hb, hBl⟩, hpre, hfew⟩ hK
            obtain ⟨m2, m3, m4, m8, mC⟩ := hat3 V hBl
            rw [allOf_length] at hb
            have k2 := m2.cell
            have k4 := m4.cell
            have k8 := m8.cell
            have k9 := hb.cell
            gi_wp2
            all_goals refine ⟨2 - (i + 1), by omega, i + 1, V.heap.size, D :: Ds, _, _, _, _, _, _, _, _, _, _, _, _, _, _, _, rfl, by omega, rfl, ?_⟩
            all_goals exact vaAt_next hat (f1.trans hBl) (by omega) hK _ (by omega)
          case stop =>
            rintro D c pre V hD hpre (⟨rfl, hno⟩ | ⟨rfl, hi0, hb, hBl⟩) hK
            · exact absurd hpre hno
            obtain ⟨m2, m3, m4, m8, mC⟩ := hat3 V hBl
            have k2 := m2.cell
            have k4 := m4.cell
            have k8 := m8.cell
            have k9 := hb.cell
            gi_wp2
            all_goals refine ⟨2 - (i + 1), by omega, i + 1, V.heap.size, D :: Ds, _, _, _, _, _, _, _, _, _, _, _, _, _, _, _, rfl, by omega, rfl, ?_⟩
            all_goals exact vaAt_next hat (f1.trans hBl) (by omega) hK _ (by omega)
        · obtain rfl : i = 2 := by omega
          have q4 := Wb4.cell
          have q4f := Wb4.frozen
          gi_wp2
          refine hend _ _ Ds rfl (Wb4.set (.bool true)) ?_ hat.nd (fun D hD => ?_)
          · exact (Hbel.trans (hat.bel.mono (by omega))).trans ((Below.refl _ _).grown (grownBy_setCell' _ _ _) (by omega) (fun k e => by cases e; omega))
          · obtain ⟨d1, d2⟩ := hat.ds D hD
            exact ⟨by omega, (Below.heap_setCell _ _ _ _ (by show D ≠ w.heap.size + 1 + 1; omega)).trans d2⟩
/-- The law's function, as far as it is walked: true at every argument that its types hold. -/
def headgatelaw03_ValueAll.f (k : Nat) (l0 : List Va) (a1 : Int) : Option Bool := if l0.length ≤ 4398046511102 ∧ 0 ≤ a1 ∧ a1 ≤ 255 then some true else none
theorem headgatelaw03_ValueAll.calls (k : Nat) (A0 : Option Addr) (c0 : Nat) (l0 : List Va) (a1 : Int) (r : Bool) (w : World) (hr0 : Kd.C k23 w A0 l0.length l0) (hc0 : l0.length ≤ c0) (h : headgatelaw03_ValueAll.f k l0 a1 = some r) :
    Calls Tryd.prog 5 #[.slice A0 l0.length c0, .int .u8 a1] w fun e w' => e = .returned (.bool r) ∧ Below w.heap.size w w' := by
  unfold headgatelaw03_ValueAll.f at h
  split at h <;> cases h
  rename_i hi
  exact callsIn_wide.1 (ValueAll_in A0 c0 l0 a1 hi.1 hi.2 w hr0 hc0)
theorem wfu8 {x : Int} (h : (Lit.int .u8 x).wf = true) : 0 ≤ x ∧ x ≤ 255 := by
  have hmin : IntKind.u8.min = 0 := rfl
  have hmax : IntKind.u8.max = 255 := rfl
  simp only [Lit.wf, Bool.and_eq_true, decide_eq_true_eq] at h
  omega
theorem ValueAll_pure (l : List Va) (s : Int) (h2 : l.length * 32 ≤ 140737488351232 ∧ ∀ z ∈ l, (Lit.int .i64 z.f0).wf = true ∧ (Lit.int .i64 z.f1).wf = true ∧ z.f2.size ≤ 140737488351232) (h3 : (Lit.int .u8 s).wf = true) : ∃ k, headgatelaw03_ValueAll.f k l s = some true :=
  ⟨0, if_pos ⟨by omega, wfu8 h3⟩⟩
end Go.Proofs.YtindffllmlifiaaDoor.Q
