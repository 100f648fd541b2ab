/- Texts of the claim, put together. -/
import Derived.Test.YtopolnbffmljaaaDoorZExprWorth12
import Derived.Test.YtopolnbffmljaaaDoorZExprWorth7
import Derived.Deep.RegionHeld
import Derived.Laws.EntriesVeiled
import Derived.Test.YtopolnbffmljaaaDoorZExprWorth9
namespace Go.Proofs.YtopolnbffmljaaaDoor.U13
def fB (n m : Nat) : Array Bool := ((List.range n).map (Nat.testBit m)).toArray
end Go.Proofs.YtopolnbffmljaaaDoor.U13
open Go.Proofs.YtopolnbffmljaaaDoor.U13
open Go.RowKit Go.Proofs.YtopolnbffmljaaaDoorW.PrintWords Go.Proofs.YtopolnbffmljaaaDoorW.PrintLast Go.Proofs.YtopolnbffmljaaaDoorW.PrintMore
set_option linter.unusedVariables false
set_option linter.unusedSimpArgs false
open List renaming setIfInBounds_toArray → zA, set_cons_zero → zB, set_cons_succ → zC
namespace Go.Proofs.YtopolnbffmljaaaDoor.Q
structure Ctx (l : List Co) (row : List Va) (B : Option Addr) (c2 : Nat) (D : Option Addr) (c3 : Nat) (w : World) : Prop where
 glob : GlobE w
 cols : Kd.C k58 w B l.length l
 rows : Kd.C k23 w D row.length row
 lc : l.length ≤ c2
 lr : row.length ≤ c3
 ll : l.length ≤ 140737488355328
 eq : row.length = l.length
theorem Ctx.below {l : List Co} {row : List Va} {B : Option Addr} {c2 : Nat} {D : Option Addr} {c3 : Nat} {w w' : World} (h : Ctx l row B c2 D c3 w) (hb : Below w.heap.size w w') : Ctx l row B c2 D c3 w' :=
 ⟨h.glob.below hb, Kd.C_below h.cols hb, Kd.C_below h.rows hb, h.lc, h.lr, h.ll, h.eq⟩
def errP (c : Int) : List PanicEntry := [{ v := .iface 30 (.int .i64 c), recovered := false }]
def WoOut (r : Wo) (w : World) (e : Ending) (w' : World) : Prop := ((r.2 = 0 ∧ e = .returned (.agg #[.int .i64 r.1.f0, .int .i64 r.1.f1, .string r.1.f2])) ∨ (r.2 ≠ 0 ∧ e = .panicked (errP r.2))) ∧ Below w.heap.size w w'
theorem WoOut.ret {r : Wo} {v : Va} {w w' : World} (h : r = (v, 0)) (hb : Below w.heap.size w w') : WoOut r w (.returned (.agg #[.int .i64 v.f0, .int .i64 v.f1, .string v.f2])) w' := by
 subst h
 exact ⟨.inl ⟨rfl, rfl⟩, hb⟩
theorem WoOut.pan {r : Wo} {v : Va} {c : Int} {w w' : World} (h : r = (v, c)) (hc : c ≠ 0) (hb : Below w.heap.size w w') : WoOut r w (.panicked (errP c)) w' := by
 subst h
 exact ⟨.inr ⟨hc, rfl⟩, hb⟩
theorem WoOut.ok {f : FuncId} {args : Array Value} {v : Va} {w : World} (h : Calls Tryd.prog f args w (WoOut (v, 0) w)) : Calls Tryd.prog f args w fun e w' => e = .returned (.agg #[.int .i64 v.f0, .int .i64 v.f1, .string v.f2]) ∧ Below w.heap.size w w' :=
 h.mono fun e w' ⟨h1, h2⟩ => ⟨by rcases h1 with ⟨_, h⟩ | ⟨h, _⟩; exact h; exact absurd rfl h, h2⟩
theorem WoOut.bad {f : FuncId} {args : Array Value} {v : Va} {c : Int} (hc : c ≠ 0) {w : World} (h : Calls Tryd.prog f args w (WoOut (v, c) w)) : Calls Tryd.prog f args w fun e w' => e = .panicked (errP c) ∧ Below w.heap.size w w' :=
 h.mono fun e w' ⟨h1, h2⟩ => ⟨by rcases h1 with ⟨h, _⟩ | ⟨_, h⟩; exact absurd h hc; exact h, h2⟩
def opF (n : Int) : FuncId :=
 if n = 1 then 56 else if n = 2 then 57 else if n = 3 then 58 else if n = 9 then 59
 else if n = 4 ∨ n = 5 ∨ n = 6 ∨ n = 7 ∨ n = 8 then 63 else if n = 10 ∨ n = 11 ∨ n = 12 ∨ n = 13 then 64
 else if n = 14 ∨ n = 15 then 65 else if n = 16 then 66 else if n = 17 then 67 else if n = 18 then 69
 else if n = 19 then 70 else 71
theorem opF_is (n : Int) : opF n = 56 ∨ opF n = 57 ∨ opF n = 58 ∨ opF n = 59 ∨ opF n = 63 ∨ opF n = 64 ∨ opF n = 65 ∨ opF n = 66 ∨ opF n = 67 ∨ opF n = 69 ∨ opF n = 70 ∨ opF n = 71 := by
 unfold opF
 repeat (first | (split; · simp) | simp)
set_option maxHeartbeats 8000000 in
set_option maxRecDepth 100000 in
theorem op_calls (n : Int) (h1 : 1 ≤ n) (h2 : n ≤ 20) (w : World) :
  Calls Tryd.prog 37 #[.int .i64 n] w fun e w' => e = .returned (.agg #[.func (.func (opF n)) #[] #[]]) ∧ Below w.heap.size w w' := by
 have hop : n = 1 ∨ n = 2 ∨ n = 3 ∨ n = 4 ∨ n = 5 ∨ n = 6 ∨ n = 7 ∨ n = 8 ∨ n = 9 ∨ n = 10 ∨ n = 11 ∨ n = 12 ∨ n = 13 ∨ n = 14 ∨ n = 15 ∨ n = 16 ∨ n = 17 ∨ n = 18 ∨ n = 19 ∨ n = 20 := by omega
 have hu := Tryd.underlying68
 rcases hop with rfl | rfl | rfl | rfl | rfl | rfl | rfl | rfl | rfl | rfl | rfl | rfl | rfl | rfl | rfl | rfl | rfl | rfl | rfl | rfl
 all_goals
  clear h1 h2
  go_enter Tryd.func37, Tryd.ntmps37
  go_wp2
  refine bodyPost_ret (results_single rfl (.cell _ _ _ _ _ rfl (blk_new w _) hu rfl (by kernel_rfl) .nil)) rfl ⟨rfl, below_alloc (Below.refl _ _) _⟩
theorem blkput3 {w : World} {g : Nat} {t : TypeId} {x0 x1 x2 : Value} (h : w.heap[g]? = some (.cells #[x0, x1, x2] t (0, 0))) (y0 y1 y2 : Value) :
  (((w.setCell ⟨g, 0, none⟩ y0).setCell ⟨g, 1, none⟩ y1).setCell ⟨g, 2, none⟩ y2).heap[g]? = some (.cells #[y0, y1, y2] t (0, 0)) :=
 blk_put (cs := #[y0, y1, x2]) (blk_put (cs := #[y0, x1, x2]) (blk_put (cs := #[x0, x1, x2]) h 0 y0 rfl) 1 y1 rfl) 2 y2 rfl
theorem below_put3 {w W : World} {g : Nat} (h : Below w.heap.size w W) (hg : w.heap.size ≤ g) (y0 y1 y2 : Value) : Below w.heap.size w (((W.setCell ⟨g, 0, none⟩ y0).setCell ⟨g, 1, none⟩ y1).setCell ⟨g, 2, none⟩ y2) :=
 below_set (below_set (below_set h hg) hg) hg
theorem box3 {W : World} {g : Nat} {t : TypeId} {x0 x1 x2 : Value} (h : W.heap[g]? = some (.cells #[x0, x1, x2] t (0, 0))) : W.cell? ⟨g, 0, none⟩ = some x0 ∧ W.cell? ⟨g, 1, none⟩ = some x1 ∧ W.cell? ⟨g, 2, none⟩ = some x2 ∧ W.frozen? ⟨g, 0, none⟩ = false ∧ W.frozen? ⟨g, 1, none⟩ = false ∧ W.frozen? ⟨g, 2, none⟩ = false :=
 ⟨(blk_cell h 0).trans rfl, (blk_cell h 1).trans rfl, (blk_cell h 2).trans rfl, blk_frozen h 0, blk_frozen h 1, blk_frozen h 2⟩
theorem eqv_null (v : Va) : eqv v.f0 0 v.f1 0 v.f2 ⟨#[]⟩ = decide (v = nullV) := rfl
attribute [local go_sem high] eqV
set_option maxHeartbeats 8000000 in
set_option maxRecDepth 100000 in
theorem reckon_calls (op : Int) (a b : Va) (ha : in64 a.f1) (hb : in64 b.f1) (w : World) (hG : GlobE w) :
  Calls Tryd.prog 60 #[.int .i64 op, .agg #[.int .i64 a.f0, .int .i64 a.f1, .string a.f2], .agg #[.int .i64 b.f0, .int .i64 b.f1, .string b.f2]] w (WoOut (reckS op a b) w) := by
 have hu := Tryd.underlying23
 have hdo := num_Do_eq 0 op a.f1 b.f1 ha hb
 obtain ⟨W, hW⟩ : ∃ W, W = ((w.alloc (.cells #[.int .i64 a.f0, .int .i64 a.f1, .string a.f2] 23)).alloc (.cells #[.int .i64 b.f0, .int .i64 b.f1, .string b.f2] 23)).alloc (.cells #[.int .i64 0, .int .i64 0, .string ⟨#[]⟩] 23) := ⟨_, rfl⟩
 have hB : Below w.heap.size w W := by rw [hW]; exact below_alloc (below_alloc (below_alloc (Below.refl _ _) _) _) _
 have hA : W.heap[w.heap.size]? = some (.cells #[.int .i64 a.f0, .int .i64 a.f1, .string a.f2] 23 (0, 0)) := by rw [hW]; exact blk_alloc (blk_alloc (blk_new w _) _) _
 have hBb : W.heap[w.heap.size + 1]? = some (.cells #[.int .i64 b.f0, .int .i64 b.f1, .string b.f2] 23 (0, 0)) := by
  rw [hW]
  have := blk_new (w.alloc (.cells #[.int .i64 a.f0, .int .i64 a.f1, .string a.f2] 23)) (.cells #[.int .i64 b.f0, .int .i64 b.f1, .string b.f2] 23)
  rw [World.size_alloc] at this
  exact blk_alloc this _
 have hR : W.heap[w.heap.size + 1 + 1]? = some (.cells #[.int .i64 0, .int .i64 0, .string ⟨#[]⟩] 23 (0, 0)) := by
  rw [hW]
  have := blk_new ((w.alloc (.cells #[.int .i64 a.f0, .int .i64 a.f1, .string a.f2] 23)).alloc (.cells #[.int .i64 b.f0, .int .i64 b.f1, .string b.f2] 23)) (.cells #[.int .i64 0, .int .i64 0, .string ⟨#[]⟩] 23)
  rwa [World.size_alloc, World.size_alloc] at this
 have hGW := hG.below hB
 obtain ⟨a0, a1, a2, _, _, _⟩ := box3 hA
 obtain ⟨b0, b1, b2, _, _, _⟩ := box3 hBb
 obtain ⟨r0, r1, r2, g0, g1, g2⟩ := box3 hR
 have n0 := hGW.n0
 have n1 := hGW.n1
 have n2 := hGW.n2
 have ea := eqv_null a
 have eb := eqv_null b
 have HB := Aside0.mk hB
 have HR := Aside0.mk hR
 obtain ⟨Q, hQ⟩ : ∃ Q, Q = WoOut (reckS op a b) w := ⟨_, rfl⟩
 rw [← hQ]
 have HW := Aside0.mk hW
 clear hB hA hBb hR hGW hG hW
 by_cases hn : a = nullV ∨ b = nullV
 ·have hq : ∀ w', Below w.heap.size w w' → Q (.returned (.agg #[.int .i64 0, .int .i64 0, .string ⟨#[]⟩])) w' := fun w' h => by rw [hQ]; exact WoOut.ret (v := nullV) (by unfold reckS; rw [if_pos hn]) h
  have HQ := Aside0.mk hq
  clear hq hQ hdo ha hb
  by_cases h1 : a = nullV
  ·rw [decide_eq_true h1] at ea
   clear eb hn h1
   go_enter Tryd.func60, Tryd.ntmps60
   go_upto_region 1 with (fail)
   rw [← HW.out]
   go_wp2
   refine bodyPost_ret (results_single rfl (.cell _ _ _ _ _ rfl (blkput3 HR.out _ _ _) hu rfl (by kernel_rfl) .nil)) rfl ?_
   exact HQ.out _ (below_put3 HB.out (by omega) _ _ _)
  ·have h2 : b = nullV := hn.resolve_left h1
   rw [decide_eq_false h1] at ea
   rw [decide_eq_true h2] at eb
   clear hn h1 h2
   go_enter Tryd.func60, Tryd.ntmps60
   go_upto_region 1 with (fail)
   rw [← HW.out]
   go_wp2
   refine bodyPost_ret (results_single rfl (.cell _ _ _ _ _ rfl (blkput3 HR.out _ _ _) hu rfl (by kernel_rfl) .nil)) rfl ?_
   exact HQ.out _ (below_put3 HB.out (by omega) _ _ _)
 ·have h1 : ¬ a = nullV := fun h => hn (.inl h)
  have h2 : ¬ b = nullV := fun h => hn (.inr h)
  rw [decide_eq_false h1] at ea
  rw [decide_eq_false h2] at eb
  obtain ⟨n, hnn⟩ : ∃ n, (doS op a.f1 b.f1).1 = n := ⟨_, rfl⟩
  obtain ⟨e, he⟩ : ∃ e, (doS op a.f1 b.f1).2 = e := ⟨_, rfl⟩
  have hdo2 : num_Do.f 2 op a.f1 b.f1 = some (n, e) := by rw [hdo, ← hnn, ← he]
  have hrk : reckS op a b = if e ≠ 0 then (nullV, e) else (intV n, 0) := by unfold reckS; rw [if_neg hn, hnn, he]
  by_cases h0 : e = 0
  ·subst h0
   have hq : ∀ w', Below w.heap.size w w' → Q (.returned (.agg #[.int .i64 1, .int .i64 n, .string ⟨#[]⟩])) w' := fun w' h => by rw [hQ]; exact WoOut.ret (v := intV n) (by rw [hrk]; rfl) h
   have HQ := Aside0.mk hq
   clear hq hQ hdo ha hb hn h1 h2 hrk hnn he
   go_enter Tryd.func60, Tryd.ntmps60
   go_upto_region 1 with (fail)
   rw [← HW.out]
   go_wp2_with (first
    | (go_at_call 82; refine (num_Do.calls 2 op a.f1 b.f1 _ _ _ hdo2).mono ?_; rintro e w2 ⟨rfl, hb2⟩; have HB2 := Aside0.mk (below_step HB.out hb2.below); have HR2 := Aside0.mk (blk_below HR.out hb2.below); clear hb2 a0 a1 a2 b0 b1 b2 n0 n1 n2 r0 r1 r2 g0 g1 g2)
    | (go_at_call 61; refine (value_Int.calls n 1 n ⟨#[]⟩ _ rfl).mono ?_; rintro e w3 ⟨rfl, hb3⟩; have HB3 := Aside0.mk (below_step HB2.out hb3); have hR3 := blk_below HR2.out hb3; have HR3 := Aside0.mk hR3; obtain ⟨r0, r1, r2, g0, g1, g2⟩ := box3 hR3; clear hb3 hR3))
   refine bodyPost_ret (results_single rfl (.cell _ _ _ _ _ rfl (blkput3 HR3.out _ _ _) hu rfl (by kernel_rfl) .nil)) rfl ?_
   exact HQ.out _ (below_put3 HB3.out (by omega) _ _ _)
  ·have hne : (e != 0) = true := by simpa using h0
   have hq : ∀ w', Below w.heap.size w w' → Q (.panicked (errP e)) w' := fun w' h => by rw [hQ]; exact WoOut.pan (v := nullV) (by rw [hrk, if_pos h0]) h0 h
   have HQ := Aside0.mk hq
   clear hq hQ hdo ha hb hn h1 h2 hrk hnn he h0
   go_enter Tryd.func60, Tryd.ntmps60
   go_upto_region 1 with (fail)
   rw [← HW.out]
   go_wp2_with (go_at_call 82; refine (num_Do.calls 2 op a.f1 b.f1 _ _ _ hdo2).mono ?_; rintro e w2 ⟨rfl, hb2⟩; have HB2 := Aside0.mk (below_step HB.out hb2.below); clear hb2)
   exact ⟨rfl, HQ.out _ HB2.out⟩
structure EvS (u v : Value) (w W : World) : Prop where
 below : Below w.heap.size w W
 ctx : W.heap[w.heap.size]? = some (.cells #[u, v] 71 (0, 0))
 res : ∃ x0 x1 x2, W.heap[w.heap.size + 1]? = some (.cells #[x0, x1, x2] 23 (0, 0))
theorem EvS.new (u v : Value) (w : World) : EvS u v w ((w.alloc (.cells #[u, v] 71)).alloc (.cells #[.int .i64 0, .int .i64 0, .string ⟨#[]⟩] 23)) := by
 refine ⟨below_alloc (below_alloc (Below.refl _ _) _) _, blk_alloc (blk_new w _) _, .int .i64 0, .int .i64 0, .string ⟨#[]⟩, ?_⟩
 have := blk_new (w.alloc (.cells #[u, v] 71)) (.cells #[.int .i64 0, .int .i64 0, .string ⟨#[]⟩] 23)
 rwa [World.size_alloc] at this
theorem EvS.step {u v : Value} {w W W' : World} (h : EvS u v w W) (hb : Below W.heap.size W W') : EvS u v w W' := by
 obtain ⟨h1, h2, x0, x1, x2, h3⟩ := h
 exact ⟨below_step h1 hb, blk_below h2 hb, x0, x1, x2, blk_below h3 hb⟩
theorem EvS.drew {u v : Value} {w W : World} (h : EvS u v w W) : EvS u v w W.drew := h.step (below_drew1 (Below.refl _ _))
theorem EvS.put {u v : Value} {w W : World} (h : EvS u v w W) (y0 y1 y2 : Value) : EvS u v w (((W.setCell ⟨w.heap.size + 1, 0, none⟩ y0).setCell ⟨w.heap.size + 1, 1, none⟩ y1).setCell ⟨w.heap.size + 1, 2, none⟩ y2) := by
 obtain ⟨h1, h2, x0, x1, x2, h3⟩ := h
 have hne : w.heap.size ≠ w.heap.size + 1 := by omega
 refine ⟨below_put3 h1 (by omega) _ _ _, ?_, y0, y1, y2, blkput3 h3 _ _ _⟩
 exact (Below.heap_setCell _ _ _ _ hne).trans ((Below.heap_setCell _ _ _ _ hne).trans ((Below.heap_setCell _ _ _ _ hne).trans h2))
theorem EvS.done {u v : Value} {w W : World} (h : EvS u v w W) (y0 y1 y2 : Value) : (((W.setCell ⟨w.heap.size + 1, 0, none⟩ y0).setCell ⟨w.heap.size + 1, 1, none⟩ y1).setCell ⟨w.heap.size + 1, 2, none⟩ y2).heap[w.heap.size + 1]? = some (.cells #[y0, y1, y2] 23 (0, 0)) := by
 obtain ⟨h1, h2, x0, x1, x2, h3⟩ := h
 exact blkput3 h3 _ _ _
theorem EvS.asks {u v : Value} {w W : World} (h : EvS u v w W) : W.cell? ⟨w.heap.size, 0, none⟩ = some u ∧ W.cell? ⟨w.heap.size, 1, none⟩ = some v := ⟨(blk_cell h.ctx 0).trans rfl, (blk_cell h.ctx 1).trans rfl⟩
theorem EvS.room {u v : Value} {w W : World} (h : EvS u v w W) : (∃ x0 x1 x2, W.cell? ⟨w.heap.size + 1, 0, none⟩ = some x0 ∧ W.cell? ⟨w.heap.size + 1, 1, none⟩ = some x1 ∧ W.cell? ⟨w.heap.size + 1, 2, none⟩ = some x2) ∧ W.frozen? ⟨w.heap.size + 1, 0, none⟩ = false ∧ W.frozen? ⟨w.heap.size + 1, 1, none⟩ = false ∧ W.frozen? ⟨w.heap.size + 1, 2, none⟩ = false ∧ w.heap.size + 1 < W.heap.size := by
 obtain ⟨h1, h2, x0, x1, x2, h3⟩ := h
 obtain ⟨a, b, c, d, e, f⟩ := box3 h3
 exact ⟨⟨x0, x1, x2, a, b, c⟩, d, e, f, blk_lt h3⟩
theorem evc_of {q : Addr} {n : Int} {u v : Value} {w W : World} (hq : w.cell? q = some (.int .i64 n)) (h : EvS u v w W) : W.cell? q = some (.int .i64 n) ∧ W.cell? ⟨w.heap.size, 0, none⟩ = some u ∧ W.cell? ⟨w.heap.size, 1, none⟩ = some v ∧ EvS u v w W :=
 ⟨pw_cell_below h.below hq, h.asks.1, h.asks.2, h⟩
theorem evc_step {q : Addr} {n : Int} {u v : Value} {w W W' : World} (h : W.cell? q = some (.int .i64 n) ∧ W.cell? ⟨w.heap.size, 0, none⟩ = some u ∧ W.cell? ⟨w.heap.size, 1, none⟩ = some v ∧ EvS u v w W) (hb : Below W.heap.size W W') : W'.cell? q = some (.int .i64 n) ∧ W'.cell? ⟨w.heap.size, 0, none⟩ = some u ∧ W'.cell? ⟨w.heap.size, 1, none⟩ = some v ∧ EvS u v w W' :=
 ⟨pw_cell_below hb h.1, pw_cell_below hb h.2.1, pw_cell_below hb h.2.2.1, h.2.2.2.step hb⟩
theorem evc_drew {q : Addr} {n : Int} {u v : Value} {w W : World} (h : W.cell? q = some (.int .i64 n) ∧ W.cell? ⟨w.heap.size, 0, none⟩ = some u ∧ W.cell? ⟨w.heap.size, 1, none⟩ = some v ∧ EvS u v w W) : W.drew.cell? q = some (.int .i64 n) ∧ W.drew.cell? ⟨w.heap.size, 0, none⟩ = some u ∧ W.drew.cell? ⟨w.heap.size, 1, none⟩ = some v ∧ EvS u v w W.drew := evc_step h (below_drew1 (Below.refl _ _))
theorem evc_put {q : Addr} {n : Int} {u v : Value} {w W : World} (hq : w.cell? q = some (.int .i64 n)) (h : W.cell? q = some (.int .i64 n) ∧ W.cell? ⟨w.heap.size, 0, none⟩ = some u ∧ W.cell? ⟨w.heap.size, 1, none⟩ = some v ∧ EvS u v w W) (y0 y1 y2 : Value) : (((W.setCell ⟨w.heap.size + 1, 0, none⟩ y0).setCell ⟨w.heap.size + 1, 1, none⟩ y1).setCell ⟨w.heap.size + 1, 2, none⟩ y2).cell? q = some (.int .i64 n) ∧ (((W.setCell ⟨w.heap.size + 1, 0, none⟩ y0).setCell ⟨w.heap.size + 1, 1, none⟩ y1).setCell ⟨w.heap.size + 1, 2, none⟩ y2).cell? ⟨w.heap.size, 0, none⟩ = some u ∧ (((W.setCell ⟨w.heap.size + 1, 0, none⟩ y0).setCell ⟨w.heap.size + 1, 1, none⟩ y1).setCell ⟨w.heap.size + 1, 2, none⟩ y2).cell? ⟨w.heap.size, 1, none⟩ = some v ∧ EvS u v w (((W.setCell ⟨w.heap.size + 1, 0, none⟩ y0).setCell ⟨w.heap.size + 1, 1, none⟩ y1).setCell ⟨w.heap.size + 1, 2, none⟩ y2) :=
 evc_of hq (h.2.2.2.put y0 y1 y2)
section
variable {P : Program} {ops : Array Oper} {Q : Exit → Act → World → Prop} {md : Region.Mode} {S : World → Prop} {ds : List Nat}
theorem one1_ {i : Nat} {N : Option Tmp} {oi : Oper} {fuel : Nat} {l : Array Bool} {a : Act} {w : World} (li : Array Bool) (hi : ops[i]? = some oi) (hN : oi.dst = N) (hc : (Region.ready md ops l == [i] && l.setIfInBounds i true == li) = true) (hdi : i ∉ ds)
  (h1 : ∀ K : Act → World → Prop, Shut (∀ a' w', S w' → (S w' → wpAnyLast P md ops Q S ds fuel li a' w') → K a' w') → if Region.wanted oi (yielded ops a.tmps) = true then Oper.wp P oi a w K Q else K (a.put N undef) w) :
  wpAnyLast P md ops Q S ds (fuel + 1) l a w := by
 subst hN
 simp only [Bool.and_eq_true, beq_iff_eq] at hc
 obtain ⟨h4, h5⟩ := hc
 subst h5
 exact wpAnyLast_ready h4 (by simp) (AllReadyL.cons hi hdi (fun K hK => h1 K hK) AllReadyL.nil)
end
section
variable {P : Program} {ops : Array Oper} {Q : Exit → Act → World → Prop}
theorem callP_ {oi : Oper} {N : Option Tmp} {a : Act} {w : World} {K : Act → World → Prop} (f : FuncId) (args : Array Value) (hw : Region.wanted oi (yielded ops a.tmps) = true) (hrun : (execOp a.eval oi).run P w = .ok (.enter f args) w)
  (h : Calls P f args w fun e w' => ∃ c, e = .panicked c ∧ Q (.panic c) a w') : if Region.wanted oi (yielded ops a.tmps) = true then Oper.wp P oi a w K Q else K (a.put N undef) w := by
 rw [if_pos hw]
 unfold Oper.wp
 rw [hrun, Oper.upon_enter]
 refine h.mono fun e w'' hh => ?_
 obtain ⟨c, rfl, hk⟩ := hh
 exact hk
theorem goesP_ {oi : Oper} {N : Option Tmp} {a : Act} {w : World} {K : Act → World → Prop} {f : FuncId} {fn : Func} {as_ : Array Operand} {ts : Array TypeId} (hf : P.funcs[f]? = some fn) (hname : (fn.name == "runtime.NumGoroutine") = false) (hb : fn.body.isSome = true) (args : Array Value)
  (hw : Region.wanted oi (yielded ops a.tmps) = true) (hop : oi.op = .call { callee := .value (.func f), args := as_, argTypes := ts }) (hargs : as_.map a.eval = args)
  (h : Calls P f args w fun e w' => ∃ c, e = .panicked c ∧ Q (.panic c) a w') : if Region.wanted oi (yielded ops a.tmps) = true then Oper.wp P oi a w K Q else K (a.put N undef) w := by
 refine callP_ f args hw ?_ h
 have he := enters_ hf hname hb args w
 unfold execOp
 simp [hop, resolve, Deferred.ofValue, invoke, Act.eval, hargs, he]
theorem goesTP_ {oi : Oper} {N : Option Tmp} {a : Act} {w : World} {K : Act → World → Prop} {f : FuncId} {fn : Func} {as_ : Array Operand} {ts : Array TypeId} {x : Operand} (hf : P.funcs[f]? = some fn) (hname : (fn.name == "runtime.NumGoroutine") = false) (hb : fn.body.isSome = true) (args : Array Value)
  (hw : Region.wanted oi (yielded ops a.tmps) = true) (hop : oi.op = .call { callee := .value x, args := as_, argTypes := ts }) (hx : a.eval x = .func (.func f) #[] #[]) (hargs : as_.map a.eval = args)
  (h : Calls P f args w fun e w' => ∃ c, e = .panicked c ∧ Q (.panic c) a w') : if Region.wanted oi (yielded ops a.tmps) = true then Oper.wp P oi a w K Q else K (a.put N undef) w := by
 refine callP_ f args hw ?_ h
 have he := enters_ hf hname hb args w
 unfold execOp
 simp [hop, resolve, hx, Deferred.ofValue, invoke, hargs, he]
end
end Go.Proofs.YtopolnbffmljaaaDoor.Q
namespace Go.Proofs.YtopolnbffmljaaaDoor.Q
attribute [local go_sem high] eqV
theorem blk_new1e (w : World) (o1 o2 : Obj) : ((w.alloc o1).alloc o2).heap[w.heap.size + 1]? = some o2 := by
 have := blk_new (w.alloc o1) o2
 rwa [World.size_alloc] at this
structure EvL (cs : Array Value) (w : World) (bs : List (Nat × Va)) (W : World) : Prop where
 below : Below w.heap.size w W
 box : W.heap[w.heap.size]? = some (.cells cs 26 (0, 0))
 res : ∃ x0 x1 x2, W.heap[w.heap.size + 1]? = some (.cells #[x0, x1, x2] 23 (0, 0))
 all : ∀ p ∈ bs, W.heap[p.1]? = some (.cells #[.int .i64 p.2.f0, .int .i64 p.2.f1, .string p.2.f2] 23 (0, 0)) ∧ w.heap.size + 2 ≤ p.1
theorem EvL.new (cs : Array Value) (w : World) : EvL cs w [] ((w.alloc (.cells cs 26)).alloc (.cells #[.int .i64 0, .int .i64 0, .string ⟨#[]⟩] 23)) :=
 ⟨below_alloc (below_alloc (Below.refl _ _) _) _, blk_alloc (blk_new w _) _, ⟨_, _, _, blk_new1e w _ _⟩, fun p hp => by cases hp⟩
theorem EvL.step {cs : Array Value} {w W W' : World} {bs : List (Nat × Va)} (h : EvL cs w bs W) (hb : Below W.heap.size W W') : EvL cs w bs W' := by
 obtain ⟨h1, h2, ⟨x0, x1, x2, h3⟩, h4⟩ := h
 exact ⟨below_step h1 hb, blk_below h2 hb, ⟨x0, x1, x2, blk_below h3 hb⟩, fun p hp => ⟨blk_below (h4 p hp).1 hb, (h4 p hp).2⟩⟩
theorem EvL.room {cs : Array Value} {w W : World} {bs : List (Nat × Va)} (h : EvL cs w bs W) : w.heap.size + 2 ≤ W.heap.size := by
 obtain ⟨_, _, _, h3⟩ := h.res
 have := blk_lt h3
 omega
theorem EvL.add {cs : Array Value} {w W : World} {bs : List (Nat × Va)} (h : EvL cs w bs W) (y : Va) : EvL cs w ((W.heap.size, y) :: bs) (W.alloc (.cells #[.int .i64 y.f0, .int .i64 y.f1, .string y.f2] 23)) := by
 have hr := h.room
 have hs := h.step (below_alloc (Below.refl W.heap.size W) (.cells #[.int .i64 y.f0, .int .i64 y.f1, .string y.f2] 23))
 refine ⟨hs.below, hs.box, hs.res, fun p hp => ?_⟩
 rcases List.mem_cons.1 hp with rfl | hp
 ·exact ⟨blk_new W _, hr⟩
 ·exact hs.all p hp
theorem EvL.cells {x0 x1 x2 x3 x4 x5 : Value} {w W : World} {bs : List (Nat × Va)} (h : EvL #[x0, x1, x2, x3, x4, x5] w bs W) : W.cell? ⟨w.heap.size, 0, none⟩ = some x0 ∧ W.cell? ⟨w.heap.size, 1, none⟩ = some x1 ∧ W.cell? ⟨w.heap.size, 2, none⟩ = some x2 ∧ W.cell? ⟨w.heap.size, 3, none⟩ = some x3 ∧ W.cell? ⟨w.heap.size, 4, none⟩ = some x4 ∧ W.cell? ⟨w.heap.size, 5, none⟩ = some x5 :=
 ⟨(blk_cell h.box 0).trans rfl, (blk_cell h.box 1).trans rfl, (blk_cell h.box 2).trans rfl, (blk_cell h.box 3).trans rfl, (blk_cell h.box 4).trans rfl, (blk_cell h.box 5).trans rfl⟩
theorem EvL.at {cs : Array Value} {w W : World} {bs : List (Nat × Va)} (h : EvL cs w bs W) {g : Nat} {y : Va} (hm : (g, y) ∈ bs) : W.cell? ⟨g, 0, none⟩ = some (.int .i64 y.f0) ∧ W.cell? ⟨g, 1, none⟩ = some (.int .i64 y.f1) ∧ W.cell? ⟨g, 2, none⟩ = some (.string y.f2) :=
 let k := (h.all _ hm).1
 ⟨(blk_cell k 0).trans rfl, (blk_cell k 1).trans rfl, (blk_cell k 2).trans rfl⟩
def RetW (r : Wo) (w : World) (e : Ending) (w' : World) : Prop := e = .returned (.tuple #[.agg #[.int .i64 r.1.f0, .int .i64 r.1.f1, .string r.1.f2], .int .i64 r.2]) ∧ Below w.heap.size w w'
def KidR (B : Option Addr) (n2 c2 : Nat) (D : Option Addr) (n3 c3 : Nat) (q : Ex) (r : Wo) (w : World) : Prop := ∀ W, Below w.heap.size w W → ∀ A c, q.f3.length ≤ c → Kd.C k26 W A q.f3.length q.f3 →
 Calls Tryd.prog 38 #[.agg #[.int .i64 q.f0, .string q.f1, .int .i64 q.f2.f0, .int .i64 q.f2.f1, .string q.f2.f2, .slice A q.f3.length c], .slice B n2 c2, .slice D n3 c3] W (RetW r W)
def KX (w : World) (p0 p1 p2 p3 p4 p5 : Addr) (u0 u1 u2 u3 u4 u5 : Value) : Prop := w.cell? p0 = some u0 ∧ w.cell? p1 = some u1 ∧ w.cell? p2 = some u2 ∧ w.cell? p3 = some u3 ∧ w.cell? p4 = some u4 ∧ w.cell? p5 = some u5
theorem KX.below {w W : World} {p0 p1 p2 p3 p4 p5 : Addr} {u0 u1 u2 u3 u4 u5 : Value} (h : KX w p0 p1 p2 p3 p4 p5 u0 u1 u2 u3 u4 u5) (hb : Below w.heap.size w W) : W.cell? p0 = some u0 ∧ W.cell? p1 = some u1 ∧ W.cell? p2 = some u2 ∧ W.cell? p3 = some u3 ∧ W.cell? p4 = some u4 ∧ W.cell? p5 = some u5 :=
 ⟨pw_cell_below hb h.1, pw_cell_below hb h.2.1, pw_cell_below hb h.2.2.1, pw_cell_below hb h.2.2.2.1, pw_cell_below hb h.2.2.2.2.1, pw_cell_below hb h.2.2.2.2.2⟩
def tn (b : Bool) : Int := if b = true then 1 else 0
theorem truth_calls (b : Bool) (w : World) : Calls Tryd.prog 73 #[.bool b] w fun e w' => e = .returned (.agg #[.int .i64 2, .int .i64 (tn b), .string ⟨#[]⟩]) ∧ Below w.heap.size w w' :=
 headgateref13_truth.calls b 2 (tn b) ⟨#[]⟩ w (by unfold headgateref13_truth.f; cases b <;> rfl)
end Go.Proofs.YtopolnbffmljaaaDoor.Q
namespace Go.Proofs.YtopolnbffmljaaaDoor.Q
attribute [local go_sem high] eqV
set_option maxHeartbeats 8000000 in
set_option maxRecDepth 100000 in
theorem ev16n (nm : ByteArray) (v : Va) (ks : List Ex) (A : Option Addr) (c : Nat) (hl : ks.length ≤ c) (B : Option Addr) (n2 c2 : Nat) (D : Option Addr) (n3 c3 : Nat) (w : World) (hC : Kd.C k26 w A ks.length ks) (hk : ks.length = 1) (y : Va) (K0 : Aside0 (KidR B n2 c2 D n3 c3 (rd_T26 ks 0) (y, 0) w)) (hy : (y.f0 == 0) = true) :
  Calls Tryd.prog 38 #[.agg #[.int .i64 16, .string nm, .int .i64 v.f0, .int .i64 v.f1, .string v.f2, .slice A ks.length c], .slice B n2 c2, .slice D n3 c3] w (RetW ((y, 0)) w) := by
 have hu := Tryd.underlying23
 have HC := Aside0.mk hC
 have HK := Aside0.mk hk
 clear hk hC
 obtain ⟨ad0, A0, C0, e0, x00, x01, x02, x03, x04, x05, hl0, hi0⟩ := at_T26 HC.out 0 (by decide) (by have := HK.out; omega)
 cases e0
 simp only [show (Int.toNat 0 * 6 : Nat) = 0 from rfl, add_zero_] at x00 x01 x02 x03 x04 x05
 have HX0 := Aside0.mk (show KX w _ _ _ _ _ _ _ _ _ _ _ _ from ⟨x00, x01, x02, x03, x04, x05⟩)
 have HL0 := Aside0.mk hl0
 have HI0 := Aside0.mk hi0
 clear hl0 hi0 x00 x01 x02 x03 x04 x05
 have q0 : decide (((0 : Int)) < (ks.length : Int)) = true := decide_eq_true (by have := HK.out; omega)
 have t0 : decide ((0 : Nat) < ks.length) = true := decide_eq_true (by have := HK.out; omega)
 have v0 : ((0 : Nat) < ks.length) = True := eq_true (by have := HK.out; omega)
 have HE0 := Aside0.mk (EvL.new #[.int .i64 16, .string nm, .int .i64 v.f0, .int .i64 v.f1, .string v.f2, .slice (some ad0) ks.length c] w)
 go_enter Tryd.func38, Tryd.ntmps38
 go_upto_region 1 with (fail)
 generalize (w.alloc (.cells #[.int .i64 16, .string nm, .int .i64 v.f0, .int .i64 v.f1, .string v.f2, .slice (some ad0) ks.length c] 26)).alloc (.cells #[.int .i64 0, .int .i64 0, .string ⟨#[]⟩] 23) = W0 at HE0 ⊢
 obtain ⟨m0, m1, m2, m3, m4, m5⟩ := HE0.out.cells
 obtain ⟨_, _, _, hz⟩ := HE0.out.res
 obtain ⟨r0, r1, r2, g0, g1, g2⟩ := box3 hz
 have hlt := blk_lt hz
 have HZ0 := Aside0.mk hz
 clear hz
 obtain ⟨k0, k1, k2, k3, k4, k5⟩ := HX0.out.below HE0.out.below
 go_upto_region 9 with (go_at_call 38; refine (K0.out _ HE0.out.below _ _ HL0.out (Kd.C_below HI0.out HE0.out.below)).mono ?_; rintro e w1 ⟨rfl, hb1⟩; have HE1 := Aside0.mk (HE0.out.step hb1); clear hb1 m0 m1 m2 m3 m4 m5 r0 r1 r2 g0 g1 g2 hlt k0 k1 k2 k3 k4 k5)
 have HF1 := Aside0.mk (HE1.out.add y)
 generalize hg1 : w1.heap.size = g_y at HF1 ⊢
 generalize w1.alloc (.cells #[.int .i64 y.f0, .int .i64 y.f1, .string y.f2] 23) = W1 at HF1 ⊢
 clear HE1 hg1
 obtain ⟨m0, m1, m2, m3, m4, m5⟩ := HF1.out.cells
 obtain ⟨_, _, _, hz⟩ := HF1.out.res
 obtain ⟨r0, r1, r2, g0, g1, g2⟩ := box3 hz
 have hlt := blk_lt hz
 have HZ1 := Aside0.mk hz
 clear hz
 obtain ⟨y0, y1, y2⟩ := HF1.out.at (g := g_y) (y := y) (by simp)
 go_wp2
 refine bodyPost_ret (results_list rfl (by simp) (.cell _ _ _ _ _ rfl (blkput3 HZ1.out _ _ _) hu rfl (by kernel_rfl) (.tmp .nil))) rfl ⟨rfl, below_put3 HF1.out.below (by omega) _ _ _⟩
set_option maxHeartbeats 8000000 in
set_option maxRecDepth 100000 in
theorem ev16b (nm : ByteArray) (v : Va) (ks : List Ex) (A : Option Addr) (c : Nat) (hl : ks.length ≤ c) (B : Option Addr) (n2 c2 : Nat) (D : Option Addr) (n3 c3 : Nat) (w : World) (hC : Kd.C k26 w A ks.length ks) (hk : ks.length = 1) (y : Va) (K0 : Aside0 (KidR B n2 c2 D n3 c3 (rd_T26 ks 0) (y, 0) w)) (hy : (y.f0 == 0) = false) :
  Calls Tryd.prog 38 #[.agg #[.int .i64 16, .string nm, .int .i64 v.f0, .int .i64 v.f1, .string v.f2, .slice A ks.length c], .slice B n2 c2, .slice D n3 c3] w (RetW ((boolV (y.f1 == 0), 0)) w) := by
 have hu := Tryd.underlying23
 have HC := Aside0.mk hC
 have HK := Aside0.mk hk
 clear hk hC
 obtain ⟨ad0, A0, C0, e0, x00, x01, x02, x03, x04, x05, hl0, hi0⟩ := at_T26 HC.out 0 (by decide) (by have := HK.out; omega)
 cases e0
 simp only [show (Int.toNat 0 * 6 : Nat) = 0 from rfl, add_zero_] at x00 x01 x02 x03 x04 x05
 have HX0 := Aside0.mk (show KX w _ _ _ _ _ _ _ _ _ _ _ _ from ⟨x00, x01, x02, x03, x04, x05⟩)
 have HL0 := Aside0.mk hl0
 have HI0 := Aside0.mk hi0
 clear hl0 hi0 x00 x01 x02 x03 x04 x05
 have q0 : decide (((0 : Int)) < (ks.length : Int)) = true := decide_eq_true (by have := HK.out; omega)
 have t0 : decide ((0 : Nat) < ks.length) = true := decide_eq_true (by have := HK.out; omega)
 have v0 : ((0 : Nat) < ks.length) = True := eq_true (by have := HK.out; omega)
 have HE0 := Aside0.mk (EvL.new #[.int .i64 16, .string nm, .int .i64 v.f0, .int .i64 v.f1, .string v.f2, .slice (some ad0) ks.length c] w)
 go_enter Tryd.func38, Tryd.ntmps38
 go_upto_region 1 with (fail)
 generalize (w.alloc (.cells #[.int .i64 16, .string nm, .int .i64 v.f0, .int .i64 v.f1, .string v.f2, .slice (some ad0) ks.length c] 26)).alloc (.cells #[.int .i64 0, .int .i64 0, .string ⟨#[]⟩] 23) = W0 at HE0 ⊢
 obtain ⟨m0, m1, m2, m3, m4, m5⟩ := HE0.out.cells
 obtain ⟨_, _, _, hz⟩ := HE0.out.res
 obtain ⟨r0, r1, r2, g0, g1, g2⟩ := box3 hz
 have hlt := blk_lt hz
 have HZ0 := Aside0.mk hz
 clear hz
 obtain ⟨k0, k1, k2, k3, k4, k5⟩ := HX0.out.below HE0.out.below
 go_upto_region 9 with (go_at_call 38; refine (K0.out _ HE0.out.below _ _ HL0.out (Kd.C_below HI0.out HE0.out.below)).mono ?_; rintro e w1 ⟨rfl, hb1⟩; have HE1 := Aside0.mk (HE0.out.step hb1); clear hb1 m0 m1 m2 m3 m4 m5 r0 r1 r2 g0 g1 g2 hlt k0 k1 k2 k3 k4 k5)
 have HF1 := Aside0.mk (HE1.out.add y)
 generalize hg1 : w1.heap.size = g_y at HF1 ⊢
 generalize w1.alloc (.cells #[.int .i64 y.f0, .int .i64 y.f1, .string y.f2] 23) = W1 at HF1 ⊢
 clear HE1 hg1
 obtain ⟨m0, m1, m2, m3, m4, m5⟩ := HF1.out.cells
 obtain ⟨_, _, _, hz⟩ := HF1.out.res
 obtain ⟨r0, r1, r2, g0, g1, g2⟩ := box3 hz
 have hlt := blk_lt hz
 have HZ1 := Aside0.mk hz
 clear hz
 obtain ⟨y0, y1, y2⟩ := HF1.out.at (g := g_y) (y := y) (by simp)
 go_wp2_with (go_at_call 73; refine (truth_calls _ _).mono ?_; rintro e w2 ⟨rfl, hb2⟩; have HE2 := Aside0.mk (HF1.out.step hb2); clear hb2 m0 m1 m2 m3 m4 m5 r0 r1 r2 g0 g1 g2 hlt y0 y1 y2; obtain ⟨_, _, _, hz⟩ := HE2.out.res; obtain ⟨r0, r1, r2, g0, g1, g2⟩ := box3 hz; have hlt := blk_lt hz; have HZ2 := Aside0.mk hz; clear hz)
 refine bodyPost_ret (results_list rfl (by simp) (.cell _ _ _ _ _ rfl (blkput3 HZ2.out _ _ _) hu rfl (by kernel_rfl) (.tmp .nil))) rfl ⟨rfl, below_put3 HE2.out.below (by omega) _ _ _⟩
set_option maxHeartbeats 8000000 in
set_option maxRecDepth 100000 in
theorem ev17 (nm : ByteArray) (v : Va) (ks : List Ex) (A : Option Addr) (c : Nat) (hl : ks.length ≤ c) (B : Option Addr) (n2 c2 : Nat) (D : Option Addr) (n3 c3 : Nat) (w : World) (hC : Kd.C k26 w A ks.length ks) (hk : ks.length = 1) (y : Va) (K0 : Aside0 (KidR B n2 c2 D n3 c3 (rd_T26 ks 0) (y, 0) w))  :
  Calls Tryd.prog 38 #[.agg #[.int .i64 17, .string nm, .int .i64 v.f0, .int .i64 v.f1, .string v.f2, .slice A ks.length c], .slice B n2 c2, .slice D n3 c3] w (RetW ((boolV (y.f0 == 0), 0)) w) := by
 have hu := Tryd.underlying23
 have HC := Aside0.mk hC
 have HK := Aside0.mk hk
 clear hk hC
 obtain ⟨ad0, A0, C0, e0, x00, x01, x02, x03, x04, x05, hl0, hi0⟩ := at_T26 HC.out 0 (by decide) (by have := HK.out; omega)
 cases e0
 simp only [show (Int.toNat 0 * 6 : Nat) = 0 from rfl, add_zero_] at x00 x01 x02 x03 x04 x05
 have HX0 := Aside0.mk (show KX w _ _ _ _ _ _ _ _ _ _ _ _ from ⟨x00, x01, x02, x03, x04, x05⟩)
 have HL0 := Aside0.mk hl0
 have HI0 := Aside0.mk hi0
 clear hl0 hi0 x00 x01 x02 x03 x04 x05
 have q0 : decide (((0 : Int)) < (ks.length : Int)) = true := decide_eq_true (by have := HK.out; omega)
 have t0 : decide ((0 : Nat) < ks.length) = true := decide_eq_true (by have := HK.out; omega)
 have v0 : ((0 : Nat) < ks.length) = True := eq_true (by have := HK.out; omega)
 have HE0 := Aside0.mk (EvL.new #[.int .i64 17, .string nm, .int .i64 v.f0, .int .i64 v.f1, .string v.f2, .slice (some ad0) ks.length c] w)
 go_enter Tryd.func38, Tryd.ntmps38
 go_upto_region 1 with (fail)
 generalize (w.alloc (.cells #[.int .i64 17, .string nm, .int .i64 v.f0, .int .i64 v.f1, .string v.f2, .slice (some ad0) ks.length c] 26)).alloc (.cells #[.int .i64 0, .int .i64 0, .string ⟨#[]⟩] 23) = W0 at HE0 ⊢
 obtain ⟨m0, m1, m2, m3, m4, m5⟩ := HE0.out.cells
 obtain ⟨_, _, _, hz⟩ := HE0.out.res
 obtain ⟨r0, r1, r2, g0, g1, g2⟩ := box3 hz
 have hlt := blk_lt hz
 have HZ0 := Aside0.mk hz
 clear hz
 obtain ⟨k0, k1, k2, k3, k4, k5⟩ := HX0.out.below HE0.out.below
 go_upto_region 9 with (go_at_call 38; refine (K0.out _ HE0.out.below _ _ HL0.out (Kd.C_below HI0.out HE0.out.below)).mono ?_; rintro e w1 ⟨rfl, hb1⟩; have HE1 := Aside0.mk (HE0.out.step hb1); clear hb1 m0 m1 m2 m3 m4 m5 r0 r1 r2 g0 g1 g2 hlt k0 k1 k2 k3 k4 k5)
 have HF1 := Aside0.mk (HE1.out.add y)
 generalize hg1 : w1.heap.size = g_y at HF1 ⊢
 generalize w1.alloc (.cells #[.int .i64 y.f0, .int .i64 y.f1, .string y.f2] 23) = W1 at HF1 ⊢
 clear HE1 hg1
 obtain ⟨m0, m1, m2, m3, m4, m5⟩ := HF1.out.cells
 obtain ⟨_, _, _, hz⟩ := HF1.out.res
 obtain ⟨r0, r1, r2, g0, g1, g2⟩ := box3 hz
 have hlt := blk_lt hz
 have HZ1 := Aside0.mk hz
 clear hz
 obtain ⟨y0, y1, y2⟩ := HF1.out.at (g := g_y) (y := y) (by simp)
 go_wp2_with (go_at_call 73; refine (truth_calls _ _).mono ?_; rintro e w2 ⟨rfl, hb2⟩; have HE2 := Aside0.mk (HF1.out.step hb2); clear hb2 m0 m1 m2 m3 m4 m5 r0 r1 r2 g0 g1 g2 hlt y0 y1 y2; obtain ⟨_, _, _, hz⟩ := HE2.out.res; obtain ⟨r0, r1, r2, g0, g1, g2⟩ := box3 hz; have hlt := blk_lt hz; have HZ2 := Aside0.mk hz; clear hz)
 refine bodyPost_ret (results_list rfl (by simp) (.cell _ _ _ _ _ rfl (blkput3 HZ2.out _ _ _) hu rfl (by kernel_rfl) (.tmp .nil))) rfl ⟨rfl, below_put3 HE2.out.below (by omega) _ _ _⟩
set_option maxHeartbeats 8000000 in
set_option maxRecDepth 100000 in
theorem ev20n (nm : ByteArray) (v : Va) (ks : List Ex) (A : Option Addr) (c : Nat) (hl : ks.length ≤ c) (B : Option Addr) (n2 c2 : Nat) (D : Option Addr) (n3 c3 : Nat) (w : World) (hC : Kd.C k26 w A ks.length ks) (hk : ks.length = 1) (y : Va) (K0 : Aside0 (KidR B n2 c2 D n3 c3 (rd_T26 ks 0) (y, 0) w)) (hy : (y.f0 == 0) = true) :
  Calls Tryd.prog 38 #[.agg #[.int .i64 20, .string nm, .int .i64 v.f0, .int .i64 v.f1, .string v.f2, .slice A ks.length c], .slice B n2 c2, .slice D n3 c3] w (RetW ((y, 0)) w) := by
 have hu := Tryd.underlying23
 have HC := Aside0.mk hC
 have HK := Aside0.mk hk
 clear hk hC
 obtain ⟨ad0, A0, C0, e0, x00, x01, x02, x03, x04, x05, hl0, hi0⟩ := at_T26 HC.out 0 (by decide) (by have := HK.out; omega)
 cases e0
 simp only [show (Int.toNat 0 * 6 : Nat) = 0 from rfl, add_zero_] at x00 x01 x02 x03 x04 x05
 have HX0 := Aside0.mk (show KX w _ _ _ _ _ _ _ _ _ _ _ _ from ⟨x00, x01, x02, x03, x04, x05⟩)
 have HL0 := Aside0.mk hl0
 have HI0 := Aside0.mk hi0
 clear hl0 hi0 x00 x01 x02 x03 x04 x05
 have q0 : decide (((0 : Int)) < (ks.length : Int)) = true := decide_eq_true (by have := HK.out; omega)
 have t0 : decide ((0 : Nat) < ks.length) = true := decide_eq_true (by have := HK.out; omega)
 have v0 : ((0 : Nat) < ks.length) = True := eq_true (by have := HK.out; omega)
 have HE0 := Aside0.mk (EvL.new #[.int .i64 20, .string nm, .int .i64 v.f0, .int .i64 v.f1, .string v.f2, .slice (some ad0) ks.length c] w)
 go_enter Tryd.func38, Tryd.ntmps38
 go_upto_region 1 with (fail)
 generalize (w.alloc (.cells #[.int .i64 20, .string nm, .int .i64 v.f0, .int .i64 v.f1, .string v.f2, .slice (some ad0) ks.length c] 26)).alloc (.cells #[.int .i64 0, .int .i64 0, .string ⟨#[]⟩] 23) = W0 at HE0 ⊢
 obtain ⟨m0, m1, m2, m3, m4, m5⟩ := HE0.out.cells
 obtain ⟨_, _, _, hz⟩ := HE0.out.res
 obtain ⟨r0, r1, r2, g0, g1, g2⟩ := box3 hz
 have hlt := blk_lt hz
 have HZ0 := Aside0.mk hz
 clear hz
 obtain ⟨k0, k1, k2, k3, k4, k5⟩ := HX0.out.below HE0.out.below
 go_upto_region 9 with (go_at_call 38; refine (K0.out _ HE0.out.below _ _ HL0.out (Kd.C_below HI0.out HE0.out.below)).mono ?_; rintro e w1 ⟨rfl, hb1⟩; have HE1 := Aside0.mk (HE0.out.step hb1); clear hb1 m0 m1 m2 m3 m4 m5 r0 r1 r2 g0 g1 g2 hlt k0 k1 k2 k3 k4 k5)
 have HF1 := Aside0.mk (HE1.out.add y)
 generalize hg1 : w1.heap.size = g_y at HF1 ⊢
 generalize w1.alloc (.cells #[.int .i64 y.f0, .int .i64 y.f1, .string y.f2] 23) = W1 at HF1 ⊢
 clear HE1 hg1
 obtain ⟨m0, m1, m2, m3, m4, m5⟩ := HF1.out.cells
 obtain ⟨_, _, _, hz⟩ := HF1.out.res
 obtain ⟨r0, r1, r2, g0, g1, g2⟩ := box3 hz
 have hlt := blk_lt hz
 have HZ1 := Aside0.mk hz
 clear hz
 obtain ⟨y0, y1, y2⟩ := HF1.out.at (g := g_y) (y := y) (by simp)
 go_wp2
 refine bodyPost_ret (results_list rfl (by simp) (.cell _ _ _ _ _ rfl (blkput3 HZ1.out _ _ _) hu rfl (by kernel_rfl) (.tmp .nil))) rfl ⟨rfl, below_put3 HF1.out.below (by omega) _ _ _⟩
set_option maxHeartbeats 8000000 in
set_option maxRecDepth 100000 in
theorem ev20t (nm : ByteArray) (v : Va) (ks : List Ex) (A : Option Addr) (c : Nat) (hl : ks.length ≤ c) (B : Option Addr) (n2 c2 : Nat) (D : Option Addr) (n3 c3 : Nat) (w : World) (hC : Kd.C k26 w A ks.length ks) (hk : ks.length = 1) (y : Va) (K0 : Aside0 (KidR B n2 c2 D n3 c3 (rd_T26 ks 0) (y, 0) w)) (hy : (y.f0 == 0) = false) :
  Calls Tryd.prog 38 #[.agg #[.int .i64 20, .string nm, .int .i64 v.f0, .int .i64 v.f1, .string v.f2, .slice A ks.length c], .slice B n2 c2, .slice D n3 c3] w (RetW ((intV y.f2.size, 0)) w) := by
 have hu := Tryd.underlying23
 have HC := Aside0.mk hC
 have HK := Aside0.mk hk
 clear hk hC
 obtain ⟨ad0, A0, C0, e0, x00, x01, x02, x03, x04, x05, hl0, hi0⟩ := at_T26 HC.out 0 (by decide) (by have := HK.out; omega)
 cases e0
 simp only [show (Int.toNat 0 * 6 : Nat) = 0 from rfl, add_zero_] at x00 x01 x02 x03 x04 x05
 have HX0 := Aside0.mk (show KX w _ _ _ _ _ _ _ _ _ _ _ _ from ⟨x00, x01, x02, x03, x04, x05⟩)
 have HL0 := Aside0.mk hl0
 have HI0 := Aside0.mk hi0
 clear hl0 hi0 x00 x01 x02 x03 x04 x05
 have q0 : decide (((0 : Int)) < (ks.length : Int)) = true := decide_eq_true (by have := HK.out; omega)
 have t0 : decide ((0 : Nat) < ks.length) = true := decide_eq_true (by have := HK.out; omega)
 have v0 : ((0 : Nat) < ks.length) = True := eq_true (by have := HK.out; omega)
 have HE0 := Aside0.mk (EvL.new #[.int .i64 20, .string nm, .int .i64 v.f0, .int .i64 v.f1, .string v.f2, .slice (some ad0) ks.length c] w)
 go_enter Tryd.func38, Tryd.ntmps38
 go_upto_region 1 with (fail)
 generalize (w.alloc (.cells #[.int .i64 20, .string nm, .int .i64 v.f0, .int .i64 v.f1, .string v.f2, .slice (some ad0) ks.length c] 26)).alloc (.cells #[.int .i64 0, .int .i64 0, .string ⟨#[]⟩] 23) = W0 at HE0 ⊢
 obtain ⟨m0, m1, m2, m3, m4, m5⟩ := HE0.out.cells
 obtain ⟨_, _, _, hz⟩ := HE0.out.res
 obtain ⟨r0, r1, r2, g0, g1, g2⟩ := box3 hz
 have hlt := blk_lt hz
 have HZ0 := Aside0.mk hz
 clear hz
 obtain ⟨k0, k1, k2, k3, k4, k5⟩ := HX0.out.below HE0.out.below
 go_upto_region 9 with (go_at_call 38; refine (K0.out _ HE0.out.below _ _ HL0.out (Kd.C_below HI0.out HE0.out.below)).mono ?_; rintro e w1 ⟨rfl, hb1⟩; have HE1 := Aside0.mk (HE0.out.step hb1); clear hb1 m0 m1 m2 m3 m4 m5 r0 r1 r2 g0 g1 g2 hlt k0 k1 k2 k3 k4 k5)
 have HF1 := Aside0.mk (HE1.out.add y)
 generalize hg1 : w1.heap.size = g_y at HF1 ⊢
 generalize w1.alloc (.cells #[.int .i64 y.f0, .int .i64 y.f1, .string y.f2] 23) = W1 at HF1 ⊢
 clear HE1 hg1
 obtain ⟨m0, m1, m2, m3, m4, m5⟩ := HF1.out.cells
 obtain ⟨_, _, _, hz⟩ := HF1.out.res
 obtain ⟨r0, r1, r2, g0, g1, g2⟩ := box3 hz
 have hlt := blk_lt hz
 have HZ1 := Aside0.mk hz
 clear hz
 obtain ⟨y0, y1, y2⟩ := HF1.out.at (g := g_y) (y := y) (by simp)
 go_wp2
 refine bodyPost_ret (results_list rfl (by simp) (.cell _ _ _ _ _ rfl (blkput3 HZ1.out _ _ _) hu rfl (by kernel_rfl) (.tmp .nil))) rfl ⟨rfl, below_put3 HF1.out.below (by omega) _ _ _⟩
set_option maxHeartbeats 8000000 in
set_option maxRecDepth 100000 in
theorem ev9 (nm : ByteArray) (v : Va) (ks : List Ex) (A : Option Addr) (c : Nat) (hl : ks.length ≤ c) (B : Option Addr) (n2 c2 : Nat) (D : Option Addr) (n3 c3 : Nat) (w : World) (hC : Kd.C k26 w A ks.length ks) (hk : ks.length = 1) (y : Va) (K0 : Aside0 (KidR B n2 c2 D n3 c3 (rd_T26 ks 0) (y, 0) w)) (r : Wo) (hr : headgateref13_reckon.f 1 5 1 0 ⟨#[]⟩ y.f0 y.f1 y.f2 = some (r.1.f0, r.1.f1, r.1.f2, r.2)) :
  Calls Tryd.prog 38 #[.agg #[.int .i64 9, .string nm, .int .i64 v.f0, .int .i64 v.f1, .string v.f2, .slice A ks.length c], .slice B n2 c2, .slice D n3 c3] w (RetW (r) w) := by
 have hu := Tryd.underlying23
 have HC := Aside0.mk hC
 have HK := Aside0.mk hk
 clear hk hC
 obtain ⟨ad0, A0, C0, e0, x00, x01, x02, x03, x04, x05, hl0, hi0⟩ := at_T26 HC.out 0 (by decide) (by have := HK.out; omega)
 cases e0
 simp only [show (Int.toNat 0 * 6 : Nat) = 0 from rfl, add_zero_] at x00 x01 x02 x03 x04 x05
 have HX0 := Aside0.mk (show KX w _ _ _ _ _ _ _ _ _ _ _ _ from ⟨x00, x01, x02, x03, x04, x05⟩)
 have HL0 := Aside0.mk hl0
 have HI0 := Aside0.mk hi0
 clear hl0 hi0 x00 x01 x02 x03 x04 x05
 have q0 : decide (((0 : Int)) < (ks.length : Int)) = true := decide_eq_true (by have := HK.out; omega)
 have t0 : decide ((0 : Nat) < ks.length) = true := decide_eq_true (by have := HK.out; omega)
 have v0 : ((0 : Nat) < ks.length) = True := eq_true (by have := HK.out; omega)
 have HE0 := Aside0.mk (EvL.new #[.int .i64 9, .string nm, .int .i64 v.f0, .int .i64 v.f1, .string v.f2, .slice (some ad0) ks.length c] w)
 go_enter Tryd.func38, Tryd.ntmps38
 go_upto_region 1 with (fail)
 generalize (w.alloc (.cells #[.int .i64 9, .string nm, .int .i64 v.f0, .int .i64 v.f1, .string v.f2, .slice (some ad0) ks.length c] 26)).alloc (.cells #[.int .i64 0, .int .i64 0, .string ⟨#[]⟩] 23) = W0 at HE0 ⊢
 obtain ⟨m0, m1, m2, m3, m4, m5⟩ := HE0.out.cells
 obtain ⟨_, _, _, hz⟩ := HE0.out.res
 obtain ⟨r0, r1, r2, g0, g1, g2⟩ := box3 hz
 have hlt := blk_lt hz
 have HZ0 := Aside0.mk hz
 clear hz
 obtain ⟨k0, k1, k2, k3, k4, k5⟩ := HX0.out.below HE0.out.below
 go_upto_region 9 with (go_at_call 38; refine (K0.out _ HE0.out.below _ _ HL0.out (Kd.C_below HI0.out HE0.out.below)).mono ?_; rintro e w1 ⟨rfl, hb1⟩; have HE1 := Aside0.mk (HE0.out.step hb1); clear hb1 m0 m1 m2 m3 m4 m5 r0 r1 r2 g0 g1 g2 hlt k0 k1 k2 k3 k4 k5)
 have HF1 := Aside0.mk (HE1.out.add y)
 generalize hg1 : w1.heap.size = g_y at HF1 ⊢
 generalize w1.alloc (.cells #[.int .i64 y.f0, .int .i64 y.f1, .string y.f2] 23) = W1 at HF1 ⊢
 clear HE1 hg1
 obtain ⟨m0, m1, m2, m3, m4, m5⟩ := HF1.out.cells
 obtain ⟨_, _, _, hz⟩ := HF1.out.res
 obtain ⟨r0, r1, r2, g0, g1, g2⟩ := box3 hz
 have hlt := blk_lt hz
 have HZ1 := Aside0.mk hz
 clear hz
 obtain ⟨y0, y1, y2⟩ := HF1.out.at (g := g_y) (y := y) (by simp)
 go_wp2_with (go_at_call 72; refine (headgateref13_reckon.calls 1 5 1 0 ⟨#[]⟩ y.f0 y.f1 y.f2 r.1.f0 r.1.f1 r.1.f2 r.2 _ hr).mono ?_; rintro e w2 ⟨rfl, hb2⟩; have HE2 := Aside0.mk (HF1.out.step hb2); clear hb2 m0 m1 m2 m3 m4 m5 r0 r1 r2 g0 g1 g2 hlt y0 y1 y2; obtain ⟨_, _, _, hz⟩ := HE2.out.res; obtain ⟨r0, r1, r2, g0, g1, g2⟩ := box3 hz; have hlt := blk_lt hz; have HZ2 := Aside0.mk hz; clear hz)
 refine bodyPost_ret (results_list rfl (by simp) (.cell _ _ _ _ _ rfl (blkput3 HZ2.out _ _ _) hu rfl (by kernel_rfl) (.tmp .nil))) rfl ⟨rfl, below_put3 HE2.out.below (by omega) _ _ _⟩
set_option maxHeartbeats 8000000 in
set_option maxRecDepth 100000 in
theorem everr (nm : ByteArray) (v : Va) (ks : List Ex) (A : Option Addr) (c : Nat) (hl : ks.length ≤ c) (B : Option Addr) (n2 c2 : Nat) (D : Option Addr) (n3 c3 : Nat) (w : World) (hC : Kd.C k26 w A ks.length ks) (hk : 0 < ks.length) (op : Int) (o1 : (op == 1) = false) (o2 : (op == 2) = false) (o3 : (op == 3) = false) (er : Int) (her : (er != 0) = true) (K0 : Aside0 (KidR B n2 c2 D n3 c3 (rd_T26 ks 0) (nullV, er) w))  :
  Calls Tryd.prog 38 #[.agg #[.int .i64 op, .string nm, .int .i64 v.f0, .int .i64 v.f1, .string v.f2, .slice A ks.length c], .slice B n2 c2, .slice D n3 c3] w (RetW ((nullV, er)) w) := by
 have hu := Tryd.underlying23
 have HC := Aside0.mk hC
 have HK := Aside0.mk hk
 clear hk hC
 obtain ⟨ad0, A0, C0, e0, x00, x01, x02, x03, x04, x05, hl0, hi0⟩ := at_T26 HC.out 0 (by decide) (by have := HK.out; omega)
 cases e0
 simp only [show (Int.toNat 0 * 6 : Nat) = 0 from rfl, add_zero_] at x00 x01 x02 x03 x04 x05
 have HX0 := Aside0.mk (show KX w _ _ _ _ _ _ _ _ _ _ _ _ from ⟨x00, x01, x02, x03, x04, x05⟩)
 have HL0 := Aside0.mk hl0
 have HI0 := Aside0.mk hi0
 clear hl0 hi0 x00 x01 x02 x03 x04 x05
 have q0 : decide (((0 : Int)) < (ks.length : Int)) = true := decide_eq_true (by have := HK.out; omega)
 have t0 : decide ((0 : Nat) < ks.length) = true := decide_eq_true (by have := HK.out; omega)
 have v0 : ((0 : Nat) < ks.length) = True := eq_true (by have := HK.out; omega)
 have HE0 := Aside0.mk (EvL.new #[.int .i64 op, .string nm, .int .i64 v.f0, .int .i64 v.f1, .string v.f2, .slice (some ad0) ks.length c] w)
 go_enter Tryd.func38, Tryd.ntmps38
 go_upto_region 1 with (fail)
 generalize (w.alloc (.cells #[.int .i64 op, .string nm, .int .i64 v.f0, .int .i64 v.f1, .string v.f2, .slice (some ad0) ks.length c] 26)).alloc (.cells #[.int .i64 0, .int .i64 0, .string ⟨#[]⟩] 23) = W0 at HE0 ⊢
 obtain ⟨m0, m1, m2, m3, m4, m5⟩ := HE0.out.cells
 obtain ⟨_, _, _, hz⟩ := HE0.out.res
 obtain ⟨r0, r1, r2, g0, g1, g2⟩ := box3 hz
 have hlt := blk_lt hz
 have HZ0 := Aside0.mk hz
 clear hz
 obtain ⟨k0, k1, k2, k3, k4, k5⟩ := HX0.out.below HE0.out.below
 go_wp2_with (go_at_call 38; refine (K0.out _ HE0.out.below _ _ HL0.out (Kd.C_below HI0.out HE0.out.below)).mono ?_; rintro e w1 ⟨rfl, hb1⟩; have HE1 := Aside0.mk (HE0.out.step hb1); clear hb1 m0 m1 m2 m3 m4 m5 r0 r1 r2 g0 g1 g2 hlt k0 k1 k2 k3 k4 k5; obtain ⟨_, _, _, hz⟩ := HE1.out.res; obtain ⟨r0, r1, r2, g0, g1, g2⟩ := box3 hz; have hlt := blk_lt hz; have HZ1 := Aside0.mk hz; clear hz)
 refine bodyPost_ret (results_list rfl (by simp) (.cell _ _ _ _ _ rfl (blk_alloc (blkput3 HZ1.out _ _ _) _) hu rfl (by kernel_rfl) (.tmp .nil))) rfl ⟨rfl, below_alloc (below_put3 HE1.out.below (by omega) _ _ _) _⟩
end Go.Proofs.YtopolnbffmljaaaDoor.Q
namespace Go.Proofs.YtopolnbffmljaaaDoor.Q
attribute [local go_sem high] eqV
set_option maxHeartbeats 8000000 in
set_option maxRecDepth 100000 in
theorem ev18t (nm : ByteArray) (v : Va) (ks : List Ex) (A : Option Addr) (c : Nat) (hl : ks.length ≤ c) (B : Option Addr) (n2 c2 : Nat) (D : Option Addr) (n3 c3 : Nat) (w : World) (hC : Kd.C k26 w A ks.length ks) (hk : ks.length = 3) (y : Va) (r : Wo) (K0 : Aside0 (KidR B n2 c2 D n3 c3 (rd_T26 ks 0) (y, 0) w)) (K1 : Aside0 (KidR B n2 c2 D n3 c3 (rd_T26 ks 1) r w)) (hy : eqv y.f0 2 y.f1 (tn true) y.f2 ⟨#[]⟩ = true)  :
  Calls Tryd.prog 38 #[.agg #[.int .i64 18, .string nm, .int .i64 v.f0, .int .i64 v.f1, .string v.f2, .slice A ks.length c], .slice B n2 c2, .slice D n3 c3] w (RetW (r) w) := by
 have hu := Tryd.underlying23
 have HC := Aside0.mk hC
 have HK := Aside0.mk hk
 clear hk hC
 obtain ⟨ad0, A0, C0, e0, x00, x01, x02, x03, x04, x05, hl0, hi0⟩ := at_T26 HC.out 0 (by decide) (by have := HK.out; omega)
 cases e0
 simp only [show (Int.toNat 0 * 6 : Nat) = 0 from rfl, add_zero_] at x00 x01 x02 x03 x04 x05
 have HX0 := Aside0.mk (show KX w _ _ _ _ _ _ _ _ _ _ _ _ from ⟨x00, x01, x02, x03, x04, x05⟩)
 have HL0 := Aside0.mk hl0
 have HI0 := Aside0.mk hi0
 clear hl0 hi0 x00 x01 x02 x03 x04 x05
 have q0 : decide (((0 : Int)) < (ks.length : Int)) = true := decide_eq_true (by have := HK.out; omega)
 have t0 : decide ((0 : Nat) < ks.length) = true := decide_eq_true (by have := HK.out; omega)
 have v0 : ((0 : Nat) < ks.length) = True := eq_true (by have := HK.out; omega)
 obtain ⟨ad1, A1, C1, e1, x10, x11, x12, x13, x14, x15, hl1, hi1⟩ := at_T26 HC.out 1 (by decide) (by have := HK.out; omega)
 cases e1
 simp only [show (Int.toNat 1 * 6 : Nat) = 6 from rfl, add_pos_ _ 6 (by decide)] at x10 x11 x12 x13 x14 x15
 have HX1 := Aside0.mk (show KX w _ _ _ _ _ _ _ _ _ _ _ _ from ⟨x10, x11, x12, x13, x14, x15⟩)
 have HL1 := Aside0.mk hl1
 have HI1 := Aside0.mk hi1
 clear hl1 hi1 x10 x11 x12 x13 x14 x15
 have q1 : decide (((1 : Int)) < (ks.length : Int)) = true := decide_eq_true (by have := HK.out; omega)
 have t1 : decide ((1 : Nat) < ks.length) = true := decide_eq_true (by have := HK.out; omega)
 have v1 : ((1 : Nat) < ks.length) = True := eq_true (by have := HK.out; omega)
 have u1 : ((1 : Int) < (ks.length : Int)) = True := eq_true (by have := HK.out; omega)
 have HE0 := Aside0.mk (EvL.new #[.int .i64 18, .string nm, .int .i64 v.f0, .int .i64 v.f1, .string v.f2, .slice (some ad0) ks.length c] w)
 go_enter Tryd.func38, Tryd.ntmps38
 go_upto_region 1 with (fail)
 generalize (w.alloc (.cells #[.int .i64 18, .string nm, .int .i64 v.f0, .int .i64 v.f1, .string v.f2, .slice (some ad0) ks.length c] 26)).alloc (.cells #[.int .i64 0, .int .i64 0, .string ⟨#[]⟩] 23) = W0 at HE0 ⊢
 obtain ⟨m0, m1, m2, m3, m4, m5⟩ := HE0.out.cells
 obtain ⟨_, _, _, hz⟩ := HE0.out.res
 obtain ⟨r0, r1, r2, g0, g1, g2⟩ := box3 hz
 have hlt := blk_lt hz
 have HZ0 := Aside0.mk hz
 clear hz
 obtain ⟨k0, k1, k2, k3, k4, k5⟩ := HX0.out.below HE0.out.below
 go_upto_region 9 with (go_at_call 38; refine (K0.out _ HE0.out.below _ _ HL0.out (Kd.C_below HI0.out HE0.out.below)).mono ?_; rintro e w1 ⟨rfl, hb1⟩; have HE1 := Aside0.mk (HE0.out.step hb1); clear hb1 m0 m1 m2 m3 m4 m5 r0 r1 r2 g0 g1 g2 hlt k0 k1 k2 k3 k4 k5)
 have HF1 := Aside0.mk (HE1.out.add y)
 generalize hg1 : w1.heap.size = g_y at HF1 ⊢
 generalize w1.alloc (.cells #[.int .i64 y.f0, .int .i64 y.f1, .string y.f2] 23) = W1 at HF1 ⊢
 clear HE1 hg1
 obtain ⟨m0, m1, m2, m3, m4, m5⟩ := HF1.out.cells
 obtain ⟨_, _, _, hz⟩ := HF1.out.res
 obtain ⟨r0, r1, r2, g0, g1, g2⟩ := box3 hz
 have hlt := blk_lt hz
 have HZ1 := Aside0.mk hz
 clear hz
 obtain ⟨y0, y1, y2⟩ := HF1.out.at (g := g_y) (y := y) (by simp)
 go_upto_region 27 with (fail)
 go_region_with (go_at_call 73; refine (truth_calls true _).mono ?_; rintro e w2 ⟨rfl, hb2⟩; have HE2 : Aside0 (EvL #[.int .i64 18, .string nm, .int .i64 v.f0, .int .i64 v.f1, .string v.f2, .slice (some ad0) ks.length c] w [(g_y, y)] w2) := ⟨HF1.out.step (below_step (by with_reducible repeat (first | exact Below.refl _ _ | apply pw_below_drewN | apply below_drew1)) hb2)⟩; clear hb2 m0 m1 m2 m3 m4 m5 r0 r1 r2 g0 g1 g2 hlt y0 y1 y2; have yf : Aside0 (w2.cell? ⟨g_y, 0, none⟩ = some (.int .i64 y.f0) ∧ w2.cell? ⟨g_y, 1, none⟩ = some (.int .i64 y.f1) ∧ w2.cell? ⟨g_y, 2, none⟩ = some (.string y.f2)) := ⟨HE2.out.at (by simp)⟩; obtain ⟨y0, y1, y2⟩ := yf.out)
 all_goals
  obtain ⟨m0, m1, m2, m3, m4, m5⟩ := HE2.out.cells
  obtain ⟨_, _, _, hz⟩ := HE2.out.res
  obtain ⟨r0, r1, r2, g0, g1, g2⟩ := box3 hz
  have hlt := blk_lt hz
  have HZ2 := Aside0.mk hz
  clear hz
  obtain ⟨y0, y1, y2⟩ := HE2.out.at (g := g_y) (y := y) (by simp)
  obtain ⟨k0, k1, k2, k3, k4, k5⟩ := HX1.out.below HE2.out.below
  go_wp2_with (go_at_call 38; refine (K1.out _ HE2.out.below _ _ HL1.out (Kd.C_below HI1.out HE2.out.below)).mono ?_; rintro e w3 ⟨rfl, hb3⟩; have HE3 := Aside0.mk (HE2.out.step hb3); clear hb3 m0 m1 m2 m3 m4 m5 r0 r1 r2 g0 g1 g2 hlt y0 y1 y2 k0 k1 k2 k3 k4 k5; obtain ⟨_, _, _, hz⟩ := HE3.out.res; obtain ⟨r0, r1, r2, g0, g1, g2⟩ := box3 hz; have hlt := blk_lt hz; have HZ3 := Aside0.mk hz; clear hz)
  refine bodyPost_ret (results_list rfl (by simp) (.cell _ _ _ _ _ rfl (blkput3 HZ3.out _ _ _) hu rfl (by kernel_rfl) (.tmp .nil))) rfl ⟨rfl, below_put3 HE3.out.below (by omega) _ _ _⟩
set_option maxHeartbeats 8000000 in
set_option maxRecDepth 100000 in
theorem ev18f (nm : ByteArray) (v : Va) (ks : List Ex) (A : Option Addr) (c : Nat) (hl : ks.length ≤ c) (B : Option Addr) (n2 c2 : Nat) (D : Option Addr) (n3 c3 : Nat) (w : World) (hC : Kd.C k26 w A ks.length ks) (hk : ks.length = 3) (y : Va) (r : Wo) (K0 : Aside0 (KidR B n2 c2 D n3 c3 (rd_T26 ks 0) (y, 0) w)) (K2 : Aside0 (KidR B n2 c2 D n3 c3 (rd_T26 ks 2) r w)) (hy : eqv y.f0 2 y.f1 (tn true) y.f2 ⟨#[]⟩ = false)  :
  Calls Tryd.prog 38 #[.agg #[.int .i64 18, .string nm, .int .i64 v.f0, .int .i64 v.f1, .string v.f2, .slice A ks.length c], .slice B n2 c2, .slice D n3 c3] w (RetW (r) w) := by
 have hu := Tryd.underlying23
 have HC := Aside0.mk hC
 have HK := Aside0.mk hk
 clear hk hC
 obtain ⟨ad0, A0, C0, e0, x00, x01, x02, x03, x04, x05, hl0, hi0⟩ := at_T26 HC.out 0 (by decide) (by have := HK.out; omega)
 cases e0
 simp only [show (Int.toNat 0 * 6 : Nat) = 0 from rfl, add_zero_] at x00 x01 x02 x03 x04 x05
 have HX0 := Aside0.mk (show KX w _ _ _ _ _ _ _ _ _ _ _ _ from ⟨x00, x01, x02, x03, x04, x05⟩)
 have HL0 := Aside0.mk hl0
 have HI0 := Aside0.mk hi0
 clear hl0 hi0 x00 x01 x02 x03 x04 x05
 have q0 : decide (((0 : Int)) < (ks.length : Int)) = true := decide_eq_true (by have := HK.out; omega)
 have t0 : decide ((0 : Nat) < ks.length) = true := decide_eq_true (by have := HK.out; omega)
 have v0 : ((0 : Nat) < ks.length) = True := eq_true (by have := HK.out; omega)
 obtain ⟨ad2, A2, C2, e2, x20, x21, x22, x23, x24, x25, hl2, hi2⟩ := at_T26 HC.out 2 (by decide) (by have := HK.out; omega)
 cases e2
 simp only [show (Int.toNat 2 * 6 : Nat) = 12 from rfl, add_pos_ _ 12 (by decide)] at x20 x21 x22 x23 x24 x25
 have HX2 := Aside0.mk (show KX w _ _ _ _ _ _ _ _ _ _ _ _ from ⟨x20, x21, x22, x23, x24, x25⟩)
 have HL2 := Aside0.mk hl2
 have HI2 := Aside0.mk hi2
 clear hl2 hi2 x20 x21 x22 x23 x24 x25
 have q2 : decide (((2 : Int)) < (ks.length : Int)) = true := decide_eq_true (by have := HK.out; omega)
 have t2 : decide ((2 : Nat) < ks.length) = true := decide_eq_true (by have := HK.out; omega)
 have v2 : ((2 : Nat) < ks.length) = True := eq_true (by have := HK.out; omega)
 have u2 : ((2 : Int) < (ks.length : Int)) = True := eq_true (by have := HK.out; omega)
 have HE0 := Aside0.mk (EvL.new #[.int .i64 18, .string nm, .int .i64 v.f0, .int .i64 v.f1, .string v.f2, .slice (some ad0) ks.length c] w)
 go_enter Tryd.func38, Tryd.ntmps38
 go_upto_region 1 with (fail)
 generalize (w.alloc (.cells #[.int .i64 18, .string nm, .int .i64 v.f0, .int .i64 v.f1, .string v.f2, .slice (some ad0) ks.length c] 26)).alloc (.cells #[.int .i64 0, .int .i64 0, .string ⟨#[]⟩] 23) = W0 at HE0 ⊢
 obtain ⟨m0, m1, m2, m3, m4, m5⟩ := HE0.out.cells
 obtain ⟨_, _, _, hz⟩ := HE0.out.res
 obtain ⟨r0, r1, r2, g0, g1, g2⟩ := box3 hz
 have hlt := blk_lt hz
 have HZ0 := Aside0.mk hz
 clear hz
 obtain ⟨k0, k1, k2, k3, k4, k5⟩ := HX0.out.below HE0.out.below
 go_upto_region 9 with (go_at_call 38; refine (K0.out _ HE0.out.below _ _ HL0.out (Kd.C_below HI0.out HE0.out.below)).mono ?_; rintro e w1 ⟨rfl, hb1⟩; have HE1 := Aside0.mk (HE0.out.step hb1); clear hb1 m0 m1 m2 m3 m4 m5 r0 r1 r2 g0 g1 g2 hlt k0 k1 k2 k3 k4 k5)
 have HF1 := Aside0.mk (HE1.out.add y)
 generalize hg1 : w1.heap.size = g_y at HF1 ⊢
 generalize w1.alloc (.cells #[.int .i64 y.f0, .int .i64 y.f1, .string y.f2] 23) = W1 at HF1 ⊢
 clear HE1 hg1
 obtain ⟨m0, m1, m2, m3, m4, m5⟩ := HF1.out.cells
 obtain ⟨_, _, _, hz⟩ := HF1.out.res
 obtain ⟨r0, r1, r2, g0, g1, g2⟩ := box3 hz
 have hlt := blk_lt hz
 have HZ1 := Aside0.mk hz
 clear hz
 obtain ⟨y0, y1, y2⟩ := HF1.out.at (g := g_y) (y := y) (by simp)
 go_upto_region 27 with (fail)
 go_region_with (go_at_call 73; refine (truth_calls true _).mono ?_; rintro e w2 ⟨rfl, hb2⟩; have HE2 : Aside0 (EvL #[.int .i64 18, .string nm, .int .i64 v.f0, .int .i64 v.f1, .string v.f2, .slice (some ad0) ks.length c] w [(g_y, y)] w2) := ⟨HF1.out.step (below_step (by with_reducible repeat (first | exact Below.refl _ _ | apply pw_below_drewN | apply below_drew1)) hb2)⟩; clear hb2 m0 m1 m2 m3 m4 m5 r0 r1 r2 g0 g1 g2 hlt y0 y1 y2; have yf : Aside0 (w2.cell? ⟨g_y, 0, none⟩ = some (.int .i64 y.f0) ∧ w2.cell? ⟨g_y, 1, none⟩ = some (.int .i64 y.f1) ∧ w2.cell? ⟨g_y, 2, none⟩ = some (.string y.f2)) := ⟨HE2.out.at (by simp)⟩; obtain ⟨y0, y1, y2⟩ := yf.out)
 all_goals
  obtain ⟨m0, m1, m2, m3, m4, m5⟩ := HE2.out.cells
  obtain ⟨_, _, _, hz⟩ := HE2.out.res
  obtain ⟨r0, r1, r2, g0, g1, g2⟩ := box3 hz
  have hlt := blk_lt hz
  have HZ2 := Aside0.mk hz
  clear hz
  obtain ⟨y0, y1, y2⟩ := HE2.out.at (g := g_y) (y := y) (by simp)
  obtain ⟨k0, k1, k2, k3, k4, k5⟩ := HX2.out.below HE2.out.below
  go_wp2_with (go_at_call 38; refine (K2.out _ HE2.out.below _ _ HL2.out (Kd.C_below HI2.out HE2.out.below)).mono ?_; rintro e w3 ⟨rfl, hb3⟩; have HE3 := Aside0.mk (HE2.out.step hb3); clear hb3 m0 m1 m2 m3 m4 m5 r0 r1 r2 g0 g1 g2 hlt y0 y1 y2 k0 k1 k2 k3 k4 k5; obtain ⟨_, _, _, hz⟩ := HE3.out.res; obtain ⟨r0, r1, r2, g0, g1, g2⟩ := box3 hz; have hlt := blk_lt hz; have HZ3 := Aside0.mk hz; clear hz)
  refine bodyPost_ret (results_list rfl (by simp) (.cell _ _ _ _ _ rfl (blkput3 HZ3.out _ _ _) hu rfl (by kernel_rfl) (.tmp .nil))) rfl ⟨rfl, below_put3 HE3.out.below (by omega) _ _ _⟩
set_option maxHeartbeats 8000000 in
set_option maxRecDepth 100000 in
theorem ev19t (nm : ByteArray) (v : Va) (ks : List Ex) (A : Option Addr) (c : Nat) (hl : ks.length ≤ c) (B : Option Addr) (n2 c2 : Nat) (D : Option Addr) (n3 c3 : Nat) (w : World) (hC : Kd.C k26 w A ks.length ks) (hk : ks.length = 2) (y : Va) (K0 : Aside0 (KidR B n2 c2 D n3 c3 (rd_T26 ks 0) (y, 0) w)) (hy : (y.f0 != 0) = true) :
  Calls Tryd.prog 38 #[.agg #[.int .i64 19, .string nm, .int .i64 v.f0, .int .i64 v.f1, .string v.f2, .slice A ks.length c], .slice B n2 c2, .slice D n3 c3] w (RetW ((y, 0)) w) := by
 have hu := Tryd.underlying23
 have HC := Aside0.mk hC
 have HK := Aside0.mk hk
 clear hk hC
 obtain ⟨ad0, A0, C0, e0, x00, x01, x02, x03, x04, x05, hl0, hi0⟩ := at_T26 HC.out 0 (by decide) (by have := HK.out; omega)
 cases e0
 simp only [show (Int.toNat 0 * 6 : Nat) = 0 from rfl, add_zero_] at x00 x01 x02 x03 x04 x05
 have HX0 := Aside0.mk (show KX w _ _ _ _ _ _ _ _ _ _ _ _ from ⟨x00, x01, x02, x03, x04, x05⟩)
 have HL0 := Aside0.mk hl0
 have HI0 := Aside0.mk hi0
 clear hl0 hi0 x00 x01 x02 x03 x04 x05
 have q0 : decide (((0 : Int)) < (ks.length : Int)) = true := decide_eq_true (by have := HK.out; omega)
 have t0 : decide ((0 : Nat) < ks.length) = true := decide_eq_true (by have := HK.out; omega)
 have v0 : ((0 : Nat) < ks.length) = True := eq_true (by have := HK.out; omega)
 have HE0 := Aside0.mk (EvL.new #[.int .i64 19, .string nm, .int .i64 v.f0, .int .i64 v.f1, .string v.f2, .slice (some ad0) ks.length c] w)
 go_enter Tryd.func38, Tryd.ntmps38
 go_upto_region 1 with (fail)
 generalize (w.alloc (.cells #[.int .i64 19, .string nm, .int .i64 v.f0, .int .i64 v.f1, .string v.f2, .slice (some ad0) ks.length c] 26)).alloc (.cells #[.int .i64 0, .int .i64 0, .string ⟨#[]⟩] 23) = W0 at HE0 ⊢
 obtain ⟨m0, m1, m2, m3, m4, m5⟩ := HE0.out.cells
 obtain ⟨_, _, _, hz⟩ := HE0.out.res
 obtain ⟨r0, r1, r2, g0, g1, g2⟩ := box3 hz
 have hlt := blk_lt hz
 have HZ0 := Aside0.mk hz
 clear hz
 obtain ⟨k0, k1, k2, k3, k4, k5⟩ := HX0.out.below HE0.out.below
 go_upto_region 9 with (go_at_call 38; refine (K0.out _ HE0.out.below _ _ HL0.out (Kd.C_below HI0.out HE0.out.below)).mono ?_; rintro e w1 ⟨rfl, hb1⟩; have HE1 := Aside0.mk (HE0.out.step hb1); clear hb1 m0 m1 m2 m3 m4 m5 r0 r1 r2 g0 g1 g2 hlt k0 k1 k2 k3 k4 k5)
 have HF1 := Aside0.mk (HE1.out.add y)
 generalize hg1 : w1.heap.size = g_y at HF1 ⊢
 generalize w1.alloc (.cells #[.int .i64 y.f0, .int .i64 y.f1, .string y.f2] 23) = W1 at HF1 ⊢
 clear HE1 hg1
 obtain ⟨m0, m1, m2, m3, m4, m5⟩ := HF1.out.cells
 obtain ⟨_, _, _, hz⟩ := HF1.out.res
 obtain ⟨r0, r1, r2, g0, g1, g2⟩ := box3 hz
 have hlt := blk_lt hz
 have HZ1 := Aside0.mk hz
 clear hz
 obtain ⟨y0, y1, y2⟩ := HF1.out.at (g := g_y) (y := y) (by simp)
 go_wp2
 refine bodyPost_ret (results_list rfl (by simp) (.cell _ _ _ _ _ rfl (blkput3 HZ1.out _ _ _) hu rfl (by kernel_rfl) (.tmp .nil))) rfl ⟨rfl, below_put3 HF1.out.below (by omega) _ _ _⟩
set_option maxHeartbeats 8000000 in
set_option maxRecDepth 100000 in
theorem ev19n (nm : ByteArray) (v : Va) (ks : List Ex) (A : Option Addr) (c : Nat) (hl : ks.length ≤ c) (B : Option Addr) (n2 c2 : Nat) (D : Option Addr) (n3 c3 : Nat) (w : World) (hC : Kd.C k26 w A ks.length ks) (hk : ks.length = 2) (y : Va) (r : Wo) (K0 : Aside0 (KidR B n2 c2 D n3 c3 (rd_T26 ks 0) (y, 0) w)) (K1 : Aside0 (KidR B n2 c2 D n3 c3 (rd_T26 ks 1) r w)) (hy : (y.f0 != 0) = false) :
  Calls Tryd.prog 38 #[.agg #[.int .i64 19, .string nm, .int .i64 v.f0, .int .i64 v.f1, .string v.f2, .slice A ks.length c], .slice B n2 c2, .slice D n3 c3] w (RetW (r) w) := by
 have hu := Tryd.underlying23
 have HC := Aside0.mk hC
 have HK := Aside0.mk hk
 clear hk hC
 obtain ⟨ad0, A0, C0, e0, x00, x01, x02, x03, x04, x05, hl0, hi0⟩ := at_T26 HC.out 0 (by decide) (by have := HK.out; omega)
 cases e0
 simp only [show (Int.toNat 0 * 6 : Nat) = 0 from rfl, add_zero_] at x00 x01 x02 x03 x04 x05
 have HX0 := Aside0.mk (show KX w _ _ _ _ _ _ _ _ _ _ _ _ from ⟨x00, x01, x02, x03, x04, x05⟩)
 have HL0 := Aside0.mk hl0
 have HI0 := Aside0.mk hi0
 clear hl0 hi0 x00 x01 x02 x03 x04 x05
 have q0 : decide (((0 : Int)) < (ks.length : Int)) = true := decide_eq_true (by have := HK.out; omega)
 have t0 : decide ((0 : Nat) < ks.length) = true := decide_eq_true (by have := HK.out; omega)
 have v0 : ((0 : Nat) < ks.length) = True := eq_true (by have := HK.out; omega)
 obtain ⟨ad1, A1, C1, e1, x10, x11, x12, x13, x14, x15, hl1, hi1⟩ := at_T26 HC.out 1 (by decide) (by have := HK.out; omega)
 cases e1
 simp only [show (Int.toNat 1 * 6 : Nat) = 6 from rfl, add_pos_ _ 6 (by decide)] at x10 x11 x12 x13 x14 x15
 have HX1 := Aside0.mk (show KX w _ _ _ _ _ _ _ _ _ _ _ _ from ⟨x10, x11, x12, x13, x14, x15⟩)
 have HL1 := Aside0.mk hl1
 have HI1 := Aside0.mk hi1
 clear hl1 hi1 x10 x11 x12 x13 x14 x15
 have q1 : decide (((1 : Int)) < (ks.length : Int)) = true := decide_eq_true (by have := HK.out; omega)
 have t1 : decide ((1 : Nat) < ks.length) = true := decide_eq_true (by have := HK.out; omega)
 have v1 : ((1 : Nat) < ks.length) = True := eq_true (by have := HK.out; omega)
 have u1 : ((1 : Int) < (ks.length : Int)) = True := eq_true (by have := HK.out; omega)
 have HE0 := Aside0.mk (EvL.new #[.int .i64 19, .string nm, .int .i64 v.f0, .int .i64 v.f1, .string v.f2, .slice (some ad0) ks.length c] w)
 go_enter Tryd.func38, Tryd.ntmps38
 go_upto_region 1 with (fail)
 generalize (w.alloc (.cells #[.int .i64 19, .string nm, .int .i64 v.f0, .int .i64 v.f1, .string v.f2, .slice (some ad0) ks.length c] 26)).alloc (.cells #[.int .i64 0, .int .i64 0, .string ⟨#[]⟩] 23) = W0 at HE0 ⊢
 obtain ⟨m0, m1, m2, m3, m4, m5⟩ := HE0.out.cells
 obtain ⟨_, _, _, hz⟩ := HE0.out.res
 obtain ⟨r0, r1, r2, g0, g1, g2⟩ := box3 hz
 have hlt := blk_lt hz
 have HZ0 := Aside0.mk hz
 clear hz
 obtain ⟨k0, k1, k2, k3, k4, k5⟩ := HX0.out.below HE0.out.below
 go_upto_region 9 with (go_at_call 38; refine (K0.out _ HE0.out.below _ _ HL0.out (Kd.C_below HI0.out HE0.out.below)).mono ?_; rintro e w1 ⟨rfl, hb1⟩; have HE1 := Aside0.mk (HE0.out.step hb1); clear hb1 m0 m1 m2 m3 m4 m5 r0 r1 r2 g0 g1 g2 hlt k0 k1 k2 k3 k4 k5)
 have HF1 := Aside0.mk (HE1.out.add y)
 generalize hg1 : w1.heap.size = g_y at HF1 ⊢
 generalize w1.alloc (.cells #[.int .i64 y.f0, .int .i64 y.f1, .string y.f2] 23) = W1 at HF1 ⊢
 clear HE1 hg1
 obtain ⟨m0, m1, m2, m3, m4, m5⟩ := HF1.out.cells
 obtain ⟨_, _, _, hz⟩ := HF1.out.res
 obtain ⟨r0, r1, r2, g0, g1, g2⟩ := box3 hz
 have hlt := blk_lt hz
 have HZ1 := Aside0.mk hz
 clear hz
 obtain ⟨y0, y1, y2⟩ := HF1.out.at (g := g_y) (y := y) (by simp)
 obtain ⟨k0, k1, k2, k3, k4, k5⟩ := HX1.out.below HF1.out.below
 go_wp2_with (go_at_call 38; refine (K1.out _ HF1.out.below _ _ HL1.out (Kd.C_below HI1.out HF1.out.below)).mono ?_; rintro e w2 ⟨rfl, hb2⟩; have HE2 := Aside0.mk (HF1.out.step hb2); clear hb2 m0 m1 m2 m3 m4 m5 r0 r1 r2 g0 g1 g2 hlt y0 y1 y2 k0 k1 k2 k3 k4 k5; obtain ⟨_, _, _, hz⟩ := HE2.out.res; obtain ⟨r0, r1, r2, g0, g1, g2⟩ := box3 hz; have hlt := blk_lt hz; have HZ2 := Aside0.mk hz; clear hz)
 refine bodyPost_ret (results_list rfl (by simp) (.cell _ _ _ _ _ rfl (blkput3 HZ2.out _ _ _) hu rfl (by kernel_rfl) (.tmp .nil))) rfl ⟨rfl, below_put3 HE2.out.below (by omega) _ _ _⟩
end Go.Proofs.YtopolnbffmljaaaDoor.Q
namespace Go.Proofs.YtopolnbffmljaaaDoor.Q
attribute [local go_sem high] eqV
set_option maxHeartbeats 8000000 in
set_option maxRecDepth 100000 in
theorem ev2err (nm : ByteArray) (v : Va) (ks : List Ex) (A : Option Addr) (c : Nat) (hl : ks.length ≤ c) (B : Option Addr) (n2 c2 : Nat) (D : Option Addr) (n3 c3 : Nat) (w : World) (hC : Kd.C k26 w A ks.length ks) (hk : ks.length = 2) (op : Int) (o1 : (op == 1) = false) (o2 : (op == 2) = false) (o3 : (op == 3) = false) (o9 : (op == 9) = false) (o14 : (op == 14) = false) (o15 : (op == 15) = false) (o16 : (op == 16) = false) (o17 : (op == 17) = false) (o18 : (op == 18) = false) (o19 : (op == 19) = false) (o20 : (op == 20) = false) (y : Va) (er : Int) (her : (er != 0) = true) (K0 : Aside0 (KidR B n2 c2 D n3 c3 (rd_T26 ks 0) (y, 0) w)) (K1 : Aside0 (KidR B n2 c2 D n3 c3 (rd_T26 ks 1) (nullV, er) w))  :
  Calls Tryd.prog 38 #[.agg #[.int .i64 op, .string nm, .int .i64 v.f0, .int .i64 v.f1, .string v.f2, .slice A ks.length c], .slice B n2 c2, .slice D n3 c3] w (RetW ((nullV, er)) w) := by
 have hu := Tryd.underlying23
 have HC := Aside0.mk hC
 have HK := Aside0.mk hk
 clear hk hC
 obtain ⟨ad0, A0, C0, e0, x00, x01, x02, x03, x04, x05, hl0, hi0⟩ := at_T26 HC.out 0 (by decide) (by have := HK.out; omega)
 cases e0
 simp only [show (Int.toNat 0 * 6 : Nat) = 0 from rfl, add_zero_] at x00 x01 x02 x03 x04 x05
 have HX0 := Aside0.mk (show KX w _ _ _ _ _ _ _ _ _ _ _ _ from ⟨x00, x01, x02, x03, x04, x05⟩)
 have HL0 := Aside0.mk hl0
 have HI0 := Aside0.mk hi0
 clear hl0 hi0 x00 x01 x02 x03 x04 x05
 have q0 : decide (((0 : Int)) < (ks.length : Int)) = true := decide_eq_true (by have := HK.out; omega)
 have t0 : decide ((0 : Nat) < ks.length) = true := decide_eq_true (by have := HK.out; omega)
 have v0 : ((0 : Nat) < ks.length) = True := eq_true (by have := HK.out; omega)
 obtain ⟨ad1, A1, C1, e1, x10, x11, x12, x13, x14, x15, hl1, hi1⟩ := at_T26 HC.out 1 (by decide) (by have := HK.out; omega)
 cases e1
 simp only [show (Int.toNat 1 * 6 : Nat) = 6 from rfl, add_pos_ _ 6 (by decide)] at x10 x11 x12 x13 x14 x15
 have HX1 := Aside0.mk (show KX w _ _ _ _ _ _ _ _ _ _ _ _ from ⟨x10, x11, x12, x13, x14, x15⟩)
 have HL1 := Aside0.mk hl1
 have HI1 := Aside0.mk hi1
 clear hl1 hi1 x10 x11 x12 x13 x14 x15
 have q1 : decide (((1 : Int)) < (ks.length : Int)) = true := decide_eq_true (by have := HK.out; omega)
 have t1 : decide ((1 : Nat) < ks.length) = true := decide_eq_true (by have := HK.out; omega)
 have v1 : ((1 : Nat) < ks.length) = True := eq_true (by have := HK.out; omega)
 have u1 : ((1 : Int) < (ks.length : Int)) = True := eq_true (by have := HK.out; omega)
 have HE0 := Aside0.mk (EvL.new #[.int .i64 op, .string nm, .int .i64 v.f0, .int .i64 v.f1, .string v.f2, .slice (some ad0) ks.length c] w)
 go_enter Tryd.func38, Tryd.ntmps38
 go_upto_region 1 with (fail)
 generalize (w.alloc (.cells #[.int .i64 op, .string nm, .int .i64 v.f0, .int .i64 v.f1, .string v.f2, .slice (some ad0) ks.length c] 26)).alloc (.cells #[.int .i64 0, .int .i64 0, .string ⟨#[]⟩] 23) = W0 at HE0 ⊢
 obtain ⟨m0, m1, m2, m3, m4, m5⟩ := HE0.out.cells
 obtain ⟨_, _, _, hz⟩ := HE0.out.res
 obtain ⟨r0, r1, r2, g0, g1, g2⟩ := box3 hz
 have hlt := blk_lt hz
 have HZ0 := Aside0.mk hz
 clear hz
 obtain ⟨k0, k1, k2, k3, k4, k5⟩ := HX0.out.below HE0.out.below
 go_upto_region 9 with (go_at_call 38; refine (K0.out _ HE0.out.below _ _ HL0.out (Kd.C_below HI0.out HE0.out.below)).mono ?_; rintro e w1 ⟨rfl, hb1⟩; have HE1 := Aside0.mk (HE0.out.step hb1); clear hb1 m0 m1 m2 m3 m4 m5 r0 r1 r2 g0 g1 g2 hlt k0 k1 k2 k3 k4 k5)
 have HF1 := Aside0.mk (HE1.out.add y)
 generalize hg1 : w1.heap.size = g_y at HF1 ⊢
 generalize w1.alloc (.cells #[.int .i64 y.f0, .int .i64 y.f1, .string y.f2] 23) = W1 at HF1 ⊢
 clear HE1 hg1
 obtain ⟨m0, m1, m2, m3, m4, m5⟩ := HF1.out.cells
 obtain ⟨_, _, _, hz⟩ := HF1.out.res
 obtain ⟨r0, r1, r2, g0, g1, g2⟩ := box3 hz
 have hlt := blk_lt hz
 have HZ1 := Aside0.mk hz
 clear hz
 obtain ⟨y0, y1, y2⟩ := HF1.out.at (g := g_y) (y := y) (by simp)
 obtain ⟨k0, k1, k2, k3, k4, k5⟩ := HX1.out.below HF1.out.below
 go_wp2_with (go_at_call 38; refine (K1.out _ HF1.out.below _ _ HL1.out (Kd.C_below HI1.out HF1.out.below)).mono ?_; rintro e w2 ⟨rfl, hb2⟩; have HE2 := Aside0.mk (HF1.out.step hb2); clear hb2 m0 m1 m2 m3 m4 m5 r0 r1 r2 g0 g1 g2 hlt y0 y1 y2 k0 k1 k2 k3 k4 k5; obtain ⟨_, _, _, hz⟩ := HE2.out.res; obtain ⟨r0, r1, r2, g0, g1, g2⟩ := box3 hz; have hlt := blk_lt hz; have HZ2 := Aside0.mk hz; clear hz)
 refine bodyPost_ret (results_list rfl (by simp) (.cell _ _ _ _ _ rfl (blk_alloc (blkput3 HZ2.out _ _ _) _) hu rfl (by kernel_rfl) (.tmp .nil))) rfl ⟨rfl, below_alloc (below_put3 HE2.out.below (by omega) _ _ _) _⟩
set_option maxHeartbeats 8000000 in
set_option maxRecDepth 100000 in
theorem evar (nm : ByteArray) (v : Va) (ks : List Ex) (A : Option Addr) (c : Nat) (hl : ks.length ≤ c) (B : Option Addr) (n2 c2 : Nat) (D : Option Addr) (n3 c3 : Nat) (w : World) (hC : Kd.C k26 w A ks.length ks) (hk : ks.length = 2) (op : Int) (o1 : (op == 1) = false) (o2 : (op == 2) = false) (o3 : (op == 3) = false) (o9 : (op == 9) = false) (o14 : (op == 14) = false) (o15 : (op == 15) = false) (o16 : (op == 16) = false) (o17 : (op == 17) = false) (o18 : (op == 18) = false) (o19 : (op == 19) = false) (o20 : (op == 20) = false) (ole : decide (op ≤ 8) = true) (y z : Va) (K0 : Aside0 (KidR B n2 c2 D n3 c3 (rd_T26 ks 0) (y, 0) w)) (K1 : Aside0 (KidR B n2 c2 D n3 c3 (rd_T26 ks 1) (z, 0) w)) (r : Wo) (hr : headgateref13_reckon.f 1 op y.f0 y.f1 y.f2 z.f0 z.f1 z.f2 = some (r.1.f0, r.1.f1, r.1.f2, r.2)) :
  Calls Tryd.prog 38 #[.agg #[.int .i64 op, .string nm, .int .i64 v.f0, .int .i64 v.f1, .string v.f2, .slice A ks.length c], .slice B n2 c2, .slice D n3 c3] w (RetW (r) w) := by
 have hu := Tryd.underlying23
 have HC := Aside0.mk hC
 have HK := Aside0.mk hk
 clear hk hC
 obtain ⟨ad0, A0, C0, e0, x00, x01, x02, x03, x04, x05, hl0, hi0⟩ := at_T26 HC.out 0 (by decide) (by have := HK.out; omega)
 cases e0
 simp only [show (Int.toNat 0 * 6 : Nat) = 0 from rfl, add_zero_] at x00 x01 x02 x03 x04 x05
 have HX0 := Aside0.mk (show KX w _ _ _ _ _ _ _ _ _ _ _ _ from ⟨x00, x01, x02, x03, x04, x05⟩)
 have HL0 := Aside0.mk hl0
 have HI0 := Aside0.mk hi0
 clear hl0 hi0 x00 x01 x02 x03 x04 x05
 have q0 : decide (((0 : Int)) < (ks.length : Int)) = true := decide_eq_true (by have := HK.out; omega)
 have t0 : decide ((0 : Nat) < ks.length) = true := decide_eq_true (by have := HK.out; omega)
 have v0 : ((0 : Nat) < ks.length) = True := eq_true (by have := HK.out; omega)
 obtain ⟨ad1, A1, C1, e1, x10, x11, x12, x13, x14, x15, hl1, hi1⟩ := at_T26 HC.out 1 (by decide) (by have := HK.out; omega)
 cases e1
 simp only [show (Int.toNat 1 * 6 : Nat) = 6 from rfl, add_pos_ _ 6 (by decide)] at x10 x11 x12 x13 x14 x15
 have HX1 := Aside0.mk (show KX w _ _ _ _ _ _ _ _ _ _ _ _ from ⟨x10, x11, x12, x13, x14, x15⟩)
 have HL1 := Aside0.mk hl1
 have HI1 := Aside0.mk hi1
 clear hl1 hi1 x10 x11 x12 x13 x14 x15
 have q1 : decide (((1 : Int)) < (ks.length : Int)) = true := decide_eq_true (by have := HK.out; omega)
 have t1 : decide ((1 : Nat) < ks.length) = true := decide_eq_true (by have := HK.out; omega)
 have v1 : ((1 : Nat) < ks.length) = True := eq_true (by have := HK.out; omega)
 have u1 : ((1 : Int) < (ks.length : Int)) = True := eq_true (by have := HK.out; omega)
 have HE0 := Aside0.mk (EvL.new #[.int .i64 op, .string nm, .int .i64 v.f0, .int .i64 v.f1, .string v.f2, .slice (some ad0) ks.length c] w)
 go_enter Tryd.func38, Tryd.ntmps38
 go_upto_region 1 with (fail)
 generalize (w.alloc (.cells #[.int .i64 op, .string nm, .int .i64 v.f0, .int .i64 v.f1, .string v.f2, .slice (some ad0) ks.length c] 26)).alloc (.cells #[.int .i64 0, .int .i64 0, .string ⟨#[]⟩] 23) = W0 at HE0 ⊢
 obtain ⟨m0, m1, m2, m3, m4, m5⟩ := HE0.out.cells
 obtain ⟨_, _, _, hz⟩ := HE0.out.res
 obtain ⟨r0, r1, r2, g0, g1, g2⟩ := box3 hz
 have hlt := blk_lt hz
 have HZ0 := Aside0.mk hz
 clear hz
 obtain ⟨k0, k1, k2, k3, k4, k5⟩ := HX0.out.below HE0.out.below
 go_upto_region 9 with (go_at_call 38; refine (K0.out _ HE0.out.below _ _ HL0.out (Kd.C_below HI0.out HE0.out.below)).mono ?_; rintro e w1 ⟨rfl, hb1⟩; have HE1 := Aside0.mk (HE0.out.step hb1); clear hb1 m0 m1 m2 m3 m4 m5 r0 r1 r2 g0 g1 g2 hlt k0 k1 k2 k3 k4 k5)
 have HF1 := Aside0.mk (HE1.out.add y)
 generalize hg1 : w1.heap.size = g_y at HF1 ⊢
 generalize w1.alloc (.cells #[.int .i64 y.f0, .int .i64 y.f1, .string y.f2] 23) = W1 at HF1 ⊢
 clear HE1 hg1
 obtain ⟨m0, m1, m2, m3, m4, m5⟩ := HF1.out.cells
 obtain ⟨_, _, _, hz⟩ := HF1.out.res
 obtain ⟨r0, r1, r2, g0, g1, g2⟩ := box3 hz
 have hlt := blk_lt hz
 have HZ1 := Aside0.mk hz
 clear hz
 obtain ⟨y0, y1, y2⟩ := HF1.out.at (g := g_y) (y := y) (by simp)
 obtain ⟨k0, k1, k2, k3, k4, k5⟩ := HX1.out.below HF1.out.below
 go_upto_region 39 with (go_at_call 38; refine (K1.out _ HF1.out.below _ _ HL1.out (Kd.C_below HI1.out HF1.out.below)).mono ?_; rintro e w2 ⟨rfl, hb2⟩; have HE2 := Aside0.mk (HF1.out.step hb2); clear hb2 m0 m1 m2 m3 m4 m5 r0 r1 r2 g0 g1 g2 hlt y0 y1 y2 k0 k1 k2 k3 k4 k5)
 have HF2 := Aside0.mk (HE2.out.add z)
 generalize hg2 : w2.heap.size = g_z at HF2 ⊢
 generalize w2.alloc (.cells #[.int .i64 z.f0, .int .i64 z.f1, .string z.f2] 23) = W2 at HF2 ⊢
 clear HE2 hg2
 obtain ⟨m0, m1, m2, m3, m4, m5⟩ := HF2.out.cells
 obtain ⟨_, _, _, hz⟩ := HF2.out.res
 obtain ⟨r0, r1, r2, g0, g1, g2⟩ := box3 hz
 have hlt := blk_lt hz
 have HZ2 := Aside0.mk hz
 clear hz
 obtain ⟨z0, z1, z2⟩ := HF2.out.at (g := g_z) (y := z) (by simp)
 obtain ⟨y0, y1, y2⟩ := HF2.out.at (g := g_y) (y := y) (by simp)
 go_wp2_with (go_at_call 72; refine (headgateref13_reckon.calls 1 op y.f0 y.f1 y.f2 z.f0 z.f1 z.f2 r.1.f0 r.1.f1 r.1.f2 r.2 _ hr).mono ?_; rintro e w3 ⟨rfl, hb3⟩; have HE3 := Aside0.mk (HF2.out.step hb3); clear hb3 m0 m1 m2 m3 m4 m5 r0 r1 r2 g0 g1 g2 hlt z0 z1 z2 y0 y1 y2; obtain ⟨_, _, _, hz⟩ := HE3.out.res; obtain ⟨r0, r1, r2, g0, g1, g2⟩ := box3 hz; have hlt := blk_lt hz; have HZ3 := Aside0.mk hz; clear hz)
 refine bodyPost_ret (results_list rfl (by simp) (.cell _ _ _ _ _ rfl (blkput3 HZ3.out _ _ _) hu rfl (by kernel_rfl) (.tmp .nil))) rfl ⟨rfl, below_put3 HE3.out.below (by omega) _ _ _⟩
set_option maxHeartbeats 8000000 in
set_option maxRecDepth 100000 in
theorem evcn1 (nm : ByteArray) (v : Va) (ks : List Ex) (A : Option Addr) (c : Nat) (hl : ks.length ≤ c) (B : Option Addr) (n2 c2 : Nat) (D : Option Addr) (n3 c3 : Nat) (w : World) (hC : Kd.C k26 w A ks.length ks) (hk : ks.length = 2) (op : Int) (o1 : (op == 1) = false) (o2 : (op == 2) = false) (o3 : (op == 3) = false) (o9 : (op == 9) = false) (o14 : (op == 14) = false) (o15 : (op == 15) = false) (o16 : (op == 16) = false) (o17 : (op == 17) = false) (o18 : (op == 18) = false) (o19 : (op == 19) = false) (o20 : (op == 20) = false) (ole : decide (op ≤ 8) = false) (y z : Va) (K0 : Aside0 (KidR B n2 c2 D n3 c3 (rd_T26 ks 0) (y, 0) w)) (K1 : Aside0 (KidR B n2 c2 D n3 c3 (rd_T26 ks 1) (z, 0) w)) (hy : (y.f0 == 0) = true) :
  Calls Tryd.prog 38 #[.agg #[.int .i64 op, .string nm, .int .i64 v.f0, .int .i64 v.f1, .string v.f2, .slice A ks.length c], .slice B n2 c2, .slice D n3 c3] w (RetW ((nullV, 0)) w) := by
 have hu := Tryd.underlying23
 have HC := Aside0.mk hC
 have HK := Aside0.mk hk
 clear hk hC
 obtain ⟨ad0, A0, C0, e0, x00, x01, x02, x03, x04, x05, hl0, hi0⟩ := at_T26 HC.out 0 (by decide) (by have := HK.out; omega)
 cases e0
 simp only [show (Int.toNat 0 * 6 : Nat) = 0 from rfl, add_zero_] at x00 x01 x02 x03 x04 x05
 have HX0 := Aside0.mk (show KX w _ _ _ _ _ _ _ _ _ _ _ _ from ⟨x00, x01, x02, x03, x04, x05⟩)
 have HL0 := Aside0.mk hl0
 have HI0 := Aside0.mk hi0
 clear hl0 hi0 x00 x01 x02 x03 x04 x05
 have q0 : decide (((0 : Int)) < (ks.length : Int)) = true := decide_eq_true (by have := HK.out; omega)
 have t0 : decide ((0 : Nat) < ks.length) = true := decide_eq_true (by have := HK.out; omega)
 have v0 : ((0 : Nat) < ks.length) = True := eq_true (by have := HK.out; omega)
 obtain ⟨ad1, A1, C1, e1, x10, x11, x12, x13, x14, x15, hl1, hi1⟩ := at_T26 HC.out 1 (by decide) (by have := HK.out; omega)
 cases e1
 simp only [show (Int.toNat 1 * 6 : Nat) = 6 from rfl, add_pos_ _ 6 (by decide)] at x10 x11 x12 x13 x14 x15
 have HX1 := Aside0.mk (show KX w _ _ _ _ _ _ _ _ _ _ _ _ from ⟨x10, x11, x12, x13, x14, x15⟩)
 have HL1 := Aside0.mk hl1
 have HI1 := Aside0.mk hi1
 clear hl1 hi1 x10 x11 x12 x13 x14 x15
 have q1 : decide (((1 : Int)) < (ks.length : Int)) = true := decide_eq_true (by have := HK.out; omega)
 have t1 : decide ((1 : Nat) < ks.length) = true := decide_eq_true (by have := HK.out; omega)
 have v1 : ((1 : Nat) < ks.length) = True := eq_true (by have := HK.out; omega)
 have u1 : ((1 : Int) < (ks.length : Int)) = True := eq_true (by have := HK.out; omega)
 have HE0 := Aside0.mk (EvL.new #[.int .i64 op, .string nm, .int .i64 v.f0, .int .i64 v.f1, .string v.f2, .slice (some ad0) ks.length c] w)
 go_enter Tryd.func38, Tryd.ntmps38
 go_upto_region 1 with (fail)
 generalize (w.alloc (.cells #[.int .i64 op, .string nm, .int .i64 v.f0, .int .i64 v.f1, .string v.f2, .slice (some ad0) ks.length c] 26)).alloc (.cells #[.int .i64 0, .int .i64 0, .string ⟨#[]⟩] 23) = W0 at HE0 ⊢
 obtain ⟨m0, m1, m2, m3, m4, m5⟩ := HE0.out.cells
 obtain ⟨_, _, _, hz⟩ := HE0.out.res
 obtain ⟨r0, r1, r2, g0, g1, g2⟩ := box3 hz
 have hlt := blk_lt hz
 have HZ0 := Aside0.mk hz
 clear hz
 obtain ⟨k0, k1, k2, k3, k4, k5⟩ := HX0.out.below HE0.out.below
 go_upto_region 9 with (go_at_call 38; refine (K0.out _ HE0.out.below _ _ HL0.out (Kd.C_below HI0.out HE0.out.below)).mono ?_; rintro e w1 ⟨rfl, hb1⟩; have HE1 := Aside0.mk (HE0.out.step hb1); clear hb1 m0 m1 m2 m3 m4 m5 r0 r1 r2 g0 g1 g2 hlt k0 k1 k2 k3 k4 k5)
 have HF1 := Aside0.mk (HE1.out.add y)
 generalize hg1 : w1.heap.size = g_y at HF1 ⊢
 generalize w1.alloc (.cells #[.int .i64 y.f0, .int .i64 y.f1, .string y.f2] 23) = W1 at HF1 ⊢
 clear HE1 hg1
 obtain ⟨m0, m1, m2, m3, m4, m5⟩ := HF1.out.cells
 obtain ⟨_, _, _, hz⟩ := HF1.out.res
 obtain ⟨r0, r1, r2, g0, g1, g2⟩ := box3 hz
 have hlt := blk_lt hz
 have HZ1 := Aside0.mk hz
 clear hz
 obtain ⟨y0, y1, y2⟩ := HF1.out.at (g := g_y) (y := y) (by simp)
 obtain ⟨k0, k1, k2, k3, k4, k5⟩ := HX1.out.below HF1.out.below
 go_upto_region 39 with (go_at_call 38; refine (K1.out _ HF1.out.below _ _ HL1.out (Kd.C_below HI1.out HF1.out.below)).mono ?_; rintro e w2 ⟨rfl, hb2⟩; have HE2 := Aside0.mk (HF1.out.step hb2); clear hb2 m0 m1 m2 m3 m4 m5 r0 r1 r2 g0 g1 g2 hlt y0 y1 y2 k0 k1 k2 k3 k4 k5)
 have HF2 := Aside0.mk (HE2.out.add z)
 generalize hg2 : w2.heap.size = g_z at HF2 ⊢
 generalize w2.alloc (.cells #[.int .i64 z.f0, .int .i64 z.f1, .string z.f2] 23) = W2 at HF2 ⊢
 clear HE2 hg2
 obtain ⟨m0, m1, m2, m3, m4, m5⟩ := HF2.out.cells
 obtain ⟨_, _, _, hz⟩ := HF2.out.res
 obtain ⟨r0, r1, r2, g0, g1, g2⟩ := box3 hz
 have hlt := blk_lt hz
 have HZ2 := Aside0.mk hz
 clear hz
 obtain ⟨z0, z1, z2⟩ := HF2.out.at (g := g_z) (y := z) (by simp)
 obtain ⟨y0, y1, y2⟩ := HF2.out.at (g := g_y) (y := y) (by simp)
 go_upto_region 43 with (fail)
 go_quiet (fail)
 have HQ2 := Aside0.mk (HF2.out.step (W' := W2.drewN nq) (by apply pw_below_drewN; exact Below.refl _ _))
 generalize W2.drewN nq = WQ at HQ2 ⊢
 clear m0 m1 m2 m3 m4 m5 r0 r1 r2 g0 g1 g2 hlt z0 z1 z2 y0 y1 y2
 obtain ⟨m0, m1, m2, m3, m4, m5⟩ := HQ2.out.cells
 obtain ⟨_, _, _, hz⟩ := HQ2.out.res
 obtain ⟨r0, r1, r2, g0, g1, g2⟩ := box3 hz
 have hlt := blk_lt hz
 have HZ2 := Aside0.mk hz
 clear hz
 obtain ⟨z0, z1, z2⟩ := HQ2.out.at (g := g_z) (y := z) (by simp)
 obtain ⟨y0, y1, y2⟩ := HQ2.out.at (g := g_y) (y := y) (by simp)
 go_wp2
 refine bodyPost_ret (results_list rfl (by simp) (.cell _ _ _ _ _ rfl (blkput3 HZ2.out _ _ _) hu rfl (by kernel_rfl) (.tmp .nil))) rfl ⟨rfl, below_put3 HQ2.out.below (by omega) _ _ _⟩
set_option maxHeartbeats 8000000 in
set_option maxRecDepth 100000 in
theorem evcn2 (nm : ByteArray) (v : Va) (ks : List Ex) (A : Option Addr) (c : Nat) (hl : ks.length ≤ c) (B : Option Addr) (n2 c2 : Nat) (D : Option Addr) (n3 c3 : Nat) (w : World) (hC : Kd.C k26 w A ks.length ks) (hk : ks.length = 2) (op : Int) (o1 : (op == 1) = false) (o2 : (op == 2) = false) (o3 : (op == 3) = false) (o9 : (op == 9) = false) (o14 : (op == 14) = false) (o15 : (op == 15) = false) (o16 : (op == 16) = false) (o17 : (op == 17) = false) (o18 : (op == 18) = false) (o19 : (op == 19) = false) (o20 : (op == 20) = false) (ole : decide (op ≤ 8) = false) (y z : Va) (K0 : Aside0 (KidR B n2 c2 D n3 c3 (rd_T26 ks 0) (y, 0) w)) (K1 : Aside0 (KidR B n2 c2 D n3 c3 (rd_T26 ks 1) (z, 0) w)) (hy : (y.f0 == 0) = false) (hz : (z.f0 == 0) = true) :
  Calls Tryd.prog 38 #[.agg #[.int .i64 op, .string nm, .int .i64 v.f0, .int .i64 v.f1, .string v.f2, .slice A ks.length c], .slice B n2 c2, .slice D n3 c3] w (RetW ((nullV, 0)) w) := by
 have hu := Tryd.underlying23
 have HC := Aside0.mk hC
 have HK := Aside0.mk hk
 clear hk hC
 obtain ⟨ad0, A0, C0, e0, x00, x01, x02, x03, x04, x05, hl0, hi0⟩ := at_T26 HC.out 0 (by decide) (by have := HK.out; omega)
 cases e0
 simp only [show (Int.toNat 0 * 6 : Nat) = 0 from rfl, add_zero_] at x00 x01 x02 x03 x04 x05
 have HX0 := Aside0.mk (show KX w _ _ _ _ _ _ _ _ _ _ _ _ from ⟨x00, x01, x02, x03, x04, x05⟩)
 have HL0 := Aside0.mk hl0
 have HI0 := Aside0.mk hi0
 clear hl0 hi0 x00 x01 x02 x03 x04 x05
 have q0 : decide (((0 : Int)) < (ks.length : Int)) = true := decide_eq_true (by have := HK.out; omega)
 have t0 : decide ((0 : Nat) < ks.length) = true := decide_eq_true (by have := HK.out; omega)
 have v0 : ((0 : Nat) < ks.length) = True := eq_true (by have := HK.out; omega)
 obtain ⟨ad1, A1, C1, e1, x10, x11, x12, x13, x14, x15, hl1, hi1⟩ := at_T26 HC.out 1 (by decide) (by have := HK.out; omega)
 cases e1
 simp only [show (Int.toNat 1 * 6 : Nat) = 6 from rfl, add_pos_ _ 6 (by decide)] at x10 x11 x12 x13 x14 x15
 have HX1 := Aside0.mk (show KX w _ _ _ _ _ _ _ _ _ _ _ _ from ⟨x10, x11, x12, x13, x14, x15⟩)
 have HL1 := Aside0.mk hl1
 have HI1 := Aside0.mk hi1
 clear hl1 hi1 x10 x11 x12 x13 x14 x15
 have q1 : decide (((1 : Int)) < (ks.length : Int)) = true := decide_eq_true (by have := HK.out; omega)
 have t1 : decide ((1 : Nat) < ks.length) = true := decide_eq_true (by have := HK.out; omega)
 have v1 : ((1 : Nat) < ks.length) = True := eq_true (by have := HK.out; omega)
 have u1 : ((1 : Int) < (ks.length : Int)) = True := eq_true (by have := HK.out; omega)
 have HE0 := Aside0.mk (EvL.new #[.int .i64 op, .string nm, .int .i64 v.f0, .int .i64 v.f1, .string v.f2, .slice (some ad0) ks.length c] w)
 go_enter Tryd.func38, Tryd.ntmps38
 go_upto_region 1 with (fail)
 generalize (w.alloc (.cells #[.int .i64 op, .string nm, .int .i64 v.f0, .int .i64 v.f1, .string v.f2, .slice (some ad0) ks.length c] 26)).alloc (.cells #[.int .i64 0, .int .i64 0, .string ⟨#[]⟩] 23) = W0 at HE0 ⊢
 obtain ⟨m0, m1, m2, m3, m4, m5⟩ := HE0.out.cells
 obtain ⟨_, _, _, hz⟩ := HE0.out.res
 obtain ⟨r0, r1, r2, g0, g1, g2⟩ := box3 hz
 have hlt := blk_lt hz
 have HZ0 := Aside0.mk hz
 clear hz
 obtain ⟨k0, k1, k2, k3, k4, k5⟩ := HX0.out.below HE0.out.below
 go_upto_region 9 with (go_at_call 38; refine (K0.out _ HE0.out.below _ _ HL0.out (Kd.C_below HI0.out HE0.out.below)).mono ?_; rintro e w1 ⟨rfl, hb1⟩; have HE1 := Aside0.mk (HE0.out.step hb1); clear hb1 m0 m1 m2 m3 m4 m5 r0 r1 r2 g0 g1 g2 hlt k0 k1 k2 k3 k4 k5)
 have HF1 := Aside0.mk (HE1.out.add y)
 generalize hg1 : w1.heap.size = g_y at HF1 ⊢
 generalize w1.alloc (.cells #[.int .i64 y.f0, .int .i64 y.f1, .string y.f2] 23) = W1 at HF1 ⊢
 clear HE1 hg1
 obtain ⟨m0, m1, m2, m3, m4, m5⟩ := HF1.out.cells
 obtain ⟨_, _, _, hz⟩ := HF1.out.res
 obtain ⟨r0, r1, r2, g0, g1, g2⟩ := box3 hz
 have hlt := blk_lt hz
 have HZ1 := Aside0.mk hz
 clear hz
 obtain ⟨y0, y1, y2⟩ := HF1.out.at (g := g_y) (y := y) (by simp)
 obtain ⟨k0, k1, k2, k3, k4, k5⟩ := HX1.out.below HF1.out.below
 go_upto_region 39 with (go_at_call 38; refine (K1.out _ HF1.out.below _ _ HL1.out (Kd.C_below HI1.out HF1.out.below)).mono ?_; rintro e w2 ⟨rfl, hb2⟩; have HE2 := Aside0.mk (HF1.out.step hb2); clear hb2 m0 m1 m2 m3 m4 m5 r0 r1 r2 g0 g1 g2 hlt y0 y1 y2 k0 k1 k2 k3 k4 k5)
 have HF2 := Aside0.mk (HE2.out.add z)
 generalize hg2 : w2.heap.size = g_z at HF2 ⊢
 generalize w2.alloc (.cells #[.int .i64 z.f0, .int .i64 z.f1, .string z.f2] 23) = W2 at HF2 ⊢
 clear HE2 hg2
 obtain ⟨m0, m1, m2, m3, m4, m5⟩ := HF2.out.cells
 obtain ⟨_, _, _, hz⟩ := HF2.out.res
 obtain ⟨r0, r1, r2, g0, g1, g2⟩ := box3 hz
 have hlt := blk_lt hz
 have HZ2 := Aside0.mk hz
 clear hz
 obtain ⟨z0, z1, z2⟩ := HF2.out.at (g := g_z) (y := z) (by simp)
 obtain ⟨y0, y1, y2⟩ := HF2.out.at (g := g_y) (y := y) (by simp)
 go_upto_region 43 with (fail)
 go_quiet (fail)
 have HQ2 := Aside0.mk (HF2.out.step (W' := W2.drewN nq) (by apply pw_below_drewN; exact Below.refl _ _))
 generalize W2.drewN nq = WQ at HQ2 ⊢
 clear m0 m1 m2 m3 m4 m5 r0 r1 r2 g0 g1 g2 hlt z0 z1 z2 y0 y1 y2
 obtain ⟨m0, m1, m2, m3, m4, m5⟩ := HQ2.out.cells
 obtain ⟨_, _, _, hz⟩ := HQ2.out.res
 obtain ⟨r0, r1, r2, g0, g1, g2⟩ := box3 hz
 have hlt := blk_lt hz
 have HZ2 := Aside0.mk hz
 clear hz
 obtain ⟨z0, z1, z2⟩ := HQ2.out.at (g := g_z) (y := z) (by simp)
 obtain ⟨y0, y1, y2⟩ := HQ2.out.at (g := g_y) (y := y) (by simp)
 go_wp2
 refine bodyPost_ret (results_list rfl (by simp) (.cell _ _ _ _ _ rfl (blkput3 HZ2.out _ _ _) hu rfl (by kernel_rfl) (.tmp .nil))) rfl ⟨rfl, below_put3 HQ2.out.below (by omega) _ _ _⟩
set_option maxHeartbeats 8000000 in
set_option maxRecDepth 100000 in
theorem evc (nm : ByteArray) (v : Va) (ks : List Ex) (A : Option Addr) (c : Nat) (hl : ks.length ≤ c) (B : Option Addr) (n2 c2 : Nat) (D : Option Addr) (n3 c3 : Nat) (w : World) (hC : Kd.C k26 w A ks.length ks) (hk : ks.length = 2) (op : Int) (o1 : (op == 1) = false) (o2 : (op == 2) = false) (o3 : (op == 3) = false) (o9 : (op == 9) = false) (o14 : (op == 14) = false) (o15 : (op == 15) = false) (o16 : (op == 16) = false) (o17 : (op == 17) = false) (o18 : (op == 18) = false) (o19 : (op == 19) = false) (o20 : (op == 20) = false) (ole : decide (op ≤ 8) = false) (y z : Va) (K0 : Aside0 (KidR B n2 c2 D n3 c3 (rd_T26 ks 0) (y, 0) w)) (K1 : Aside0 (KidR B n2 c2 D n3 c3 (rd_T26 ks 1) (z, 0) w)) (hy : (y.f0 == 0) = false) (hz : (z.f0 == 0) = false) (cv : Int) (hcv : headgateref03_Cmp.f 1 y.f0 y.f1 y.f2 z.f0 z.f1 z.f2 = some cv) (r : Bool) (ho : (op = 10 ∧ r = (cv == 0)) ∨ (op = 11 ∧ r = (cv != 0)) ∨ (op = 12 ∧ r = decide (cv < 0)) ∨ (op = 13 ∧ r = decide (cv ≤ 0))) :
  Calls Tryd.prog 38 #[.agg #[.int .i64 op, .string nm, .int .i64 v.f0, .int .i64 v.f1, .string v.f2, .slice A ks.length c], .slice B n2 c2, .slice D n3 c3] w (RetW ((boolV r, 0)) w) := by
 have hu := Tryd.underlying23
 have HC := Aside0.mk hC
 have HK := Aside0.mk hk
 clear hk hC
 obtain ⟨ad0, A0, C0, e0, x00, x01, x02, x03, x04, x05, hl0, hi0⟩ := at_T26 HC.out 0 (by decide) (by have := HK.out; omega)
 cases e0
 simp only [show (Int.toNat 0 * 6 : Nat) = 0 from rfl, add_zero_] at x00 x01 x02 x03 x04 x05
 have HX0 := Aside0.mk (show KX w _ _ _ _ _ _ _ _ _ _ _ _ from ⟨x00, x01, x02, x03, x04, x05⟩)
 have HL0 := Aside0.mk hl0
 have HI0 := Aside0.mk hi0
 clear hl0 hi0 x00 x01 x02 x03 x04 x05
 have q0 : decide (((0 : Int)) < (ks.length : Int)) = true := decide_eq_true (by have := HK.out; omega)
 have t0 : decide ((0 : Nat) < ks.length) = true := decide_eq_true (by have := HK.out; omega)
 have v0 : ((0 : Nat) < ks.length) = True := eq_true (by have := HK.out; omega)
 obtain ⟨ad1, A1, C1, e1, x10, x11, x12, x13, x14, x15, hl1, hi1⟩ := at_T26 HC.out 1 (by decide) (by have := HK.out; omega)
 cases e1
 simp only [show (Int.toNat 1 * 6 : Nat) = 6 from rfl, add_pos_ _ 6 (by decide)] at x10 x11 x12 x13 x14 x15
 have HX1 := Aside0.mk (show KX w _ _ _ _ _ _ _ _ _ _ _ _ from ⟨x10, x11, x12, x13, x14, x15⟩)
 have HL1 := Aside0.mk hl1
 have HI1 := Aside0.mk hi1
 clear hl1 hi1 x10 x11 x12 x13 x14 x15
 have q1 : decide (((1 : Int)) < (ks.length : Int)) = true := decide_eq_true (by have := HK.out; omega)
 have t1 : decide ((1 : Nat) < ks.length) = true := decide_eq_true (by have := HK.out; omega)
 have v1 : ((1 : Nat) < ks.length) = True := eq_true (by have := HK.out; omega)
 have u1 : ((1 : Int) < (ks.length : Int)) = True := eq_true (by have := HK.out; omega)
 have HE0 := Aside0.mk (EvL.new #[.int .i64 op, .string nm, .int .i64 v.f0, .int .i64 v.f1, .string v.f2, .slice (some ad0) ks.length c] w)
 go_enter Tryd.func38, Tryd.ntmps38
 go_upto_region 1 with (fail)
 generalize (w.alloc (.cells #[.int .i64 op, .string nm, .int .i64 v.f0, .int .i64 v.f1, .string v.f2, .slice (some ad0) ks.length c] 26)).alloc (.cells #[.int .i64 0, .int .i64 0, .string ⟨#[]⟩] 23) = W0 at HE0 ⊢
 obtain ⟨m0, m1, m2, m3, m4, m5⟩ := HE0.out.cells
 obtain ⟨_, _, _, hz⟩ := HE0.out.res
 obtain ⟨r0, r1, r2, g0, g1, g2⟩ := box3 hz
 have hlt := blk_lt hz
 have HZ0 := Aside0.mk hz
 clear hz
 obtain ⟨k0, k1, k2, k3, k4, k5⟩ := HX0.out.below HE0.out.below
 go_upto_region 9 with (go_at_call 38; refine (K0.out _ HE0.out.below _ _ HL0.out (Kd.C_below HI0.out HE0.out.below)).mono ?_; rintro e w1 ⟨rfl, hb1⟩; have HE1 := Aside0.mk (HE0.out.step hb1); clear hb1 m0 m1 m2 m3 m4 m5 r0 r1 r2 g0 g1 g2 hlt k0 k1 k2 k3 k4 k5)
 have HF1 := Aside0.mk (HE1.out.add y)
 generalize hg1 : w1.heap.size = g_y at HF1 ⊢
 generalize w1.alloc (.cells #[.int .i64 y.f0, .int .i64 y.f1, .string y.f2] 23) = W1 at HF1 ⊢
 clear HE1 hg1
 obtain ⟨m0, m1, m2, m3, m4, m5⟩ := HF1.out.cells
 obtain ⟨_, _, _, hz⟩ := HF1.out.res
 obtain ⟨r0, r1, r2, g0, g1, g2⟩ := box3 hz
 have hlt := blk_lt hz
 have HZ1 := Aside0.mk hz
 clear hz
 obtain ⟨y0, y1, y2⟩ := HF1.out.at (g := g_y) (y := y) (by simp)
 obtain ⟨k0, k1, k2, k3, k4, k5⟩ := HX1.out.below HF1.out.below
 go_upto_region 39 with (go_at_call 38; refine (K1.out _ HF1.out.below _ _ HL1.out (Kd.C_below HI1.out HF1.out.below)).mono ?_; rintro e w2 ⟨rfl, hb2⟩; have HE2 := Aside0.mk (HF1.out.step hb2); clear hb2 m0 m1 m2 m3 m4 m5 r0 r1 r2 g0 g1 g2 hlt y0 y1 y2 k0 k1 k2 k3 k4 k5)
 have HF2 := Aside0.mk (HE2.out.add z)
 generalize hg2 : w2.heap.size = g_z at HF2 ⊢
 generalize w2.alloc (.cells #[.int .i64 z.f0, .int .i64 z.f1, .string z.f2] 23) = W2 at HF2 ⊢
 clear HE2 hg2
 obtain ⟨m0, m1, m2, m3, m4, m5⟩ := HF2.out.cells
 obtain ⟨_, _, _, hz⟩ := HF2.out.res
 obtain ⟨r0, r1, r2, g0, g1, g2⟩ := box3 hz
 have hlt := blk_lt hz
 have HZ2 := Aside0.mk hz
 clear hz
 obtain ⟨z0, z1, z2⟩ := HF2.out.at (g := g_z) (y := z) (by simp)
 obtain ⟨y0, y1, y2⟩ := HF2.out.at (g := g_y) (y := y) (by simp)
 go_upto_region 43 with (fail)
 go_quiet (fail)
 have HQ2 := Aside0.mk (HF2.out.step (W' := W2.drewN nq) (by apply pw_below_drewN; exact Below.refl _ _))
 generalize W2.drewN nq = WQ at HQ2 ⊢
 clear m0 m1 m2 m3 m4 m5 r0 r1 r2 g0 g1 g2 hlt z0 z1 z2 y0 y1 y2
 obtain ⟨m0, m1, m2, m3, m4, m5⟩ := HQ2.out.cells
 obtain ⟨_, _, _, hz⟩ := HQ2.out.res
 obtain ⟨r0, r1, r2, g0, g1, g2⟩ := box3 hz
 have hlt := blk_lt hz
 have HZ2 := Aside0.mk hz
 clear hz
 obtain ⟨z0, z1, z2⟩ := HQ2.out.at (g := g_z) (y := z) (by simp)
 obtain ⟨y0, y1, y2⟩ := HQ2.out.at (g := g_y) (y := y) (by simp)
 go_upto_region 49 with (go_at_call 74; refine (headgateref03_Cmp.calls 1 y.f0 y.f1 y.f2 z.f0 z.f1 z.f2 cv _ hcv).mono ?_; rintro e w3 ⟨rfl, hb3⟩; have HE3 := Aside0.mk (HQ2.out.step hb3); clear hb3 m0 m1 m2 m3 m4 m5 r0 r1 r2 g0 g1 g2 hlt z0 z1 z2 y0 y1 y2; obtain ⟨m0, m1, m2, m3, m4, m5⟩ := HE3.out.cells)
 clear hcv o1 o2 o3 o9 o14 o15 o16 o17 o18 o19 o20 ole
 rcases ho with ⟨rfl, hr⟩ | ⟨rfl, hr⟩ | ⟨rfl, hr⟩ | ⟨rfl, hr⟩
 all_goals
  subst hr
  go_wp2_with (go_at_call 73; refine (truth_calls _ _).mono ?_; rintro e w4 ⟨rfl, hb4⟩; have HE4 := Aside0.mk (HE3.out.step hb4); clear hb4 m0 m1 m2 m3 m4 m5; obtain ⟨_, _, _, hz⟩ := HE4.out.res; obtain ⟨r0, r1, r2, g0, g1, g2⟩ := box3 hz; have hlt := blk_lt hz; have HZ4 := Aside0.mk hz; clear hz)
  refine bodyPost_ret (results_list rfl (by simp) (.cell _ _ _ _ _ rfl (blkput3 HZ4.out _ _ _) hu rfl (by kernel_rfl) (.tmp .nil))) rfl ⟨rfl, below_put3 HE4.out.below (by omega) _ _ _⟩
end Go.Proofs.YtopolnbffmljaaaDoor.Q
namespace Go.Proofs.YtopolnbffmljaaaDoor.Q
attribute [local go_sem high] eqV
set_option maxHeartbeats 8000000 in
set_option maxRecDepth 100000 in
theorem ev14s (nm : ByteArray) (v : Va) (ks : List Ex) (A : Option Addr) (c : Nat) (hl : ks.length ≤ c) (B : Option Addr) (n2 c2 : Nat) (D : Option Addr) (n3 c3 : Nat) (w : World) (hC : Kd.C k26 w A ks.length ks) (hk : ks.length = 2) (y : Va) (K0 : Aside0 (KidR B n2 c2 D n3 c3 (rd_T26 ks 0) (y, 0) w)) (hy : eqv y.f0 2 y.f1 (tn false) y.f2 ⟨#[]⟩ = true)  :
  Calls Tryd.prog 38 #[.agg #[.int .i64 14, .string nm, .int .i64 v.f0, .int .i64 v.f1, .string v.f2, .slice A ks.length c], .slice B n2 c2, .slice D n3 c3] w (RetW ((y, 0)) w) := by
 have hu := Tryd.underlying23
 have HC := Aside0.mk hC
 have HK := Aside0.mk hk
 clear hk hC
 obtain ⟨ad0, A0, C0, e0, x00, x01, x02, x03, x04, x05, hl0, hi0⟩ := at_T26 HC.out 0 (by decide) (by have := HK.out; omega)
 cases e0
 simp only [show (Int.toNat 0 * 6 : Nat) = 0 from rfl, add_zero_] at x00 x01 x02 x03 x04 x05
 have HX0 := Aside0.mk (show KX w _ _ _ _ _ _ _ _ _ _ _ _ from ⟨x00, x01, x02, x03, x04, x05⟩)
 have HL0 := Aside0.mk hl0
 have HI0 := Aside0.mk hi0
 clear hl0 hi0 x00 x01 x02 x03 x04 x05
 have q0 : decide (((0 : Int)) < (ks.length : Int)) = true := decide_eq_true (by have := HK.out; omega)
 have t0 : decide ((0 : Nat) < ks.length) = true := decide_eq_true (by have := HK.out; omega)
 have v0 : ((0 : Nat) < ks.length) = True := eq_true (by have := HK.out; omega)
 have HE0 := Aside0.mk (EvL.new #[.int .i64 14, .string nm, .int .i64 v.f0, .int .i64 v.f1, .string v.f2, .slice (some ad0) ks.length c] w)
 go_enter Tryd.func38, Tryd.ntmps38
 go_upto_region 1 with (fail)
 generalize (w.alloc (.cells #[.int .i64 14, .string nm, .int .i64 v.f0, .int .i64 v.f1, .string v.f2, .slice (some ad0) ks.length c] 26)).alloc (.cells #[.int .i64 0, .int .i64 0, .string ⟨#[]⟩] 23) = W0 at HE0 ⊢
 obtain ⟨m0, m1, m2, m3, m4, m5⟩ := HE0.out.cells
 obtain ⟨_, _, _, hz⟩ := HE0.out.res
 obtain ⟨r0, r1, r2, g0, g1, g2⟩ := box3 hz
 have hlt := blk_lt hz
 have HZ0 := Aside0.mk hz
 clear hz
 obtain ⟨k0, k1, k2, k3, k4, k5⟩ := HX0.out.below HE0.out.below
 go_upto_region 9 with (go_at_call 38; refine (K0.out _ HE0.out.below _ _ HL0.out (Kd.C_below HI0.out HE0.out.below)).mono ?_; rintro e w1 ⟨rfl, hb1⟩; have HE1 := Aside0.mk (HE0.out.step hb1); clear hb1 m0 m1 m2 m3 m4 m5 r0 r1 r2 g0 g1 g2 hlt k0 k1 k2 k3 k4 k5)
 have HF1 := Aside0.mk (HE1.out.add y)
 generalize hg1 : w1.heap.size = g_y at HF1 ⊢
 generalize w1.alloc (.cells #[.int .i64 y.f0, .int .i64 y.f1, .string y.f2] 23) = W1 at HF1 ⊢
 clear HE1 hg1
 obtain ⟨m0, m1, m2, m3, m4, m5⟩ := HF1.out.cells
 obtain ⟨_, _, _, hz⟩ := HF1.out.res
 obtain ⟨r0, r1, r2, g0, g1, g2⟩ := box3 hz
 have hlt := blk_lt hz
 have HZ1 := Aside0.mk hz
 clear hz
 obtain ⟨y0, y1, y2⟩ := HF1.out.at (g := g_y) (y := y) (by simp)
 go_upto_region 15 with (fail)
 go_region_with (go_at_call 73; refine (truth_calls false _).mono ?_; rintro e w2 ⟨rfl, hb2⟩; have HE2 : Aside0 (EvL #[.int .i64 14, .string nm, .int .i64 v.f0, .int .i64 v.f1, .string v.f2, .slice (some ad0) ks.length c] w [(g_y, y)] w2) := ⟨HF1.out.step (below_step (by with_reducible repeat (first | exact Below.refl _ _ | apply pw_below_drewN | apply below_drew1)) hb2)⟩; clear hb2 m0 m1 m2 m3 m4 m5 r0 r1 r2 g0 g1 g2 hlt y0 y1 y2; have yf : Aside0 (w2.cell? ⟨g_y, 0, none⟩ = some (.int .i64 y.f0) ∧ w2.cell? ⟨g_y, 1, none⟩ = some (.int .i64 y.f1) ∧ w2.cell? ⟨g_y, 2, none⟩ = some (.string y.f2)) := ⟨HE2.out.at (by simp)⟩; obtain ⟨y0, y1, y2⟩ := yf.out)
 all_goals
  obtain ⟨m0, m1, m2, m3, m4, m5⟩ := HE2.out.cells
  obtain ⟨_, _, _, hz⟩ := HE2.out.res
  obtain ⟨r0, r1, r2, g0, g1, g2⟩ := box3 hz
  have hlt := blk_lt hz
  have HZ2 := Aside0.mk hz
  clear hz
  obtain ⟨y0, y1, y2⟩ := HE2.out.at (g := g_y) (y := y) (by simp)
  go_wp2
  refine bodyPost_ret (results_list rfl (by simp) (.cell _ _ _ _ _ rfl (blkput3 HZ2.out _ _ _) hu rfl (by kernel_rfl) (.tmp .nil))) rfl ⟨rfl, below_put3 HE2.out.below (by omega) _ _ _⟩
set_option maxHeartbeats 8000000 in
set_option maxRecDepth 100000 in
theorem ev14e (nm : ByteArray) (v : Va) (ks : List Ex) (A : Option Addr) (c : Nat) (hl : ks.length ≤ c) (B : Option Addr) (n2 c2 : Nat) (D : Option Addr) (n3 c3 : Nat) (w : World) (hC : Kd.C k26 w A ks.length ks) (hk : ks.length = 2) (y : Va) (K0 : Aside0 (KidR B n2 c2 D n3 c3 (rd_T26 ks 0) (y, 0) w)) (er : Int) (her : (er != 0) = true) (K1 : Aside0 (KidR B n2 c2 D n3 c3 (rd_T26 ks 1) (nullV, er) w)) (hy : eqv y.f0 2 y.f1 (tn false) y.f2 ⟨#[]⟩ = false)  :
  Calls Tryd.prog 38 #[.agg #[.int .i64 14, .string nm, .int .i64 v.f0, .int .i64 v.f1, .string v.f2, .slice A ks.length c], .slice B n2 c2, .slice D n3 c3] w (RetW ((nullV, er)) w) := by
 have hu := Tryd.underlying23
 have HC := Aside0.mk hC
 have HK := Aside0.mk hk
 clear hk hC
 obtain ⟨ad0, A0, C0, e0, x00, x01, x02, x03, x04, x05, hl0, hi0⟩ := at_T26 HC.out 0 (by decide) (by have := HK.out; omega)
 cases e0
 simp only [show (Int.toNat 0 * 6 : Nat) = 0 from rfl, add_zero_] at x00 x01 x02 x03 x04 x05
 have HX0 := Aside0.mk (show KX w _ _ _ _ _ _ _ _ _ _ _ _ from ⟨x00, x01, x02, x03, x04, x05⟩)
 have HL0 := Aside0.mk hl0
 have HI0 := Aside0.mk hi0
 clear hl0 hi0 x00 x01 x02 x03 x04 x05
 have q0 : decide (((0 : Int)) < (ks.length : Int)) = true := decide_eq_true (by have := HK.out; omega)
 have t0 : decide ((0 : Nat) < ks.length) = true := decide_eq_true (by have := HK.out; omega)
 have v0 : ((0 : Nat) < ks.length) = True := eq_true (by have := HK.out; omega)
 obtain ⟨ad1, A1, C1, e1, x10, x11, x12, x13, x14, x15, hl1, hi1⟩ := at_T26 HC.out 1 (by decide) (by have := HK.out; omega)
 cases e1
 simp only [show (Int.toNat 1 * 6 : Nat) = 6 from rfl, add_pos_ _ 6 (by decide)] at x10 x11 x12 x13 x14 x15
 have HX1 := Aside0.mk (show KX w _ _ _ _ _ _ _ _ _ _ _ _ from ⟨x10, x11, x12, x13, x14, x15⟩)
 have HL1 := Aside0.mk hl1
 have HI1 := Aside0.mk hi1
 clear hl1 hi1 x10 x11 x12 x13 x14 x15
 have q1 : decide (((1 : Int)) < (ks.length : Int)) = true := decide_eq_true (by have := HK.out; omega)
 have t1 : decide ((1 : Nat) < ks.length) = true := decide_eq_true (by have := HK.out; omega)
 have v1 : ((1 : Nat) < ks.length) = True := eq_true (by have := HK.out; omega)
 have u1 : ((1 : Int) < (ks.length : Int)) = True := eq_true (by have := HK.out; omega)
 have HE0 := Aside0.mk (EvL.new #[.int .i64 14, .string nm, .int .i64 v.f0, .int .i64 v.f1, .string v.f2, .slice (some ad0) ks.length c] w)
 go_enter Tryd.func38, Tryd.ntmps38
 go_upto_region 1 with (fail)
 generalize (w.alloc (.cells #[.int .i64 14, .string nm, .int .i64 v.f0, .int .i64 v.f1, .string v.f2, .slice (some ad0) ks.length c] 26)).alloc (.cells #[.int .i64 0, .int .i64 0, .string ⟨#[]⟩] 23) = W0 at HE0 ⊢
 obtain ⟨m0, m1, m2, m3, m4, m5⟩ := HE0.out.cells
 obtain ⟨_, _, _, hz⟩ := HE0.out.res
 obtain ⟨r0, r1, r2, g0, g1, g2⟩ := box3 hz
 have hlt := blk_lt hz
 have HZ0 := Aside0.mk hz
 clear hz
 obtain ⟨k0, k1, k2, k3, k4, k5⟩ := HX0.out.below HE0.out.below
 go_upto_region 9 with (go_at_call 38; refine (K0.out _ HE0.out.below _ _ HL0.out (Kd.C_below HI0.out HE0.out.below)).mono ?_; rintro e w1 ⟨rfl, hb1⟩; have HE1 := Aside0.mk (HE0.out.step hb1); clear hb1 m0 m1 m2 m3 m4 m5 r0 r1 r2 g0 g1 g2 hlt k0 k1 k2 k3 k4 k5)
 have HF1 := Aside0.mk (HE1.out.add y)
 generalize hg1 : w1.heap.size = g_y at HF1 ⊢
 generalize w1.alloc (.cells #[.int .i64 y.f0, .int .i64 y.f1, .string y.f2] 23) = W1 at HF1 ⊢
 clear HE1 hg1
 obtain ⟨m0, m1, m2, m3, m4, m5⟩ := HF1.out.cells
 obtain ⟨_, _, _, hz⟩ := HF1.out.res
 obtain ⟨r0, r1, r2, g0, g1, g2⟩ := box3 hz
 have hlt := blk_lt hz
 have HZ1 := Aside0.mk hz
 clear hz
 obtain ⟨y0, y1, y2⟩ := HF1.out.at (g := g_y) (y := y) (by simp)
 go_upto_region 15 with (fail)
 go_region_with (go_at_call 73; refine (truth_calls false _).mono ?_; rintro e w2 ⟨rfl, hb2⟩; have HE2 : Aside0 (EvL #[.int .i64 14, .string nm, .int .i64 v.f0, .int .i64 v.f1, .string v.f2, .slice (some ad0) ks.length c] w [(g_y, y)] w2) := ⟨HF1.out.step (below_step (by with_reducible repeat (first | exact Below.refl _ _ | apply pw_below_drewN | apply below_drew1)) hb2)⟩; clear hb2 m0 m1 m2 m3 m4 m5 r0 r1 r2 g0 g1 g2 hlt y0 y1 y2; have yf : Aside0 (w2.cell? ⟨g_y, 0, none⟩ = some (.int .i64 y.f0) ∧ w2.cell? ⟨g_y, 1, none⟩ = some (.int .i64 y.f1) ∧ w2.cell? ⟨g_y, 2, none⟩ = some (.string y.f2)) := ⟨HE2.out.at (by simp)⟩; obtain ⟨y0, y1, y2⟩ := yf.out)
 all_goals
  obtain ⟨m0, m1, m2, m3, m4, m5⟩ := HE2.out.cells
  obtain ⟨_, _, _, hz⟩ := HE2.out.res
  obtain ⟨r0, r1, r2, g0, g1, g2⟩ := box3 hz
  have hlt := blk_lt hz
  have HZ2 := Aside0.mk hz
  clear hz
  obtain ⟨y0, y1, y2⟩ := HE2.out.at (g := g_y) (y := y) (by simp)
  obtain ⟨k0, k1, k2, k3, k4, k5⟩ := HX1.out.below HE2.out.below
  go_wp2_with (go_at_call 38; refine (K1.out _ HE2.out.below _ _ HL1.out (Kd.C_below HI1.out HE2.out.below)).mono ?_; rintro e w3 ⟨rfl, hb3⟩; have HE3 := Aside0.mk (HE2.out.step hb3); clear hb3 m0 m1 m2 m3 m4 m5 r0 r1 r2 g0 g1 g2 hlt y0 y1 y2 k0 k1 k2 k3 k4 k5; obtain ⟨_, _, _, hz⟩ := HE3.out.res; obtain ⟨r0, r1, r2, g0, g1, g2⟩ := box3 hz; have hlt := blk_lt hz; have HZ3 := Aside0.mk hz; clear hz)
  refine bodyPost_ret (results_list rfl (by simp) (.cell _ _ _ _ _ rfl (blk_alloc (blkput3 HZ3.out _ _ _) _) hu rfl (by kernel_rfl) (.tmp .nil))) rfl ⟨rfl, below_alloc (below_put3 HE3.out.below (by omega) _ _ _) _⟩
set_option maxHeartbeats 8000000 in
set_option maxRecDepth 100000 in
theorem ev14z (nm : ByteArray) (v : Va) (ks : List Ex) (A : Option Addr) (c : Nat) (hl : ks.length ≤ c) (B : Option Addr) (n2 c2 : Nat) (D : Option Addr) (n3 c3 : Nat) (w : World) (hC : Kd.C k26 w A ks.length ks) (hk : ks.length = 2) (y : Va) (K0 : Aside0 (KidR B n2 c2 D n3 c3 (rd_T26 ks 0) (y, 0) w)) (z : Va) (K1 : Aside0 (KidR B n2 c2 D n3 c3 (rd_T26 ks 1) (z, 0) w)) (hy2 : eqv y.f0 2 y.f1 (tn false) y.f2 ⟨#[]⟩ = false) (hy : eqv z.f0 2 z.f1 (tn false) z.f2 ⟨#[]⟩ = true)  :
  Calls Tryd.prog 38 #[.agg #[.int .i64 14, .string nm, .int .i64 v.f0, .int .i64 v.f1, .string v.f2, .slice A ks.length c], .slice B n2 c2, .slice D n3 c3] w (RetW ((z, 0)) w) := by
 have hu := Tryd.underlying23
 have HC := Aside0.mk hC
 have HK := Aside0.mk hk
 clear hk hC
 obtain ⟨ad0, A0, C0, e0, x00, x01, x02, x03, x04, x05, hl0, hi0⟩ := at_T26 HC.out 0 (by decide) (by have := HK.out; omega)
 cases e0
 simp only [show (Int.toNat 0 * 6 : Nat) = 0 from rfl, add_zero_] at x00 x01 x02 x03 x04 x05
 have HX0 := Aside0.mk (show KX w _ _ _ _ _ _ _ _ _ _ _ _ from ⟨x00, x01, x02, x03, x04, x05⟩)
 have HL0 := Aside0.mk hl0
 have HI0 := Aside0.mk hi0
 clear hl0 hi0 x00 x01 x02 x03 x04 x05
 have q0 : decide (((0 : Int)) < (ks.length : Int)) = true := decide_eq_true (by have := HK.out; omega)
 have t0 : decide ((0 : Nat) < ks.length) = true := decide_eq_true (by have := HK.out; omega)
 have v0 : ((0 : Nat) < ks.length) = True := eq_true (by have := HK.out; omega)
 obtain ⟨ad1, A1, C1, e1, x10, x11, x12, x13, x14, x15, hl1, hi1⟩ := at_T26 HC.out 1 (by decide) (by have := HK.out; omega)
 cases e1
 simp only [show (Int.toNat 1 * 6 : Nat) = 6 from rfl, add_pos_ _ 6 (by decide)] at x10 x11 x12 x13 x14 x15
 have HX1 := Aside0.mk (show KX w _ _ _ _ _ _ _ _ _ _ _ _ from ⟨x10, x11, x12, x13, x14, x15⟩)
 have HL1 := Aside0.mk hl1
 have HI1 := Aside0.mk hi1
 clear hl1 hi1 x10 x11 x12 x13 x14 x15
 have q1 : decide (((1 : Int)) < (ks.length : Int)) = true := decide_eq_true (by have := HK.out; omega)
 have t1 : decide ((1 : Nat) < ks.length) = true := decide_eq_true (by have := HK.out; omega)
 have v1 : ((1 : Nat) < ks.length) = True := eq_true (by have := HK.out; omega)
 have u1 : ((1 : Int) < (ks.length : Int)) = True := eq_true (by have := HK.out; omega)
 have HE0 := Aside0.mk (EvL.new #[.int .i64 14, .string nm, .int .i64 v.f0, .int .i64 v.f1, .string v.f2, .slice (some ad0) ks.length c] w)
 go_enter Tryd.func38, Tryd.ntmps38
 go_upto_region 1 with (fail)
 generalize (w.alloc (.cells #[.int .i64 14, .string nm, .int .i64 v.f0, .int .i64 v.f1, .string v.f2, .slice (some ad0) ks.length c] 26)).alloc (.cells #[.int .i64 0, .int .i64 0, .string ⟨#[]⟩] 23) = W0 at HE0 ⊢
 obtain ⟨m0, m1, m2, m3, m4, m5⟩ := HE0.out.cells
 obtain ⟨_, _, _, hz⟩ := HE0.out.res
 obtain ⟨r0, r1, r2, g0, g1, g2⟩ := box3 hz
 have hlt := blk_lt hz
 have HZ0 := Aside0.mk hz
 clear hz
 obtain ⟨k0, k1, k2, k3, k4, k5⟩ := HX0.out.below HE0.out.below
 go_upto_region 9 with (go_at_call 38; refine (K0.out _ HE0.out.below _ _ HL0.out (Kd.C_below HI0.out HE0.out.below)).mono ?_; rintro e w1 ⟨rfl, hb1⟩; have HE1 := Aside0.mk (HE0.out.step hb1); clear hb1 m0 m1 m2 m3 m4 m5 r0 r1 r2 g0 g1 g2 hlt k0 k1 k2 k3 k4 k5)
 have HF1 := Aside0.mk (HE1.out.add y)
 generalize hg1 : w1.heap.size = g_y at HF1 ⊢
 generalize w1.alloc (.cells #[.int .i64 y.f0, .int .i64 y.f1, .string y.f2] 23) = W1 at HF1 ⊢
 clear HE1 hg1
 obtain ⟨m0, m1, m2, m3, m4, m5⟩ := HF1.out.cells
 obtain ⟨_, _, _, hz⟩ := HF1.out.res
 obtain ⟨r0, r1, r2, g0, g1, g2⟩ := box3 hz
 have hlt := blk_lt hz
 have HZ1 := Aside0.mk hz
 clear hz
 obtain ⟨y0, y1, y2⟩ := HF1.out.at (g := g_y) (y := y) (by simp)
 go_upto_region 15 with (fail)
 go_region_with (go_at_call 73; refine (truth_calls false _).mono ?_; rintro e w2 ⟨rfl, hb2⟩; have HE2 : Aside0 (EvL #[.int .i64 14, .string nm, .int .i64 v.f0, .int .i64 v.f1, .string v.f2, .slice (some ad0) ks.length c] w [(g_y, y)] w2) := ⟨HF1.out.step (below_step (by with_reducible repeat (first | exact Below.refl _ _ | apply pw_below_drewN | apply below_drew1)) hb2)⟩; clear hb2 m0 m1 m2 m3 m4 m5 r0 r1 r2 g0 g1 g2 hlt y0 y1 y2; have yf : Aside0 (w2.cell? ⟨g_y, 0, none⟩ = some (.int .i64 y.f0) ∧ w2.cell? ⟨g_y, 1, none⟩ = some (.int .i64 y.f1) ∧ w2.cell? ⟨g_y, 2, none⟩ = some (.string y.f2)) := ⟨HE2.out.at (by simp)⟩; obtain ⟨y0, y1, y2⟩ := yf.out)
 all_goals
  obtain ⟨m0, m1, m2, m3, m4, m5⟩ := HE2.out.cells
  obtain ⟨_, _, _, hz⟩ := HE2.out.res
  obtain ⟨r0, r1, r2, g0, g1, g2⟩ := box3 hz
  have hlt := blk_lt hz
  have HZ2 := Aside0.mk hz
  clear hz
  obtain ⟨y0, y1, y2⟩ := HE2.out.at (g := g_y) (y := y) (by simp)
  obtain ⟨k0, k1, k2, k3, k4, k5⟩ := HX1.out.below HE2.out.below
  go_upto_region 39 with (go_at_call 38; refine (K1.out _ HE2.out.below _ _ HL1.out (Kd.C_below HI1.out HE2.out.below)).mono ?_; rintro e w3 ⟨rfl, hb3⟩; have HE3 := Aside0.mk (HE2.out.step hb3); clear hb3 m0 m1 m2 m3 m4 m5 r0 r1 r2 g0 g1 g2 hlt y0 y1 y2 k0 k1 k2 k3 k4 k5)
  have HF3 := Aside0.mk (HE3.out.add z)
  generalize hg3 : w3.heap.size = g_z at HF3 ⊢
  generalize w3.alloc (.cells #[.int .i64 z.f0, .int .i64 z.f1, .string z.f2] 23) = W3 at HF3 ⊢
  clear HE3 hg3
  obtain ⟨m0, m1, m2, m3, m4, m5⟩ := HF3.out.cells
  obtain ⟨_, _, _, hz⟩ := HF3.out.res
  obtain ⟨r0, r1, r2, g0, g1, g2⟩ := box3 hz
  have hlt := blk_lt hz
  have HZ3 := Aside0.mk hz
  clear hz
  obtain ⟨z0, z1, z2⟩ := HF3.out.at (g := g_z) (y := z) (by simp)
  obtain ⟨y0, y1, y2⟩ := HF3.out.at (g := g_y) (y := y) (by simp)
  go_upto_region 43 with (fail)
  clear m0 m1 m2 m3 m4 m5 r0 r1 r2 g0 g1 g2 hlt z0 z1 z2 y0 y1 y2
  refine start_ (n := 18) (S := (EvL #[.int .i64 14, .string nm, .int .i64 v.f0, .int .i64 v.f1, .string v.f2, .slice (some ad0) ks.length c] w [(g_z, z), (g_y, y)])) (ds := []) (fB 18 0) (by kernel_rfl) rfl rfl (EvL.step HF3.out (below_drew1 (Below.refl _ _))) (fun hHeld => ?_)
  generalize W3.drew = wd at hHeld ⊢
  refine pure_ (i := 0) (N := some 153) (v := ?_) (a' := ?_) (fB 18 1) rfl rfl (by kernel_rfl) (fun _ _ _ h => h) (Or.inl ⟨by rfl, by intro w'; go_simp; (first | with_reducible rfl | skip)⟩) (by simp only [Act.put, zA, zB, zC]; rfl) ?_
  refine take_ (i := 1) (N := some 154) (v := ?_) (a' := ?_) (fB 18 3) rfl rfl (by kernel_rfl) (fun _ _ _ h => h) (Or.inl ⟨by rfl, by intro w' hs0; obtain ⟨m0, m1, m2, m3, m4, m5⟩ := EvL.cells hs0; go_simp; with_reducible rfl⟩) hHeld (by simp only [Act.put, zA, zB, zC]; rfl) ?_
  refine pure_ (i := 2) (N := some 155) (v := ?_) (a' := ?_) (fB 18 7) rfl rfl (by kernel_rfl) (fun _ _ _ h => h) (Or.inl ⟨by rfl, by intro w'; go_simp; (first | with_reducible rfl | skip)⟩) (by simp only [Act.put, zA, zB, zC]; rfl) ?_
  refine pure_ (i := 3) (N := some 156) (v := ?_) (a' := ?_) (fB 18 15) rfl rfl (by kernel_rfl) (fun _ _ _ h => h) (Or.inl ⟨by rfl, by intro w'; go_simp; (first | with_reducible rfl | skip)⟩) (by simp only [Act.put, zA, zB, zC]; rfl) ?_
  refine take_ (i := 4) (N := some 157) (v := ?_) (a' := ?_) (fB 18 31) rfl rfl (by kernel_rfl) (fun _ _ _ h => h) (Or.inl ⟨by rfl, by intro w' hs0; obtain ⟨z0, z1, z2⟩ := EvL.at hs0 (g := g_z) (y := z) (by simp); go_simp; with_reducible rfl⟩) hHeld (by simp only [Act.put, zA, zB, zC]; rfl) ?_
  refine one1_ (i := 5) (N := some 158) (fB 18 63) rfl rfl (by kernel_rfl) (by decide) (fun K hK => ?_)
  refine goes_ Tryd.func73 (by kernel_rfl) rfl #[.bool false] (by rfl) rfl rfl (by (try simp only [List.map_toArray, List.map_cons, List.map_nil]); first | done | rfl) ?_
  refine (truth_calls false _).mono ?_
  rintro e w4 ⟨rfl, hb4⟩
  have hs4 := EvL.step hHeld hb4
  refine ⟨_, rfl, ?_⟩
  clear hHeld
  refine hK.out _ _ (hs4) (fun hHeld => ?_)
  clear hK K
  refine norm_ (a' := ?_) ?_ ?_
  rotate_left
  ·show Act.put _ (some 158) _ = _
   simp only [Act.put, zA, zB, zC]
   rfl
  refine pure_ (i := 6) (N := some 159) (v := ?_) (a' := ?_) (fB 18 127) rfl rfl (by kernel_rfl) (fun _ _ _ h => h) (Or.inl ⟨by rfl, by intro w'; go_simp; (first | with_reducible rfl | skip)⟩) (by simp only [Act.put, zA, zB, zC]; rfl) ?_
  refine pure_ (i := 7) (N := some 160) (v := ?_) (a' := ?_) (fB 18 255) rfl rfl (by kernel_rfl) (fun _ _ _ h => h) (Or.inl ⟨by rfl, by intro w'; go_simp; (first | with_reducible rfl | skip)⟩) (by simp only [Act.put, zA, zB, zC]; rfl) ?_
  refine pure_ (i := 8) (N := some 161) (v := ?_) (a' := ?_) (fB 18 511) rfl rfl (by kernel_rfl) (fun _ _ _ h => h) (Or.inl ⟨by rfl, by intro w'; go_simp; (first | with_reducible rfl | skip)⟩) (by simp only [Act.put, zA, zB, zC]; rfl) ?_
  refine pure_ (i := 9) (N := some 162) (v := undef) (a' := ?_) (fB 18 1023) rfl rfl (by kernel_rfl) (fun _ _ _ h => h) (Or.inr ⟨by rfl, rfl⟩) ?_ ?_
  rotate_left
  ·simp only [Act.put, zA, zB, zC]
   rfl
  refine pure_ (i := 10) (N := some 163) (v := undef) (a' := ?_) (fB 18 2047) rfl rfl (by kernel_rfl) (fun _ _ _ h => h) (Or.inr ⟨by rfl, rfl⟩) ?_ ?_
  rotate_left
  ·simp only [Act.put, zA, zB, zC]
   rfl
  refine pure_ (i := 11) (N := some 164) (v := undef) (a' := ?_) (fB 18 4095) rfl rfl (by kernel_rfl) (fun _ _ _ h => h) (Or.inr ⟨by rfl, rfl⟩) ?_ ?_
  rotate_left
  ·simp only [Act.put, zA, zB, zC]
   rfl
  refine pure_ (i := 12) (N := some 165) (v := undef) (a' := ?_) (fB 18 8191) rfl rfl (by kernel_rfl) (fun _ _ _ h => h) (Or.inr ⟨by rfl, rfl⟩) ?_ ?_
  rotate_left
  ·simp only [Act.put, zA, zB, zC]
   rfl
  refine pure_ (i := 13) (N := some 166) (v := undef) (a' := ?_) (fB 18 16383) rfl rfl (by kernel_rfl) (fun _ _ _ h => h) (Or.inr ⟨by rfl, rfl⟩) ?_ ?_
  rotate_left
  ·simp only [Act.put, zA, zB, zC]
   rfl
  refine pure_ (i := 14) (N := some 167) (v := undef) (a' := ?_) (fB 18 32767) rfl rfl (by kernel_rfl) (fun _ _ _ h => h) (Or.inr ⟨by rfl, rfl⟩) ?_ ?_
  rotate_left
  ·simp only [Act.put, zA, zB, zC]
   rfl
  refine pure_ (i := 15) (N := some 168) (v := undef) (a' := ?_) (fB 18 65535) rfl rfl (by kernel_rfl) (fun _ _ _ h => h) (Or.inr ⟨by rfl, rfl⟩) ?_ ?_
  rotate_left
  ·simp only [Act.put, zA, zB, zC]
   rfl
  refine pure_ (i := 16) (N := some 169) (v := undef) (a' := ?_) (fB 18 131071) rfl rfl (by kernel_rfl) (fun _ _ _ h => h) (Or.inr ⟨by rfl, rfl⟩) ?_ ?_
  rotate_left
  ·simp only [Act.put, zA, zB, zC]
   rfl
  refine pure_ (i := 17) (N := some 170) (v := ?_) (a' := ?_) (fB 18 262143) rfl rfl (by kernel_rfl) (fun _ _ _ h => h) (Or.inl ⟨by rfl, by intro w'; go_simp; (first | with_reducible rfl | skip)⟩) (by simp only [Act.put, zA, zB, zC]; rfl) ?_
  refine done_ (by kernel_rfl) ?_
  have HE4 := Aside0.mk hHeld
  clear hHeld
  obtain ⟨m0, m1, m2, m3, m4, m5⟩ := HE4.out.cells
  obtain ⟨_, _, _, hz⟩ := HE4.out.res
  obtain ⟨r0, r1, r2, g0, g1, g2⟩ := box3 hz
  have hlt := blk_lt hz
  have HZ4 := Aside0.mk hz
  clear hz
  obtain ⟨z0, z1, z2⟩ := HE4.out.at (g := g_z) (y := z) (by simp)
  obtain ⟨y0, y1, y2⟩ := HE4.out.at (g := g_y) (y := y) (by simp)
  go_wp2
  refine bodyPost_ret (results_list rfl (by simp) (.cell _ _ _ _ _ rfl (blkput3 HZ4.out _ _ _) hu rfl (by kernel_rfl) (.tmp .nil))) rfl ⟨rfl, below_put3 HE4.out.below (by omega) _ _ _⟩
set_option maxHeartbeats 8000000 in
set_option maxRecDepth 100000 in
theorem ev14b (nm : ByteArray) (v : Va) (ks : List Ex) (A : Option Addr) (c : Nat) (hl : ks.length ≤ c) (B : Option Addr) (n2 c2 : Nat) (D : Option Addr) (n3 c3 : Nat) (w : World) (hC : Kd.C k26 w A ks.length ks) (hk : ks.length = 2) (y : Va) (K0 : Aside0 (KidR B n2 c2 D n3 c3 (rd_T26 ks 0) (y, 0) w)) (z : Va) (K1 : Aside0 (KidR B n2 c2 D n3 c3 (rd_T26 ks 1) (z, 0) w)) (hy2 : eqv y.f0 2 y.f1 (tn false) y.f2 ⟨#[]⟩ = false) (hz2 : eqv z.f0 2 z.f1 (tn false) z.f2 ⟨#[]⟩ = false) (r : Wo) (h1 : (y.f0 == 0) = true → r = (nullV, 0)) (h2 : (y.f0 == 0) = false → (z.f0 == 0) = true → r = (nullV, 0)) (cv : Int) (hcv : headgateref03_Cmp.f 1 y.f0 y.f1 y.f2 z.f0 z.f1 z.f2 = some cv) (h3 : (y.f0 == 0) = false → (z.f0 == 0) = false → r = (boolV true, 0)) :
  Calls Tryd.prog 38 #[.agg #[.int .i64 14, .string nm, .int .i64 v.f0, .int .i64 v.f1, .string v.f2, .slice A ks.length c], .slice B n2 c2, .slice D n3 c3] w (RetW (r) w) := by
 have hu := Tryd.underlying23
 have HC := Aside0.mk hC
 have HK := Aside0.mk hk
 clear hk hC
 obtain ⟨ad0, A0, C0, e0, x00, x01, x02, x03, x04, x05, hl0, hi0⟩ := at_T26 HC.out 0 (by decide) (by have := HK.out; omega)
 cases e0
 simp only [show (Int.toNat 0 * 6 : Nat) = 0 from rfl, add_zero_] at x00 x01 x02 x03 x04 x05
 have HX0 := Aside0.mk (show KX w _ _ _ _ _ _ _ _ _ _ _ _ from ⟨x00, x01, x02, x03, x04, x05⟩)
 have HL0 := Aside0.mk hl0
 have HI0 := Aside0.mk hi0
 clear hl0 hi0 x00 x01 x02 x03 x04 x05
 have q0 : decide (((0 : Int)) < (ks.length : Int)) = true := decide_eq_true (by have := HK.out; omega)
 have t0 : decide ((0 : Nat) < ks.length) = true := decide_eq_true (by have := HK.out; omega)
 have v0 : ((0 : Nat) < ks.length) = True := eq_true (by have := HK.out; omega)
 obtain ⟨ad1, A1, C1, e1, x10, x11, x12, x13, x14, x15, hl1, hi1⟩ := at_T26 HC.out 1 (by decide) (by have := HK.out; omega)
 cases e1
 simp only [show (Int.toNat 1 * 6 : Nat) = 6 from rfl, add_pos_ _ 6 (by decide)] at x10 x11 x12 x13 x14 x15
 have HX1 := Aside0.mk (show KX w _ _ _ _ _ _ _ _ _ _ _ _ from ⟨x10, x11, x12, x13, x14, x15⟩)
 have HL1 := Aside0.mk hl1
 have HI1 := Aside0.mk hi1
 clear hl1 hi1 x10 x11 x12 x13 x14 x15
 have q1 : decide (((1 : Int)) < (ks.length : Int)) = true := decide_eq_true (by have := HK.out; omega)
 have t1 : decide ((1 : Nat) < ks.length) = true := decide_eq_true (by have := HK.out; omega)
 have v1 : ((1 : Nat) < ks.length) = True := eq_true (by have := HK.out; omega)
 have u1 : ((1 : Int) < (ks.length : Int)) = True := eq_true (by have := HK.out; omega)
 have HE0 := Aside0.mk (EvL.new #[.int .i64 14, .string nm, .int .i64 v.f0, .int .i64 v.f1, .string v.f2, .slice (some ad0) ks.length c] w)
 go_enter Tryd.func38, Tryd.ntmps38
 go_upto_region 1 with (fail)
 generalize (w.alloc (.cells #[.int .i64 14, .string nm, .int .i64 v.f0, .int .i64 v.f1, .string v.f2, .slice (some ad0) ks.length c] 26)).alloc (.cells #[.int .i64 0, .int .i64 0, .string ⟨#[]⟩] 23) = W0 at HE0 ⊢
 obtain ⟨m0, m1, m2, m3, m4, m5⟩ := HE0.out.cells
 obtain ⟨_, _, _, hz⟩ := HE0.out.res
 obtain ⟨r0, r1, r2, g0, g1, g2⟩ := box3 hz
 have hlt := blk_lt hz
 have HZ0 := Aside0.mk hz
 clear hz
 obtain ⟨k0, k1, k2, k3, k4, k5⟩ := HX0.out.below HE0.out.below
 go_upto_region 9 with (go_at_call 38; refine (K0.out _ HE0.out.below _ _ HL0.out (Kd.C_below HI0.out HE0.out.below)).mono ?_; rintro e w1 ⟨rfl, hb1⟩; have HE1 := Aside0.mk (HE0.out.step hb1); clear hb1 m0 m1 m2 m3 m4 m5 r0 r1 r2 g0 g1 g2 hlt k0 k1 k2 k3 k4 k5)
 have HF1 := Aside0.mk (HE1.out.add y)
 generalize hg1 : w1.heap.size = g_y at HF1 ⊢
 generalize w1.alloc (.cells #[.int .i64 y.f0, .int .i64 y.f1, .string y.f2] 23) = W1 at HF1 ⊢
 clear HE1 hg1
 obtain ⟨m0, m1, m2, m3, m4, m5⟩ := HF1.out.cells
 obtain ⟨_, _, _, hz⟩ := HF1.out.res
 obtain ⟨r0, r1, r2, g0, g1, g2⟩ := box3 hz
 have hlt := blk_lt hz
 have HZ1 := Aside0.mk hz
 clear hz
 obtain ⟨y0, y1, y2⟩ := HF1.out.at (g := g_y) (y := y) (by simp)
 go_upto_region 15 with (fail)
 go_region_with (go_at_call 73; refine (truth_calls false _).mono ?_; rintro e w2 ⟨rfl, hb2⟩; have HE2 : Aside0 (EvL #[.int .i64 14, .string nm, .int .i64 v.f0, .int .i64 v.f1, .string v.f2, .slice (some ad0) ks.length c] w [(g_y, y)] w2) := ⟨HF1.out.step (below_step (by with_reducible repeat (first | exact Below.refl _ _ | apply pw_below_drewN | apply below_drew1)) hb2)⟩; clear hb2 m0 m1 m2 m3 m4 m5 r0 r1 r2 g0 g1 g2 hlt y0 y1 y2; have yf : Aside0 (w2.cell? ⟨g_y, 0, none⟩ = some (.int .i64 y.f0) ∧ w2.cell? ⟨g_y, 1, none⟩ = some (.int .i64 y.f1) ∧ w2.cell? ⟨g_y, 2, none⟩ = some (.string y.f2)) := ⟨HE2.out.at (by simp)⟩; obtain ⟨y0, y1, y2⟩ := yf.out)
 all_goals
  obtain ⟨m0, m1, m2, m3, m4, m5⟩ := HE2.out.cells
  obtain ⟨_, _, _, hz⟩ := HE2.out.res
  obtain ⟨r0, r1, r2, g0, g1, g2⟩ := box3 hz
  have hlt := blk_lt hz
  have HZ2 := Aside0.mk hz
  clear hz
  obtain ⟨y0, y1, y2⟩ := HE2.out.at (g := g_y) (y := y) (by simp)
  obtain ⟨k0, k1, k2, k3, k4, k5⟩ := HX1.out.below HE2.out.below
  go_upto_region 39 with (go_at_call 38; refine (K1.out _ HE2.out.below _ _ HL1.out (Kd.C_below HI1.out HE2.out.below)).mono ?_; rintro e w3 ⟨rfl, hb3⟩; have HE3 := Aside0.mk (HE2.out.step hb3); clear hb3 m0 m1 m2 m3 m4 m5 r0 r1 r2 g0 g1 g2 hlt y0 y1 y2 k0 k1 k2 k3 k4 k5)
  have HF3 := Aside0.mk (HE3.out.add z)
  generalize hg3 : w3.heap.size = g_z at HF3 ⊢
  generalize w3.alloc (.cells #[.int .i64 z.f0, .int .i64 z.f1, .string z.f2] 23) = W3 at HF3 ⊢
  clear HE3 hg3
  obtain ⟨m0, m1, m2, m3, m4, m5⟩ := HF3.out.cells
  obtain ⟨_, _, _, hz⟩ := HF3.out.res
  obtain ⟨r0, r1, r2, g0, g1, g2⟩ := box3 hz
  have hlt := blk_lt hz
  have HZ3 := Aside0.mk hz
  clear hz
  obtain ⟨z0, z1, z2⟩ := HF3.out.at (g := g_z) (y := z) (by simp)
  obtain ⟨y0, y1, y2⟩ := HF3.out.at (g := g_y) (y := y) (by simp)
  go_upto_region 43 with (fail)
  clear m0 m1 m2 m3 m4 m5 r0 r1 r2 g0 g1 g2 hlt z0 z1 z2 y0 y1 y2
  refine start_ (n := 18) (S := (EvL #[.int .i64 14, .string nm, .int .i64 v.f0, .int .i64 v.f1, .string v.f2, .slice (some ad0) ks.length c] w [(g_z, z), (g_y, y)])) (ds := []) (fB 18 0) (by kernel_rfl) rfl rfl (EvL.step HF3.out (below_drew1 (Below.refl _ _))) (fun hHeld => ?_)
  generalize W3.drew = wd at hHeld ⊢
  refine pure_ (i := 0) (N := some 153) (v := ?_) (a' := ?_) (fB 18 1) rfl rfl (by kernel_rfl) (fun _ _ _ h => h) (Or.inl ⟨by rfl, by intro w'; go_simp; (first | with_reducible rfl | skip)⟩) (by simp only [Act.put, zA, zB, zC]; rfl) ?_
  refine take_ (i := 1) (N := some 154) (v := ?_) (a' := ?_) (fB 18 3) rfl rfl (by kernel_rfl) (fun _ _ _ h => h) (Or.inl ⟨by rfl, by intro w' hs0; obtain ⟨m0, m1, m2, m3, m4, m5⟩ := EvL.cells hs0; go_simp; with_reducible rfl⟩) hHeld (by simp only [Act.put, zA, zB, zC]; rfl) ?_
  refine pure_ (i := 2) (N := some 155) (v := ?_) (a' := ?_) (fB 18 7) rfl rfl (by kernel_rfl) (fun _ _ _ h => h) (Or.inl ⟨by rfl, by intro w'; go_simp; (first | with_reducible rfl | skip)⟩) (by simp only [Act.put, zA, zB, zC]; rfl) ?_
  refine pure_ (i := 3) (N := some 156) (v := ?_) (a' := ?_) (fB 18 15) rfl rfl (by kernel_rfl) (fun _ _ _ h => h) (Or.inl ⟨by rfl, by intro w'; go_simp; (first | with_reducible rfl | skip)⟩) (by simp only [Act.put, zA, zB, zC]; rfl) ?_
  refine take_ (i := 4) (N := some 157) (v := ?_) (a' := ?_) (fB 18 31) rfl rfl (by kernel_rfl) (fun _ _ _ h => h) (Or.inl ⟨by rfl, by intro w' hs0; obtain ⟨z0, z1, z2⟩ := EvL.at hs0 (g := g_z) (y := z) (by simp); go_simp; with_reducible rfl⟩) hHeld (by simp only [Act.put, zA, zB, zC]; rfl) ?_
  refine one1_ (i := 5) (N := some 158) (fB 18 63) rfl rfl (by kernel_rfl) (by decide) (fun K hK => ?_)
  refine goes_ Tryd.func73 (by kernel_rfl) rfl #[.bool false] (by rfl) rfl rfl (by (try simp only [List.map_toArray, List.map_cons, List.map_nil]); first | done | rfl) ?_
  refine (truth_calls false _).mono ?_
  rintro e w4 ⟨rfl, hb4⟩
  have hs4 := EvL.step hHeld hb4
  refine ⟨_, rfl, ?_⟩
  clear hHeld
  refine hK.out _ _ (hs4) (fun hHeld => ?_)
  clear hK K
  refine norm_ (a' := ?_) ?_ ?_
  rotate_left
  ·show Act.put _ (some 158) _ = _
   simp only [Act.put, zA, zB, zC]
   rfl
  refine pure_ (i := 6) (N := some 159) (v := ?_) (a' := ?_) (fB 18 127) rfl rfl (by kernel_rfl) (fun _ _ _ h => h) (Or.inl ⟨by rfl, by intro w'; go_simp; (first | with_reducible rfl | skip)⟩) (by simp only [Act.put, zA, zB, zC]; rfl) ?_
  refine pure_ (i := 7) (N := some 160) (v := ?_) (a' := ?_) (fB 18 255) rfl rfl (by kernel_rfl) (fun _ _ _ h => h) (Or.inl ⟨by rfl, by intro w'; go_simp; (first | with_reducible rfl | skip)⟩) (by simp only [Act.put, zA, zB, zC]; rfl) ?_
  refine pure_ (i := 8) (N := some 161) (v := ?_) (a' := ?_) (fB 18 511) rfl rfl (by kernel_rfl) (fun _ _ _ h => h) (Or.inl ⟨by rfl, by intro w'; go_simp; (first | with_reducible rfl | skip)⟩) (by simp only [Act.put, zA, zB, zC]; rfl) ?_
  refine pure_ (i := 9) (N := some 162) (v := ?_) (a' := ?_) (fB 18 1023) rfl rfl (by kernel_rfl) (fun _ _ _ h => h) (Or.inl ⟨by rfl, by intro w'; go_simp; (first | with_reducible rfl | skip)⟩) (by simp only [Act.put, zA, zB, zC]; rfl) ?_
  refine take_ (i := 10) (N := some 163) (v := ?_) (a' := ?_) (fB 18 2047) rfl rfl (by kernel_rfl) (fun _ _ _ h => h) (Or.inl ⟨by rfl, by intro w' hs0; obtain ⟨m0, m1, m2, m3, m4, m5⟩ := EvL.cells hs0; go_simp; with_reducible rfl⟩) hHeld (by simp only [Act.put, zA, zB, zC]; rfl) ?_
  refine pure_ (i := 11) (N := some 164) (v := ?_) (a' := ?_) (fB 18 4095) rfl rfl (by kernel_rfl) (fun _ _ _ h => h) (Or.inl ⟨by rfl, by intro w'; go_simp; (first | with_reducible rfl | skip)⟩) (by simp only [Act.put, zA, zB, zC]; rfl) ?_
  refine pure_ (i := 12) (N := some 165) (v := ?_) (a' := ?_) (fB 18 8191) rfl rfl (by kernel_rfl) (fun _ _ _ h => h) (Or.inl ⟨by rfl, by intro w'; go_simp; (first | with_reducible rfl | skip)⟩) (by simp only [Act.put, zA, zB, zC]; rfl) ?_
  refine pure_ (i := 13) (N := some 166) (v := undef) (a' := ?_) (fB 18 16383) rfl rfl (by kernel_rfl) (fun _ _ _ h => h) (Or.inr ⟨by rfl, rfl⟩) ?_ ?_
  rotate_left
  ·simp only [Act.put, zA, zB, zC]
   rfl
  refine pure_ (i := 14) (N := some 167) (v := undef) (a' := ?_) (fB 18 32767) rfl rfl (by kernel_rfl) (fun _ _ _ h => h) (Or.inr ⟨by rfl, rfl⟩) ?_ ?_
  rotate_left
  ·simp only [Act.put, zA, zB, zC]
   rfl
  refine pure_ (i := 15) (N := some 168) (v := undef) (a' := ?_) (fB 18 65535) rfl rfl (by kernel_rfl) (fun _ _ _ h => h) (Or.inr ⟨by rfl, rfl⟩) ?_ ?_
  rotate_left
  ·simp only [Act.put, zA, zB, zC]
   rfl
  refine pure_ (i := 16) (N := some 169) (v := ?_) (a' := ?_) (fB 18 131071) rfl rfl (by kernel_rfl) (fun _ _ _ h => h) (Or.inl ⟨by rfl, by intro w'; go_simp; (first | with_reducible rfl | skip)⟩) (by simp only [Act.put, zA, zB, zC]; rfl) ?_
  refine pure_ (i := 17) (N := some 170) (v := ?_) (a' := ?_) (fB 18 262143) rfl rfl (by kernel_rfl) (fun _ _ _ h => h) (Or.inl ⟨by rfl, by intro w'; go_simp; (first | with_reducible rfl | skip)⟩) (by simp only [Act.put, zA, zB, zC]; rfl) ?_
  refine done_ (by kernel_rfl) ?_
  have HE4 := Aside0.mk hHeld
  clear hHeld
  obtain ⟨m0, m1, m2, m3, m4, m5⟩ := HE4.out.cells
  obtain ⟨_, _, _, hz⟩ := HE4.out.res
  obtain ⟨r0, r1, r2, g0, g1, g2⟩ := box3 hz
  have hlt := blk_lt hz
  have HZ4 := Aside0.mk hz
  clear hz
  obtain ⟨z0, z1, z2⟩ := HE4.out.at (g := g_z) (y := z) (by simp)
  obtain ⟨y0, y1, y2⟩ := HE4.out.at (g := g_y) (y := y) (by simp)
  cases hy : (y.f0 == 0)
  ·cases hn : (z.f0 == 0)
   ·have e := h3 hy hn
    subst e
    clear h1 h2 h3
    go_wp2_with (first
      | (go_at_call 74; refine (headgateref03_Cmp.calls 1 y.f0 y.f1 y.f2 z.f0 z.f1 z.f2 cv _ hcv).mono ?_; rintro e w5 ⟨rfl, hb5⟩; have HE5 := Aside0.mk (HE4.out.step hb5); clear hb5 m0 m1 m2 m3 m4 m5 r0 r1 r2 g0 g1 g2 hlt z0 z1 z2 y0 y1 y2; obtain ⟨m0, m1, m2, m3, m4, m5⟩ := HE5.out.cells)
      | (go_at_call 73; refine (truth_calls _ _).mono ?_; rintro e w6 ⟨rfl, hb6⟩; have HE6 := Aside0.mk (HE5.out.step hb6); clear hb6 m0 m1 m2 m3 m4 m5; obtain ⟨_, _, _, hz⟩ := HE6.out.res; obtain ⟨r0, r1, r2, g0, g1, g2⟩ := box3 hz; have hlt := blk_lt hz; have HZ6 := Aside0.mk hz; clear hz))
    refine bodyPost_ret (results_list rfl (by simp) (.cell _ _ _ _ _ rfl (blkput3 HZ6.out _ _ _) hu rfl (by kernel_rfl) (.tmp .nil))) rfl ⟨rfl, below_put3 HE6.out.below (by omega) _ _ _⟩
   ·have e := h2 hy hn
    subst e
    clear h1 h2 h3
    go_wp2
    refine bodyPost_ret (results_list rfl (by simp) (.cell _ _ _ _ _ rfl (blkput3 HZ4.out _ _ _) hu rfl (by kernel_rfl) (.tmp .nil))) rfl ⟨rfl, below_put3 HE4.out.below (by omega) _ _ _⟩
  ·have e := h1 hy
   subst e
   clear h1 h2 h3
   go_wp2
   refine bodyPost_ret (results_list rfl (by simp) (.cell _ _ _ _ _ rfl (blkput3 HZ4.out _ _ _) hu rfl (by kernel_rfl) (.tmp .nil))) rfl ⟨rfl, below_put3 HE4.out.below (by omega) _ _ _⟩
end Go.Proofs.YtopolnbffmljaaaDoor.Q
namespace Go.Proofs.YtopolnbffmljaaaDoor.Q
attribute [local go_sem high] eqV
set_option maxHeartbeats 8000000 in
set_option maxRecDepth 100000 in
theorem ev15s (nm : ByteArray) (v : Va) (ks : List Ex) (A : Option Addr) (c : Nat) (hl : ks.length ≤ c) (B : Option Addr) (n2 c2 : Nat) (D : Option Addr) (n3 c3 : Nat) (w : World) (hC : Kd.C k26 w A ks.length ks) (hk : ks.length = 2) (y : Va) (K0 : Aside0 (KidR B n2 c2 D n3 c3 (rd_T26 ks 0) (y, 0) w)) (hy : eqv y.f0 2 y.f1 (tn true) y.f2 ⟨#[]⟩ = true)  :
  Calls Tryd.prog 38 #[.agg #[.int .i64 15, .string nm, .int .i64 v.f0, .int .i64 v.f1, .string v.f2, .slice A ks.length c], .slice B n2 c2, .slice D n3 c3] w (RetW ((y, 0)) w) := by
 have hu := Tryd.underlying23
 have HC := Aside0.mk hC
 have HK := Aside0.mk hk
 clear hk hC
 obtain ⟨ad0, A0, C0, e0, x00, x01, x02, x03, x04, x05, hl0, hi0⟩ := at_T26 HC.out 0 (by decide) (by have := HK.out; omega)
 cases e0
 simp only [show (Int.toNat 0 * 6 : Nat) = 0 from rfl, add_zero_] at x00 x01 x02 x03 x04 x05
 have HX0 := Aside0.mk (show KX w _ _ _ _ _ _ _ _ _ _ _ _ from ⟨x00, x01, x02, x03, x04, x05⟩)
 have HL0 := Aside0.mk hl0
 have HI0 := Aside0.mk hi0
 clear hl0 hi0 x00 x01 x02 x03 x04 x05
 have q0 : decide (((0 : Int)) < (ks.length : Int)) = true := decide_eq_true (by have := HK.out; omega)
 have t0 : decide ((0 : Nat) < ks.length) = true := decide_eq_true (by have := HK.out; omega)
 have v0 : ((0 : Nat) < ks.length) = True := eq_true (by have := HK.out; omega)
 have HE0 := Aside0.mk (EvL.new #[.int .i64 15, .string nm, .int .i64 v.f0, .int .i64 v.f1, .string v.f2, .slice (some ad0) ks.length c] w)
 go_enter Tryd.func38, Tryd.ntmps38
 go_upto_region 1 with (fail)
 generalize (w.alloc (.cells #[.int .i64 15, .string nm, .int .i64 v.f0, .int .i64 v.f1, .string v.f2, .slice (some ad0) ks.length c] 26)).alloc (.cells #[.int .i64 0, .int .i64 0, .string ⟨#[]⟩] 23) = W0 at HE0 ⊢
 obtain ⟨m0, m1, m2, m3, m4, m5⟩ := HE0.out.cells
 obtain ⟨_, _, _, hz⟩ := HE0.out.res
 obtain ⟨r0, r1, r2, g0, g1, g2⟩ := box3 hz
 have hlt := blk_lt hz
 have HZ0 := Aside0.mk hz
 clear hz
 obtain ⟨k0, k1, k2, k3, k4, k5⟩ := HX0.out.below HE0.out.below
 go_upto_region 9 with (go_at_call 38; refine (K0.out _ HE0.out.below _ _ HL0.out (Kd.C_below HI0.out HE0.out.below)).mono ?_; rintro e w1 ⟨rfl, hb1⟩; have HE1 := Aside0.mk (HE0.out.step hb1); clear hb1 m0 m1 m2 m3 m4 m5 r0 r1 r2 g0 g1 g2 hlt k0 k1 k2 k3 k4 k5)
 have HF1 := Aside0.mk (HE1.out.add y)
 generalize hg1 : w1.heap.size = g_y at HF1 ⊢
 generalize w1.alloc (.cells #[.int .i64 y.f0, .int .i64 y.f1, .string y.f2] 23) = W1 at HF1 ⊢
 clear HE1 hg1
 obtain ⟨m0, m1, m2, m3, m4, m5⟩ := HF1.out.cells
 obtain ⟨_, _, _, hz⟩ := HF1.out.res
 obtain ⟨r0, r1, r2, g0, g1, g2⟩ := box3 hz
 have hlt := blk_lt hz
 have HZ1 := Aside0.mk hz
 clear hz
 obtain ⟨y0, y1, y2⟩ := HF1.out.at (g := g_y) (y := y) (by simp)
 go_upto_region 18 with (fail)
 go_region_with (go_at_call 73; refine (truth_calls true _).mono ?_; rintro e w2 ⟨rfl, hb2⟩; have HE2 : Aside0 (EvL #[.int .i64 15, .string nm, .int .i64 v.f0, .int .i64 v.f1, .string v.f2, .slice (some ad0) ks.length c] w [(g_y, y)] w2) := ⟨HF1.out.step (below_step (by with_reducible repeat (first | exact Below.refl _ _ | apply pw_below_drewN | apply below_drew1)) hb2)⟩; clear hb2 m0 m1 m2 m3 m4 m5 r0 r1 r2 g0 g1 g2 hlt y0 y1 y2; have yf : Aside0 (w2.cell? ⟨g_y, 0, none⟩ = some (.int .i64 y.f0) ∧ w2.cell? ⟨g_y, 1, none⟩ = some (.int .i64 y.f1) ∧ w2.cell? ⟨g_y, 2, none⟩ = some (.string y.f2)) := ⟨HE2.out.at (by simp)⟩; obtain ⟨y0, y1, y2⟩ := yf.out)
 all_goals
  obtain ⟨m0, m1, m2, m3, m4, m5⟩ := HE2.out.cells
  obtain ⟨_, _, _, hz⟩ := HE2.out.res
  obtain ⟨r0, r1, r2, g0, g1, g2⟩ := box3 hz
  have hlt := blk_lt hz
  have HZ2 := Aside0.mk hz
  clear hz
  obtain ⟨y0, y1, y2⟩ := HE2.out.at (g := g_y) (y := y) (by simp)
  go_wp2
  refine bodyPost_ret (results_list rfl (by simp) (.cell _ _ _ _ _ rfl (blkput3 HZ2.out _ _ _) hu rfl (by kernel_rfl) (.tmp .nil))) rfl ⟨rfl, below_put3 HE2.out.below (by omega) _ _ _⟩
set_option maxHeartbeats 8000000 in
set_option maxRecDepth 100000 in
theorem ev15e (nm : ByteArray) (v : Va) (ks : List Ex) (A : Option Addr) (c : Nat) (hl : ks.length ≤ c) (B : Option Addr) (n2 c2 : Nat) (D : Option Addr) (n3 c3 : Nat) (w : World) (hC : Kd.C k26 w A ks.length ks) (hk : ks.length = 2) (y : Va) (K0 : Aside0 (KidR B n2 c2 D n3 c3 (rd_T26 ks 0) (y, 0) w)) (er : Int) (her : (er != 0) = true) (K1 : Aside0 (KidR B n2 c2 D n3 c3 (rd_T26 ks 1) (nullV, er) w)) (hy : eqv y.f0 2 y.f1 (tn true) y.f2 ⟨#[]⟩ = false)  :
  Calls Tryd.prog 38 #[.agg #[.int .i64 15, .string nm, .int .i64 v.f0, .int .i64 v.f1, .string v.f2, .slice A ks.length c], .slice B n2 c2, .slice D n3 c3] w (RetW ((nullV, er)) w) := by
 have hu := Tryd.underlying23
 have HC := Aside0.mk hC
 have HK := Aside0.mk hk
 clear hk hC
 obtain ⟨ad0, A0, C0, e0, x00, x01, x02, x03, x04, x05, hl0, hi0⟩ := at_T26 HC.out 0 (by decide) (by have := HK.out; omega)
 cases e0
 simp only [show (Int.toNat 0 * 6 : Nat) = 0 from rfl, add_zero_] at x00 x01 x02 x03 x04 x05
 have HX0 := Aside0.mk (show KX w _ _ _ _ _ _ _ _ _ _ _ _ from ⟨x00, x01, x02, x03, x04, x05⟩)
 have HL0 := Aside0.mk hl0
 have HI0 := Aside0.mk hi0
 clear hl0 hi0 x00 x01 x02 x03 x04 x05
 have q0 : decide (((0 : Int)) < (ks.length : Int)) = true := decide_eq_true (by have := HK.out; omega)
 have t0 : decide ((0 : Nat) < ks.length) = true := decide_eq_true (by have := HK.out; omega)
 have v0 : ((0 : Nat) < ks.length) = True := eq_true (by have := HK.out; omega)
 obtain ⟨ad1, A1, C1, e1, x10, x11, x12, x13, x14, x15, hl1, hi1⟩ := at_T26 HC.out 1 (by decide) (by have := HK.out; omega)
 cases e1
 simp only [show (Int.toNat 1 * 6 : Nat) = 6 from rfl, add_pos_ _ 6 (by decide)] at x10 x11 x12 x13 x14 x15
 have HX1 := Aside0.mk (show KX w _ _ _ _ _ _ _ _ _ _ _ _ from ⟨x10, x11, x12, x13, x14, x15⟩)
 have HL1 := Aside0.mk hl1
 have HI1 := Aside0.mk hi1
 clear hl1 hi1 x10 x11 x12 x13 x14 x15
 have q1 : decide (((1 : Int)) < (ks.length : Int)) = true := decide_eq_true (by have := HK.out; omega)
 have t1 : decide ((1 : Nat) < ks.length) = true := decide_eq_true (by have := HK.out; omega)
 have v1 : ((1 : Nat) < ks.length) = True := eq_true (by have := HK.out; omega)
 have u1 : ((1 : Int) < (ks.length : Int)) = True := eq_true (by have := HK.out; omega)
 have HE0 := Aside0.mk (EvL.new #[.int .i64 15, .string nm, .int .i64 v.f0, .int .i64 v.f1, .string v.f2, .slice (some ad0) ks.length c] w)
 go_enter Tryd.func38, Tryd.ntmps38
 go_upto_region 1 with (fail)
 generalize (w.alloc (.cells #[.int .i64 15, .string nm, .int .i64 v.f0, .int .i64 v.f1, .string v.f2, .slice (some ad0) ks.length c] 26)).alloc (.cells #[.int .i64 0, .int .i64 0, .string ⟨#[]⟩] 23) = W0 at HE0 ⊢
 obtain ⟨m0, m1, m2, m3, m4, m5⟩ := HE0.out.cells
 obtain ⟨_, _, _, hz⟩ := HE0.out.res
 obtain ⟨r0, r1, r2, g0, g1, g2⟩ := box3 hz
 have hlt := blk_lt hz
 have HZ0 := Aside0.mk hz
 clear hz
 obtain ⟨k0, k1, k2, k3, k4, k5⟩ := HX0.out.below HE0.out.below
 go_upto_region 9 with (go_at_call 38; refine (K0.out _ HE0.out.below _ _ HL0.out (Kd.C_below HI0.out HE0.out.below)).mono ?_; rintro e w1 ⟨rfl, hb1⟩; have HE1 := Aside0.mk (HE0.out.step hb1); clear hb1 m0 m1 m2 m3 m4 m5 r0 r1 r2 g0 g1 g2 hlt k0 k1 k2 k3 k4 k5)
 have HF1 := Aside0.mk (HE1.out.add y)
 generalize hg1 : w1.heap.size = g_y at HF1 ⊢
 generalize w1.alloc (.cells #[.int .i64 y.f0, .int .i64 y.f1, .string y.f2] 23) = W1 at HF1 ⊢
 clear HE1 hg1
 obtain ⟨m0, m1, m2, m3, m4, m5⟩ := HF1.out.cells
 obtain ⟨_, _, _, hz⟩ := HF1.out.res
 obtain ⟨r0, r1, r2, g0, g1, g2⟩ := box3 hz
 have hlt := blk_lt hz
 have HZ1 := Aside0.mk hz
 clear hz
 obtain ⟨y0, y1, y2⟩ := HF1.out.at (g := g_y) (y := y) (by simp)
 go_upto_region 18 with (fail)
 go_region_with (go_at_call 73; refine (truth_calls true _).mono ?_; rintro e w2 ⟨rfl, hb2⟩; have HE2 : Aside0 (EvL #[.int .i64 15, .string nm, .int .i64 v.f0, .int .i64 v.f1, .string v.f2, .slice (some ad0) ks.length c] w [(g_y, y)] w2) := ⟨HF1.out.step (below_step (by with_reducible repeat (first | exact Below.refl _ _ | apply pw_below_drewN | apply below_drew1)) hb2)⟩; clear hb2 m0 m1 m2 m3 m4 m5 r0 r1 r2 g0 g1 g2 hlt y0 y1 y2; have yf : Aside0 (w2.cell? ⟨g_y, 0, none⟩ = some (.int .i64 y.f0) ∧ w2.cell? ⟨g_y, 1, none⟩ = some (.int .i64 y.f1) ∧ w2.cell? ⟨g_y, 2, none⟩ = some (.string y.f2)) := ⟨HE2.out.at (by simp)⟩; obtain ⟨y0, y1, y2⟩ := yf.out)
 all_goals
  obtain ⟨m0, m1, m2, m3, m4, m5⟩ := HE2.out.cells
  obtain ⟨_, _, _, hz⟩ := HE2.out.res
  obtain ⟨r0, r1, r2, g0, g1, g2⟩ := box3 hz
  have hlt := blk_lt hz
  have HZ2 := Aside0.mk hz
  clear hz
  obtain ⟨y0, y1, y2⟩ := HE2.out.at (g := g_y) (y := y) (by simp)
  obtain ⟨k0, k1, k2, k3, k4, k5⟩ := HX1.out.below HE2.out.below
  go_wp2_with (go_at_call 38; refine (K1.out _ HE2.out.below _ _ HL1.out (Kd.C_below HI1.out HE2.out.below)).mono ?_; rintro e w3 ⟨rfl, hb3⟩; have HE3 := Aside0.mk (HE2.out.step hb3); clear hb3 m0 m1 m2 m3 m4 m5 r0 r1 r2 g0 g1 g2 hlt y0 y1 y2 k0 k1 k2 k3 k4 k5; obtain ⟨_, _, _, hz⟩ := HE3.out.res; obtain ⟨r0, r1, r2, g0, g1, g2⟩ := box3 hz; have hlt := blk_lt hz; have HZ3 := Aside0.mk hz; clear hz)
  refine bodyPost_ret (results_list rfl (by simp) (.cell _ _ _ _ _ rfl (blk_alloc (blkput3 HZ3.out _ _ _) _) hu rfl (by kernel_rfl) (.tmp .nil))) rfl ⟨rfl, below_alloc (below_put3 HE3.out.below (by omega) _ _ _) _⟩
set_option maxHeartbeats 8000000 in
set_option maxRecDepth 100000 in
theorem ev15z (nm : ByteArray) (v : Va) (ks : List Ex) (A : Option Addr) (c : Nat) (hl : ks.length ≤ c) (B : Option Addr) (n2 c2 : Nat) (D : Option Addr) (n3 c3 : Nat) (w : World) (hC : Kd.C k26 w A ks.length ks) (hk : ks.length = 2) (y : Va) (K0 : Aside0 (KidR B n2 c2 D n3 c3 (rd_T26 ks 0) (y, 0) w)) (z : Va) (K1 : Aside0 (KidR B n2 c2 D n3 c3 (rd_T26 ks 1) (z, 0) w)) (hy2 : eqv y.f0 2 y.f1 (tn true) y.f2 ⟨#[]⟩ = false) (hy : eqv z.f0 2 z.f1 (tn true) z.f2 ⟨#[]⟩ = true)  :
  Calls Tryd.prog 38 #[.agg #[.int .i64 15, .string nm, .int .i64 v.f0, .int .i64 v.f1, .string v.f2, .slice A ks.length c], .slice B n2 c2, .slice D n3 c3] w (RetW ((z, 0)) w) := by
 have hu := Tryd.underlying23
 have HC := Aside0.mk hC
 have HK := Aside0.mk hk
 clear hk hC
 obtain ⟨ad0, A0, C0, e0, x00, x01, x02, x03, x04, x05, hl0, hi0⟩ := at_T26 HC.out 0 (by decide) (by have := HK.out; omega)
 cases e0
 simp only [show (Int.toNat 0 * 6 : Nat) = 0 from rfl, add_zero_] at x00 x01 x02 x03 x04 x05
 have HX0 := Aside0.mk (show KX w _ _ _ _ _ _ _ _ _ _ _ _ from ⟨x00, x01, x02, x03, x04, x05⟩)
 have HL0 := Aside0.mk hl0
 have HI0 := Aside0.mk hi0
 clear hl0 hi0 x00 x01 x02 x03 x04 x05
 have q0 : decide (((0 : Int)) < (ks.length : Int)) = true := decide_eq_true (by have := HK.out; omega)
 have t0 : decide ((0 : Nat) < ks.length) = true := decide_eq_true (by have := HK.out; omega)
 have v0 : ((0 : Nat) < ks.length) = True := eq_true (by have := HK.out; omega)
 obtain ⟨ad1, A1, C1, e1, x10, x11, x12, x13, x14, x15, hl1, hi1⟩ := at_T26 HC.out 1 (by decide) (by have := HK.out; omega)
 cases e1
 simp only [show (Int.toNat 1 * 6 : Nat) = 6 from rfl, add_pos_ _ 6 (by decide)] at x10 x11 x12 x13 x14 x15
 have HX1 := Aside0.mk (show KX w _ _ _ _ _ _ _ _ _ _ _ _ from ⟨x10, x11, x12, x13, x14, x15⟩)
 have HL1 := Aside0.mk hl1
 have HI1 := Aside0.mk hi1
 clear hl1 hi1 x10 x11 x12 x13 x14 x15
 have q1 : decide (((1 : Int)) < (ks.length : Int)) = true := decide_eq_true (by have := HK.out; omega)
 have t1 : decide ((1 : Nat) < ks.length) = true := decide_eq_true (by have := HK.out; omega)
 have v1 : ((1 : Nat) < ks.length) = True := eq_true (by have := HK.out; omega)
 have u1 : ((1 : Int) < (ks.length : Int)) = True := eq_true (by have := HK.out; omega)
 have HE0 := Aside0.mk (EvL.new #[.int .i64 15, .string nm, .int .i64 v.f0, .int .i64 v.f1, .string v.f2, .slice (some ad0) ks.length c] w)
 go_enter Tryd.func38, Tryd.ntmps38
 go_upto_region 1 with (fail)
 generalize (w.alloc (.cells #[.int .i64 15, .string nm, .int .i64 v.f0, .int .i64 v.f1, .string v.f2, .slice (some ad0) ks.length c] 26)).alloc (.cells #[.int .i64 0, .int .i64 0, .string ⟨#[]⟩] 23) = W0 at HE0 ⊢
 obtain ⟨m0, m1, m2, m3, m4, m5⟩ := HE0.out.cells
 obtain ⟨_, _, _, hz⟩ := HE0.out.res
 obtain ⟨r0, r1, r2, g0, g1, g2⟩ := box3 hz
 have hlt := blk_lt hz
 have HZ0 := Aside0.mk hz
 clear hz
 obtain ⟨k0, k1, k2, k3, k4, k5⟩ := HX0.out.below HE0.out.below
 go_upto_region 9 with (go_at_call 38; refine (K0.out _ HE0.out.below _ _ HL0.out (Kd.C_below HI0.out HE0.out.below)).mono ?_; rintro e w1 ⟨rfl, hb1⟩; have HE1 := Aside0.mk (HE0.out.step hb1); clear hb1 m0 m1 m2 m3 m4 m5 r0 r1 r2 g0 g1 g2 hlt k0 k1 k2 k3 k4 k5)
 have HF1 := Aside0.mk (HE1.out.add y)
 generalize hg1 : w1.heap.size = g_y at HF1 ⊢
 generalize w1.alloc (.cells #[.int .i64 y.f0, .int .i64 y.f1, .string y.f2] 23) = W1 at HF1 ⊢
 clear HE1 hg1
 obtain ⟨m0, m1, m2, m3, m4, m5⟩ := HF1.out.cells
 obtain ⟨_, _, _, hz⟩ := HF1.out.res
 obtain ⟨r0, r1, r2, g0, g1, g2⟩ := box3 hz
 have hlt := blk_lt hz
 have HZ1 := Aside0.mk hz
 clear hz
 obtain ⟨y0, y1, y2⟩ := HF1.out.at (g := g_y) (y := y) (by simp)
 go_upto_region 18 with (fail)
 go_region_with (go_at_call 73; refine (truth_calls true _).mono ?_; rintro e w2 ⟨rfl, hb2⟩; have HE2 : Aside0 (EvL #[.int .i64 15, .string nm, .int .i64 v.f0, .int .i64 v.f1, .string v.f2, .slice (some ad0) ks.length c] w [(g_y, y)] w2) := ⟨HF1.out.step (below_step (by with_reducible repeat (first | exact Below.refl _ _ | apply pw_below_drewN | apply below_drew1)) hb2)⟩; clear hb2 m0 m1 m2 m3 m4 m5 r0 r1 r2 g0 g1 g2 hlt y0 y1 y2; have yf : Aside0 (w2.cell? ⟨g_y, 0, none⟩ = some (.int .i64 y.f0) ∧ w2.cell? ⟨g_y, 1, none⟩ = some (.int .i64 y.f1) ∧ w2.cell? ⟨g_y, 2, none⟩ = some (.string y.f2)) := ⟨HE2.out.at (by simp)⟩; obtain ⟨y0, y1, y2⟩ := yf.out)
 all_goals
  obtain ⟨m0, m1, m2, m3, m4, m5⟩ := HE2.out.cells
  obtain ⟨_, _, _, hz⟩ := HE2.out.res
  obtain ⟨r0, r1, r2, g0, g1, g2⟩ := box3 hz
  have hlt := blk_lt hz
  have HZ2 := Aside0.mk hz
  clear hz
  obtain ⟨y0, y1, y2⟩ := HE2.out.at (g := g_y) (y := y) (by simp)
  obtain ⟨k0, k1, k2, k3, k4, k5⟩ := HX1.out.below HE2.out.below
  go_upto_region 39 with (go_at_call 38; refine (K1.out _ HE2.out.below _ _ HL1.out (Kd.C_below HI1.out HE2.out.below)).mono ?_; rintro e w3 ⟨rfl, hb3⟩; have HE3 := Aside0.mk (HE2.out.step hb3); clear hb3 m0 m1 m2 m3 m4 m5 r0 r1 r2 g0 g1 g2 hlt y0 y1 y2 k0 k1 k2 k3 k4 k5)
  have HF3 := Aside0.mk (HE3.out.add z)
  generalize hg3 : w3.heap.size = g_z at HF3 ⊢
  generalize w3.alloc (.cells #[.int .i64 z.f0, .int .i64 z.f1, .string z.f2] 23) = W3 at HF3 ⊢
  clear HE3 hg3
  obtain ⟨m0, m1, m2, m3, m4, m5⟩ := HF3.out.cells
  obtain ⟨_, _, _, hz⟩ := HF3.out.res
  obtain ⟨r0, r1, r2, g0, g1, g2⟩ := box3 hz
  have hlt := blk_lt hz
  have HZ3 := Aside0.mk hz
  clear hz
  obtain ⟨z0, z1, z2⟩ := HF3.out.at (g := g_z) (y := z) (by simp)
  obtain ⟨y0, y1, y2⟩ := HF3.out.at (g := g_y) (y := y) (by simp)
  go_upto_region 43 with (fail)
  clear m0 m1 m2 m3 m4 m5 r0 r1 r2 g0 g1 g2 hlt z0 z1 z2 y0 y1 y2
  refine start_ (n := 18) (S := (EvL #[.int .i64 15, .string nm, .int .i64 v.f0, .int .i64 v.f1, .string v.f2, .slice (some ad0) ks.length c] w [(g_z, z), (g_y, y)])) (ds := []) (fB 18 0) (by kernel_rfl) rfl rfl (EvL.step HF3.out (below_drew1 (Below.refl _ _))) (fun hHeld => ?_)
  generalize W3.drew = wd at hHeld ⊢
  refine pure_ (i := 0) (N := some 153) (v := ?_) (a' := ?_) (fB 18 1) rfl rfl (by kernel_rfl) (fun _ _ _ h => h) (Or.inl ⟨by rfl, by intro w'; go_simp; (first | with_reducible rfl | skip)⟩) (by simp only [Act.put, zA, zB, zC]; rfl) ?_
  refine take_ (i := 1) (N := some 154) (v := ?_) (a' := ?_) (fB 18 3) rfl rfl (by kernel_rfl) (fun _ _ _ h => h) (Or.inl ⟨by rfl, by intro w' hs0; obtain ⟨m0, m1, m2, m3, m4, m5⟩ := EvL.cells hs0; go_simp; with_reducible rfl⟩) hHeld (by simp only [Act.put, zA, zB, zC]; rfl) ?_
  refine pure_ (i := 2) (N := some 155) (v := ?_) (a' := ?_) (fB 18 7) rfl rfl (by kernel_rfl) (fun _ _ _ h => h) (Or.inl ⟨by rfl, by intro w'; go_simp; (first | with_reducible rfl | skip)⟩) (by simp only [Act.put, zA, zB, zC]; rfl) ?_
  refine pure_ (i := 3) (N := some 156) (v := ?_) (a' := ?_) (fB 18 15) rfl rfl (by kernel_rfl) (fun _ _ _ h => h) (Or.inl ⟨by rfl, by intro w'; go_simp; (first | with_reducible rfl | skip)⟩) (by simp only [Act.put, zA, zB, zC]; rfl) ?_
  refine pure_ (i := 4) (N := some 157) (v := undef) (a' := ?_) (fB 18 31) rfl rfl (by kernel_rfl) (fun _ _ _ h => h) (Or.inr ⟨by rfl, rfl⟩) ?_ ?_
  rotate_left
  ·simp only [Act.put, zA, zB, zC]
   rfl
  refine pure_ (i := 5) (N := some 158) (v := undef) (a' := ?_) (fB 18 63) rfl rfl (by kernel_rfl) (fun _ _ _ h => h) (Or.inr ⟨by rfl, rfl⟩) ?_ ?_
  rotate_left
  ·simp only [Act.put, zA, zB, zC]
   rfl
  refine pure_ (i := 6) (N := some 159) (v := undef) (a' := ?_) (fB 18 127) rfl rfl (by kernel_rfl) (fun _ _ _ h => h) (Or.inr ⟨by rfl, rfl⟩) ?_ ?_
  rotate_left
  ·simp only [Act.put, zA, zB, zC]
   rfl
  refine pure_ (i := 7) (N := some 160) (v := ?_) (a' := ?_) (fB 18 255) rfl rfl (by kernel_rfl) (fun _ _ _ h => h) (Or.inl ⟨by rfl, by intro w'; go_simp; (first | with_reducible rfl | skip)⟩) (by simp only [Act.put, zA, zB, zC]; rfl) ?_
  refine pure_ (i := 8) (N := some 161) (v := ?_) (a' := ?_) (fB 18 511) rfl rfl (by kernel_rfl) (fun _ _ _ h => h) (Or.inl ⟨by rfl, by intro w'; go_simp; (first | with_reducible rfl | skip)⟩) (by simp only [Act.put, zA, zB, zC]; rfl) ?_
  refine pure_ (i := 9) (N := some 162) (v := ?_) (a' := ?_) (fB 18 1023) rfl rfl (by kernel_rfl) (fun _ _ _ h => h) (Or.inl ⟨by rfl, by intro w'; go_simp; (first | with_reducible rfl | skip)⟩) (by simp only [Act.put, zA, zB, zC]; rfl) ?_
  refine take_ (i := 10) (N := some 163) (v := ?_) (a' := ?_) (fB 18 2047) rfl rfl (by kernel_rfl) (fun _ _ _ h => h) (Or.inl ⟨by rfl, by intro w' hs0; obtain ⟨m0, m1, m2, m3, m4, m5⟩ := EvL.cells hs0; go_simp; with_reducible rfl⟩) hHeld (by simp only [Act.put, zA, zB, zC]; rfl) ?_
  refine pure_ (i := 11) (N := some 164) (v := ?_) (a' := ?_) (fB 18 4095) rfl rfl (by kernel_rfl) (fun _ _ _ h => h) (Or.inl ⟨by rfl, by intro w'; go_simp; (first | with_reducible rfl | skip)⟩) (by simp only [Act.put, zA, zB, zC]; rfl) ?_
  refine pure_ (i := 12) (N := some 165) (v := ?_) (a' := ?_) (fB 18 8191) rfl rfl (by kernel_rfl) (fun _ _ _ h => h) (Or.inl ⟨by rfl, by intro w'; go_simp; (first | with_reducible rfl | skip)⟩) (by simp only [Act.put, zA, zB, zC]; rfl) ?_
  refine take_ (i := 13) (N := some 166) (v := ?_) (a' := ?_) (fB 18 16383) rfl rfl (by kernel_rfl) (fun _ _ _ h => h) (Or.inl ⟨by rfl, by intro w' hs0; obtain ⟨z0, z1, z2⟩ := EvL.at hs0 (g := g_z) (y := z) (by simp); go_simp; with_reducible rfl⟩) hHeld (by simp only [Act.put, zA, zB, zC]; rfl) ?_
  refine one1_ (i := 14) (N := some 167) (fB 18 32767) rfl rfl (by kernel_rfl) (by decide) (fun K hK => ?_)
  refine goes_ Tryd.func73 (by kernel_rfl) rfl #[.bool true] (by rfl) rfl rfl (by (try simp only [List.map_toArray, List.map_cons, List.map_nil]); first | done | rfl) ?_
  refine (truth_calls true _).mono ?_
  rintro e w4 ⟨rfl, hb4⟩
  have hs4 := EvL.step hHeld hb4
  refine ⟨_, rfl, ?_⟩
  clear hHeld
  refine hK.out _ _ (hs4) (fun hHeld => ?_)
  clear hK K
  refine norm_ (a' := ?_) ?_ ?_
  rotate_left
  ·show Act.put _ (some 167) _ = _
   simp only [Act.put, zA, zB, zC]
   rfl
  refine pure_ (i := 15) (N := some 168) (v := ?_) (a' := ?_) (fB 18 65535) rfl rfl (by kernel_rfl) (fun _ _ _ h => h) (Or.inl ⟨by rfl, by intro w'; go_simp; (first | with_reducible rfl | skip)⟩) (by simp only [Act.put, zA, zB, zC]; rfl) ?_
  refine pure_ (i := 16) (N := some 169) (v := ?_) (a' := ?_) (fB 18 131071) rfl rfl (by kernel_rfl) (fun _ _ _ h => h) (Or.inl ⟨by rfl, by intro w'; go_simp; (first | with_reducible rfl | skip)⟩) (by simp only [Act.put, zA, zB, zC]; rfl) ?_
  refine pure_ (i := 17) (N := some 170) (v := ?_) (a' := ?_) (fB 18 262143) rfl rfl (by kernel_rfl) (fun _ _ _ h => h) (Or.inl ⟨by rfl, by intro w'; go_simp; (first | with_reducible rfl | skip)⟩) (by simp only [Act.put, zA, zB, zC]; rfl) ?_
  refine done_ (by kernel_rfl) ?_
  have HE4 := Aside0.mk hHeld
  clear hHeld
  obtain ⟨m0, m1, m2, m3, m4, m5⟩ := HE4.out.cells
  obtain ⟨_, _, _, hz⟩ := HE4.out.res
  obtain ⟨r0, r1, r2, g0, g1, g2⟩ := box3 hz
  have hlt := blk_lt hz
  have HZ4 := Aside0.mk hz
  clear hz
  obtain ⟨z0, z1, z2⟩ := HE4.out.at (g := g_z) (y := z) (by simp)
  obtain ⟨y0, y1, y2⟩ := HE4.out.at (g := g_y) (y := y) (by simp)
  go_wp2
  refine bodyPost_ret (results_list rfl (by simp) (.cell _ _ _ _ _ rfl (blkput3 HZ4.out _ _ _) hu rfl (by kernel_rfl) (.tmp .nil))) rfl ⟨rfl, below_put3 HE4.out.below (by omega) _ _ _⟩
set_option maxHeartbeats 8000000 in
set_option maxRecDepth 100000 in
theorem ev15b (nm : ByteArray) (v : Va) (ks : List Ex) (A : Option Addr) (c : Nat) (hl : ks.length ≤ c) (B : Option Addr) (n2 c2 : Nat) (D : Option Addr) (n3 c3 : Nat) (w : World) (hC : Kd.C k26 w A ks.length ks) (hk : ks.length = 2) (y : Va) (K0 : Aside0 (KidR B n2 c2 D n3 c3 (rd_T26 ks 0) (y, 0) w)) (z : Va) (K1 : Aside0 (KidR B n2 c2 D n3 c3 (rd_T26 ks 1) (z, 0) w)) (hy2 : eqv y.f0 2 y.f1 (tn true) y.f2 ⟨#[]⟩ = false) (hz2 : eqv z.f0 2 z.f1 (tn true) z.f2 ⟨#[]⟩ = false) (r : Wo) (h1 : (y.f0 == 0) = true → r = (nullV, 0)) (h2 : (y.f0 == 0) = false → (z.f0 == 0) = true → r = (nullV, 0)) (cv : Int) (hcv : headgateref03_Cmp.f 1 y.f0 y.f1 y.f2 z.f0 z.f1 z.f2 = some cv) (h3 : (y.f0 == 0) = false → (z.f0 == 0) = false → r = (boolV false, 0)) :
  Calls Tryd.prog 38 #[.agg #[.int .i64 15, .string nm, .int .i64 v.f0, .int .i64 v.f1, .string v.f2, .slice A ks.length c], .slice B n2 c2, .slice D n3 c3] w (RetW (r) w) := by
 have hu := Tryd.underlying23
 have HC := Aside0.mk hC
 have HK := Aside0.mk hk
 clear hk hC
 obtain ⟨ad0, A0, C0, e0, x00, x01, x02, x03, x04, x05, hl0, hi0⟩ := at_T26 HC.out 0 (by decide) (by have := HK.out; omega)
 cases e0
 simp only [show (Int.toNat 0 * 6 : Nat) = 0 from rfl, add_zero_] at x00 x01 x02 x03 x04 x05
 have HX0 := Aside0.mk (show KX w _ _ _ _ _ _ _ _ _ _ _ _ from ⟨x00, x01, x02, x03, x04, x05⟩)
 have HL0 := Aside0.mk hl0
 have HI0 := Aside0.mk hi0
 clear hl0 hi0 x00 x01 x02 x03 x04 x05
 have q0 : decide (((0 : Int)) < (ks.length : Int)) = true := decide_eq_true (by have := HK.out; omega)
 have t0 : decide ((0 : Nat) < ks.length) = true := decide_eq_true (by have := HK.out; omega)
 have v0 : ((0 : Nat) < ks.length) = True := eq_true (by have := HK.out; omega)
 obtain ⟨ad1, A1, C1, e1, x10, x11, x12, x13, x14, x15, hl1, hi1⟩ := at_T26 HC.out 1 (by decide) (by have := HK.out; omega)
 cases e1
 simp only [show (Int.toNat 1 * 6 : Nat) = 6 from rfl, add_pos_ _ 6 (by decide)] at x10 x11 x12 x13 x14 x15
 have HX1 := Aside0.mk (show KX w _ _ _ _ _ _ _ _ _ _ _ _ from ⟨x10, x11, x12, x13, x14, x15⟩)
 have HL1 := Aside0.mk hl1
 have HI1 := Aside0.mk hi1
 clear hl1 hi1 x10 x11 x12 x13 x14 x15
 have q1 : decide (((1 : Int)) < (ks.length : Int)) = true := decide_eq_true (by have := HK.out; omega)
 have t1 : decide ((1 : Nat) < ks.length) = true := decide_eq_true (by have := HK.out; omega)
 have v1 : ((1 : Nat) < ks.length) = True := eq_true (by have := HK.out; omega)
 have u1 : ((1 : Int) < (ks.length : Int)) = True := eq_true (by have := HK.out; omega)
 have HE0 := Aside0.mk (EvL.new #[.int .i64 15, .string nm, .int .i64 v.f0, .int .i64 v.f1, .string v.f2, .slice (some ad0) ks.length c] w)
 go_enter Tryd.func38, Tryd.ntmps38
 go_upto_region 1 with (fail)
 generalize (w.alloc (.cells #[.int .i64 15, .string nm, .int .i64 v.f0, .int .i64 v.f1, .string v.f2, .slice (some ad0) ks.length c] 26)).alloc (.cells #[.int .i64 0, .int .i64 0, .string ⟨#[]⟩] 23) = W0 at HE0 ⊢
 obtain ⟨m0, m1, m2, m3, m4, m5⟩ := HE0.out.cells
 obtain ⟨_, _, _, hz⟩ := HE0.out.res
 obtain ⟨r0, r1, r2, g0, g1, g2⟩ := box3 hz
 have hlt := blk_lt hz
 have HZ0 := Aside0.mk hz
 clear hz
 obtain ⟨k0, k1, k2, k3, k4, k5⟩ := HX0.out.below HE0.out.below
 go_upto_region 9 with (go_at_call 38; refine (K0.out _ HE0.out.below _ _ HL0.out (Kd.C_below HI0.out HE0.out.below)).mono ?_; rintro e w1 ⟨rfl, hb1⟩; have HE1 := Aside0.mk (HE0.out.step hb1); clear hb1 m0 m1 m2 m3 m4 m5 r0 r1 r2 g0 g1 g2 hlt k0 k1 k2 k3 k4 k5)
 have HF1 := Aside0.mk (HE1.out.add y)
 generalize hg1 : w1.heap.size = g_y at HF1 ⊢
 generalize w1.alloc (.cells #[.int .i64 y.f0, .int .i64 y.f1, .string y.f2] 23) = W1 at HF1 ⊢
 clear HE1 hg1
 obtain ⟨m0, m1, m2, m3, m4, m5⟩ := HF1.out.cells
 obtain ⟨_, _, _, hz⟩ := HF1.out.res
 obtain ⟨r0, r1, r2, g0, g1, g2⟩ := box3 hz
 have hlt := blk_lt hz
 have HZ1 := Aside0.mk hz
 clear hz
 obtain ⟨y0, y1, y2⟩ := HF1.out.at (g := g_y) (y := y) (by simp)
 go_upto_region 18 with (fail)
 go_region_with (go_at_call 73; refine (truth_calls true _).mono ?_; rintro e w2 ⟨rfl, hb2⟩; have HE2 : Aside0 (EvL #[.int .i64 15, .string nm, .int .i64 v.f0, .int .i64 v.f1, .string v.f2, .slice (some ad0) ks.length c] w [(g_y, y)] w2) := ⟨HF1.out.step (below_step (by with_reducible repeat (first | exact Below.refl _ _ | apply pw_below_drewN | apply below_drew1)) hb2)⟩; clear hb2 m0 m1 m2 m3 m4 m5 r0 r1 r2 g0 g1 g2 hlt y0 y1 y2; have yf : Aside0 (w2.cell? ⟨g_y, 0, none⟩ = some (.int .i64 y.f0) ∧ w2.cell? ⟨g_y, 1, none⟩ = some (.int .i64 y.f1) ∧ w2.cell? ⟨g_y, 2, none⟩ = some (.string y.f2)) := ⟨HE2.out.at (by simp)⟩; obtain ⟨y0, y1, y2⟩ := yf.out)
 all_goals
  obtain ⟨m0, m1, m2, m3, m4, m5⟩ := HE2.out.cells
  obtain ⟨_, _, _, hz⟩ := HE2.out.res
  obtain ⟨r0, r1, r2, g0, g1, g2⟩ := box3 hz
  have hlt := blk_lt hz
  have HZ2 := Aside0.mk hz
  clear hz
  obtain ⟨y0, y1, y2⟩ := HE2.out.at (g := g_y) (y := y) (by simp)
  obtain ⟨k0, k1, k2, k3, k4, k5⟩ := HX1.out.below HE2.out.below
  go_upto_region 39 with (go_at_call 38; refine (K1.out _ HE2.out.below _ _ HL1.out (Kd.C_below HI1.out HE2.out.below)).mono ?_; rintro e w3 ⟨rfl, hb3⟩; have HE3 := Aside0.mk (HE2.out.step hb3); clear hb3 m0 m1 m2 m3 m4 m5 r0 r1 r2 g0 g1 g2 hlt y0 y1 y2 k0 k1 k2 k3 k4 k5)
  have HF3 := Aside0.mk (HE3.out.add z)
  generalize hg3 : w3.heap.size = g_z at HF3 ⊢
  generalize w3.alloc (.cells #[.int .i64 z.f0, .int .i64 z.f1, .string z.f2] 23) = W3 at HF3 ⊢
  clear HE3 hg3
  obtain ⟨m0, m1, m2, m3, m4, m5⟩ := HF3.out.cells
  obtain ⟨_, _, _, hz⟩ := HF3.out.res
  obtain ⟨r0, r1, r2, g0, g1, g2⟩ := box3 hz
  have hlt := blk_lt hz
  have HZ3 := Aside0.mk hz
  clear hz
  obtain ⟨z0, z1, z2⟩ := HF3.out.at (g := g_z) (y := z) (by simp)
  obtain ⟨y0, y1, y2⟩ := HF3.out.at (g := g_y) (y := y) (by simp)
  go_upto_region 43 with (fail)
  clear m0 m1 m2 m3 m4 m5 r0 r1 r2 g0 g1 g2 hlt z0 z1 z2 y0 y1 y2
  refine start_ (n := 18) (S := (EvL #[.int .i64 15, .string nm, .int .i64 v.f0, .int .i64 v.f1, .string v.f2, .slice (some ad0) ks.length c] w [(g_z, z), (g_y, y)])) (ds := []) (fB 18 0) (by kernel_rfl) rfl rfl (EvL.step HF3.out (below_drew1 (Below.refl _ _))) (fun hHeld => ?_)
  generalize W3.drew = wd at hHeld ⊢
  refine pure_ (i := 0) (N := some 153) (v := ?_) (a' := ?_) (fB 18 1) rfl rfl (by kernel_rfl) (fun _ _ _ h => h) (Or.inl ⟨by rfl, by intro w'; go_simp; (first | with_reducible rfl | skip)⟩) (by simp only [Act.put, zA, zB, zC]; rfl) ?_
  refine take_ (i := 1) (N := some 154) (v := ?_) (a' := ?_) (fB 18 3) rfl rfl (by kernel_rfl) (fun _ _ _ h => h) (Or.inl ⟨by rfl, by intro w' hs0; obtain ⟨m0, m1, m2, m3, m4, m5⟩ := EvL.cells hs0; go_simp; with_reducible rfl⟩) hHeld (by simp only [Act.put, zA, zB, zC]; rfl) ?_
  refine pure_ (i := 2) (N := some 155) (v := ?_) (a' := ?_) (fB 18 7) rfl rfl (by kernel_rfl) (fun _ _ _ h => h) (Or.inl ⟨by rfl, by intro w'; go_simp; (first | with_reducible rfl | skip)⟩) (by simp only [Act.put, zA, zB, zC]; rfl) ?_
  refine pure_ (i := 3) (N := some 156) (v := ?_) (a' := ?_) (fB 18 15) rfl rfl (by kernel_rfl) (fun _ _ _ h => h) (Or.inl ⟨by rfl, by intro w'; go_simp; (first | with_reducible rfl | skip)⟩) (by simp only [Act.put, zA, zB, zC]; rfl) ?_
  refine pure_ (i := 4) (N := some 157) (v := undef) (a' := ?_) (fB 18 31) rfl rfl (by kernel_rfl) (fun _ _ _ h => h) (Or.inr ⟨by rfl, rfl⟩) ?_ ?_
  rotate_left
  ·simp only [Act.put, zA, zB, zC]
   rfl
  refine pure_ (i := 5) (N := some 158) (v := undef) (a' := ?_) (fB 18 63) rfl rfl (by kernel_rfl) (fun _ _ _ h => h) (Or.inr ⟨by rfl, rfl⟩) ?_ ?_
  rotate_left
  ·simp only [Act.put, zA, zB, zC]
   rfl
  refine pure_ (i := 6) (N := some 159) (v := undef) (a' := ?_) (fB 18 127) rfl rfl (by kernel_rfl) (fun _ _ _ h => h) (Or.inr ⟨by rfl, rfl⟩) ?_ ?_
  rotate_left
  ·simp only [Act.put, zA, zB, zC]
   rfl
  refine pure_ (i := 7) (N := some 160) (v := ?_) (a' := ?_) (fB 18 255) rfl rfl (by kernel_rfl) (fun _ _ _ h => h) (Or.inl ⟨by rfl, by intro w'; go_simp; (first | with_reducible rfl | skip)⟩) (by simp only [Act.put, zA, zB, zC]; rfl) ?_
  refine pure_ (i := 8) (N := some 161) (v := ?_) (a' := ?_) (fB 18 511) rfl rfl (by kernel_rfl) (fun _ _ _ h => h) (Or.inl ⟨by rfl, by intro w'; go_simp; (first | with_reducible rfl | skip)⟩) (by simp only [Act.put, zA, zB, zC]; rfl) ?_
  refine pure_ (i := 9) (N := some 162) (v := ?_) (a' := ?_) (fB 18 1023) rfl rfl (by kernel_rfl) (fun _ _ _ h => h) (Or.inl ⟨by rfl, by intro w'; go_simp; (first | with_reducible rfl | skip)⟩) (by simp only [Act.put, zA, zB, zC]; rfl) ?_
  refine take_ (i := 10) (N := some 163) (v := ?_) (a' := ?_) (fB 18 2047) rfl rfl (by kernel_rfl) (fun _ _ _ h => h) (Or.inl ⟨by rfl, by intro w' hs0; obtain ⟨m0, m1, m2, m3, m4, m5⟩ := EvL.cells hs0; go_simp; with_reducible rfl⟩) hHeld (by simp only [Act.put, zA, zB, zC]; rfl) ?_
  refine pure_ (i := 11) (N := some 164) (v := ?_) (a' := ?_) (fB 18 4095) rfl rfl (by kernel_rfl) (fun _ _ _ h => h) (Or.inl ⟨by rfl, by intro w'; go_simp; (first | with_reducible rfl | skip)⟩) (by simp only [Act.put, zA, zB, zC]; rfl) ?_
  refine pure_ (i := 12) (N := some 165) (v := ?_) (a' := ?_) (fB 18 8191) rfl rfl (by kernel_rfl) (fun _ _ _ h => h) (Or.inl ⟨by rfl, by intro w'; go_simp; (first | with_reducible rfl | skip)⟩) (by simp only [Act.put, zA, zB, zC]; rfl) ?_
  refine take_ (i := 13) (N := some 166) (v := ?_) (a' := ?_) (fB 18 16383) rfl rfl (by kernel_rfl) (fun _ _ _ h => h) (Or.inl ⟨by rfl, by intro w' hs0; obtain ⟨z0, z1, z2⟩ := EvL.at hs0 (g := g_z) (y := z) (by simp); go_simp; with_reducible rfl⟩) hHeld (by simp only [Act.put, zA, zB, zC]; rfl) ?_
  refine one1_ (i := 14) (N := some 167) (fB 18 32767) rfl rfl (by kernel_rfl) (by decide) (fun K hK => ?_)
  refine goes_ Tryd.func73 (by kernel_rfl) rfl #[.bool true] (by rfl) rfl rfl (by (try simp only [List.map_toArray, List.map_cons, List.map_nil]); first | done | rfl) ?_
  refine (truth_calls true _).mono ?_
  rintro e w4 ⟨rfl, hb4⟩
  have hs4 := EvL.step hHeld hb4
  refine ⟨_, rfl, ?_⟩
  clear hHeld
  refine hK.out _ _ (hs4) (fun hHeld => ?_)
  clear hK K
  refine norm_ (a' := ?_) ?_ ?_
  rotate_left
  ·show Act.put _ (some 167) _ = _
   simp only [Act.put, zA, zB, zC]
   rfl
  refine pure_ (i := 15) (N := some 168) (v := ?_) (a' := ?_) (fB 18 65535) rfl rfl (by kernel_rfl) (fun _ _ _ h => h) (Or.inl ⟨by rfl, by intro w'; go_simp; (first | with_reducible rfl | skip)⟩) (by simp only [Act.put, zA, zB, zC]; rfl) ?_
  refine pure_ (i := 16) (N := some 169) (v := ?_) (a' := ?_) (fB 18 131071) rfl rfl (by kernel_rfl) (fun _ _ _ h => h) (Or.inl ⟨by rfl, by intro w'; go_simp; (first | with_reducible rfl | skip)⟩) (by simp only [Act.put, zA, zB, zC]; rfl) ?_
  refine pure_ (i := 17) (N := some 170) (v := ?_) (a' := ?_) (fB 18 262143) rfl rfl (by kernel_rfl) (fun _ _ _ h => h) (Or.inl ⟨by rfl, by intro w'; go_simp; (first | with_reducible rfl | skip)⟩) (by simp only [Act.put, zA, zB, zC]; rfl) ?_
  refine done_ (by kernel_rfl) ?_
  have HE4 := Aside0.mk hHeld
  clear hHeld
  obtain ⟨m0, m1, m2, m3, m4, m5⟩ := HE4.out.cells
  obtain ⟨_, _, _, hz⟩ := HE4.out.res
  obtain ⟨r0, r1, r2, g0, g1, g2⟩ := box3 hz
  have hlt := blk_lt hz
  have HZ4 := Aside0.mk hz
  clear hz
  obtain ⟨z0, z1, z2⟩ := HE4.out.at (g := g_z) (y := z) (by simp)
  obtain ⟨y0, y1, y2⟩ := HE4.out.at (g := g_y) (y := y) (by simp)
  cases hy : (y.f0 == 0)
  ·cases hn : (z.f0 == 0)
   ·have e := h3 hy hn
    subst e
    clear h1 h2 h3
    go_wp2_with (first
      | (go_at_call 74; refine (headgateref03_Cmp.calls 1 y.f0 y.f1 y.f2 z.f0 z.f1 z.f2 cv _ hcv).mono ?_; rintro e w5 ⟨rfl, hb5⟩; have HE5 := Aside0.mk (HE4.out.step hb5); clear hb5 m0 m1 m2 m3 m4 m5 r0 r1 r2 g0 g1 g2 hlt z0 z1 z2 y0 y1 y2; obtain ⟨m0, m1, m2, m3, m4, m5⟩ := HE5.out.cells)
      | (go_at_call 73; refine (truth_calls _ _).mono ?_; rintro e w6 ⟨rfl, hb6⟩; have HE6 := Aside0.mk (HE5.out.step hb6); clear hb6 m0 m1 m2 m3 m4 m5; obtain ⟨_, _, _, hz⟩ := HE6.out.res; obtain ⟨r0, r1, r2, g0, g1, g2⟩ := box3 hz; have hlt := blk_lt hz; have HZ6 := Aside0.mk hz; clear hz))
    refine bodyPost_ret (results_list rfl (by simp) (.cell _ _ _ _ _ rfl (blkput3 HZ6.out _ _ _) hu rfl (by kernel_rfl) (.tmp .nil))) rfl ⟨rfl, below_put3 HE6.out.below (by omega) _ _ _⟩
   ·have e := h2 hy hn
    subst e
    clear h1 h2 h3
    go_wp2
    refine bodyPost_ret (results_list rfl (by simp) (.cell _ _ _ _ _ rfl (blkput3 HZ4.out _ _ _) hu rfl (by kernel_rfl) (.tmp .nil))) rfl ⟨rfl, below_put3 HE4.out.below (by omega) _ _ _⟩
  ·have e := h1 hy
   subst e
   clear h1 h2 h3
   go_wp2
   refine bodyPost_ret (results_list rfl (by simp) (.cell _ _ _ _ _ rfl (blkput3 HZ4.out _ _ _) hu rfl (by kernel_rfl) (.tmp .nil))) rfl ⟨rfl, below_put3 HE4.out.below (by omega) _ _ _⟩
end Go.Proofs.YtopolnbffmljaaaDoor.Q
namespace Go.Proofs.YtopolnbffmljaaaDoor.Q
attribute [local go_sem high] eqV
set_option maxHeartbeats 8000000 in
set_option maxRecDepth 100000 in
theorem ev1 (nm : ByteArray) (v : Va) (ks : List Ex) (A : Option Addr) (c : Nat) (hl : ks.length ≤ c) (B : Option Addr) (c2 : Nat) (D : Option Addr) (c3 : Nat) (w : World) (hC : Kd.C k26 w A ks.length ks) (l : List Co) (row : List Va) (hB : Kd.C k58 w B l.length l) (hc2 : l.length ≤ c2) (hD : Kd.C k23 w D row.length row) (j : Int) (h0 : 0 ≤ j) (h1 : j < (row.length : Int)) (k : Nat) (hfind : headgateref12_Find.f k l nm = some j) :
  Calls Tryd.prog 38 #[.agg #[.int .i64 1, .string nm, .int .i64 v.f0, .int .i64 v.f1, .string v.f2, .slice A ks.length c], .slice B l.length c2, .slice D row.length c3] w (RetW ((rd_T23 row j, 0)) w) := by
 have hu := Tryd.underlying23
 have HB := Aside0.mk hB
 have HC2 := Aside0.mk hc2
 obtain ⟨ad, e0, x0, x1, x2⟩ := at_T23 hD j h0 h1
 subst e0
 have p1 : (0 ≤ j) = True := eq_true h0
 have p2 : (j < (row.length : Int)) = True := eq_true h1
 have p3 : decide (0 ≤ j) = true := decide_eq_true h0
 have p4 : decide (j < (row.length : Int)) = true := decide_eq_true h1
 have X0 := Aside0.mk x0
 have X1 := Aside0.mk x1
 have X2 := Aside0.mk x2
 clear hB hc2 hD hC h0 h1 x0 x1 x2
 have HE0 := Aside0.mk (EvL.new #[.int .i64 1, .string nm, .int .i64 v.f0, .int .i64 v.f1, .string v.f2, .slice A ks.length c] w)
 go_enter Tryd.func38, Tryd.ntmps38
 go_upto_region 1 with (fail)
 generalize (w.alloc (.cells #[.int .i64 1, .string nm, .int .i64 v.f0, .int .i64 v.f1, .string v.f2, .slice A ks.length c] 26)).alloc (.cells #[.int .i64 0, .int .i64 0, .string ⟨#[]⟩] 23) = W0 at HE0 ⊢
 obtain ⟨m0, m1, m2, m3, m4, m5⟩ := HE0.out.cells
 obtain ⟨_, _, _, hz⟩ := HE0.out.res
 obtain ⟨r0, r1, r2, g0, g1, g2⟩ := box3 hz
 have hlt := blk_lt hz
 have HZ0 := Aside0.mk hz
 clear hz
 go_wp2_with (go_at_call 49; refine (headgateref12_Find.calls k B c2 l nm j _ (Kd.C_below HB.out HE0.out.below) HC2.out hfind).mono ?_; rintro e w1 ⟨rfl, hb1⟩; have HE1 := Aside0.mk (HE0.out.step hb1.below); clear hb1 m0 m1 m2 m3 m4 m5 r0 r1 r2 g0 g1 g2 hlt; obtain ⟨_, _, _, hz⟩ := HE1.out.res; obtain ⟨r0, r1, r2, g0, g1, g2⟩ := box3 hz; have hlt := blk_lt hz; have HZ1 := Aside0.mk hz; clear hz; have x0 := pw_cell_below HE1.out.below X0.out; have x1 := pw_cell_below HE1.out.below X1.out; have x2 := pw_cell_below HE1.out.below X2.out)
 refine bodyPost_ret (results_list rfl (by simp) (.cell _ _ _ _ _ rfl (blkput3 HZ1.out _ _ _) hu rfl (by kernel_rfl) (.tmp .nil))) rfl ⟨rfl, below_put3 HE1.out.below (by omega) _ _ _⟩
set_option maxHeartbeats 8000000 in
set_option maxRecDepth 100000 in
theorem ev2 (nm : ByteArray) (v : Va) (ks : List Ex) (A : Option Addr) (c : Nat) (hl : ks.length ≤ c) (B : Option Addr) (n2 c2 : Nat) (D : Option Addr) (n3 c3 : Nat) (w : World) (hC : Kd.C k26 w A ks.length ks)  :
  Calls Tryd.prog 38 #[.agg #[.int .i64 2, .string nm, .int .i64 v.f0, .int .i64 v.f1, .string v.f2, .slice A ks.length c], .slice B n2 c2, .slice D n3 c3] w (RetW ((v, 0)) w) := by
 have hu := Tryd.underlying23
 clear hC
 have HE0 := Aside0.mk (EvL.new #[.int .i64 2, .string nm, .int .i64 v.f0, .int .i64 v.f1, .string v.f2, .slice A ks.length c] w)
 go_enter Tryd.func38, Tryd.ntmps38
 go_upto_region 1 with (fail)
 generalize (w.alloc (.cells #[.int .i64 2, .string nm, .int .i64 v.f0, .int .i64 v.f1, .string v.f2, .slice A ks.length c] 26)).alloc (.cells #[.int .i64 0, .int .i64 0, .string ⟨#[]⟩] 23) = W0 at HE0 ⊢
 obtain ⟨m0, m1, m2, m3, m4, m5⟩ := HE0.out.cells
 obtain ⟨_, _, _, hz⟩ := HE0.out.res
 obtain ⟨r0, r1, r2, g0, g1, g2⟩ := box3 hz
 have hlt := blk_lt hz
 have HZ0 := Aside0.mk hz
 clear hz
 go_wp2
 refine bodyPost_ret (results_list rfl (by simp) (.cell _ _ _ _ _ rfl (blkput3 HZ0.out _ _ _) hu rfl (by kernel_rfl) (.tmp .nil))) rfl ⟨rfl, below_put3 HE0.out.below (by omega) _ _ _⟩
set_option maxHeartbeats 8000000 in
set_option maxRecDepth 100000 in
theorem ev3 (nm : ByteArray) (v : Va) (ks : List Ex) (A : Option Addr) (c : Nat) (hl : ks.length ≤ c) (B : Option Addr) (n2 c2 : Nat) (D : Option Addr) (n3 c3 : Nat) (w : World) (hC : Kd.C k26 w A ks.length ks)  :
  Calls Tryd.prog 38 #[.agg #[.int .i64 3, .string nm, .int .i64 v.f0, .int .i64 v.f1, .string v.f2, .slice A ks.length c], .slice B n2 c2, .slice D n3 c3] w (RetW ((nullV, 0)) w) := by
 have hu := Tryd.underlying23
 clear hC
 have HE0 := Aside0.mk (EvL.new #[.int .i64 3, .string nm, .int .i64 v.f0, .int .i64 v.f1, .string v.f2, .slice A ks.length c] w)
 go_enter Tryd.func38, Tryd.ntmps38
 go_upto_region 1 with (fail)
 generalize (w.alloc (.cells #[.int .i64 3, .string nm, .int .i64 v.f0, .int .i64 v.f1, .string v.f2, .slice A ks.length c] 26)).alloc (.cells #[.int .i64 0, .int .i64 0, .string ⟨#[]⟩] 23) = W0 at HE0 ⊢
 obtain ⟨m0, m1, m2, m3, m4, m5⟩ := HE0.out.cells
 obtain ⟨_, _, _, hz⟩ := HE0.out.res
 obtain ⟨r0, r1, r2, g0, g1, g2⟩ := box3 hz
 have hlt := blk_lt hz
 have HZ0 := Aside0.mk hz
 clear hz
 go_wp2
 refine bodyPost_ret (results_list rfl (by simp) (.cell _ _ _ _ _ rfl (blkput3 HZ0.out _ _ _) hu rfl (by kernel_rfl) (.tmp .nil))) rfl ⟨rfl, below_put3 HE0.out.below (by omega) _ _ _⟩
end Go.Proofs.YtopolnbffmljaaaDoor.Q
