/- Texts of the claim, put together. -/
import Derived.Test.YtopolnbffmljaaaDoorZExprWorth15
import Derived.Deep.RegionHeld
import Derived.Test.YtopolnbffmljaaaDoorZExprWorth12
import Derived.Test.YtopolnbffmljaaaDoorZExprWorth7
namespace Go.Proofs.YtopolnbffmljaaaDoor.U16
def fB (n m : Nat) : Array Bool := ((List.range n).map (Nat.testBit m)).toArray
end Go.Proofs.YtopolnbffmljaaaDoor.U16
open Go.Proofs.YtopolnbffmljaaaDoor.U16
open Go.RowKit Go.Proofs.YtopolnbffmljaaaDoorW.PrintWords Go.Proofs.YtopolnbffmljaaaDoorW.PrintLast Go.Proofs.YtopolnbffmljaaaDoorW.PrintMore
set_option linter.unusedVariables false
set_option linter.unusedSimpArgs false
open List renaming setIfInBounds_toArray → zA, set_cons_zero → zB, set_cons_succ → zC
namespace Go.Proofs.YtopolnbffmljaaaDoor.Q
theorem blk_new1 (w : World) (o1 o2 : Obj) : ((w.alloc o1).alloc o2).heap[w.heap.size + 1]? = some o2 := by
 have := blk_new (w.alloc o1) o2
 rwa [World.size_alloc] at this
theorem blk_new2 (w : World) (o1 o2 o3 : Obj) : (((w.alloc o1).alloc o2).alloc o3).heap[w.heap.size + 1 + 1]? = some o3 := by
 have := blk_new1 (w.alloc o1) o2 o3
 rwa [World.size_alloc] at this
structure AlS (w : World) (a b d n : Nat) (W : World) : Prop where
 below : Below w.heap.size w W
 cols : W.heap[a]? = some (.cells #[.string ⟨#[97]⟩, .int .i64 1] 58 (0, 0))
 kids : W.heap[b]? = some (.cells (exC (oneE 1) none 0 ++ exC (oneE 0) none 0).toArray 26 (0, 0))
 dbox : W.heap[d]? = some (.cells (exC divE (some ⟨b, 0, none⟩) 2).toArray 26 (0, 0))
 nbox : W.heap[n]? = some (.cells (exC noE none 0).toArray 26 (0, 0))
theorem AlS.step {w W W' : World} {a b d n : Nat} (h : AlS w a b d n W) (hb : Below W.heap.size W W') : AlS w a b d n W' :=
 ⟨below_step h.below hb, blk_below h.cols hb, blk_below h.kids hb, blk_below h.dbox hb, blk_below h.nbox hb⟩
theorem AlS.divK {w W : World} {a b d n : Nat} (h : AlS w a b d n W) : k26.K W divE (exC divE (some ⟨b, 0, none⟩) 2) :=
 K_node W divE _ 2 (by decide) (C_two W b _ _ _ _ _ _ (K_leaf W _ rfl) (K_leaf W _ rfl) h.kids)
theorem AlS.cells {w w' : World} {a b d n : Nat} (h : AlS w a b d n w') : w'.cell? ⟨d, 0, none⟩ = some (.int .i64 7) ∧ w'.cell? ⟨d, 1, none⟩ = some (.string ⟨#[]⟩) ∧ w'.cell? ⟨d, 2, none⟩ = some (.int .i64 0) ∧ w'.cell? ⟨d, 3, none⟩ = some (.int .i64 0) ∧ w'.cell? ⟨d, 4, none⟩ = some (.string ⟨#[]⟩) ∧ w'.cell? ⟨d, 5, none⟩ = some (.slice (some ⟨b, 0, none⟩) 2 2) ∧ w'.cell? ⟨n, 0, none⟩ = some (.int .i64 2) ∧ w'.cell? ⟨n, 1, none⟩ = some (.string ⟨#[]⟩) ∧ w'.cell? ⟨n, 2, none⟩ = some (.int .i64 2) ∧ w'.cell? ⟨n, 3, none⟩ = some (.int .i64 0) ∧ w'.cell? ⟨n, 4, none⟩ = some (.string ⟨#[]⟩) ∧ w'.cell? ⟨n, 5, none⟩ = some (.slice none 0 0) ∧ AlS w a b d n w' :=
 ⟨(blk_cell h.dbox 0).trans rfl, (blk_cell h.dbox 1).trans rfl, (blk_cell h.dbox 2).trans rfl, (blk_cell h.dbox 3).trans rfl, (blk_cell h.dbox 4).trans rfl, (blk_cell h.dbox 5).trans rfl, (blk_cell h.nbox 0).trans rfl, (blk_cell h.nbox 1).trans rfl, (blk_cell h.nbox 2).trans rfl, (blk_cell h.nbox 3).trans rfl, (blk_cell h.nbox 4).trans rfl, (blk_cell h.nbox 5).trans rfl, h⟩
theorem blk_put3 {w : World} {g : Nat} {t : TypeId} {x0 x1 x2 : Value} (h : w.heap[g]? = some (.cells #[x0, x1, x2] t (0, 0))) (y0 y1 y2 : Value) :
  (((w.setCell ⟨g, 0, none⟩ y0).setCell ⟨g, 1, none⟩ y1).setCell ⟨g, 2, none⟩ y2).heap[g]? = some (.cells #[y0, y1, y2] t (0, 0)) :=
 blk_set (cs := #[y0, y1, x2]) (blk_set (cs := #[y0, x1, x2]) (blk_set h 0 y0) 1 y1) 2 y2
structure AlT (w : World) (a b d n z : Nat) (ks : List (Nat × Obj)) (W : World) : Prop where
 als : AlS w a b d n W
 size : z ≤ W.heap.size
 more : ∀ p ∈ ks, W.heap[p.1]? = some p.2
 hlt : a < z ∧ b < z ∧ d < z ∧ n < z ∧ w.heap.size ≤ z
theorem AlT.step {w W W' : World} {a b d n z : Nat} {ks : List (Nat × Obj)} (h : AlT w a b d n z ks W) (hb : Below W.heap.size W W') : AlT w a b d n z ks W' :=
 ⟨h.als.step hb, Nat.le_trans h.size hb.size, fun p hp => blk_below (h.more p hp) hb, h.hlt⟩
theorem AlT.put3 {w W : World} {a b d n z g : Nat} {ks : List (Nat × Obj)} (h : AlT w a b d n z ks W) (hz : z ≤ g) (hk : ∀ p ∈ ks, p.1 < z) (y0 y1 y2 : Value) :
  AlT w a b d n z ks (((W.setCell ⟨g, 0, none⟩ y0).setCell ⟨g, 1, none⟩ y1).setCell ⟨g, 2, none⟩ y2) := by
 obtain ⟨h1, h2, h3, h4, h5⟩ := h.hlt
 have hf : ∀ k o, k < g → W.heap[k]? = some o → (((W.setCell ⟨g, 0, none⟩ y0).setCell ⟨g, 1, none⟩ y1).setCell ⟨g, 2, none⟩ y2).heap[k]? = some o := fun k o hk he => heap_far (heap_far (heap_far he (by omega)) (by omega)) (by omega)
 refine ⟨⟨below_put3 h.als.below (by omega) _ _ _, hf _ _ (by omega) h.als.cols, hf _ _ (by omega) h.als.kids, hf _ _ (by omega) h.als.dbox, hf _ _ (by omega) h.als.nbox⟩, by simpa using h.size, fun p hp => hf _ _ (by have := hk p hp; omega) (h.more p hp), h.hlt⟩
set_option maxHeartbeats 16000000 in
set_option maxRecDepth 100000 in
theorem alive_calls (w : World) (hG : GlobE w) :
  Calls Tryd.prog 10 #[] w fun e w' => e = .returned (.bool true) ∧ Below w.heap.size w w' := by
 have HG := Aside0.mk hG
 clear hG
 go_enter Tryd.func10, Tryd.ntmps10
 go_upto_region 2 with (fail)
 obtain ⟨W1, hW1⟩ : ∃ W1, W1 = w.alloc (.cells #[.string ⟨#[97]⟩, .int .i64 1] 58) := ⟨_, rfl⟩
 have hB1 : Below w.heap.size w W1 := by rw [hW1]; exact below_alloc (Below.refl _ _) _
 have hA1 : W1.heap[w.heap.size]? = some (.cells #[.string ⟨#[97]⟩, .int .i64 1] 58 (0, 0)) := by rw [hW1]; exact blk_new w _
 rw [← hW1]
 clear hW1
 have tok1 : True := trivial
 go_upto_region 3 with (first
  | (have _t := tok1; go_at_call 29; refine (one_calls 1 _).mono ?_; rintro e w2 ⟨rfl, hb2⟩; have hA2 := blk_below hA1 hb2; have hB2 := below_step hB1 hb2; clear hb2 tok1)
  | (go_at_call 29; refine (one_calls 0 _).mono ?_; rintro e w3 ⟨rfl, hb3⟩; have hA3 := blk_below hA2 hb3; have hB3 := below_step hB2 hb3; clear hb3))
 obtain ⟨W5, hW5⟩ : ∃ W5, W5 = ((w3.alloc (.cells #[.int .i64 2, .string ⟨#[]⟩, .int .i64 1, .int .i64 1, .string ⟨#[]⟩, .slice none 0 0, .int .i64 2, .string ⟨#[]⟩, .int .i64 1, .int .i64 0, .string ⟨#[]⟩, .slice none 0 0] 26)).alloc (.cells #[.int .i64 7, .string ⟨#[]⟩, .int .i64 0, .int .i64 0, .string ⟨#[]⟩, .slice (some ⟨w3.heap.size, 0, none⟩) 2 2] 26)).alloc (.cells #[.int .i64 2, .string ⟨#[]⟩, .int .i64 2, .int .i64 0, .string ⟨#[]⟩, .slice none 0 0] 26) := ⟨_, rfl⟩
 have hS5 : AlS w w.heap.size w3.heap.size (w3.heap.size + 1) (w3.heap.size + 1 + 1) W5 := by
  rw [hW5]
  exact ⟨below_step hB3 (below_alloc (below_alloc (below_alloc (Below.refl _ _) _) _) _), blk_alloc (blk_alloc (blk_alloc hA3 _) _) _, blk_alloc (blk_alloc (blk_new w3 _) _) _, blk_alloc (blk_new1 w3 _ _) _, blk_new2 w3 _ _ _⟩
 go_upto_region 4 with (fail)
 rw [← hW5]
 clear hW5 hA1 hA2 hA3 hB1 hB2 hB3
 obtain ⟨d0, d1, d2, d3, d4, d5, n0, n1, n2, n3, n4, n5, _⟩ := hS5.cells
 have hS6 := hS5.step (below_alloc (Below.refl W5.heap.size W5) (.cells #[.int .i64 0, .int .i64 0, .string ⟨#[]⟩] 23))
 have hw := worth_at divE g_div _ w_div _ 2 (by decide) _ _ _ (HG.out.below hS6.below) (C_two _ _ _ _ _ _ _ _ (K_leaf _ _ rfl) (K_leaf _ _ rfl) hS6.kids) hS6.cols (blk_new W5 _)
 go_upto_region 5 with (go_at_call 14; refine hw.mono ?_; rintro e w7 ⟨rfl, hb7⟩; have hS7 := hS6.step hb7; clear hb7 hw)
 obtain ⟨W8, hW8⟩ : ∃ W8, W8 = w7.alloc (.cells #[.int .i64 0, .int .i64 0, .string ⟨#[]⟩] 23) := ⟨_, rfl⟩
 have hS8 : AlS w w.heap.size w3.heap.size (w3.heap.size + 1) (w3.heap.size + 1 + 1) W8 := by rw [hW8]; exact hS7.step (below_alloc (Below.refl _ _) _)
 rw [show w7.alloc (.cells #[.int .i64 nullV.f0, .int .i64 nullV.f1, .string nullV.f2] 23) = W8 from hW8.symm]
 clear hW8 hS7 hS6 hS5 d0 d1 d2 d3 d4 d5 n0 n1 n2 n3 n4 n5
 have hT8 : AlT w w.heap.size w3.heap.size (w3.heap.size + 1) (w3.heap.size + 1 + 1) W8.heap.size [] W8 := ⟨hS8, Nat.le_refl _, by simp, blk_lt hS8.cols, blk_lt hS8.kids, blk_lt hS8.dbox, blk_lt hS8.nbox, hS8.below.size⟩
 clear hS8
 have hwif : ∀ (g h : Nat) (X : World), AlS w w.heap.size w3.heap.size (w3.heap.size + 1) (w3.heap.size + 1 + 1) X → X.heap[g]? = some (.cells #[.int .i64 2, .string ⟨#[]⟩, .int .i64 2, .int .i64 0, .string ⟨#[]⟩, .slice none 0 0, .int .i64 7, .string ⟨#[]⟩, .int .i64 0, .int .i64 0, .string ⟨#[]⟩, .slice (some ⟨w3.heap.size, 0, none⟩) 2 2, .int .i64 2, .string ⟨#[]⟩, .int .i64 1, .int .i64 2, .string ⟨#[]⟩, .slice none 0 0] 26 (0, 0)) → X.heap[h]? = some (.cells #[.int .i64 0, .int .i64 0, .string ⟨#[]⟩] 23 (0, 0)) →
   Calls Tryd.prog 14 #[.agg #[.int .i64 18, .string ⟨#[]⟩, .int .i64 0, .int .i64 0, .string ⟨#[]⟩, .slice (some ⟨g, 0, none⟩) 3 3], .slice (some ⟨w.heap.size, 0, none⟩) 1 1, .slice (some ⟨h, 0, none⟩) 1 1] X
    fun e w' => e = .returned (.tuple #[.agg #[.int .i64 1, .int .i64 2, .string ⟨#[]⟩], .int .i64 0]) ∧ Below X.heap.size X w' := fun g h X hX hg hh =>
  worth_at ifE g_if _ w_if _ 3 (by decide) _ _ X (HG.out.below hX.below) (C_three X g _ _ _ _ _ _ _ _ (K_leaf X noE rfl) hX.divK (K_leaf X (oneE 2) rfl) hg) hX.cols hh
 have hwand : ∀ (g h : Nat) (X : World), AlS w w.heap.size w3.heap.size (w3.heap.size + 1) (w3.heap.size + 1 + 1) X → X.heap[g]? = some (.cells #[.int .i64 3, .string ⟨#[98, 111, 111, 108]⟩, .int .i64 0, .int .i64 0, .string ⟨#[]⟩, .slice none 0 0, .int .i64 2, .string ⟨#[]⟩, .int .i64 2, .int .i64 0, .string ⟨#[]⟩, .slice none 0 0] 26 (0, 0)) → X.heap[h]? = some (.cells #[.int .i64 0, .int .i64 0, .string ⟨#[]⟩] 23 (0, 0)) →
   Calls Tryd.prog 14 #[.agg #[.int .i64 14, .string ⟨#[]⟩, .int .i64 0, .int .i64 0, .string ⟨#[]⟩, .slice (some ⟨g, 0, none⟩) 2 2], .slice (some ⟨w.heap.size, 0, none⟩) 1 1, .slice (some ⟨h, 0, none⟩) 1 1] X
    fun e w' => e = .returned (.tuple #[.agg #[.int .i64 2, .int .i64 0, .string ⟨#[]⟩], .int .i64 0]) ∧ Below X.heap.size X w' := fun g h X hX hg hh =>
  worth_at andE g_and _ w_and _ 2 (by decide) _ _ X (HG.out.below hX.below) (C_two X g _ _ _ _ _ _ (K_leaf X nulE rfl) (K_leaf X noE rfl) hg) hX.cols hh
 refine start_ (n := 15) (S := (AlT w w.heap.size w3.heap.size (w3.heap.size + 1) (w3.heap.size + 1 + 1) W8.heap.size [])) (ds := []) (fB 15 0) (by kernel_rfl) rfl rfl (AlT.step hT8 (below_drew1 (Below.refl _ _))) (fun hHeld => ?_)
 generalize W8.drew = wd at hHeld ⊢
 refine take_ (i := 0) (N := some 27) (v := ?_) (a' := ?_) (fB 15 1) rfl rfl (by kernel_rfl) (fun _ _ _ h => h) (Or.inl ⟨by rfl, by intro w' hs0; obtain ⟨d0, d1, d2, d3, d4, d5, n0, n1, n2, n3, n4, n5, _⟩ := hs0.als.cells; go_simp; with_reducible rfl⟩) hHeld (by simp only [Act.put, zA, zB, zC]; rfl) ?_
 refine take_ (i := 1) (N := some 28) (v := ?_) (a' := ?_) (fB 15 3) rfl rfl (by kernel_rfl) (fun _ _ _ h => h) (Or.inl ⟨by rfl, by intro w' hs0; obtain ⟨d0, d1, d2, d3, d4, d5, n0, n1, n2, n3, n4, n5, _⟩ := hs0.als.cells; go_simp; with_reducible rfl⟩) hHeld (by simp only [Act.put, zA, zB, zC]; rfl) ?_
 refine pure_ (i := 5) (N := some 32) (v := ?_) (a' := ?_) (fB 15 35) rfl rfl (by kernel_rfl) (fun _ _ _ h => h) (Or.inl ⟨by rfl, by intro w'; go_simp; (first | with_reducible rfl | skip)⟩) (by simp only [Act.put, zA, zB, zC]; rfl) ?_
 refine pure_ (i := 6) (N := some 33) (v := ?_) (a' := ?_) (fB 15 99) rfl rfl (by kernel_rfl) (fun _ _ _ h => h) (Or.inl ⟨by rfl, by intro w'; go_simp; (first | with_reducible rfl | skip)⟩) (by simp only [Act.put, zA, zB, zC]; rfl) ?_
 refine join_ (σ := Nat × Nat × Nat) 2 (fB 15 8191) (fun s_ => [(29, .agg #[.int .i64 2, .string ⟨#[]⟩, .int .i64 1, .int .i64 2, .string ⟨#[]⟩, .slice none 0 0]), (30, .slice (some ⟨s_.1, 0, none⟩) 3 3), (31, .agg #[.int .i64 18, .string ⟨#[]⟩, .int .i64 0, .int .i64 0, .string ⟨#[]⟩, .slice (some ⟨s_.1, 0, none⟩) 3 3]), (34, .slice (some ⟨s_.2.1, 0, none⟩) 1 1), (35, .tuple #[.agg #[.int .i64 1, .int .i64 2, .string ⟨#[]⟩], .int .i64 0]), (26, .tuple #[.agg #[.int .i64 1, .int .i64 2, .string ⟨#[]⟩], .int .i64 0]), (36, .agg #[.int .i64 1, .int .i64 2, .string ⟨#[]⟩]), (37, .int .i64 0), (6, .pointer (some ⟨s_.2.2, 0, none⟩))]) (fun s_ w' => (AlT w w.heap.size w3.heap.size (w3.heap.size + 1) (w3.heap.size + 1 + 1) W8.heap.size []) w' ∧ w'.heap[s_.2.2]? = some (.cells #[.int .i64 0, .int .i64 0, .string ⟨#[]⟩] 23 (0, 0)) ∧ W8.heap.size ≤ s_.2.2) ?_ ?_
 rotate_left
 ·intro hCont
  have hs0 := hHeld
  have hz0 := hs0.size
  refine three_ (i := 2) (j := 7) (k := 12) (Ni := some 29) (Nj := some 34) (Nk := some 6) (fB 15 103) (fB 15 227) (fB 15 4195) rfl rfl rfl rfl rfl rfl (by kernel_rfl) (by decide) (by decide) (by decide) (fun K hK => ?_) (fun K hK => ?_) (fun K hK => ?_)
  ·skip
   refine goes_ Tryd.func29 (by kernel_rfl) rfl #[.int .i64 2] (by rfl) rfl rfl (by (try simp only [List.map_toArray, List.map_cons, List.map_nil]); first | done | rfl) ?_
   refine (one_calls 2 _).mono ?_
   rintro e u1 ⟨rfl, hb1⟩
   have hs1 := AlT.step hs0 hb1
   clear hHeld
   refine ⟨_, rfl, ?_⟩
   have hz1 := hs1.size
   refine hK.out _ _ hs1 (fun hHeld => ?_)
   clear hK K
   refine norm_ (a' := ?_) ?_ ?_
   rotate_left
   ·show Act.put _ (some 29) _ = _
    simp only [Act.put, zA, zB, zC]
    rfl
   refine three_ (i := 3) (j := 7) (k := 12) (Ni := some 30) (Nj := some 34) (Nk := some 6) (fB 15 111) (fB 15 231) (fB 15 4199) rfl rfl rfl rfl rfl rfl (by kernel_rfl) (by decide) (by decide) (by decide) (fun K hK => ?_) (fun K hK => ?_) (fun K hK => ?_)
   ·skip
    refine value_ (w1 := u1.alloc (.cells #[.int .i64 2, .string ⟨#[]⟩, .int .i64 2, .int .i64 0, .string ⟨#[]⟩, .slice none 0 0, .int .i64 7, .string ⟨#[]⟩, .int .i64 0, .int .i64 0, .string ⟨#[]⟩, .slice (some ⟨w3.heap.size, 0, none⟩) 2 2, .int .i64 2, .string ⟨#[]⟩, .int .i64 1, .int .i64 2, .string ⟨#[]⟩, .slice none 0 0] 26)) (v := .slice (some ⟨u1.heap.size, 0, none⟩) 3 3) (by rfl) rfl (by go_simp) ?_
    have hb2 : Below u1.heap.size u1 (u1.alloc (.cells #[.int .i64 2, .string ⟨#[]⟩, .int .i64 2, .int .i64 0, .string ⟨#[]⟩, .slice none 0 0, .int .i64 7, .string ⟨#[]⟩, .int .i64 0, .int .i64 0, .string ⟨#[]⟩, .slice (some ⟨w3.heap.size, 0, none⟩) 2 2, .int .i64 2, .string ⟨#[]⟩, .int .i64 1, .int .i64 2, .string ⟨#[]⟩, .slice none 0 0] 26)) := below_alloc (Below.refl _ _) _
    have hn2 := blk_new u1 (.cells #[.int .i64 2, .string ⟨#[]⟩, .int .i64 2, .int .i64 0, .string ⟨#[]⟩, .slice none 0 0, .int .i64 7, .string ⟨#[]⟩, .int .i64 0, .int .i64 0, .string ⟨#[]⟩, .slice (some ⟨w3.heap.size, 0, none⟩) 2 2, .int .i64 2, .string ⟨#[]⟩, .int .i64 1, .int .i64 2, .string ⟨#[]⟩, .slice none 0 0] 26)
    have hs2 := AlT.step hs1 hb2
    generalize u1.alloc (.cells #[.int .i64 2, .string ⟨#[]⟩, .int .i64 2, .int .i64 0, .string ⟨#[]⟩, .slice none 0 0, .int .i64 7, .string ⟨#[]⟩, .int .i64 0, .int .i64 0, .string ⟨#[]⟩, .slice (some ⟨w3.heap.size, 0, none⟩) 2 2, .int .i64 2, .string ⟨#[]⟩, .int .i64 1, .int .i64 2, .string ⟨#[]⟩, .slice none 0 0] 26) = u2 at hb2 hn2 hs2 ⊢
    clear hHeld
    have hz2 := hs2.size
    refine hK.out _ _ hs2 (fun hHeld => ?_)
    clear hK K
    refine norm_ (a' := ?_) ?_ ?_
    rotate_left
    ·show Act.put _ (some 30) _ = _
     simp only [Act.put, zA, zB, zC]
     rfl
    refine pure_ (i := 4) (N := some 31) (v := ?_) (a' := ?_) (fB 15 127) rfl rfl (by kernel_rfl) (fun _ _ _ h => h) (Or.inl ⟨by rfl, by intro w'; go_simp; (first | with_reducible rfl | skip)⟩) (by simp only [Act.put, zA, zB, zC]; rfl) ?_
    refine two_ (i := 7) (j := 12) (Ni := some 34) (Nj := some 6) (fB 15 255) (fB 15 4223) rfl rfl rfl rfl (by kernel_rfl) (by decide) (by decide) (fun K hK => ?_) (fun K hK => ?_)
    ·skip
     refine value_ (w1 := u2.alloc (.cells #[.int .i64 0, .int .i64 0, .string ⟨#[]⟩] 23)) (v := .slice (some ⟨u2.heap.size, 0, none⟩) 1 1) (by rfl) rfl (by go_simp) ?_
     have hb3 : Below u2.heap.size u2 (u2.alloc (.cells #[.int .i64 0, .int .i64 0, .string ⟨#[]⟩] 23)) := below_alloc (Below.refl _ _) _
     have hn3 := blk_new u2 (.cells #[.int .i64 0, .int .i64 0, .string ⟨#[]⟩] 23)
     have hs3 := AlT.step hs2 hb3
     have hg3 := blk_below hn2 hb3
     generalize u2.alloc (.cells #[.int .i64 0, .int .i64 0, .string ⟨#[]⟩] 23) = u3 at hb3 hn3 hs3 hg3 ⊢
     clear hHeld
     have hz3 := hs3.size
     refine hK.out _ _ hs3 (fun hHeld => ?_)
     clear hK K
     refine norm_ (a' := ?_) ?_ ?_
     rotate_left
     ·show Act.put _ (some 34) _ = _
      simp only [Act.put, zA, zB, zC]
      rfl
     refine two_ (i := 8) (j := 12) (Ni := some 35) (Nj := some 6) (fB 15 511) (fB 15 4351) rfl rfl rfl rfl (by kernel_rfl) (by decide) (by decide) (fun K hK => ?_) (fun K hK => ?_)
     ·skip
      refine goes_ Tryd.func14 (by kernel_rfl) rfl #[.agg #[.int .i64 18, .string ⟨#[]⟩, .int .i64 0, .int .i64 0, .string ⟨#[]⟩, .slice (some ⟨u1.heap.size, 0, none⟩) 3 3], .slice (some ⟨w.heap.size, 0, none⟩) 1 1, .slice (some ⟨u2.heap.size, 0, none⟩) 1 1] (by rfl) rfl rfl (by (try simp only [List.map_toArray, List.map_cons, List.map_nil]); first | done | rfl) ?_
      refine (hwif _ _ _ hs3.als hg3 hn3).mono ?_
      rintro e u4 ⟨rfl, hb4⟩
      have hs4 := AlT.step hs3 hb4
      have hg4 := blk_below hg3 hb4
      have hh4 := blk_below hn3 hb4
      clear hHeld
      refine ⟨_, rfl, ?_⟩
      have hz4 := hs4.size
      refine hK.out _ _ hs4 (fun hHeld => ?_)
      clear hK K
      refine norm_ (a' := ?_) ?_ ?_
      rotate_left
      ·show Act.put _ (some 35) _ = _
       simp only [Act.put, zA, zB, zC]
       rfl
      refine pure_ (i := 9) (N := some 26) (v := ?_) (a' := ?_) (fB 15 1023) rfl rfl (by kernel_rfl) (fun _ _ _ h => h) (Or.inl ⟨by rfl, by intro w'; go_simp; (first | with_reducible rfl | skip)⟩) (by simp only [Act.put, zA, zB, zC]; rfl) ?_
      refine pure_ (i := 10) (N := some 36) (v := ?_) (a' := ?_) (fB 15 2047) rfl rfl (by kernel_rfl) (fun _ _ _ h => h) (Or.inl ⟨by rfl, by intro w'; go_simp; (first | with_reducible rfl | skip)⟩) (by simp only [Act.put, zA, zB, zC]; rfl) ?_
      refine pure_ (i := 11) (N := some 37) (v := ?_) (a' := ?_) (fB 15 4095) rfl rfl (by kernel_rfl) (fun _ _ _ h => h) (Or.inl ⟨by rfl, by intro w'; go_simp; (first | with_reducible rfl | skip)⟩) (by simp only [Act.put, zA, zB, zC]; rfl) ?_
      refine one_ (i := 12) (N := some 6) (fB 15 8191) rfl rfl (by kernel_rfl) (by decide) (fun K hK => ?_)
      refine value_ (w1 := u4.alloc (.cells #[.int .i64 0, .int .i64 0, .string ⟨#[]⟩] 23)) (v := .pointer (some ⟨u4.heap.size, 0, none⟩)) (by rfl) rfl (by go_simp) ?_
      have hb5 : Below u4.heap.size u4 (u4.alloc (.cells #[.int .i64 0, .int .i64 0, .string ⟨#[]⟩] 23)) := below_alloc (Below.refl _ _) _
      have hn5 := blk_new u4 (.cells #[.int .i64 0, .int .i64 0, .string ⟨#[]⟩] 23)
      have hs5 := AlT.step hs4 hb5
      have hg5 := blk_below hg4 hb5
      have hh5 := blk_below hh4 hb5
      generalize u4.alloc (.cells #[.int .i64 0, .int .i64 0, .string ⟨#[]⟩] 23) = u5 at hb5 hn5 hs5 hg5 hh5 ⊢
      clear hHeld
      have hz5 := hs5.size
      refine hK.out _ _ hs5 (fun hHeld => ?_)
      clear hK K
      refine norm_ (a' := ?_) ?_ ?_
      rotate_left
      ·show Act.put _ (some 6) _ = _
       simp only [Act.put, zA, zB, zC]
       rfl
      exact norm_ (by simp only [putAll, Act.put, zA, zB, zC]) (hCont (u1.heap.size, u2.heap.size, u4.heap.size) _ ⟨hs5, hn5, by omega⟩)
     ·skip
      refine value_ (w1 := u3.alloc (.cells #[.int .i64 0, .int .i64 0, .string ⟨#[]⟩] 23)) (v := .pointer (some ⟨u3.heap.size, 0, none⟩)) (by rfl) rfl (by go_simp) ?_
      have hb6 : Below u3.heap.size u3 (u3.alloc (.cells #[.int .i64 0, .int .i64 0, .string ⟨#[]⟩] 23)) := below_alloc (Below.refl _ _) _
      have hn6 := blk_new u3 (.cells #[.int .i64 0, .int .i64 0, .string ⟨#[]⟩] 23)
      have hs6 := AlT.step hs3 hb6
      have hg6 := blk_below hg3 hb6
      have hh6 := blk_below hn3 hb6
      generalize u3.alloc (.cells #[.int .i64 0, .int .i64 0, .string ⟨#[]⟩] 23) = u6 at hb6 hn6 hs6 hg6 hh6 ⊢
      clear hHeld
      have hz6 := hs6.size
      refine hK.out _ _ hs6 (fun hHeld => ?_)
      clear hK K
      refine norm_ (a' := ?_) ?_ ?_
      rotate_left
      ·show Act.put _ (some 6) _ = _
       simp only [Act.put, zA, zB, zC]
       rfl
      refine one_ (i := 8) (N := some 35) (fB 15 4607) rfl rfl (by kernel_rfl) (by decide) (fun K hK => ?_)
      refine goes_ Tryd.func14 (by kernel_rfl) rfl #[.agg #[.int .i64 18, .string ⟨#[]⟩, .int .i64 0, .int .i64 0, .string ⟨#[]⟩, .slice (some ⟨u1.heap.size, 0, none⟩) 3 3], .slice (some ⟨w.heap.size, 0, none⟩) 1 1, .slice (some ⟨u2.heap.size, 0, none⟩) 1 1] (by rfl) rfl rfl (by (try simp only [List.map_toArray, List.map_cons, List.map_nil]); first | done | rfl) ?_
      refine (hwif _ _ _ hs6.als hg6 hh6).mono ?_
      rintro e u7 ⟨rfl, hb7⟩
      have hs7 := AlT.step hs6 hb7
      have hg7 := blk_below hg6 hb7
      have hh7 := blk_below hh6 hb7
      have hk7 := blk_below hn6 hb7
      clear hHeld
      refine ⟨_, rfl, ?_⟩
      have hz7 := hs7.size
      refine hK.out _ _ hs7 (fun hHeld => ?_)
      clear hK K
      refine norm_ (a' := ?_) ?_ ?_
      rotate_left
      ·show Act.put _ (some 35) _ = _
       simp only [Act.put, zA, zB, zC]
       rfl
      refine pure_ (i := 9) (N := some 26) (v := ?_) (a' := ?_) (fB 15 5119) rfl rfl (by kernel_rfl) (fun _ _ _ h => h) (Or.inl ⟨by rfl, by intro w'; go_simp; (first | with_reducible rfl | skip)⟩) (by simp only [Act.put, zA, zB, zC]; rfl) ?_
      refine pure_ (i := 10) (N := some 36) (v := ?_) (a' := ?_) (fB 15 6143) rfl rfl (by kernel_rfl) (fun _ _ _ h => h) (Or.inl ⟨by rfl, by intro w'; go_simp; (first | with_reducible rfl | skip)⟩) (by simp only [Act.put, zA, zB, zC]; rfl) ?_
      refine pure_ (i := 11) (N := some 37) (v := ?_) (a' := ?_) (fB 15 8191) rfl rfl (by kernel_rfl) (fun _ _ _ h => h) (Or.inl ⟨by rfl, by intro w'; go_simp; (first | with_reducible rfl | skip)⟩) (by simp only [Act.put, zA, zB, zC]; rfl) ?_
      exact norm_ (by simp only [putAll, Act.put, zA, zB, zC]) (hCont (u1.heap.size, u2.heap.size, u3.heap.size) _ ⟨hs7, hk7, by omega⟩)
    ·skip
     refine value_ (w1 := u2.alloc (.cells #[.int .i64 0, .int .i64 0, .string ⟨#[]⟩] 23)) (v := .pointer (some ⟨u2.heap.size, 0, none⟩)) (by rfl) rfl (by go_simp) ?_
     have hb8 : Below u2.heap.size u2 (u2.alloc (.cells #[.int .i64 0, .int .i64 0, .string ⟨#[]⟩] 23)) := below_alloc (Below.refl _ _) _
     have hn8 := blk_new u2 (.cells #[.int .i64 0, .int .i64 0, .string ⟨#[]⟩] 23)
     have hs8 := AlT.step hs2 hb8
     have hg8 := blk_below hn2 hb8
     generalize u2.alloc (.cells #[.int .i64 0, .int .i64 0, .string ⟨#[]⟩] 23) = u8 at hb8 hn8 hs8 hg8 ⊢
     clear hHeld
     have hz8 := hs8.size
     refine hK.out _ _ hs8 (fun hHeld => ?_)
     clear hK K
     refine norm_ (a' := ?_) ?_ ?_
     rotate_left
     ·show Act.put _ (some 6) _ = _
      simp only [Act.put, zA, zB, zC]
      rfl
     refine one_ (i := 7) (N := some 34) (fB 15 4351) rfl rfl (by kernel_rfl) (by decide) (fun K hK => ?_)
     refine value_ (w1 := u8.alloc (.cells #[.int .i64 0, .int .i64 0, .string ⟨#[]⟩] 23)) (v := .slice (some ⟨u8.heap.size, 0, none⟩) 1 1) (by rfl) rfl (by go_simp) ?_
     have hb9 : Below u8.heap.size u8 (u8.alloc (.cells #[.int .i64 0, .int .i64 0, .string ⟨#[]⟩] 23)) := below_alloc (Below.refl _ _) _
     have hn9 := blk_new u8 (.cells #[.int .i64 0, .int .i64 0, .string ⟨#[]⟩] 23)
     have hs9 := AlT.step hs8 hb9
     have hg9 := blk_below hg8 hb9
     have hk9 := blk_below hn8 hb9
     generalize u8.alloc (.cells #[.int .i64 0, .int .i64 0, .string ⟨#[]⟩] 23) = u9 at hb9 hn9 hs9 hg9 hk9 ⊢
     clear hHeld
     have hz9 := hs9.size
     refine hK.out _ _ hs9 (fun hHeld => ?_)
     clear hK K
     refine norm_ (a' := ?_) ?_ ?_
     rotate_left
     ·show Act.put _ (some 34) _ = _
      simp only [Act.put, zA, zB, zC]
      rfl
     refine one_ (i := 8) (N := some 35) (fB 15 4607) rfl rfl (by kernel_rfl) (by decide) (fun K hK => ?_)
     refine goes_ Tryd.func14 (by kernel_rfl) rfl #[.agg #[.int .i64 18, .string ⟨#[]⟩, .int .i64 0, .int .i64 0, .string ⟨#[]⟩, .slice (some ⟨u1.heap.size, 0, none⟩) 3 3], .slice (some ⟨w.heap.size, 0, none⟩) 1 1, .slice (some ⟨u8.heap.size, 0, none⟩) 1 1] (by rfl) rfl rfl (by (try simp only [List.map_toArray, List.map_cons, List.map_nil]); first | done | rfl) ?_
     refine (hwif _ _ _ hs9.als hg9 hn9).mono ?_
     rintro e u10 ⟨rfl, hb10⟩
     have hs10 := AlT.step hs9 hb10
     have hg10 := blk_below hg9 hb10
     have hh10 := blk_below hn9 hb10
     have hk10 := blk_below hk9 hb10
     clear hHeld
     refine ⟨_, rfl, ?_⟩
     have hz10 := hs10.size
     refine hK.out _ _ hs10 (fun hHeld => ?_)
     clear hK K
     refine norm_ (a' := ?_) ?_ ?_
     rotate_left
     ·show Act.put _ (some 35) _ = _
      simp only [Act.put, zA, zB, zC]
      rfl
     refine pure_ (i := 9) (N := some 26) (v := ?_) (a' := ?_) (fB 15 5119) rfl rfl (by kernel_rfl) (fun _ _ _ h => h) (Or.inl ⟨by rfl, by intro w'; go_simp; (first | with_reducible rfl | skip)⟩) (by simp only [Act.put, zA, zB, zC]; rfl) ?_
     refine pure_ (i := 10) (N := some 36) (v := ?_) (a' := ?_) (fB 15 6143) rfl rfl (by kernel_rfl) (fun _ _ _ h => h) (Or.inl ⟨by rfl, by intro w'; go_simp; (first | with_reducible rfl | skip)⟩) (by simp only [Act.put, zA, zB, zC]; rfl) ?_
     refine pure_ (i := 11) (N := some 37) (v := ?_) (a' := ?_) (fB 15 8191) rfl rfl (by kernel_rfl) (fun _ _ _ h => h) (Or.inl ⟨by rfl, by intro w'; go_simp; (first | with_reducible rfl | skip)⟩) (by simp only [Act.put, zA, zB, zC]; rfl) ?_
     exact norm_ (by simp only [putAll, Act.put, zA, zB, zC]) (hCont (u1.heap.size, u8.heap.size, u2.heap.size) _ ⟨hs10, hk10, by omega⟩)
   ·skip
    refine value_ (w1 := u1.alloc (.cells #[.int .i64 0, .int .i64 0, .string ⟨#[]⟩] 23)) (v := .slice (some ⟨u1.heap.size, 0, none⟩) 1 1) (by rfl) rfl (by go_simp) ?_
    have hb11 : Below u1.heap.size u1 (u1.alloc (.cells #[.int .i64 0, .int .i64 0, .string ⟨#[]⟩] 23)) := below_alloc (Below.refl _ _) _
    have hn11 := blk_new u1 (.cells #[.int .i64 0, .int .i64 0, .string ⟨#[]⟩] 23)
    have hs11 := AlT.step hs1 hb11
    generalize u1.alloc (.cells #[.int .i64 0, .int .i64 0, .string ⟨#[]⟩] 23) = u11 at hb11 hn11 hs11 ⊢
    clear hHeld
    have hz11 := hs11.size
    refine hK.out _ _ hs11 (fun hHeld => ?_)
    clear hK K
    refine norm_ (a' := ?_) ?_ ?_
    rotate_left
    ·show Act.put _ (some 34) _ = _
     simp only [Act.put, zA, zB, zC]
     rfl
    refine two_ (i := 3) (j := 12) (Ni := some 30) (Nj := some 6) (fB 15 239) (fB 15 4327) rfl rfl rfl rfl (by kernel_rfl) (by decide) (by decide) (fun K hK => ?_) (fun K hK => ?_)
    ·skip
     refine value_ (w1 := u11.alloc (.cells #[.int .i64 2, .string ⟨#[]⟩, .int .i64 2, .int .i64 0, .string ⟨#[]⟩, .slice none 0 0, .int .i64 7, .string ⟨#[]⟩, .int .i64 0, .int .i64 0, .string ⟨#[]⟩, .slice (some ⟨w3.heap.size, 0, none⟩) 2 2, .int .i64 2, .string ⟨#[]⟩, .int .i64 1, .int .i64 2, .string ⟨#[]⟩, .slice none 0 0] 26)) (v := .slice (some ⟨u11.heap.size, 0, none⟩) 3 3) (by rfl) rfl (by go_simp) ?_
     have hb12 : Below u11.heap.size u11 (u11.alloc (.cells #[.int .i64 2, .string ⟨#[]⟩, .int .i64 2, .int .i64 0, .string ⟨#[]⟩, .slice none 0 0, .int .i64 7, .string ⟨#[]⟩, .int .i64 0, .int .i64 0, .string ⟨#[]⟩, .slice (some ⟨w3.heap.size, 0, none⟩) 2 2, .int .i64 2, .string ⟨#[]⟩, .int .i64 1, .int .i64 2, .string ⟨#[]⟩, .slice none 0 0] 26)) := below_alloc (Below.refl _ _) _
     have hn12 := blk_new u11 (.cells #[.int .i64 2, .string ⟨#[]⟩, .int .i64 2, .int .i64 0, .string ⟨#[]⟩, .slice none 0 0, .int .i64 7, .string ⟨#[]⟩, .int .i64 0, .int .i64 0, .string ⟨#[]⟩, .slice (some ⟨w3.heap.size, 0, none⟩) 2 2, .int .i64 2, .string ⟨#[]⟩, .int .i64 1, .int .i64 2, .string ⟨#[]⟩, .slice none 0 0] 26)
     have hs12 := AlT.step hs11 hb12
     have hh12 := blk_below hn11 hb12
     generalize u11.alloc (.cells #[.int .i64 2, .string ⟨#[]⟩, .int .i64 2, .int .i64 0, .string ⟨#[]⟩, .slice none 0 0, .int .i64 7, .string ⟨#[]⟩, .int .i64 0, .int .i64 0, .string ⟨#[]⟩, .slice (some ⟨w3.heap.size, 0, none⟩) 2 2, .int .i64 2, .string ⟨#[]⟩, .int .i64 1, .int .i64 2, .string ⟨#[]⟩, .slice none 0 0] 26) = u12 at hb12 hn12 hs12 hh12 ⊢
     clear hHeld
     have hz12 := hs12.size
     refine hK.out _ _ hs12 (fun hHeld => ?_)
     clear hK K
     refine norm_ (a' := ?_) ?_ ?_
     rotate_left
     ·show Act.put _ (some 30) _ = _
      simp only [Act.put, zA, zB, zC]
      rfl
     refine pure_ (i := 4) (N := some 31) (v := ?_) (a' := ?_) (fB 15 255) rfl rfl (by kernel_rfl) (fun _ _ _ h => h) (Or.inl ⟨by rfl, by intro w'; go_simp; (first | with_reducible rfl | skip)⟩) (by simp only [Act.put, zA, zB, zC]; rfl) ?_
     refine two_ (i := 8) (j := 12) (Ni := some 35) (Nj := some 6) (fB 15 511) (fB 15 4351) rfl rfl rfl rfl (by kernel_rfl) (by decide) (by decide) (fun K hK => ?_) (fun K hK => ?_)
     ·skip
      refine goes_ Tryd.func14 (by kernel_rfl) rfl #[.agg #[.int .i64 18, .string ⟨#[]⟩, .int .i64 0, .int .i64 0, .string ⟨#[]⟩, .slice (some ⟨u11.heap.size, 0, none⟩) 3 3], .slice (some ⟨w.heap.size, 0, none⟩) 1 1, .slice (some ⟨u1.heap.size, 0, none⟩) 1 1] (by rfl) rfl rfl (by (try simp only [List.map_toArray, List.map_cons, List.map_nil]); first | done | rfl) ?_
      refine (hwif _ _ _ hs12.als hn12 hh12).mono ?_
      rintro e u13 ⟨rfl, hb13⟩
      have hs13 := AlT.step hs12 hb13
      have hg13 := blk_below hn12 hb13
      have hh13 := blk_below hh12 hb13
      clear hHeld
      refine ⟨_, rfl, ?_⟩
      have hz13 := hs13.size
      refine hK.out _ _ hs13 (fun hHeld => ?_)
      clear hK K
      refine norm_ (a' := ?_) ?_ ?_
      rotate_left
      ·show Act.put _ (some 35) _ = _
       simp only [Act.put, zA, zB, zC]
       rfl
      refine pure_ (i := 9) (N := some 26) (v := ?_) (a' := ?_) (fB 15 1023) rfl rfl (by kernel_rfl) (fun _ _ _ h => h) (Or.inl ⟨by rfl, by intro w'; go_simp; (first | with_reducible rfl | skip)⟩) (by simp only [Act.put, zA, zB, zC]; rfl) ?_
      refine pure_ (i := 10) (N := some 36) (v := ?_) (a' := ?_) (fB 15 2047) rfl rfl (by kernel_rfl) (fun _ _ _ h => h) (Or.inl ⟨by rfl, by intro w'; go_simp; (first | with_reducible rfl | skip)⟩) (by simp only [Act.put, zA, zB, zC]; rfl) ?_
      refine pure_ (i := 11) (N := some 37) (v := ?_) (a' := ?_) (fB 15 4095) rfl rfl (by kernel_rfl) (fun _ _ _ h => h) (Or.inl ⟨by rfl, by intro w'; go_simp; (first | with_reducible rfl | skip)⟩) (by simp only [Act.put, zA, zB, zC]; rfl) ?_
      refine one_ (i := 12) (N := some 6) (fB 15 8191) rfl rfl (by kernel_rfl) (by decide) (fun K hK => ?_)
      refine value_ (w1 := u13.alloc (.cells #[.int .i64 0, .int .i64 0, .string ⟨#[]⟩] 23)) (v := .pointer (some ⟨u13.heap.size, 0, none⟩)) (by rfl) rfl (by go_simp) ?_
      have hb14 : Below u13.heap.size u13 (u13.alloc (.cells #[.int .i64 0, .int .i64 0, .string ⟨#[]⟩] 23)) := below_alloc (Below.refl _ _) _
      have hn14 := blk_new u13 (.cells #[.int .i64 0, .int .i64 0, .string ⟨#[]⟩] 23)
      have hs14 := AlT.step hs13 hb14
      have hg14 := blk_below hg13 hb14
      have hh14 := blk_below hh13 hb14
      generalize u13.alloc (.cells #[.int .i64 0, .int .i64 0, .string ⟨#[]⟩] 23) = u14 at hb14 hn14 hs14 hg14 hh14 ⊢
      clear hHeld
      have hz14 := hs14.size
      refine hK.out _ _ hs14 (fun hHeld => ?_)
      clear hK K
      refine norm_ (a' := ?_) ?_ ?_
      rotate_left
      ·show Act.put _ (some 6) _ = _
       simp only [Act.put, zA, zB, zC]
       rfl
      exact norm_ (by simp only [putAll, Act.put, zA, zB, zC]) (hCont (u11.heap.size, u1.heap.size, u13.heap.size) _ ⟨hs14, hn14, by omega⟩)
     ·skip
      refine value_ (w1 := u12.alloc (.cells #[.int .i64 0, .int .i64 0, .string ⟨#[]⟩] 23)) (v := .pointer (some ⟨u12.heap.size, 0, none⟩)) (by rfl) rfl (by go_simp) ?_
      have hb15 : Below u12.heap.size u12 (u12.alloc (.cells #[.int .i64 0, .int .i64 0, .string ⟨#[]⟩] 23)) := below_alloc (Below.refl _ _) _
      have hn15 := blk_new u12 (.cells #[.int .i64 0, .int .i64 0, .string ⟨#[]⟩] 23)
      have hs15 := AlT.step hs12 hb15
      have hg15 := blk_below hn12 hb15
      have hh15 := blk_below hh12 hb15
      generalize u12.alloc (.cells #[.int .i64 0, .int .i64 0, .string ⟨#[]⟩] 23) = u15 at hb15 hn15 hs15 hg15 hh15 ⊢
      clear hHeld
      have hz15 := hs15.size
      refine hK.out _ _ hs15 (fun hHeld => ?_)
      clear hK K
      refine norm_ (a' := ?_) ?_ ?_
      rotate_left
      ·show Act.put _ (some 6) _ = _
       simp only [Act.put, zA, zB, zC]
       rfl
      refine one_ (i := 8) (N := some 35) (fB 15 4607) rfl rfl (by kernel_rfl) (by decide) (fun K hK => ?_)
      refine goes_ Tryd.func14 (by kernel_rfl) rfl #[.agg #[.int .i64 18, .string ⟨#[]⟩, .int .i64 0, .int .i64 0, .string ⟨#[]⟩, .slice (some ⟨u11.heap.size, 0, none⟩) 3 3], .slice (some ⟨w.heap.size, 0, none⟩) 1 1, .slice (some ⟨u1.heap.size, 0, none⟩) 1 1] (by rfl) rfl rfl (by (try simp only [List.map_toArray, List.map_cons, List.map_nil]); first | done | rfl) ?_
      refine (hwif _ _ _ hs15.als hg15 hh15).mono ?_
      rintro e u16 ⟨rfl, hb16⟩
      have hs16 := AlT.step hs15 hb16
      have hg16 := blk_below hg15 hb16
      have hh16 := blk_below hh15 hb16
      have hk16 := blk_below hn15 hb16
      clear hHeld
      refine ⟨_, rfl, ?_⟩
      have hz16 := hs16.size
      refine hK.out _ _ hs16 (fun hHeld => ?_)
      clear hK K
      refine norm_ (a' := ?_) ?_ ?_
      rotate_left
      ·show Act.put _ (some 35) _ = _
       simp only [Act.put, zA, zB, zC]
       rfl
      refine pure_ (i := 9) (N := some 26) (v := ?_) (a' := ?_) (fB 15 5119) rfl rfl (by kernel_rfl) (fun _ _ _ h => h) (Or.inl ⟨by rfl, by intro w'; go_simp; (first | with_reducible rfl | skip)⟩) (by simp only [Act.put, zA, zB, zC]; rfl) ?_
      refine pure_ (i := 10) (N := some 36) (v := ?_) (a' := ?_) (fB 15 6143) rfl rfl (by kernel_rfl) (fun _ _ _ h => h) (Or.inl ⟨by rfl, by intro w'; go_simp; (first | with_reducible rfl | skip)⟩) (by simp only [Act.put, zA, zB, zC]; rfl) ?_
      refine pure_ (i := 11) (N := some 37) (v := ?_) (a' := ?_) (fB 15 8191) rfl rfl (by kernel_rfl) (fun _ _ _ h => h) (Or.inl ⟨by rfl, by intro w'; go_simp; (first | with_reducible rfl | skip)⟩) (by simp only [Act.put, zA, zB, zC]; rfl) ?_
      exact norm_ (by simp only [putAll, Act.put, zA, zB, zC]) (hCont (u11.heap.size, u1.heap.size, u12.heap.size) _ ⟨hs16, hk16, by omega⟩)
    ·skip
     refine value_ (w1 := u11.alloc (.cells #[.int .i64 0, .int .i64 0, .string ⟨#[]⟩] 23)) (v := .pointer (some ⟨u11.heap.size, 0, none⟩)) (by rfl) rfl (by go_simp) ?_
     have hb17 : Below u11.heap.size u11 (u11.alloc (.cells #[.int .i64 0, .int .i64 0, .string ⟨#[]⟩] 23)) := below_alloc (Below.refl _ _) _
     have hn17 := blk_new u11 (.cells #[.int .i64 0, .int .i64 0, .string ⟨#[]⟩] 23)
     have hs17 := AlT.step hs11 hb17
     have hh17 := blk_below hn11 hb17
     generalize u11.alloc (.cells #[.int .i64 0, .int .i64 0, .string ⟨#[]⟩] 23) = u17 at hb17 hn17 hs17 hh17 ⊢
     clear hHeld
     have hz17 := hs17.size
     refine hK.out _ _ hs17 (fun hHeld => ?_)
     clear hK K
     refine norm_ (a' := ?_) ?_ ?_
     rotate_left
     ·show Act.put _ (some 6) _ = _
      simp only [Act.put, zA, zB, zC]
      rfl
     refine one_ (i := 3) (N := some 30) (fB 15 4335) rfl rfl (by kernel_rfl) (by decide) (fun K hK => ?_)
     refine value_ (w1 := u17.alloc (.cells #[.int .i64 2, .string ⟨#[]⟩, .int .i64 2, .int .i64 0, .string ⟨#[]⟩, .slice none 0 0, .int .i64 7, .string ⟨#[]⟩, .int .i64 0, .int .i64 0, .string ⟨#[]⟩, .slice (some ⟨w3.heap.size, 0, none⟩) 2 2, .int .i64 2, .string ⟨#[]⟩, .int .i64 1, .int .i64 2, .string ⟨#[]⟩, .slice none 0 0] 26)) (v := .slice (some ⟨u17.heap.size, 0, none⟩) 3 3) (by rfl) rfl (by go_simp) ?_
     have hb18 : Below u17.heap.size u17 (u17.alloc (.cells #[.int .i64 2, .string ⟨#[]⟩, .int .i64 2, .int .i64 0, .string ⟨#[]⟩, .slice none 0 0, .int .i64 7, .string ⟨#[]⟩, .int .i64 0, .int .i64 0, .string ⟨#[]⟩, .slice (some ⟨w3.heap.size, 0, none⟩) 2 2, .int .i64 2, .string ⟨#[]⟩, .int .i64 1, .int .i64 2, .string ⟨#[]⟩, .slice none 0 0] 26)) := below_alloc (Below.refl _ _) _
     have hn18 := blk_new u17 (.cells #[.int .i64 2, .string ⟨#[]⟩, .int .i64 2, .int .i64 0, .string ⟨#[]⟩, .slice none 0 0, .int .i64 7, .string ⟨#[]⟩, .int .i64 0, .int .i64 0, .string ⟨#[]⟩, .slice (some ⟨w3.heap.size, 0, none⟩) 2 2, .int .i64 2, .string ⟨#[]⟩, .int .i64 1, .int .i64 2, .string ⟨#[]⟩, .slice none 0 0] 26)
     have hs18 := AlT.step hs17 hb18
     have hh18 := blk_below hh17 hb18
     have hk18 := blk_below hn17 hb18
     generalize u17.alloc (.cells #[.int .i64 2, .string ⟨#[]⟩, .int .i64 2, .int .i64 0, .string ⟨#[]⟩, .slice none 0 0, .int .i64 7, .string ⟨#[]⟩, .int .i64 0, .int .i64 0, .string ⟨#[]⟩, .slice (some ⟨w3.heap.size, 0, none⟩) 2 2, .int .i64 2, .string ⟨#[]⟩, .int .i64 1, .int .i64 2, .string ⟨#[]⟩, .slice none 0 0] 26) = u18 at hb18 hn18 hs18 hh18 hk18 ⊢
     clear hHeld
     have hz18 := hs18.size
     refine hK.out _ _ hs18 (fun hHeld => ?_)
     clear hK K
     refine norm_ (a' := ?_) ?_ ?_
     rotate_left
     ·show Act.put _ (some 30) _ = _
      simp only [Act.put, zA, zB, zC]
      rfl
     refine pure_ (i := 4) (N := some 31) (v := ?_) (a' := ?_) (fB 15 4351) rfl rfl (by kernel_rfl) (fun _ _ _ h => h) (Or.inl ⟨by rfl, by intro w'; go_simp; (first | with_reducible rfl | skip)⟩) (by simp only [Act.put, zA, zB, zC]; rfl) ?_
     refine one_ (i := 8) (N := some 35) (fB 15 4607) rfl rfl (by kernel_rfl) (by decide) (fun K hK => ?_)
     refine goes_ Tryd.func14 (by kernel_rfl) rfl #[.agg #[.int .i64 18, .string ⟨#[]⟩, .int .i64 0, .int .i64 0, .string ⟨#[]⟩, .slice (some ⟨u17.heap.size, 0, none⟩) 3 3], .slice (some ⟨w.heap.size, 0, none⟩) 1 1, .slice (some ⟨u1.heap.size, 0, none⟩) 1 1] (by rfl) rfl rfl (by (try simp only [List.map_toArray, List.map_cons, List.map_nil]); first | done | rfl) ?_
     refine (hwif _ _ _ hs18.als hn18 hh18).mono ?_
     rintro e u19 ⟨rfl, hb19⟩
     have hs19 := AlT.step hs18 hb19
     have hg19 := blk_below hn18 hb19
     have hh19 := blk_below hh18 hb19
     have hk19 := blk_below hk18 hb19
     clear hHeld
     refine ⟨_, rfl, ?_⟩
     have hz19 := hs19.size
     refine hK.out _ _ hs19 (fun hHeld => ?_)
     clear hK K
     refine norm_ (a' := ?_) ?_ ?_
     rotate_left
     ·show Act.put _ (some 35) _ = _
      simp only [Act.put, zA, zB, zC]
      rfl
     refine pure_ (i := 9) (N := some 26) (v := ?_) (a' := ?_) (fB 15 5119) rfl rfl (by kernel_rfl) (fun _ _ _ h => h) (Or.inl ⟨by rfl, by intro w'; go_simp; (first | with_reducible rfl | skip)⟩) (by simp only [Act.put, zA, zB, zC]; rfl) ?_
     refine pure_ (i := 10) (N := some 36) (v := ?_) (a' := ?_) (fB 15 6143) rfl rfl (by kernel_rfl) (fun _ _ _ h => h) (Or.inl ⟨by rfl, by intro w'; go_simp; (first | with_reducible rfl | skip)⟩) (by simp only [Act.put, zA, zB, zC]; rfl) ?_
     refine pure_ (i := 11) (N := some 37) (v := ?_) (a' := ?_) (fB 15 8191) rfl rfl (by kernel_rfl) (fun _ _ _ h => h) (Or.inl ⟨by rfl, by intro w'; go_simp; (first | with_reducible rfl | skip)⟩) (by simp only [Act.put, zA, zB, zC]; rfl) ?_
     exact norm_ (by simp only [putAll, Act.put, zA, zB, zC]) (hCont (u17.heap.size, u1.heap.size, u11.heap.size) _ ⟨hs19, hk19, by omega⟩)
   ·skip
    refine value_ (w1 := u1.alloc (.cells #[.int .i64 0, .int .i64 0, .string ⟨#[]⟩] 23)) (v := .pointer (some ⟨u1.heap.size, 0, none⟩)) (by rfl) rfl (by go_simp) ?_
    have hb20 : Below u1.heap.size u1 (u1.alloc (.cells #[.int .i64 0, .int .i64 0, .string ⟨#[]⟩] 23)) := below_alloc (Below.refl _ _) _
    have hn20 := blk_new u1 (.cells #[.int .i64 0, .int .i64 0, .string ⟨#[]⟩] 23)
    have hs20 := AlT.step hs1 hb20
    generalize u1.alloc (.cells #[.int .i64 0, .int .i64 0, .string ⟨#[]⟩] 23) = u20 at hb20 hn20 hs20 ⊢
    clear hHeld
    have hz20 := hs20.size
    refine hK.out _ _ hs20 (fun hHeld => ?_)
    clear hK K
    refine norm_ (a' := ?_) ?_ ?_
    rotate_left
    ·show Act.put _ (some 6) _ = _
     simp only [Act.put, zA, zB, zC]
     rfl
    refine two_ (i := 3) (j := 7) (Ni := some 30) (Nj := some 34) (fB 15 4207) (fB 15 4327) rfl rfl rfl rfl (by kernel_rfl) (by decide) (by decide) (fun K hK => ?_) (fun K hK => ?_)
    ·skip
     refine value_ (w1 := u20.alloc (.cells #[.int .i64 2, .string ⟨#[]⟩, .int .i64 2, .int .i64 0, .string ⟨#[]⟩, .slice none 0 0, .int .i64 7, .string ⟨#[]⟩, .int .i64 0, .int .i64 0, .string ⟨#[]⟩, .slice (some ⟨w3.heap.size, 0, none⟩) 2 2, .int .i64 2, .string ⟨#[]⟩, .int .i64 1, .int .i64 2, .string ⟨#[]⟩, .slice none 0 0] 26)) (v := .slice (some ⟨u20.heap.size, 0, none⟩) 3 3) (by rfl) rfl (by go_simp) ?_
     have hb21 : Below u20.heap.size u20 (u20.alloc (.cells #[.int .i64 2, .string ⟨#[]⟩, .int .i64 2, .int .i64 0, .string ⟨#[]⟩, .slice none 0 0, .int .i64 7, .string ⟨#[]⟩, .int .i64 0, .int .i64 0, .string ⟨#[]⟩, .slice (some ⟨w3.heap.size, 0, none⟩) 2 2, .int .i64 2, .string ⟨#[]⟩, .int .i64 1, .int .i64 2, .string ⟨#[]⟩, .slice none 0 0] 26)) := below_alloc (Below.refl _ _) _
     have hn21 := blk_new u20 (.cells #[.int .i64 2, .string ⟨#[]⟩, .int .i64 2, .int .i64 0, .string ⟨#[]⟩, .slice none 0 0, .int .i64 7, .string ⟨#[]⟩, .int .i64 0, .int .i64 0, .string ⟨#[]⟩, .slice (some ⟨w3.heap.size, 0, none⟩) 2 2, .int .i64 2, .string ⟨#[]⟩, .int .i64 1, .int .i64 2, .string ⟨#[]⟩, .slice none 0 0] 26)
     have hs21 := AlT.step hs20 hb21
     have hk21 := blk_below hn20 hb21
     generalize u20.alloc (.cells #[.int .i64 2, .string ⟨#[]⟩, .int .i64 2, .int .i64 0, .string ⟨#[]⟩, .slice none 0 0, .int .i64 7, .string ⟨#[]⟩, .int .i64 0, .int .i64 0, .string ⟨#[]⟩, .slice (some ⟨w3.heap.size, 0, none⟩) 2 2, .int .i64 2, .string ⟨#[]⟩, .int .i64 1, .int .i64 2, .string ⟨#[]⟩, .slice none 0 0] 26) = u21 at hb21 hn21 hs21 hk21 ⊢
     clear hHeld
     have hz21 := hs21.size
     refine hK.out _ _ hs21 (fun hHeld => ?_)
     clear hK K
     refine norm_ (a' := ?_) ?_ ?_
     rotate_left
     ·show Act.put _ (some 30) _ = _
      simp only [Act.put, zA, zB, zC]
      rfl
     refine pure_ (i := 4) (N := some 31) (v := ?_) (a' := ?_) (fB 15 4223) rfl rfl (by kernel_rfl) (fun _ _ _ h => h) (Or.inl ⟨by rfl, by intro w'; go_simp; (first | with_reducible rfl | skip)⟩) (by simp only [Act.put, zA, zB, zC]; rfl) ?_
     refine one_ (i := 7) (N := some 34) (fB 15 4351) rfl rfl (by kernel_rfl) (by decide) (fun K hK => ?_)
     refine value_ (w1 := u21.alloc (.cells #[.int .i64 0, .int .i64 0, .string ⟨#[]⟩] 23)) (v := .slice (some ⟨u21.heap.size, 0, none⟩) 1 1) (by rfl) rfl (by go_simp) ?_
     have hb22 : Below u21.heap.size u21 (u21.alloc (.cells #[.int .i64 0, .int .i64 0, .string ⟨#[]⟩] 23)) := below_alloc (Below.refl _ _) _
     have hn22 := blk_new u21 (.cells #[.int .i64 0, .int .i64 0, .string ⟨#[]⟩] 23)
     have hs22 := AlT.step hs21 hb22
     have hg22 := blk_below hn21 hb22
     have hk22 := blk_below hk21 hb22
     generalize u21.alloc (.cells #[.int .i64 0, .int .i64 0, .string ⟨#[]⟩] 23) = u22 at hb22 hn22 hs22 hg22 hk22 ⊢
     clear hHeld
     have hz22 := hs22.size
     refine hK.out _ _ hs22 (fun hHeld => ?_)
     clear hK K
     refine norm_ (a' := ?_) ?_ ?_
     rotate_left
     ·show Act.put _ (some 34) _ = _
      simp only [Act.put, zA, zB, zC]
      rfl
     refine one_ (i := 8) (N := some 35) (fB 15 4607) rfl rfl (by kernel_rfl) (by decide) (fun K hK => ?_)
     refine goes_ Tryd.func14 (by kernel_rfl) rfl #[.agg #[.int .i64 18, .string ⟨#[]⟩, .int .i64 0, .int .i64 0, .string ⟨#[]⟩, .slice (some ⟨u20.heap.size, 0, none⟩) 3 3], .slice (some ⟨w.heap.size, 0, none⟩) 1 1, .slice (some ⟨u21.heap.size, 0, none⟩) 1 1] (by rfl) rfl rfl (by (try simp only [List.map_toArray, List.map_cons, List.map_nil]); first | done | rfl) ?_
     refine (hwif _ _ _ hs22.als hg22 hn22).mono ?_
     rintro e u23 ⟨rfl, hb23⟩
     have hs23 := AlT.step hs22 hb23
     have hg23 := blk_below hg22 hb23
     have hh23 := blk_below hn22 hb23
     have hk23 := blk_below hk22 hb23
     clear hHeld
     refine ⟨_, rfl, ?_⟩
     have hz23 := hs23.size
     refine hK.out _ _ hs23 (fun hHeld => ?_)
     clear hK K
     refine norm_ (a' := ?_) ?_ ?_
     rotate_left
     ·show Act.put _ (some 35) _ = _
      simp only [Act.put, zA, zB, zC]
      rfl
     refine pure_ (i := 9) (N := some 26) (v := ?_) (a' := ?_) (fB 15 5119) rfl rfl (by kernel_rfl) (fun _ _ _ h => h) (Or.inl ⟨by rfl, by intro w'; go_simp; (first | with_reducible rfl | skip)⟩) (by simp only [Act.put, zA, zB, zC]; rfl) ?_
     refine pure_ (i := 10) (N := some 36) (v := ?_) (a' := ?_) (fB 15 6143) rfl rfl (by kernel_rfl) (fun _ _ _ h => h) (Or.inl ⟨by rfl, by intro w'; go_simp; (first | with_reducible rfl | skip)⟩) (by simp only [Act.put, zA, zB, zC]; rfl) ?_
     refine pure_ (i := 11) (N := some 37) (v := ?_) (a' := ?_) (fB 15 8191) rfl rfl (by kernel_rfl) (fun _ _ _ h => h) (Or.inl ⟨by rfl, by intro w'; go_simp; (first | with_reducible rfl | skip)⟩) (by simp only [Act.put, zA, zB, zC]; rfl) ?_
     exact norm_ (by simp only [putAll, Act.put, zA, zB, zC]) (hCont (u20.heap.size, u21.heap.size, u1.heap.size) _ ⟨hs23, hk23, by omega⟩)
    ·skip
     refine value_ (w1 := u20.alloc (.cells #[.int .i64 0, .int .i64 0, .string ⟨#[]⟩] 23)) (v := .slice (some ⟨u20.heap.size, 0, none⟩) 1 1) (by rfl) rfl (by go_simp) ?_
     have hb24 : Below u20.heap.size u20 (u20.alloc (.cells #[.int .i64 0, .int .i64 0, .string ⟨#[]⟩] 23)) := below_alloc (Below.refl _ _) _
     have hn24 := blk_new u20 (.cells #[.int .i64 0, .int .i64 0, .string ⟨#[]⟩] 23)
     have hs24 := AlT.step hs20 hb24
     have hk24 := blk_below hn20 hb24
     generalize u20.alloc (.cells #[.int .i64 0, .int .i64 0, .string ⟨#[]⟩] 23) = u24 at hb24 hn24 hs24 hk24 ⊢
     clear hHeld
     have hz24 := hs24.size
     refine hK.out _ _ hs24 (fun hHeld => ?_)
     clear hK K
     refine norm_ (a' := ?_) ?_ ?_
     rotate_left
     ·show Act.put _ (some 34) _ = _
      simp only [Act.put, zA, zB, zC]
      rfl
     refine one_ (i := 3) (N := some 30) (fB 15 4335) rfl rfl (by kernel_rfl) (by decide) (fun K hK => ?_)
     refine value_ (w1 := u24.alloc (.cells #[.int .i64 2, .string ⟨#[]⟩, .int .i64 2, .int .i64 0, .string ⟨#[]⟩, .slice none 0 0, .int .i64 7, .string ⟨#[]⟩, .int .i64 0, .int .i64 0, .string ⟨#[]⟩, .slice (some ⟨w3.heap.size, 0, none⟩) 2 2, .int .i64 2, .string ⟨#[]⟩, .int .i64 1, .int .i64 2, .string ⟨#[]⟩, .slice none 0 0] 26)) (v := .slice (some ⟨u24.heap.size, 0, none⟩) 3 3) (by rfl) rfl (by go_simp) ?_
     have hb25 : Below u24.heap.size u24 (u24.alloc (.cells #[.int .i64 2, .string ⟨#[]⟩, .int .i64 2, .int .i64 0, .string ⟨#[]⟩, .slice none 0 0, .int .i64 7, .string ⟨#[]⟩, .int .i64 0, .int .i64 0, .string ⟨#[]⟩, .slice (some ⟨w3.heap.size, 0, none⟩) 2 2, .int .i64 2, .string ⟨#[]⟩, .int .i64 1, .int .i64 2, .string ⟨#[]⟩, .slice none 0 0] 26)) := below_alloc (Below.refl _ _) _
     have hn25 := blk_new u24 (.cells #[.int .i64 2, .string ⟨#[]⟩, .int .i64 2, .int .i64 0, .string ⟨#[]⟩, .slice none 0 0, .int .i64 7, .string ⟨#[]⟩, .int .i64 0, .int .i64 0, .string ⟨#[]⟩, .slice (some ⟨w3.heap.size, 0, none⟩) 2 2, .int .i64 2, .string ⟨#[]⟩, .int .i64 1, .int .i64 2, .string ⟨#[]⟩, .slice none 0 0] 26)
     have hs25 := AlT.step hs24 hb25
     have hh25 := blk_below hn24 hb25
     have hk25 := blk_below hk24 hb25
     generalize u24.alloc (.cells #[.int .i64 2, .string ⟨#[]⟩, .int .i64 2, .int .i64 0, .string ⟨#[]⟩, .slice none 0 0, .int .i64 7, .string ⟨#[]⟩, .int .i64 0, .int .i64 0, .string ⟨#[]⟩, .slice (some ⟨w3.heap.size, 0, none⟩) 2 2, .int .i64 2, .string ⟨#[]⟩, .int .i64 1, .int .i64 2, .string ⟨#[]⟩, .slice none 0 0] 26) = u25 at hb25 hn25 hs25 hh25 hk25 ⊢
     clear hHeld
     have hz25 := hs25.size
     refine hK.out _ _ hs25 (fun hHeld => ?_)
     clear hK K
     refine norm_ (a' := ?_) ?_ ?_
     rotate_left
     ·show Act.put _ (some 30) _ = _
      simp only [Act.put, zA, zB, zC]
      rfl
     refine pure_ (i := 4) (N := some 31) (v := ?_) (a' := ?_) (fB 15 4351) rfl rfl (by kernel_rfl) (fun _ _ _ h => h) (Or.inl ⟨by rfl, by intro w'; go_simp; (first | with_reducible rfl | skip)⟩) (by simp only [Act.put, zA, zB, zC]; rfl) ?_
     refine one_ (i := 8) (N := some 35) (fB 15 4607) rfl rfl (by kernel_rfl) (by decide) (fun K hK => ?_)
     refine goes_ Tryd.func14 (by kernel_rfl) rfl #[.agg #[.int .i64 18, .string ⟨#[]⟩, .int .i64 0, .int .i64 0, .string ⟨#[]⟩, .slice (some ⟨u24.heap.size, 0, none⟩) 3 3], .slice (some ⟨w.heap.size, 0, none⟩) 1 1, .slice (some ⟨u20.heap.size, 0, none⟩) 1 1] (by rfl) rfl rfl (by (try simp only [List.map_toArray, List.map_cons, List.map_nil]); first | done | rfl) ?_
     refine (hwif _ _ _ hs25.als hn25 hh25).mono ?_
     rintro e u26 ⟨rfl, hb26⟩
     have hs26 := AlT.step hs25 hb26
     have hg26 := blk_below hn25 hb26
     have hh26 := blk_below hh25 hb26
     have hk26 := blk_below hk25 hb26
     clear hHeld
     refine ⟨_, rfl, ?_⟩
     have hz26 := hs26.size
     refine hK.out _ _ hs26 (fun hHeld => ?_)
     clear hK K
     refine norm_ (a' := ?_) ?_ ?_
     rotate_left
     ·show Act.put _ (some 35) _ = _
      simp only [Act.put, zA, zB, zC]
      rfl
     refine pure_ (i := 9) (N := some 26) (v := ?_) (a' := ?_) (fB 15 5119) rfl rfl (by kernel_rfl) (fun _ _ _ h => h) (Or.inl ⟨by rfl, by intro w'; go_simp; (first | with_reducible rfl | skip)⟩) (by simp only [Act.put, zA, zB, zC]; rfl) ?_
     refine pure_ (i := 10) (N := some 36) (v := ?_) (a' := ?_) (fB 15 6143) rfl rfl (by kernel_rfl) (fun _ _ _ h => h) (Or.inl ⟨by rfl, by intro w'; go_simp; (first | with_reducible rfl | skip)⟩) (by simp only [Act.put, zA, zB, zC]; rfl) ?_
     refine pure_ (i := 11) (N := some 37) (v := ?_) (a' := ?_) (fB 15 8191) rfl rfl (by kernel_rfl) (fun _ _ _ h => h) (Or.inl ⟨by rfl, by intro w'; go_simp; (first | with_reducible rfl | skip)⟩) (by simp only [Act.put, zA, zB, zC]; rfl) ?_
     exact norm_ (by simp only [putAll, Act.put, zA, zB, zC]) (hCont (u24.heap.size, u20.heap.size, u1.heap.size) _ ⟨hs26, hk26, by omega⟩)
  ·skip
   refine value_ (w1 := wd.alloc (.cells #[.int .i64 0, .int .i64 0, .string ⟨#[]⟩] 23)) (v := .slice (some ⟨wd.heap.size, 0, none⟩) 1 1) (by rfl) rfl (by go_simp) ?_
   have hb27 : Below wd.heap.size wd (wd.alloc (.cells #[.int .i64 0, .int .i64 0, .string ⟨#[]⟩] 23)) := below_alloc (Below.refl _ _) _
   have hn27 := blk_new wd (.cells #[.int .i64 0, .int .i64 0, .string ⟨#[]⟩] 23)
   have hs27 := AlT.step hs0 hb27
   generalize wd.alloc (.cells #[.int .i64 0, .int .i64 0, .string ⟨#[]⟩] 23) = u27 at hb27 hn27 hs27 ⊢
   clear hHeld
   have hz27 := hs27.size
   refine hK.out _ _ hs27 (fun hHeld => ?_)
   clear hK K
   refine norm_ (a' := ?_) ?_ ?_
   rotate_left
   ·show Act.put _ (some 34) _ = _
    simp only [Act.put, zA, zB, zC]
    rfl
   refine two_ (i := 2) (j := 12) (Ni := some 29) (Nj := some 6) (fB 15 231) (fB 15 4323) rfl rfl rfl rfl (by kernel_rfl) (by decide) (by decide) (fun K hK => ?_) (fun K hK => ?_)
   ·skip
    refine goes_ Tryd.func29 (by kernel_rfl) rfl #[.int .i64 2] (by rfl) rfl rfl (by (try simp only [List.map_toArray, List.map_cons, List.map_nil]); first | done | rfl) ?_
    refine (one_calls 2 _).mono ?_
    rintro e u28 ⟨rfl, hb28⟩
    have hs28 := AlT.step hs27 hb28
    have hh28 := blk_below hn27 hb28
    clear hHeld
    refine ⟨_, rfl, ?_⟩
    have hz28 := hs28.size
    refine hK.out _ _ hs28 (fun hHeld => ?_)
    clear hK K
    refine norm_ (a' := ?_) ?_ ?_
    rotate_left
    ·show Act.put _ (some 29) _ = _
     simp only [Act.put, zA, zB, zC]
     rfl
    refine two_ (i := 3) (j := 12) (Ni := some 30) (Nj := some 6) (fB 15 239) (fB 15 4327) rfl rfl rfl rfl (by kernel_rfl) (by decide) (by decide) (fun K hK => ?_) (fun K hK => ?_)
    ·skip
     refine value_ (w1 := u28.alloc (.cells #[.int .i64 2, .string ⟨#[]⟩, .int .i64 2, .int .i64 0, .string ⟨#[]⟩, .slice none 0 0, .int .i64 7, .string ⟨#[]⟩, .int .i64 0, .int .i64 0, .string ⟨#[]⟩, .slice (some ⟨w3.heap.size, 0, none⟩) 2 2, .int .i64 2, .string ⟨#[]⟩, .int .i64 1, .int .i64 2, .string ⟨#[]⟩, .slice none 0 0] 26)) (v := .slice (some ⟨u28.heap.size, 0, none⟩) 3 3) (by rfl) rfl (by go_simp) ?_
     have hb29 : Below u28.heap.size u28 (u28.alloc (.cells #[.int .i64 2, .string ⟨#[]⟩, .int .i64 2, .int .i64 0, .string ⟨#[]⟩, .slice none 0 0, .int .i64 7, .string ⟨#[]⟩, .int .i64 0, .int .i64 0, .string ⟨#[]⟩, .slice (some ⟨w3.heap.size, 0, none⟩) 2 2, .int .i64 2, .string ⟨#[]⟩, .int .i64 1, .int .i64 2, .string ⟨#[]⟩, .slice none 0 0] 26)) := below_alloc (Below.refl _ _) _
     have hn29 := blk_new u28 (.cells #[.int .i64 2, .string ⟨#[]⟩, .int .i64 2, .int .i64 0, .string ⟨#[]⟩, .slice none 0 0, .int .i64 7, .string ⟨#[]⟩, .int .i64 0, .int .i64 0, .string ⟨#[]⟩, .slice (some ⟨w3.heap.size, 0, none⟩) 2 2, .int .i64 2, .string ⟨#[]⟩, .int .i64 1, .int .i64 2, .string ⟨#[]⟩, .slice none 0 0] 26)
     have hs29 := AlT.step hs28 hb29
     have hh29 := blk_below hh28 hb29
     generalize u28.alloc (.cells #[.int .i64 2, .string ⟨#[]⟩, .int .i64 2, .int .i64 0, .string ⟨#[]⟩, .slice none 0 0, .int .i64 7, .string ⟨#[]⟩, .int .i64 0, .int .i64 0, .string ⟨#[]⟩, .slice (some ⟨w3.heap.size, 0, none⟩) 2 2, .int .i64 2, .string ⟨#[]⟩, .int .i64 1, .int .i64 2, .string ⟨#[]⟩, .slice none 0 0] 26) = u29 at hb29 hn29 hs29 hh29 ⊢
     clear hHeld
     have hz29 := hs29.size
     refine hK.out _ _ hs29 (fun hHeld => ?_)
     clear hK K
     refine norm_ (a' := ?_) ?_ ?_
     rotate_left
     ·show Act.put _ (some 30) _ = _
      simp only [Act.put, zA, zB, zC]
      rfl
     refine pure_ (i := 4) (N := some 31) (v := ?_) (a' := ?_) (fB 15 255) rfl rfl (by kernel_rfl) (fun _ _ _ h => h) (Or.inl ⟨by rfl, by intro w'; go_simp; (first | with_reducible rfl | skip)⟩) (by simp only [Act.put, zA, zB, zC]; rfl) ?_
     refine two_ (i := 8) (j := 12) (Ni := some 35) (Nj := some 6) (fB 15 511) (fB 15 4351) rfl rfl rfl rfl (by kernel_rfl) (by decide) (by decide) (fun K hK => ?_) (fun K hK => ?_)
     ·skip
      refine goes_ Tryd.func14 (by kernel_rfl) rfl #[.agg #[.int .i64 18, .string ⟨#[]⟩, .int .i64 0, .int .i64 0, .string ⟨#[]⟩, .slice (some ⟨u28.heap.size, 0, none⟩) 3 3], .slice (some ⟨w.heap.size, 0, none⟩) 1 1, .slice (some ⟨wd.heap.size, 0, none⟩) 1 1] (by rfl) rfl rfl (by (try simp only [List.map_toArray, List.map_cons, List.map_nil]); first | done | rfl) ?_
      refine (hwif _ _ _ hs29.als hn29 hh29).mono ?_
      rintro e u30 ⟨rfl, hb30⟩
      have hs30 := AlT.step hs29 hb30
      have hg30 := blk_below hn29 hb30
      have hh30 := blk_below hh29 hb30
      clear hHeld
      refine ⟨_, rfl, ?_⟩
      have hz30 := hs30.size
      refine hK.out _ _ hs30 (fun hHeld => ?_)
      clear hK K
      refine norm_ (a' := ?_) ?_ ?_
      rotate_left
      ·show Act.put _ (some 35) _ = _
       simp only [Act.put, zA, zB, zC]
       rfl
      refine pure_ (i := 9) (N := some 26) (v := ?_) (a' := ?_) (fB 15 1023) rfl rfl (by kernel_rfl) (fun _ _ _ h => h) (Or.inl ⟨by rfl, by intro w'; go_simp; (first | with_reducible rfl | skip)⟩) (by simp only [Act.put, zA, zB, zC]; rfl) ?_
      refine pure_ (i := 10) (N := some 36) (v := ?_) (a' := ?_) (fB 15 2047) rfl rfl (by kernel_rfl) (fun _ _ _ h => h) (Or.inl ⟨by rfl, by intro w'; go_simp; (first | with_reducible rfl | skip)⟩) (by simp only [Act.put, zA, zB, zC]; rfl) ?_
      refine pure_ (i := 11) (N := some 37) (v := ?_) (a' := ?_) (fB 15 4095) rfl rfl (by kernel_rfl) (fun _ _ _ h => h) (Or.inl ⟨by rfl, by intro w'; go_simp; (first | with_reducible rfl | skip)⟩) (by simp only [Act.put, zA, zB, zC]; rfl) ?_
      refine one_ (i := 12) (N := some 6) (fB 15 8191) rfl rfl (by kernel_rfl) (by decide) (fun K hK => ?_)
      refine value_ (w1 := u30.alloc (.cells #[.int .i64 0, .int .i64 0, .string ⟨#[]⟩] 23)) (v := .pointer (some ⟨u30.heap.size, 0, none⟩)) (by rfl) rfl (by go_simp) ?_
      have hb31 : Below u30.heap.size u30 (u30.alloc (.cells #[.int .i64 0, .int .i64 0, .string ⟨#[]⟩] 23)) := below_alloc (Below.refl _ _) _
      have hn31 := blk_new u30 (.cells #[.int .i64 0, .int .i64 0, .string ⟨#[]⟩] 23)
      have hs31 := AlT.step hs30 hb31
      have hg31 := blk_below hg30 hb31
      have hh31 := blk_below hh30 hb31
      generalize u30.alloc (.cells #[.int .i64 0, .int .i64 0, .string ⟨#[]⟩] 23) = u31 at hb31 hn31 hs31 hg31 hh31 ⊢
      clear hHeld
      have hz31 := hs31.size
      refine hK.out _ _ hs31 (fun hHeld => ?_)
      clear hK K
      refine norm_ (a' := ?_) ?_ ?_
      rotate_left
      ·show Act.put _ (some 6) _ = _
       simp only [Act.put, zA, zB, zC]
       rfl
      exact norm_ (by simp only [putAll, Act.put, zA, zB, zC]) (hCont (u28.heap.size, wd.heap.size, u30.heap.size) _ ⟨hs31, hn31, by omega⟩)
     ·skip
      refine value_ (w1 := u29.alloc (.cells #[.int .i64 0, .int .i64 0, .string ⟨#[]⟩] 23)) (v := .pointer (some ⟨u29.heap.size, 0, none⟩)) (by rfl) rfl (by go_simp) ?_
      have hb32 : Below u29.heap.size u29 (u29.alloc (.cells #[.int .i64 0, .int .i64 0, .string ⟨#[]⟩] 23)) := below_alloc (Below.refl _ _) _
      have hn32 := blk_new u29 (.cells #[.int .i64 0, .int .i64 0, .string ⟨#[]⟩] 23)
      have hs32 := AlT.step hs29 hb32
      have hg32 := blk_below hn29 hb32
      have hh32 := blk_below hh29 hb32
      generalize u29.alloc (.cells #[.int .i64 0, .int .i64 0, .string ⟨#[]⟩] 23) = u32 at hb32 hn32 hs32 hg32 hh32 ⊢
      clear hHeld
      have hz32 := hs32.size
      refine hK.out _ _ hs32 (fun hHeld => ?_)
      clear hK K
      refine norm_ (a' := ?_) ?_ ?_
      rotate_left
      ·show Act.put _ (some 6) _ = _
       simp only [Act.put, zA, zB, zC]
       rfl
      refine one_ (i := 8) (N := some 35) (fB 15 4607) rfl rfl (by kernel_rfl) (by decide) (fun K hK => ?_)
      refine goes_ Tryd.func14 (by kernel_rfl) rfl #[.agg #[.int .i64 18, .string ⟨#[]⟩, .int .i64 0, .int .i64 0, .string ⟨#[]⟩, .slice (some ⟨u28.heap.size, 0, none⟩) 3 3], .slice (some ⟨w.heap.size, 0, none⟩) 1 1, .slice (some ⟨wd.heap.size, 0, none⟩) 1 1] (by rfl) rfl rfl (by (try simp only [List.map_toArray, List.map_cons, List.map_nil]); first | done | rfl) ?_
      refine (hwif _ _ _ hs32.als hg32 hh32).mono ?_
      rintro e u33 ⟨rfl, hb33⟩
      have hs33 := AlT.step hs32 hb33
      have hg33 := blk_below hg32 hb33
      have hh33 := blk_below hh32 hb33
      have hk33 := blk_below hn32 hb33
      clear hHeld
      refine ⟨_, rfl, ?_⟩
      have hz33 := hs33.size
      refine hK.out _ _ hs33 (fun hHeld => ?_)
      clear hK K
      refine norm_ (a' := ?_) ?_ ?_
      rotate_left
      ·show Act.put _ (some 35) _ = _
       simp only [Act.put, zA, zB, zC]
       rfl
      refine pure_ (i := 9) (N := some 26) (v := ?_) (a' := ?_) (fB 15 5119) rfl rfl (by kernel_rfl) (fun _ _ _ h => h) (Or.inl ⟨by rfl, by intro w'; go_simp; (first | with_reducible rfl | skip)⟩) (by simp only [Act.put, zA, zB, zC]; rfl) ?_
      refine pure_ (i := 10) (N := some 36) (v := ?_) (a' := ?_) (fB 15 6143) rfl rfl (by kernel_rfl) (fun _ _ _ h => h) (Or.inl ⟨by rfl, by intro w'; go_simp; (first | with_reducible rfl | skip)⟩) (by simp only [Act.put, zA, zB, zC]; rfl) ?_
      refine pure_ (i := 11) (N := some 37) (v := ?_) (a' := ?_) (fB 15 8191) rfl rfl (by kernel_rfl) (fun _ _ _ h => h) (Or.inl ⟨by rfl, by intro w'; go_simp; (first | with_reducible rfl | skip)⟩) (by simp only [Act.put, zA, zB, zC]; rfl) ?_
      exact norm_ (by simp only [putAll, Act.put, zA, zB, zC]) (hCont (u28.heap.size, wd.heap.size, u29.heap.size) _ ⟨hs33, hk33, by omega⟩)
    ·skip
     refine value_ (w1 := u28.alloc (.cells #[.int .i64 0, .int .i64 0, .string ⟨#[]⟩] 23)) (v := .pointer (some ⟨u28.heap.size, 0, none⟩)) (by rfl) rfl (by go_simp) ?_
     have hb34 : Below u28.heap.size u28 (u28.alloc (.cells #[.int .i64 0, .int .i64 0, .string ⟨#[]⟩] 23)) := below_alloc (Below.refl _ _) _
     have hn34 := blk_new u28 (.cells #[.int .i64 0, .int .i64 0, .string ⟨#[]⟩] 23)
     have hs34 := AlT.step hs28 hb34
     have hh34 := blk_below hh28 hb34
     generalize u28.alloc (.cells #[.int .i64 0, .int .i64 0, .string ⟨#[]⟩] 23) = u34 at hb34 hn34 hs34 hh34 ⊢
     clear hHeld
     have hz34 := hs34.size
     refine hK.out _ _ hs34 (fun hHeld => ?_)
     clear hK K
     refine norm_ (a' := ?_) ?_ ?_
     rotate_left
     ·show Act.put _ (some 6) _ = _
      simp only [Act.put, zA, zB, zC]
      rfl
     refine one_ (i := 3) (N := some 30) (fB 15 4335) rfl rfl (by kernel_rfl) (by decide) (fun K hK => ?_)
     refine value_ (w1 := u34.alloc (.cells #[.int .i64 2, .string ⟨#[]⟩, .int .i64 2, .int .i64 0, .string ⟨#[]⟩, .slice none 0 0, .int .i64 7, .string ⟨#[]⟩, .int .i64 0, .int .i64 0, .string ⟨#[]⟩, .slice (some ⟨w3.heap.size, 0, none⟩) 2 2, .int .i64 2, .string ⟨#[]⟩, .int .i64 1, .int .i64 2, .string ⟨#[]⟩, .slice none 0 0] 26)) (v := .slice (some ⟨u34.heap.size, 0, none⟩) 3 3) (by rfl) rfl (by go_simp) ?_
     have hb35 : Below u34.heap.size u34 (u34.alloc (.cells #[.int .i64 2, .string ⟨#[]⟩, .int .i64 2, .int .i64 0, .string ⟨#[]⟩, .slice none 0 0, .int .i64 7, .string ⟨#[]⟩, .int .i64 0, .int .i64 0, .string ⟨#[]⟩, .slice (some ⟨w3.heap.size, 0, none⟩) 2 2, .int .i64 2, .string ⟨#[]⟩, .int .i64 1, .int .i64 2, .string ⟨#[]⟩, .slice none 0 0] 26)) := below_alloc (Below.refl _ _) _
     have hn35 := blk_new u34 (.cells #[.int .i64 2, .string ⟨#[]⟩, .int .i64 2, .int .i64 0, .string ⟨#[]⟩, .slice none 0 0, .int .i64 7, .string ⟨#[]⟩, .int .i64 0, .int .i64 0, .string ⟨#[]⟩, .slice (some ⟨w3.heap.size, 0, none⟩) 2 2, .int .i64 2, .string ⟨#[]⟩, .int .i64 1, .int .i64 2, .string ⟨#[]⟩, .slice none 0 0] 26)
     have hs35 := AlT.step hs34 hb35
     have hh35 := blk_below hh34 hb35
     have hk35 := blk_below hn34 hb35
     generalize u34.alloc (.cells #[.int .i64 2, .string ⟨#[]⟩, .int .i64 2, .int .i64 0, .string ⟨#[]⟩, .slice none 0 0, .int .i64 7, .string ⟨#[]⟩, .int .i64 0, .int .i64 0, .string ⟨#[]⟩, .slice (some ⟨w3.heap.size, 0, none⟩) 2 2, .int .i64 2, .string ⟨#[]⟩, .int .i64 1, .int .i64 2, .string ⟨#[]⟩, .slice none 0 0] 26) = u35 at hb35 hn35 hs35 hh35 hk35 ⊢
     clear hHeld
     have hz35 := hs35.size
     refine hK.out _ _ hs35 (fun hHeld => ?_)
     clear hK K
     refine norm_ (a' := ?_) ?_ ?_
     rotate_left
     ·show Act.put _ (some 30) _ = _
      simp only [Act.put, zA, zB, zC]
      rfl
     refine pure_ (i := 4) (N := some 31) (v := ?_) (a' := ?_) (fB 15 4351) rfl rfl (by kernel_rfl) (fun _ _ _ h => h) (Or.inl ⟨by rfl, by intro w'; go_simp; (first | with_reducible rfl | skip)⟩) (by simp only [Act.put, zA, zB, zC]; rfl) ?_
     refine one_ (i := 8) (N := some 35) (fB 15 4607) rfl rfl (by kernel_rfl) (by decide) (fun K hK => ?_)
     refine goes_ Tryd.func14 (by kernel_rfl) rfl #[.agg #[.int .i64 18, .string ⟨#[]⟩, .int .i64 0, .int .i64 0, .string ⟨#[]⟩, .slice (some ⟨u34.heap.size, 0, none⟩) 3 3], .slice (some ⟨w.heap.size, 0, none⟩) 1 1, .slice (some ⟨wd.heap.size, 0, none⟩) 1 1] (by rfl) rfl rfl (by (try simp only [List.map_toArray, List.map_cons, List.map_nil]); first | done | rfl) ?_
     refine (hwif _ _ _ hs35.als hn35 hh35).mono ?_
     rintro e u36 ⟨rfl, hb36⟩
     have hs36 := AlT.step hs35 hb36
     have hg36 := blk_below hn35 hb36
     have hh36 := blk_below hh35 hb36
     have hk36 := blk_below hk35 hb36
     clear hHeld
     refine ⟨_, rfl, ?_⟩
     have hz36 := hs36.size
     refine hK.out _ _ hs36 (fun hHeld => ?_)
     clear hK K
     refine norm_ (a' := ?_) ?_ ?_
     rotate_left
     ·show Act.put _ (some 35) _ = _
      simp only [Act.put, zA, zB, zC]
      rfl
     refine pure_ (i := 9) (N := some 26) (v := ?_) (a' := ?_) (fB 15 5119) rfl rfl (by kernel_rfl) (fun _ _ _ h => h) (Or.inl ⟨by rfl, by intro w'; go_simp; (first | with_reducible rfl | skip)⟩) (by simp only [Act.put, zA, zB, zC]; rfl) ?_
     refine pure_ (i := 10) (N := some 36) (v := ?_) (a' := ?_) (fB 15 6143) rfl rfl (by kernel_rfl) (fun _ _ _ h => h) (Or.inl ⟨by rfl, by intro w'; go_simp; (first | with_reducible rfl | skip)⟩) (by simp only [Act.put, zA, zB, zC]; rfl) ?_
     refine pure_ (i := 11) (N := some 37) (v := ?_) (a' := ?_) (fB 15 8191) rfl rfl (by kernel_rfl) (fun _ _ _ h => h) (Or.inl ⟨by rfl, by intro w'; go_simp; (first | with_reducible rfl | skip)⟩) (by simp only [Act.put, zA, zB, zC]; rfl) ?_
     exact norm_ (by simp only [putAll, Act.put, zA, zB, zC]) (hCont (u34.heap.size, wd.heap.size, u28.heap.size) _ ⟨hs36, hk36, by omega⟩)
   ·skip
    refine value_ (w1 := u27.alloc (.cells #[.int .i64 0, .int .i64 0, .string ⟨#[]⟩] 23)) (v := .pointer (some ⟨u27.heap.size, 0, none⟩)) (by rfl) rfl (by go_simp) ?_
    have hb37 : Below u27.heap.size u27 (u27.alloc (.cells #[.int .i64 0, .int .i64 0, .string ⟨#[]⟩] 23)) := below_alloc (Below.refl _ _) _
    have hn37 := blk_new u27 (.cells #[.int .i64 0, .int .i64 0, .string ⟨#[]⟩] 23)
    have hs37 := AlT.step hs27 hb37
    have hh37 := blk_below hn27 hb37
    generalize u27.alloc (.cells #[.int .i64 0, .int .i64 0, .string ⟨#[]⟩] 23) = u37 at hb37 hn37 hs37 hh37 ⊢
    clear hHeld
    have hz37 := hs37.size
    refine hK.out _ _ hs37 (fun hHeld => ?_)
    clear hK K
    refine norm_ (a' := ?_) ?_ ?_
    rotate_left
    ·show Act.put _ (some 6) _ = _
     simp only [Act.put, zA, zB, zC]
     rfl
    refine one_ (i := 2) (N := some 29) (fB 15 4327) rfl rfl (by kernel_rfl) (by decide) (fun K hK => ?_)
    refine goes_ Tryd.func29 (by kernel_rfl) rfl #[.int .i64 2] (by rfl) rfl rfl (by (try simp only [List.map_toArray, List.map_cons, List.map_nil]); first | done | rfl) ?_
    refine (one_calls 2 _).mono ?_
    rintro e u38 ⟨rfl, hb38⟩
    have hs38 := AlT.step hs37 hb38
    have hh38 := blk_below hh37 hb38
    have hk38 := blk_below hn37 hb38
    clear hHeld
    refine ⟨_, rfl, ?_⟩
    have hz38 := hs38.size
    refine hK.out _ _ hs38 (fun hHeld => ?_)
    clear hK K
    refine norm_ (a' := ?_) ?_ ?_
    rotate_left
    ·show Act.put _ (some 29) _ = _
     simp only [Act.put, zA, zB, zC]
     rfl
    refine one_ (i := 3) (N := some 30) (fB 15 4335) rfl rfl (by kernel_rfl) (by decide) (fun K hK => ?_)
    refine value_ (w1 := u38.alloc (.cells #[.int .i64 2, .string ⟨#[]⟩, .int .i64 2, .int .i64 0, .string ⟨#[]⟩, .slice none 0 0, .int .i64 7, .string ⟨#[]⟩, .int .i64 0, .int .i64 0, .string ⟨#[]⟩, .slice (some ⟨w3.heap.size, 0, none⟩) 2 2, .int .i64 2, .string ⟨#[]⟩, .int .i64 1, .int .i64 2, .string ⟨#[]⟩, .slice none 0 0] 26)) (v := .slice (some ⟨u38.heap.size, 0, none⟩) 3 3) (by rfl) rfl (by go_simp) ?_
    have hb39 : Below u38.heap.size u38 (u38.alloc (.cells #[.int .i64 2, .string ⟨#[]⟩, .int .i64 2, .int .i64 0, .string ⟨#[]⟩, .slice none 0 0, .int .i64 7, .string ⟨#[]⟩, .int .i64 0, .int .i64 0, .string ⟨#[]⟩, .slice (some ⟨w3.heap.size, 0, none⟩) 2 2, .int .i64 2, .string ⟨#[]⟩, .int .i64 1, .int .i64 2, .string ⟨#[]⟩, .slice none 0 0] 26)) := below_alloc (Below.refl _ _) _
    have hn39 := blk_new u38 (.cells #[.int .i64 2, .string ⟨#[]⟩, .int .i64 2, .int .i64 0, .string ⟨#[]⟩, .slice none 0 0, .int .i64 7, .string ⟨#[]⟩, .int .i64 0, .int .i64 0, .string ⟨#[]⟩, .slice (some ⟨w3.heap.size, 0, none⟩) 2 2, .int .i64 2, .string ⟨#[]⟩, .int .i64 1, .int .i64 2, .string ⟨#[]⟩, .slice none 0 0] 26)
    have hs39 := AlT.step hs38 hb39
    have hh39 := blk_below hh38 hb39
    have hk39 := blk_below hk38 hb39
    generalize u38.alloc (.cells #[.int .i64 2, .string ⟨#[]⟩, .int .i64 2, .int .i64 0, .string ⟨#[]⟩, .slice none 0 0, .int .i64 7, .string ⟨#[]⟩, .int .i64 0, .int .i64 0, .string ⟨#[]⟩, .slice (some ⟨w3.heap.size, 0, none⟩) 2 2, .int .i64 2, .string ⟨#[]⟩, .int .i64 1, .int .i64 2, .string ⟨#[]⟩, .slice none 0 0] 26) = u39 at hb39 hn39 hs39 hh39 hk39 ⊢
    clear hHeld
    have hz39 := hs39.size
    refine hK.out _ _ hs39 (fun hHeld => ?_)
    clear hK K
    refine norm_ (a' := ?_) ?_ ?_
    rotate_left
    ·show Act.put _ (some 30) _ = _
     simp only [Act.put, zA, zB, zC]
     rfl
    refine pure_ (i := 4) (N := some 31) (v := ?_) (a' := ?_) (fB 15 4351) rfl rfl (by kernel_rfl) (fun _ _ _ h => h) (Or.inl ⟨by rfl, by intro w'; go_simp; (first | with_reducible rfl | skip)⟩) (by simp only [Act.put, zA, zB, zC]; rfl) ?_
    refine one_ (i := 8) (N := some 35) (fB 15 4607) rfl rfl (by kernel_rfl) (by decide) (fun K hK => ?_)
    refine goes_ Tryd.func14 (by kernel_rfl) rfl #[.agg #[.int .i64 18, .string ⟨#[]⟩, .int .i64 0, .int .i64 0, .string ⟨#[]⟩, .slice (some ⟨u38.heap.size, 0, none⟩) 3 3], .slice (some ⟨w.heap.size, 0, none⟩) 1 1, .slice (some ⟨wd.heap.size, 0, none⟩) 1 1] (by rfl) rfl rfl (by (try simp only [List.map_toArray, List.map_cons, List.map_nil]); first | done | rfl) ?_
    refine (hwif _ _ _ hs39.als hn39 hh39).mono ?_
    rintro e u40 ⟨rfl, hb40⟩
    have hs40 := AlT.step hs39 hb40
    have hg40 := blk_below hn39 hb40
    have hh40 := blk_below hh39 hb40
    have hk40 := blk_below hk39 hb40
    clear hHeld
    refine ⟨_, rfl, ?_⟩
    have hz40 := hs40.size
    refine hK.out _ _ hs40 (fun hHeld => ?_)
    clear hK K
    refine norm_ (a' := ?_) ?_ ?_
    rotate_left
    ·show Act.put _ (some 35) _ = _
     simp only [Act.put, zA, zB, zC]
     rfl
    refine pure_ (i := 9) (N := some 26) (v := ?_) (a' := ?_) (fB 15 5119) rfl rfl (by kernel_rfl) (fun _ _ _ h => h) (Or.inl ⟨by rfl, by intro w'; go_simp; (first | with_reducible rfl | skip)⟩) (by simp only [Act.put, zA, zB, zC]; rfl) ?_
    refine pure_ (i := 10) (N := some 36) (v := ?_) (a' := ?_) (fB 15 6143) rfl rfl (by kernel_rfl) (fun _ _ _ h => h) (Or.inl ⟨by rfl, by intro w'; go_simp; (first | with_reducible rfl | skip)⟩) (by simp only [Act.put, zA, zB, zC]; rfl) ?_
    refine pure_ (i := 11) (N := some 37) (v := ?_) (a' := ?_) (fB 15 8191) rfl rfl (by kernel_rfl) (fun _ _ _ h => h) (Or.inl ⟨by rfl, by intro w'; go_simp; (first | with_reducible rfl | skip)⟩) (by simp only [Act.put, zA, zB, zC]; rfl) ?_
    exact norm_ (by simp only [putAll, Act.put, zA, zB, zC]) (hCont (u38.heap.size, wd.heap.size, u27.heap.size) _ ⟨hs40, hk40, by omega⟩)
  ·skip
   refine value_ (w1 := wd.alloc (.cells #[.int .i64 0, .int .i64 0, .string ⟨#[]⟩] 23)) (v := .pointer (some ⟨wd.heap.size, 0, none⟩)) (by rfl) rfl (by go_simp) ?_
   have hb41 : Below wd.heap.size wd (wd.alloc (.cells #[.int .i64 0, .int .i64 0, .string ⟨#[]⟩] 23)) := below_alloc (Below.refl _ _) _
   have hn41 := blk_new wd (.cells #[.int .i64 0, .int .i64 0, .string ⟨#[]⟩] 23)
   have hs41 := AlT.step hs0 hb41
   generalize wd.alloc (.cells #[.int .i64 0, .int .i64 0, .string ⟨#[]⟩] 23) = u41 at hb41 hn41 hs41 ⊢
   clear hHeld
   have hz41 := hs41.size
   refine hK.out _ _ hs41 (fun hHeld => ?_)
   clear hK K
   refine norm_ (a' := ?_) ?_ ?_
   rotate_left
   ·show Act.put _ (some 6) _ = _
    simp only [Act.put, zA, zB, zC]
    rfl
   refine two_ (i := 2) (j := 7) (Ni := some 29) (Nj := some 34) (fB 15 4199) (fB 15 4323) rfl rfl rfl rfl (by kernel_rfl) (by decide) (by decide) (fun K hK => ?_) (fun K hK => ?_)
   ·skip
    refine goes_ Tryd.func29 (by kernel_rfl) rfl #[.int .i64 2] (by rfl) rfl rfl (by (try simp only [List.map_toArray, List.map_cons, List.map_nil]); first | done | rfl) ?_
    refine (one_calls 2 _).mono ?_
    rintro e u42 ⟨rfl, hb42⟩
    have hs42 := AlT.step hs41 hb42
    have hk42 := blk_below hn41 hb42
    clear hHeld
    refine ⟨_, rfl, ?_⟩
    have hz42 := hs42.size
    refine hK.out _ _ hs42 (fun hHeld => ?_)
    clear hK K
    refine norm_ (a' := ?_) ?_ ?_
    rotate_left
    ·show Act.put _ (some 29) _ = _
     simp only [Act.put, zA, zB, zC]
     rfl
    refine two_ (i := 3) (j := 7) (Ni := some 30) (Nj := some 34) (fB 15 4207) (fB 15 4327) rfl rfl rfl rfl (by kernel_rfl) (by decide) (by decide) (fun K hK => ?_) (fun K hK => ?_)
    ·skip
     refine value_ (w1 := u42.alloc (.cells #[.int .i64 2, .string ⟨#[]⟩, .int .i64 2, .int .i64 0, .string ⟨#[]⟩, .slice none 0 0, .int .i64 7, .string ⟨#[]⟩, .int .i64 0, .int .i64 0, .string ⟨#[]⟩, .slice (some ⟨w3.heap.size, 0, none⟩) 2 2, .int .i64 2, .string ⟨#[]⟩, .int .i64 1, .int .i64 2, .string ⟨#[]⟩, .slice none 0 0] 26)) (v := .slice (some ⟨u42.heap.size, 0, none⟩) 3 3) (by rfl) rfl (by go_simp) ?_
     have hb43 : Below u42.heap.size u42 (u42.alloc (.cells #[.int .i64 2, .string ⟨#[]⟩, .int .i64 2, .int .i64 0, .string ⟨#[]⟩, .slice none 0 0, .int .i64 7, .string ⟨#[]⟩, .int .i64 0, .int .i64 0, .string ⟨#[]⟩, .slice (some ⟨w3.heap.size, 0, none⟩) 2 2, .int .i64 2, .string ⟨#[]⟩, .int .i64 1, .int .i64 2, .string ⟨#[]⟩, .slice none 0 0] 26)) := below_alloc (Below.refl _ _) _
     have hn43 := blk_new u42 (.cells #[.int .i64 2, .string ⟨#[]⟩, .int .i64 2, .int .i64 0, .string ⟨#[]⟩, .slice none 0 0, .int .i64 7, .string ⟨#[]⟩, .int .i64 0, .int .i64 0, .string ⟨#[]⟩, .slice (some ⟨w3.heap.size, 0, none⟩) 2 2, .int .i64 2, .string ⟨#[]⟩, .int .i64 1, .int .i64 2, .string ⟨#[]⟩, .slice none 0 0] 26)
     have hs43 := AlT.step hs42 hb43
     have hk43 := blk_below hk42 hb43
     generalize u42.alloc (.cells #[.int .i64 2, .string ⟨#[]⟩, .int .i64 2, .int .i64 0, .string ⟨#[]⟩, .slice none 0 0, .int .i64 7, .string ⟨#[]⟩, .int .i64 0, .int .i64 0, .string ⟨#[]⟩, .slice (some ⟨w3.heap.size, 0, none⟩) 2 2, .int .i64 2, .string ⟨#[]⟩, .int .i64 1, .int .i64 2, .string ⟨#[]⟩, .slice none 0 0] 26) = u43 at hb43 hn43 hs43 hk43 ⊢
     clear hHeld
     have hz43 := hs43.size
     refine hK.out _ _ hs43 (fun hHeld => ?_)
     clear hK K
     refine norm_ (a' := ?_) ?_ ?_
     rotate_left
     ·show Act.put _ (some 30) _ = _
      simp only [Act.put, zA, zB, zC]
      rfl
     refine pure_ (i := 4) (N := some 31) (v := ?_) (a' := ?_) (fB 15 4223) rfl rfl (by kernel_rfl) (fun _ _ _ h => h) (Or.inl ⟨by rfl, by intro w'; go_simp; (first | with_reducible rfl | skip)⟩) (by simp only [Act.put, zA, zB, zC]; rfl) ?_
     refine one_ (i := 7) (N := some 34) (fB 15 4351) rfl rfl (by kernel_rfl) (by decide) (fun K hK => ?_)
     refine value_ (w1 := u43.alloc (.cells #[.int .i64 0, .int .i64 0, .string ⟨#[]⟩] 23)) (v := .slice (some ⟨u43.heap.size, 0, none⟩) 1 1) (by rfl) rfl (by go_simp) ?_
     have hb44 : Below u43.heap.size u43 (u43.alloc (.cells #[.int .i64 0, .int .i64 0, .string ⟨#[]⟩] 23)) := below_alloc (Below.refl _ _) _
     have hn44 := blk_new u43 (.cells #[.int .i64 0, .int .i64 0, .string ⟨#[]⟩] 23)
     have hs44 := AlT.step hs43 hb44
     have hg44 := blk_below hn43 hb44
     have hk44 := blk_below hk43 hb44
     generalize u43.alloc (.cells #[.int .i64 0, .int .i64 0, .string ⟨#[]⟩] 23) = u44 at hb44 hn44 hs44 hg44 hk44 ⊢
     clear hHeld
     have hz44 := hs44.size
     refine hK.out _ _ hs44 (fun hHeld => ?_)
     clear hK K
     refine norm_ (a' := ?_) ?_ ?_
     rotate_left
     ·show Act.put _ (some 34) _ = _
      simp only [Act.put, zA, zB, zC]
      rfl
     refine one_ (i := 8) (N := some 35) (fB 15 4607) rfl rfl (by kernel_rfl) (by decide) (fun K hK => ?_)
     refine goes_ Tryd.func14 (by kernel_rfl) rfl #[.agg #[.int .i64 18, .string ⟨#[]⟩, .int .i64 0, .int .i64 0, .string ⟨#[]⟩, .slice (some ⟨u42.heap.size, 0, none⟩) 3 3], .slice (some ⟨w.heap.size, 0, none⟩) 1 1, .slice (some ⟨u43.heap.size, 0, none⟩) 1 1] (by rfl) rfl rfl (by (try simp only [List.map_toArray, List.map_cons, List.map_nil]); first | done | rfl) ?_
     refine (hwif _ _ _ hs44.als hg44 hn44).mono ?_
     rintro e u45 ⟨rfl, hb45⟩
     have hs45 := AlT.step hs44 hb45
     have hg45 := blk_below hg44 hb45
     have hh45 := blk_below hn44 hb45
     have hk45 := blk_below hk44 hb45
     clear hHeld
     refine ⟨_, rfl, ?_⟩
     have hz45 := hs45.size
     refine hK.out _ _ hs45 (fun hHeld => ?_)
     clear hK K
     refine norm_ (a' := ?_) ?_ ?_
     rotate_left
     ·show Act.put _ (some 35) _ = _
      simp only [Act.put, zA, zB, zC]
      rfl
     refine pure_ (i := 9) (N := some 26) (v := ?_) (a' := ?_) (fB 15 5119) rfl rfl (by kernel_rfl) (fun _ _ _ h => h) (Or.inl ⟨by rfl, by intro w'; go_simp; (first | with_reducible rfl | skip)⟩) (by simp only [Act.put, zA, zB, zC]; rfl) ?_
     refine pure_ (i := 10) (N := some 36) (v := ?_) (a' := ?_) (fB 15 6143) rfl rfl (by kernel_rfl) (fun _ _ _ h => h) (Or.inl ⟨by rfl, by intro w'; go_simp; (first | with_reducible rfl | skip)⟩) (by simp only [Act.put, zA, zB, zC]; rfl) ?_
     refine pure_ (i := 11) (N := some 37) (v := ?_) (a' := ?_) (fB 15 8191) rfl rfl (by kernel_rfl) (fun _ _ _ h => h) (Or.inl ⟨by rfl, by intro w'; go_simp; (first | with_reducible rfl | skip)⟩) (by simp only [Act.put, zA, zB, zC]; rfl) ?_
     exact norm_ (by simp only [putAll, Act.put, zA, zB, zC]) (hCont (u42.heap.size, u43.heap.size, wd.heap.size) _ ⟨hs45, hk45, by omega⟩)
    ·skip
     refine value_ (w1 := u42.alloc (.cells #[.int .i64 0, .int .i64 0, .string ⟨#[]⟩] 23)) (v := .slice (some ⟨u42.heap.size, 0, none⟩) 1 1) (by rfl) rfl (by go_simp) ?_
     have hb46 : Below u42.heap.size u42 (u42.alloc (.cells #[.int .i64 0, .int .i64 0, .string ⟨#[]⟩] 23)) := below_alloc (Below.refl _ _) _
     have hn46 := blk_new u42 (.cells #[.int .i64 0, .int .i64 0, .string ⟨#[]⟩] 23)
     have hs46 := AlT.step hs42 hb46
     have hk46 := blk_below hk42 hb46
     generalize u42.alloc (.cells #[.int .i64 0, .int .i64 0, .string ⟨#[]⟩] 23) = u46 at hb46 hn46 hs46 hk46 ⊢
     clear hHeld
     have hz46 := hs46.size
     refine hK.out _ _ hs46 (fun hHeld => ?_)
     clear hK K
     refine norm_ (a' := ?_) ?_ ?_
     rotate_left
     ·show Act.put _ (some 34) _ = _
      simp only [Act.put, zA, zB, zC]
      rfl
     refine one_ (i := 3) (N := some 30) (fB 15 4335) rfl rfl (by kernel_rfl) (by decide) (fun K hK => ?_)
     refine value_ (w1 := u46.alloc (.cells #[.int .i64 2, .string ⟨#[]⟩, .int .i64 2, .int .i64 0, .string ⟨#[]⟩, .slice none 0 0, .int .i64 7, .string ⟨#[]⟩, .int .i64 0, .int .i64 0, .string ⟨#[]⟩, .slice (some ⟨w3.heap.size, 0, none⟩) 2 2, .int .i64 2, .string ⟨#[]⟩, .int .i64 1, .int .i64 2, .string ⟨#[]⟩, .slice none 0 0] 26)) (v := .slice (some ⟨u46.heap.size, 0, none⟩) 3 3) (by rfl) rfl (by go_simp) ?_
     have hb47 : Below u46.heap.size u46 (u46.alloc (.cells #[.int .i64 2, .string ⟨#[]⟩, .int .i64 2, .int .i64 0, .string ⟨#[]⟩, .slice none 0 0, .int .i64 7, .string ⟨#[]⟩, .int .i64 0, .int .i64 0, .string ⟨#[]⟩, .slice (some ⟨w3.heap.size, 0, none⟩) 2 2, .int .i64 2, .string ⟨#[]⟩, .int .i64 1, .int .i64 2, .string ⟨#[]⟩, .slice none 0 0] 26)) := below_alloc (Below.refl _ _) _
     have hn47 := blk_new u46 (.cells #[.int .i64 2, .string ⟨#[]⟩, .int .i64 2, .int .i64 0, .string ⟨#[]⟩, .slice none 0 0, .int .i64 7, .string ⟨#[]⟩, .int .i64 0, .int .i64 0, .string ⟨#[]⟩, .slice (some ⟨w3.heap.size, 0, none⟩) 2 2, .int .i64 2, .string ⟨#[]⟩, .int .i64 1, .int .i64 2, .string ⟨#[]⟩, .slice none 0 0] 26)
     have hs47 := AlT.step hs46 hb47
     have hh47 := blk_below hn46 hb47
     have hk47 := blk_below hk46 hb47
     generalize u46.alloc (.cells #[.int .i64 2, .string ⟨#[]⟩, .int .i64 2, .int .i64 0, .string ⟨#[]⟩, .slice none 0 0, .int .i64 7, .string ⟨#[]⟩, .int .i64 0, .int .i64 0, .string ⟨#[]⟩, .slice (some ⟨w3.heap.size, 0, none⟩) 2 2, .int .i64 2, .string ⟨#[]⟩, .int .i64 1, .int .i64 2, .string ⟨#[]⟩, .slice none 0 0] 26) = u47 at hb47 hn47 hs47 hh47 hk47 ⊢
     clear hHeld
     have hz47 := hs47.size
     refine hK.out _ _ hs47 (fun hHeld => ?_)
     clear hK K
     refine norm_ (a' := ?_) ?_ ?_
     rotate_left
     ·show Act.put _ (some 30) _ = _
      simp only [Act.put, zA, zB, zC]
      rfl
     refine pure_ (i := 4) (N := some 31) (v := ?_) (a' := ?_) (fB 15 4351) rfl rfl (by kernel_rfl) (fun _ _ _ h => h) (Or.inl ⟨by rfl, by intro w'; go_simp; (first | with_reducible rfl | skip)⟩) (by simp only [Act.put, zA, zB, zC]; rfl) ?_
     refine one_ (i := 8) (N := some 35) (fB 15 4607) rfl rfl (by kernel_rfl) (by decide) (fun K hK => ?_)
     refine goes_ Tryd.func14 (by kernel_rfl) rfl #[.agg #[.int .i64 18, .string ⟨#[]⟩, .int .i64 0, .int .i64 0, .string ⟨#[]⟩, .slice (some ⟨u46.heap.size, 0, none⟩) 3 3], .slice (some ⟨w.heap.size, 0, none⟩) 1 1, .slice (some ⟨u42.heap.size, 0, none⟩) 1 1] (by rfl) rfl rfl (by (try simp only [List.map_toArray, List.map_cons, List.map_nil]); first | done | rfl) ?_
     refine (hwif _ _ _ hs47.als hn47 hh47).mono ?_
     rintro e u48 ⟨rfl, hb48⟩
     have hs48 := AlT.step hs47 hb48
     have hg48 := blk_below hn47 hb48
     have hh48 := blk_below hh47 hb48
     have hk48 := blk_below hk47 hb48
     clear hHeld
     refine ⟨_, rfl, ?_⟩
     have hz48 := hs48.size
     refine hK.out _ _ hs48 (fun hHeld => ?_)
     clear hK K
     refine norm_ (a' := ?_) ?_ ?_
     rotate_left
     ·show Act.put _ (some 35) _ = _
      simp only [Act.put, zA, zB, zC]
      rfl
     refine pure_ (i := 9) (N := some 26) (v := ?_) (a' := ?_) (fB 15 5119) rfl rfl (by kernel_rfl) (fun _ _ _ h => h) (Or.inl ⟨by rfl, by intro w'; go_simp; (first | with_reducible rfl | skip)⟩) (by simp only [Act.put, zA, zB, zC]; rfl) ?_
     refine pure_ (i := 10) (N := some 36) (v := ?_) (a' := ?_) (fB 15 6143) rfl rfl (by kernel_rfl) (fun _ _ _ h => h) (Or.inl ⟨by rfl, by intro w'; go_simp; (first | with_reducible rfl | skip)⟩) (by simp only [Act.put, zA, zB, zC]; rfl) ?_
     refine pure_ (i := 11) (N := some 37) (v := ?_) (a' := ?_) (fB 15 8191) rfl rfl (by kernel_rfl) (fun _ _ _ h => h) (Or.inl ⟨by rfl, by intro w'; go_simp; (first | with_reducible rfl | skip)⟩) (by simp only [Act.put, zA, zB, zC]; rfl) ?_
     exact norm_ (by simp only [putAll, Act.put, zA, zB, zC]) (hCont (u46.heap.size, u42.heap.size, wd.heap.size) _ ⟨hs48, hk48, by omega⟩)
   ·skip
    refine value_ (w1 := u41.alloc (.cells #[.int .i64 0, .int .i64 0, .string ⟨#[]⟩] 23)) (v := .slice (some ⟨u41.heap.size, 0, none⟩) 1 1) (by rfl) rfl (by go_simp) ?_
    have hb49 : Below u41.heap.size u41 (u41.alloc (.cells #[.int .i64 0, .int .i64 0, .string ⟨#[]⟩] 23)) := below_alloc (Below.refl _ _) _
    have hn49 := blk_new u41 (.cells #[.int .i64 0, .int .i64 0, .string ⟨#[]⟩] 23)
    have hs49 := AlT.step hs41 hb49
    have hk49 := blk_below hn41 hb49
    generalize u41.alloc (.cells #[.int .i64 0, .int .i64 0, .string ⟨#[]⟩] 23) = u49 at hb49 hn49 hs49 hk49 ⊢
    clear hHeld
    have hz49 := hs49.size
    refine hK.out _ _ hs49 (fun hHeld => ?_)
    clear hK K
    refine norm_ (a' := ?_) ?_ ?_
    rotate_left
    ·show Act.put _ (some 34) _ = _
     simp only [Act.put, zA, zB, zC]
     rfl
    refine one_ (i := 2) (N := some 29) (fB 15 4327) rfl rfl (by kernel_rfl) (by decide) (fun K hK => ?_)
    refine goes_ Tryd.func29 (by kernel_rfl) rfl #[.int .i64 2] (by rfl) rfl rfl (by (try simp only [List.map_toArray, List.map_cons, List.map_nil]); first | done | rfl) ?_
    refine (one_calls 2 _).mono ?_
    rintro e u50 ⟨rfl, hb50⟩
    have hs50 := AlT.step hs49 hb50
    have hh50 := blk_below hn49 hb50
    have hk50 := blk_below hk49 hb50
    clear hHeld
    refine ⟨_, rfl, ?_⟩
    have hz50 := hs50.size
    refine hK.out _ _ hs50 (fun hHeld => ?_)
    clear hK K
    refine norm_ (a' := ?_) ?_ ?_
    rotate_left
    ·show Act.put _ (some 29) _ = _
     simp only [Act.put, zA, zB, zC]
     rfl
    refine one_ (i := 3) (N := some 30) (fB 15 4335) rfl rfl (by kernel_rfl) (by decide) (fun K hK => ?_)
    refine value_ (w1 := u50.alloc (.cells #[.int .i64 2, .string ⟨#[]⟩, .int .i64 2, .int .i64 0, .string ⟨#[]⟩, .slice none 0 0, .int .i64 7, .string ⟨#[]⟩, .int .i64 0, .int .i64 0, .string ⟨#[]⟩, .slice (some ⟨w3.heap.size, 0, none⟩) 2 2, .int .i64 2, .string ⟨#[]⟩, .int .i64 1, .int .i64 2, .string ⟨#[]⟩, .slice none 0 0] 26)) (v := .slice (some ⟨u50.heap.size, 0, none⟩) 3 3) (by rfl) rfl (by go_simp) ?_
    have hb51 : Below u50.heap.size u50 (u50.alloc (.cells #[.int .i64 2, .string ⟨#[]⟩, .int .i64 2, .int .i64 0, .string ⟨#[]⟩, .slice none 0 0, .int .i64 7, .string ⟨#[]⟩, .int .i64 0, .int .i64 0, .string ⟨#[]⟩, .slice (some ⟨w3.heap.size, 0, none⟩) 2 2, .int .i64 2, .string ⟨#[]⟩, .int .i64 1, .int .i64 2, .string ⟨#[]⟩, .slice none 0 0] 26)) := below_alloc (Below.refl _ _) _
    have hn51 := blk_new u50 (.cells #[.int .i64 2, .string ⟨#[]⟩, .int .i64 2, .int .i64 0, .string ⟨#[]⟩, .slice none 0 0, .int .i64 7, .string ⟨#[]⟩, .int .i64 0, .int .i64 0, .string ⟨#[]⟩, .slice (some ⟨w3.heap.size, 0, none⟩) 2 2, .int .i64 2, .string ⟨#[]⟩, .int .i64 1, .int .i64 2, .string ⟨#[]⟩, .slice none 0 0] 26)
    have hs51 := AlT.step hs50 hb51
    have hh51 := blk_below hh50 hb51
    have hk51 := blk_below hk50 hb51
    generalize u50.alloc (.cells #[.int .i64 2, .string ⟨#[]⟩, .int .i64 2, .int .i64 0, .string ⟨#[]⟩, .slice none 0 0, .int .i64 7, .string ⟨#[]⟩, .int .i64 0, .int .i64 0, .string ⟨#[]⟩, .slice (some ⟨w3.heap.size, 0, none⟩) 2 2, .int .i64 2, .string ⟨#[]⟩, .int .i64 1, .int .i64 2, .string ⟨#[]⟩, .slice none 0 0] 26) = u51 at hb51 hn51 hs51 hh51 hk51 ⊢
    clear hHeld
    have hz51 := hs51.size
    refine hK.out _ _ hs51 (fun hHeld => ?_)
    clear hK K
    refine norm_ (a' := ?_) ?_ ?_
    rotate_left
    ·show Act.put _ (some 30) _ = _
     simp only [Act.put, zA, zB, zC]
     rfl
    refine pure_ (i := 4) (N := some 31) (v := ?_) (a' := ?_) (fB 15 4351) rfl rfl (by kernel_rfl) (fun _ _ _ h => h) (Or.inl ⟨by rfl, by intro w'; go_simp; (first | with_reducible rfl | skip)⟩) (by simp only [Act.put, zA, zB, zC]; rfl) ?_
    refine one_ (i := 8) (N := some 35) (fB 15 4607) rfl rfl (by kernel_rfl) (by decide) (fun K hK => ?_)
    refine goes_ Tryd.func14 (by kernel_rfl) rfl #[.agg #[.int .i64 18, .string ⟨#[]⟩, .int .i64 0, .int .i64 0, .string ⟨#[]⟩, .slice (some ⟨u50.heap.size, 0, none⟩) 3 3], .slice (some ⟨w.heap.size, 0, none⟩) 1 1, .slice (some ⟨u41.heap.size, 0, none⟩) 1 1] (by rfl) rfl rfl (by (try simp only [List.map_toArray, List.map_cons, List.map_nil]); first | done | rfl) ?_
    refine (hwif _ _ _ hs51.als hn51 hh51).mono ?_
    rintro e u52 ⟨rfl, hb52⟩
    have hs52 := AlT.step hs51 hb52
    have hg52 := blk_below hn51 hb52
    have hh52 := blk_below hh51 hb52
    have hk52 := blk_below hk51 hb52
    clear hHeld
    refine ⟨_, rfl, ?_⟩
    have hz52 := hs52.size
    refine hK.out _ _ hs52 (fun hHeld => ?_)
    clear hK K
    refine norm_ (a' := ?_) ?_ ?_
    rotate_left
    ·show Act.put _ (some 35) _ = _
     simp only [Act.put, zA, zB, zC]
     rfl
    refine pure_ (i := 9) (N := some 26) (v := ?_) (a' := ?_) (fB 15 5119) rfl rfl (by kernel_rfl) (fun _ _ _ h => h) (Or.inl ⟨by rfl, by intro w'; go_simp; (first | with_reducible rfl | skip)⟩) (by simp only [Act.put, zA, zB, zC]; rfl) ?_
    refine pure_ (i := 10) (N := some 36) (v := ?_) (a' := ?_) (fB 15 6143) rfl rfl (by kernel_rfl) (fun _ _ _ h => h) (Or.inl ⟨by rfl, by intro w'; go_simp; (first | with_reducible rfl | skip)⟩) (by simp only [Act.put, zA, zB, zC]; rfl) ?_
    refine pure_ (i := 11) (N := some 37) (v := ?_) (a' := ?_) (fB 15 8191) rfl rfl (by kernel_rfl) (fun _ _ _ h => h) (Or.inl ⟨by rfl, by intro w'; go_simp; (first | with_reducible rfl | skip)⟩) (by simp only [Act.put, zA, zB, zC]; rfl) ?_
    exact norm_ (by simp only [putAll, Act.put, zA, zB, zC]) (hCont (u50.heap.size, u41.heap.size, wd.heap.size) _ ⟨hs52, hk52, by omega⟩)
 rintro ⟨g_, h_, k5⟩ we ⟨hS9, hk9, hz9⟩
 have hS9 : (AlT w w.heap.size w3.heap.size (w3.heap.size + 1) (w3.heap.size + 1 + 1) W8.heap.size []) we := hS9
 have hk9 : we.heap[k5]? = some (.cells #[.int .i64 0, .int .i64 0, .string ⟨#[]⟩] 23 (0, 0)) := hk9
 have hz9 : W8.heap.size ≤ k5 := hz9
 refine norm_ (a' := ?_) ?_ ?_
 rotate_left
 ·simp only [putAll, Act.put, zA, zB, zC]
  rfl
 refine one_ (i := 13) (N := none) (fB 15 16383) rfl rfl (by kernel_rfl) (by decide) (fun K hK => ?_)
 obtain ⟨x0, x1, x2, y0, y1, y2⟩ := box3 hk9
 have hlt9 := blk_lt hk9
 refine skip_ (w1 := ((we.setCell ⟨k5, 0, none⟩ (.int .i64 1)).setCell ⟨k5, 1, none⟩ (.int .i64 2)).setCell ⟨k5, 2, none⟩ (.string ⟨#[]⟩)) (by rfl) rfl (by go_simp) ?_
 clear x0 x1 x2 y0 y1 y2
 have hk8 := blk_put3 hk9 (.int .i64 1) (.int .i64 2) (.string ⟨#[]⟩)
 have hS8 := AlT.put3 hS9 hz9 (by simp) (.int .i64 1) (.int .i64 2) (.string ⟨#[]⟩)
 generalize ((we.setCell ⟨k5, 0, none⟩ (.int .i64 1)).setCell ⟨k5, 1, none⟩ (.int .i64 2)).setCell ⟨k5, 2, none⟩ (.string ⟨#[]⟩) = w6 at hk8 hS8 ⊢
 refine hK.out _ _ hS8 (fun hHeld => ?_)
 clear hK K
 refine pure_ (i := 14) (N := some 7) (v := ?_) (a' := ?_) (fB 15 32767) rfl rfl (by kernel_rfl) (fun _ _ _ h => h) (Or.inl ⟨by rfl, by intro w'; go_simp; (first | with_reducible rfl | skip)⟩) (by simp only [Act.put, zA, zB, zC]; rfl) ?_
 refine done_ (by kernel_rfl) ?_
 go_upto_region 6 with (fail)
 have hlt6 := blk_lt hk8
 have hT6 : AlT w w.heap.size w3.heap.size (w3.heap.size + 1) (w3.heap.size + 1 + 1) w6.heap.size [(k5, .cells #[.int .i64 1, .int .i64 2, .string ⟨#[]⟩] 23 (0, 0))] w6 := ⟨hS8.als, Nat.le_refl _, by simpa using hk8, blk_lt hS8.als.cols, blk_lt hS8.als.kids, blk_lt hS8.als.dbox, blk_lt hS8.als.nbox, hS8.als.below.size⟩
 clear hS8 hk8 hS9 hk9 hz9 hlt9 hHeld hT8 hwif
 obtain ⟨d0, d1, d2, d3, d4, d5, n0, n1, n2, n3, n4, n5, _⟩ := hT6.als.cells
 have hT7 := AlT.step (AlT.step hT6 (below_alloc (Below.refl w6.heap.size w6) (.cells #[.int .i64 3, .string ⟨#[98, 111, 111, 108]⟩, .int .i64 0, .int .i64 0, .string ⟨#[]⟩, .slice none 0 0, .int .i64 2, .string ⟨#[]⟩, .int .i64 2, .int .i64 0, .string ⟨#[]⟩, .slice none 0 0] 26))) (below_alloc (Below.refl _ _) (.cells #[.int .i64 0, .int .i64 0, .string ⟨#[]⟩] 23))
 have hw := hwand w6.heap.size (w6.heap.size + 1) _ hT7.als (blk_alloc (blk_new w6 _) _) (blk_new1 w6 _ _)
 clear hwand
 go_upto_region 7 with (go_at_call 14; refine hw.mono ?_; rintro e w9 ⟨rfl, hb9⟩; have hT9 := AlT.step hT7 hb9; clear hb9 hw hT7 hT6 d0 d1 d2 d3 d4 d5 n0 n1 n2 n3 n4 n5 hlt6)
 have hS8 := AlT.step hT9 (below_alloc (Below.refl w9.heap.size w9) (.cells #[.int .i64 2, .int .i64 0, .string ⟨#[]⟩] 23))
 have hk6 := hS8.more _ List.mem_cons_self
 have hk8 := blk_new w9 (.cells #[.int .i64 2, .int .i64 0, .string ⟨#[]⟩] 23)
 have c1 := (blk_cell hk6 1).trans rfl
 have c2 := (blk_cell hk8 0).trans rfl
 have c3 := (blk_cell hk8 1).trans rfl
 have hB9 := hS8.als.below
 clear hk6 hk8 hS8 hT9
 generalize hW9 : w9.alloc (.cells #[.int .i64 2, .int .i64 0, .string ⟨#[]⟩] 23) = W9 at c1 c2 c3 hB9 ⊢
 go_wp2
 first | exact ⟨rfl, hB9⟩ | (go_ret2; exact ⟨rfl, hB9⟩) | (go_ret; exact ⟨rfl, hB9⟩)
end Go.Proofs.YtopolnbffmljaaaDoor.Q
namespace Go.Proofs.YtopolnbffmljaaaDoor.Q
theorem bigV_l0 (l : List Va) (hl : l.length ≤ 140737488355328) : ∀ n i : Nat, i + n = l.length → ∃ b, Ev (fun k => headgateref03_Big.l0 k l i) b
 | 0, i, h => ⟨false, Ev.const fun k => by
  simp only [headgateref03_Big.l0]
  rw [if_neg (by omega)]⟩
 | n + 1, i, h => by
  obtain ⟨b, ih⟩ := bigV_l0 l hl n (i + 1) (by omega)
  by_cases he : ((rd_T23 l (i : Int)).f2.size : Int) > 600
  ·exact ⟨true, Ev.const fun k => by
    simp only [headgateref03_Big.l0]
    rw [if_pos (by omega), if_pos (by omega), if_pos he]⟩
  ·refine ⟨b, Ev.step ih fun k => ?_⟩
   simp only [headgateref03_Big.l0]
   rw [if_pos (by omega), if_pos (by omega), if_neg he, w64n i (by omega)]
theorem bigV_ev (l : List Va) (hl : l.length ≤ 140737488355328) : ∃ b, Ev (fun k => headgateref03_Big.f k l) b ∧ (b = false → l.length ≤ 40) := by
 by_cases h : (l.length : Int) > 40
 ·exact ⟨true, Ev.const' fun k => by unfold headgateref03_Big.f; rw [if_pos h], fun e => by cases e⟩
 ·obtain ⟨b, h1⟩ := bigV_l0 l hl l.length 0 (by omega)
  exact ⟨b, h1.same fun k => by unfold headgateref03_Big.f; rw [if_neg h]; rfl, fun e => by omega⟩
theorem far_ev (x : Ex) (hwf : wfE x) (l : List Co) (hl : l.length ≤ 140737488355328) (row : List Va) (hr : row.length ≤ 140737488355328) :
  ∃ b, Ev (fun k => headgatelaw13_far.f k x.f0 x.f1 x.f2.f0 x.f2.f1 x.f2.f2 x.f3 l row) b ∧
   (b = false → (goodE x = true ∧ sizE x 0 0 = ((totE x : Int), (depE x : Int))) ∧ (l.length ≤ 40 ∧ ∀ c ∈ l, c.f0.size ≤ 200) ∧ row.length ≤ 40) := by
 obtain ⟨b1, e1, g1⟩ := huge_ev x hwf
 obtain ⟨b2, e2, g2⟩ := big_ev l hl
 obtain ⟨b3, e3, g3⟩ := bigV_ev row hr
 refine ⟨b1 || (b2 || b3), ?_, fun h => ?_⟩
 ·refine Ev.bind (h := fun k t => if t = true then some true else ((headgateref12_Big.f k l).bind fun t => (if t = true then (some true) else ((headgateref03_Big.f k row).bind fun t => (some t))))) e1 ?_ (fun k => rfl)
  cases b1
  ·refine Ev.bind (h := fun k t => if t = true then some true else ((headgateref03_Big.f k row).bind fun t => (some t))) e2 ?_ (fun k => rfl)
   cases b2
   ·refine Ev.same e3 (fun k => ?_)
    show (if _ then _ else _) = _
    rw [if_neg (by decide)]
    cases headgateref03_Big.f k row <;> rfl
   ·exact Ev.const' fun k => rfl
  ·exact Ev.const' fun k => rfl
 ·rw [Bool.or_eq_false_iff, Bool.or_eq_false_iff] at h
  exact ⟨g1 h.1, g2 h.2.1, g3 h.2.2⟩
structure BoxE (x : Ex) (A : Option Addr) (c : Nat) (w W : World) : Prop where
 below : Below w.heap.size w W
 box : W.heap[w.heap.size]? = some (.cells #[.int .i64 x.f0, .string x.f1, .int .i64 x.f2.f0, .int .i64 x.f2.f1, .string x.f2.f2, .slice A x.f3.length c] 26 (0, 0))
theorem BoxE.new (x : Ex) (A : Option Addr) (c : Nat) (w : World) : BoxE x A c w (w.alloc (.cells #[.int .i64 x.f0, .string x.f1, .int .i64 x.f2.f0, .int .i64 x.f2.f1, .string x.f2.f2, .slice A x.f3.length c] 26)) :=
 ⟨below_alloc (Below.refl _ _) _, blk_new w _⟩
theorem BoxE.step {x : Ex} {A : Option Addr} {c : Nat} {w W W' : World} (h : BoxE x A c w W) (hb : Below W.heap.size W W') : BoxE x A c w W' := ⟨below_step h.below hb, blk_below h.box hb⟩
theorem BoxE.cells {x : Ex} {A : Option Addr} {c : Nat} {w W : World} (h : BoxE x A c w W) : W.cell? ⟨w.heap.size, 0, none⟩ = some (.int .i64 x.f0) ∧ W.cell? ⟨w.heap.size, 1, none⟩ = some (.string x.f1) ∧ W.cell? ⟨w.heap.size, 2, none⟩ = some (.int .i64 x.f2.f0) ∧ W.cell? ⟨w.heap.size, 3, none⟩ = some (.int .i64 x.f2.f1) ∧ W.cell? ⟨w.heap.size, 4, none⟩ = some (.string x.f2.f2) ∧ W.cell? ⟨w.heap.size, 5, none⟩ = some (.slice A x.f3.length c) :=
 ⟨(blk_cell h.box 0).trans rfl, (blk_cell h.box 1).trans rfl, (blk_cell h.box 2).trans rfl, (blk_cell h.box 3).trans rfl, (blk_cell h.box 4).trans rfl, (blk_cell h.box 5).trans rfl⟩
end Go.Proofs.YtopolnbffmljaaaDoor.Q
namespace Go.Proofs.YtopolnbffmljaaaDoor.Q
attribute [local go_sem high] eqV
set_option maxHeartbeats 16000000 in
set_option maxRecDepth 100000 in
theorem worth_walk (x : Ex) (hwf : wfE x) (A : Option Addr) (c : Nat) (hl : x.f3.length ≤ c) (B : Option Addr) (c2 : Nat) (l : List Co) (hL : l.length ≤ 140737488355328) (hc2 : l.length ≤ c2) (D : Option Addr) (c3 : Nat) (row : List Va) (hRl : row.length ≤ 140737488355328) (hrow : ∀ y ∈ row, in64 y.f1) (hc3 : row.length ≤ c3)
  (w : World) (hG : GlobE w) (hC : Kd.C k26 w A x.f3.length x.f3) (hD : Kd.C k58 w B l.length l) (hRw : Kd.C k23 w D row.length row) :
  Calls Tryd.prog 4 #[.agg #[.int .i64 x.f0, .string x.f1, .int .i64 x.f2.f0, .int .i64 x.f2.f1, .string x.f2.f2, .slice A x.f3.length c], .slice B l.length c2, .slice D row.length c3] w fun e w' => e = .returned (.bool true) ∧ Below w.heap.size w w' := by
 obtain ⟨b, hbe, hb⟩ := far_ev x hwf l hL row hRl
 obtain ⟨KB, hKB⟩ := hbe.get
 have HAl := Aside0.mk (fun W (hW : BoxE x A c w W) => alive_calls W (hG.below hW.below))
 have HFar := Aside0.mk (fun W (hW : BoxE x A c w W) => headgatelaw13_far.calls KB x.f0 x.f1 x.f2.f0 x.f2.f1 x.f2.f2 A c x.f3 B c2 l D c3 row b W (Kd.C_below hC hW.below) hl (Kd.C_below hD hW.below) hc2 (Kd.C_below hRw hW.below) hc3 hKB)
 have HB := Aside0.mk (BoxE.new x A c w)
 obtain ⟨m0, m1, m2, m3, m4, m5⟩ := HB.out.cells
 clear hbe hKB
 cases b with
 | true =>
  clear hb hG hC hD hRw
  go_enter Tryd.func4, Tryd.ntmps4
  go_wp2_with (first
   | (go_at_call 10; refine (HAl.out _ HB.out).mono ?_; rintro e w1 ⟨rfl, hb1⟩; have HB1 := Aside0.mk (HB.out.step hb1); clear hb1; clear m0 m1 m2 m3 m4 m5; obtain ⟨m0, m1, m2, m3, m4, m5⟩ := HB1.out.cells)
   | (go_at_call 11; refine (HFar.out _ HB1.out).mono ?_; rintro e w2 ⟨rfl, hb2⟩; have HB2 := Aside0.mk (HB1.out.step hb2); clear hb2; clear m0 m1 m2 m3 m4 m5; obtain ⟨m0, m1, m2, m3, m4, m5⟩ := HB2.out.cells))
  first | exact ⟨rfl, HB2.out.below⟩ | (go_ret; exact ⟨rfl, HB2.out.below⟩)
 | false =>
  obtain ⟨⟨hgd, hs⟩, ⟨_, hns⟩, _⟩ := hb rfl
  have hns2 : ∀ c ∈ l, c.f0.size ≤ 140737488355328 := fun c hc => Nat.le_trans (hns c hc) (by decide)
  have HW := Aside0.mk (fun W (hW : BoxE x A c w W) => Worth_calls x hgd A c hl B c2 l hL hns2 hc2 D c3 row hrow hc3 W (hG.below hW.below) (Kd.C_below hC hW.below) (Kd.C_below hD hW.below) (Kd.C_below hRw hW.below))
  have HR := Aside0.mk (fun W (hW : BoxE x A c w W) => show Calls Tryd.prog 15 #[.agg #[.int .i64 x.f0, .string x.f1, .int .i64 x.f2.f0, .int .i64 x.f2.f1, .string x.f2.f2, .slice A x.f3.length c], .slice B l.length c2, .slice D row.length c3] W (fun e w' => e = .returned (.tuple #[.agg #[.int .i64 (worthX l row x).1.f0, .int .i64 (worthX l row x).1.f1, .string (worthX l row x).1.f2], .int .i64 (worthX l row x).2]) ∧ Below W.heap.size W w') from refWorth_calls x hwf hgd hs A c hl B c2 l hL hns2 hc2 D c3 row hRl hrow hc3 W (hG.below hW.below) (Kd.C_below hC hW.below) (Kd.C_below hD hW.below) (Kd.C_below hRw hW.below))
  clear hb hgd hs hG hC hD hns hns2 hRw
  generalize (worthX l row x).1 = v at HW HR
  generalize (worthX l row x).2 = g at HW HR
  have hvv : eqv v.f0 v.f0 v.f1 v.f1 v.f2 v.f2 = true := decide_eq_true rfl
  have hgg : (g == g) = true := beq_self_eq_true g
  go_enter Tryd.func4, Tryd.ntmps4
  go_upto_region 6 with (first
   | (go_at_call 10; refine (HAl.out _ HB.out).mono ?_; rintro e w1 ⟨rfl, hb1⟩; have HB1 := Aside0.mk (HB.out.step hb1); clear hb1; clear m0 m1 m2 m3 m4 m5; obtain ⟨m0, m1, m2, m3, m4, m5⟩ := HB1.out.cells)
   | (go_at_call 11; refine (HFar.out _ HB1.out).mono ?_; rintro e w2 ⟨rfl, hb2⟩; have HB2 := Aside0.mk (HB1.out.step hb2); clear hb2; clear m0 m1 m2 m3 m4 m5; obtain ⟨m0, m1, m2, m3, m4, m5⟩ := HB2.out.cells)
   | (go_at_call 14; refine (HW.out _ HB2.out).mono ?_; rintro e w3 ⟨rfl, hb3⟩; have HB3 := Aside0.mk (HB2.out.step hb3); clear hb3 m0 m1 m2 m3 m4 m5))
  have HB4 := Aside0.mk (HB3.out.step (below_alloc (Below.refl _ _) (.cells #[.int .i64 v.f0, .int .i64 v.f1, .string v.f2] 23)))
  have hv1 := blk_new w3 (.cells #[.int .i64 v.f0, .int .i64 v.f1, .string v.f2] 23)
  generalize w3.heap.size = gv at hv1 ⊢
  generalize w3.alloc (.cells #[.int .i64 v.f0, .int .i64 v.f1, .string v.f2] 23) = W4 at HB4 hv1 ⊢
  have HV := Aside0.mk hv1
  clear hv1
  obtain ⟨m0, m1, m2, m3, m4, m5⟩ := HB4.out.cells
  go_upto_region 7 with (go_at_call 15; refine (HR.out _ HB4.out).mono ?_; rintro e w5 ⟨rfl, hb5⟩; have HB5 := Aside0.mk (HB4.out.step hb5); have HV5 := Aside0.mk (blk_below HV.out hb5); clear hb5 HV m0 m1 m2 m3 m4 m5)
  have HB6 := Aside0.mk (HB5.out.step (below_alloc (Below.refl _ _) (.cells #[.int .i64 v.f0, .int .i64 v.f1, .string v.f2] 23)))
  have hv1 := blk_alloc HV5.out (.cells #[.int .i64 v.f0, .int .i64 v.f1, .string v.f2] 23)
  have hv2 := blk_new w5 (.cells #[.int .i64 v.f0, .int .i64 v.f1, .string v.f2] 23)
  generalize w5.heap.size = gu at hv2 ⊢
  generalize w5.alloc (.cells #[.int .i64 v.f0, .int .i64 v.f1, .string v.f2] 23) = W6 at HB6 hv1 hv2 ⊢
  have p0 : W6.cell? ⟨gv, 0, none⟩ = some (.int .i64 v.f0) := (blk_cell hv1 0).trans rfl
  have p1 : W6.cell? ⟨gv, 1, none⟩ = some (.int .i64 v.f1) := (blk_cell hv1 1).trans rfl
  have p2 : W6.cell? ⟨gv, 2, none⟩ = some (.string v.f2) := (blk_cell hv1 2).trans rfl
  have q0 : W6.cell? ⟨gu, 0, none⟩ = some (.int .i64 v.f0) := (blk_cell hv2 0).trans rfl
  have q1 : W6.cell? ⟨gu, 1, none⟩ = some (.int .i64 v.f1) := (blk_cell hv2 1).trans rfl
  have q2 : W6.cell? ⟨gu, 2, none⟩ = some (.string v.f2) := (blk_cell hv2 2).trans rfl
  clear hv1 hv2
  go_wp2
  all_goals (first | exact ⟨rfl, HB6.out.below⟩ | (go_ret; exact ⟨by first | rfl | (simp; done) | (simp [*]; done), HB6.out.below⟩))
noncomputable def headgatelaw13_ExprWorth.f (k : Nat) (a0 : Int) (a1 : ByteArray) (a2 a3 : Int) (a4 : ByteArray) (l : List Ex) (cs : List Co) (row : List Va) : Option Bool := @ite _ (wfE ⟨a0, a1, ⟨a2, a3, a4⟩, l⟩ ∧ cs.length ≤ 140737488355328 ∧ row.length ≤ 140737488355328 ∧ ∀ y ∈ row, in64 y.f1) (Classical.propDecidable _) (some true) none
theorem headgatelaw13_ExprWorth.calls (k : Nat) (a0 : Int) (a1 : ByteArray) (a2 a3 : Int) (a4 : ByteArray) (A : Option Addr) (c : Nat) (l : List Ex) (B : Option Addr) (c2 : Nat) (cs : List Co) (D : Option Addr) (c3 : Nat) (row : List Va) (r : Bool) (w : World) (hG : GlobE w) (hr : Kd.C k26 w A l.length l) (hc : l.length ≤ c) (hr2 : Kd.C k58 w B cs.length cs) (hc2 : cs.length ≤ c2) (hr3 : Kd.C k23 w D row.length row) (hc3 : row.length ≤ c3) (h : headgatelaw13_ExprWorth.f k a0 a1 a2 a3 a4 l cs row = some r) :
  Calls Tryd.prog 4 #[.agg #[.int .i64 a0, .string a1, .int .i64 a2, .int .i64 a3, .string a4, .slice A l.length c], .slice B cs.length c2, .slice D row.length c3] w fun e w' => e = .returned (.bool r) ∧ Below w.heap.size w w' := by
 unfold headgatelaw13_ExprWorth.f at h
 split at h
 ·rename_i hl
  obtain rfl : true = r := Option.some.inj h
  exact worth_walk ⟨a0, a1, ⟨a2, a3, a4⟩, l⟩ hl.1 A c hc B c2 cs hl.2.1 hc2 D c3 row hl.2.2.1 hl.2.2.2 hc3 w hG hr hr2 hr3
 ·cases h
theorem ExprWorth_pure (x : Ex) (cs : List Co) (row : List Va) (h : wfE x) (h1 : cs.length * 24 ≤ 140737488351232 ∧ ∀ y ∈ cs, (y.f0.size ≤ 140737488351232) ∧ ((Lit.int .i64 y.f1).wf = true)) (h2 : row.length * 32 ≤ 140737488351232 ∧ ∀ y ∈ row, ((Lit.int .i64 y.f0).wf = true) ∧ ((Lit.int .i64 y.f1).wf = true) ∧ (y.f2.size ≤ 140737488351232)) : ∃ k, headgatelaw13_ExprWorth.f k x.f0 x.f1 x.f2.f0 x.f2.f1 x.f2.f2 x.f3 cs row = some true := by
 obtain ⟨op, nm, v, ks⟩ := x
 exact ⟨0, by unfold headgatelaw13_ExprWorth.f; exact if_pos (c := wfE ⟨op, nm, v, ks⟩ ∧ cs.length ≤ 140737488355328 ∧ row.length ≤ 140737488355328 ∧ ∀ y ∈ row, in64 y.f1) ⟨h, by omega, by omega, fun y hy => wf64 (h2.2 y hy).2.1⟩⟩
end Go.Proofs.YtopolnbffmljaaaDoor.Q
