/- What package code's lists of pairs and of columns read one by one: walked. Printed by wip/gen/readp.py. -/
import Derived.Test.YtgihecpobichbaaReadW
import Derived.RegionCalls
import Derived.RangeFuncNested
import Derived.Test.YtgihecpobichbaaVarL
namespace Go.Proofs.Ytgihecpobichbaa.Q
open Go.RowKit Go.Proofs.YtgihecpobichbaaW.PrintWords Go.Proofs.YtgihecpobichbaaW.PrintLast Go.Proofs.YtgihecpobichbaaW.PrintMore
set_option linter.unusedVariables false
set_option linter.unusedSimpArgs false
theorem drew_gb (w : World) (row : Option Nat) : w.grownBy w.drew row := ⟨rfl, rfl, rfl, Nat.le_refl _, fun _ _ _ => rfl⟩
theorem gb_setAt (W : World) (b j : Nat) (v : Value) : W.grownBy (W.setCell ⟨b, j, none⟩ v) (some b) :=
  ⟨rfl, rfl, rfl, (KeepsWalks.setCell W _ v).size, fun k _ hk => Below.heap_setCell _ _ _ k (fun e => hk (by rw [e]))⟩
theorem RdS.lt2 {w0 w : World} {G : Nat} {l : List Int} (h : RdS w0 w G l) : G < w.heap.size := h.lt.1
theorem itemW_less (l : List Int) (a : ByteArray) (r : List Int) (h : itemW l = some (a, r)) : r.length ≤ l.length := by
  unfold itemW at h
  split at h
  · split at h
    · cases h
    · simp only [Option.some.injEq, Prod.mk.injEq] at h
      rw [← h.2, List.length_drop, List.length_drop]
      omega
  · cases h
theorem itemW_lt (l : List Int) (a : ByteArray) (r : List Int) (h : itemW l = some (a, r)) : r.length < l.length := by
  unfold itemW at h
  split at h
  · rename_i h0
    have hp := un_pos h0
    split at h
    · cases h
    · simp only [Option.some.injEq, Prod.mk.injEq] at h
      rw [← h.2, List.length_drop, List.length_drop]
      omega
  · cases h
theorem itemB_lt (l : List Int) (a : Int) (r : List Int) (h : itemB l = some (a, r)) : r.length < l.length := by
  cases l with
  | nil => cases h
  | cons c l =>
    simp only [itemB, Option.some.injEq, Prod.mk.injEq] at h
    rw [← h.2]
    simp
/-- The box that a closure holds: the reader's address. -/
def PBox (w : World) (p G : Nat) : Prop := w.heap[p]? = some (.cells #[.pointer (some ⟨G, 0, none⟩)] 129 (0, 0))
theorem PBox.cell {w : World} {p G : Nat} (h : PBox w p G) : w.cell? ⟨p, 0, none⟩ = some (.pointer (some ⟨G, 0, none⟩)) := (blk_cell h 0).trans rfl
theorem PBox.grown {w w' : World} {p G : Nat} (h : PBox w p G) (hg : w.grownBy w' (some G)) (hne : p ≠ G) : PBox w' p G := blk_grown h hg (fun e => by injection e with e; exact hne e)
/-- A pair. -/
def itemP (l : List Int) : Option (S74 × List Int) := (itemW l).bind fun p => (itemW p.2).map fun q => (⟨p.1, q.1⟩, q.2)
set_option maxHeartbeats 4000000 in
set_option maxRecDepth 100000 in
theorem nextP_1 (p G : Nat) (l : List Int) (hl : l.length ≤ 1000000000) (w0 w : World) (hs : RdS w0 w G l) (hp : PBox w p G) (hne : p ≠ G) (h1 : itemW l = none) :
    Calls Try.prog 89 #[.pointer (some ⟨p, 0, none⟩)] w fun E w' => E = .panicked badP ∧ w.grownBy w' (some G) := by
  obtain ⟨Q, hQ⟩ : ∃ Q : Ending → World → Prop, Q = fun E w' => E = .panicked badP ∧ w.grownBy w' (some G) := ⟨_, rfl⟩
  rw [← hQ]
  have NO : Aside0 (∀ w', w.grownBy w' (some G) → Q (.panicked badP) w') := ⟨fun w' h => by rw [hQ]; exact ⟨rfl, h⟩⟩
  clear hQ
  have C1 : Aside0 (∀ W, RdS w0 W G l → Calls Try.prog 84 #[.pointer (some ⟨G, 0, none⟩)] W fun E w' => E = .panicked badP ∧ W.grownBy w' (some G)) := ⟨fun W h => (word_item G l hl w0 W h).mono fun E w' h => ⟨h.2.1 h1, h.2.2⟩⟩
  have hG := hs.lt2
  have HG0 : Aside0 (w.grownBy ((w.alloc (.cells #[.string ⟨#[]⟩, .string ⟨#[]⟩] 74)).drew) (some G)) := ⟨World.grownBy.trans (World.grownBy_alloc w _ _) (drew_gb _ _)⟩
  have HS0 : Aside0 (RdS w0 ((w.alloc (.cells #[.string ⟨#[]⟩, .string ⟨#[]⟩] 74)).drew) G l) := ⟨(hs.step (World.grownBy_alloc w _ none) (by simp) (by simp)).step (drew_gb _ none) (by simp) (by simp)⟩
  have HP0 : Aside0 (PBox ((w.alloc (.cells #[.string ⟨#[]⟩, .string ⟨#[]⟩] 74)).drew) p G) := ⟨blk_drew (blk_alloc hp _)⟩
  have HT0 : Aside0 (((w.alloc (.cells #[.string ⟨#[]⟩, .string ⟨#[]⟩] 74)).drew).heap[w.heap.size]? = some (.cells #[.string ⟨#[]⟩, .string ⟨#[]⟩] 74 (0, 0))) := ⟨blk_drew (blk_new w _)⟩
  have PG := Aside0.mk hne
  have TG := Aside0.mk (show w.heap.size ≠ G by omega)
  have cp0 := HP0.out.cell
  clear hs hp hne hG h1 hl 
  go_enter Try.func89, Try.ntmps89
  go_upto_region 1 with (fail)
  refine wp_region_any (by kernel_rfl) ?_
  (try (change wpAny _ _ _ _ _ _ _ (World.drew _)))
  refine wpAny_ready (rs := [0, 2]) (by kernel_rfl) (by simp) ?_
  refine AllReady.cons rfl (fun K hK => ?_) (AllReady.cons rfl (fun K hK => ?_) (AllReady.nil))
  · go_simp
    refine hK _ _ ?_
    clear hK K
    refine wpAny_ready (rs := [1, 2]) (by kernel_rfl) (by simp) ?_
    refine AllReady.cons rfl (fun K hK => ?_) (AllReady.cons rfl (fun K hK => ?_) (AllReady.nil))
    · go_simp
      go_wp2_with (go_at_call 84; refine (C1.out _ HS0.out).mono ?_; rintro E w1 ⟨rfl, hg1⟩)
      exact ⟨rfl, NO.out _ (gb_trans HG0.out hg1)⟩
    · go_simp
      refine hK _ _ ?_
      clear hK K
      refine wpAny_ready (rs := [1]) (by kernel_rfl) (by simp) ?_
      refine AllReady.cons rfl (fun K hK => ?_) (AllReady.nil)
      · go_simp
        go_wp2_with (go_at_call 84; refine (C1.out _ HS0.out).mono ?_; rintro E w1 ⟨rfl, hg1⟩)
        exact ⟨rfl, NO.out _ (gb_trans HG0.out hg1)⟩
  · go_simp
    refine hK _ _ ?_
    clear hK K
    refine wpAny_ready (rs := [0]) (by kernel_rfl) (by simp) ?_
    refine AllReady.cons rfl (fun K hK => ?_) (AllReady.nil)
    · go_simp
      refine hK _ _ ?_
      clear hK K
      refine wpAny_ready (rs := [1]) (by kernel_rfl) (by simp) ?_
      refine AllReady.cons rfl (fun K hK => ?_) (AllReady.nil)
      · go_simp
        go_wp2_with (go_at_call 84; refine (C1.out _ HS0.out).mono ?_; rintro E w1 ⟨rfl, hg1⟩)
        exact ⟨rfl, NO.out _ (gb_trans HG0.out hg1)⟩
set_option maxHeartbeats 4000000 in
set_option maxRecDepth 100000 in
theorem nextP_2 (p G : Nat) (l : List Int) (hl : l.length ≤ 1000000000) (w0 w : World) (hs : RdS w0 w G l) (hp : PBox w p G) (hne : p ≠ G) (x : ByteArray) (l1 : List Int) (h1 : itemW l = some (x, l1)) (h2 : itemW l1 = none) :
    Calls Try.prog 89 #[.pointer (some ⟨p, 0, none⟩)] w fun E w' => E = .panicked badP ∧ w.grownBy w' (some G) := by
  obtain ⟨Q, hQ⟩ : ∃ Q : Ending → World → Prop, Q = fun E w' => E = .panicked badP ∧ w.grownBy w' (some G) := ⟨_, rfl⟩
  rw [← hQ]
  have NO : Aside0 (∀ w', w.grownBy w' (some G) → Q (.panicked badP) w') := ⟨fun w' h => by rw [hQ]; exact ⟨rfl, h⟩⟩
  clear hQ
  have C1 : Aside0 (∀ W, RdS w0 W G l → Calls Try.prog 84 #[.pointer (some ⟨G, 0, none⟩)] W fun E w' => E = .returned (.string x) ∧ RdS w0 w' G l1 ∧ W.grownBy w' (some G)) := ⟨fun W h => (word_item G l hl w0 W h).mono fun E w' h => ⟨(h.1 x l1 h1).1, (h.1 x l1 h1).2, h.2.2⟩⟩
  have hl1 := itemW_less l x l1 h1
  have C2 : Aside0 (∀ W, RdS w0 W G l1 → Calls Try.prog 84 #[.pointer (some ⟨G, 0, none⟩)] W fun E w' => E = .panicked badP ∧ W.grownBy w' (some G)) := ⟨fun W h => (word_item G l1 (by omega) w0 W h).mono fun E w' h => ⟨h.2.1 h2, h.2.2⟩⟩
  have hG := hs.lt2
  have HG0 : Aside0 (w.grownBy ((w.alloc (.cells #[.string ⟨#[]⟩, .string ⟨#[]⟩] 74)).drew) (some G)) := ⟨World.grownBy.trans (World.grownBy_alloc w _ _) (drew_gb _ _)⟩
  have HS0 : Aside0 (RdS w0 ((w.alloc (.cells #[.string ⟨#[]⟩, .string ⟨#[]⟩] 74)).drew) G l) := ⟨(hs.step (World.grownBy_alloc w _ none) (by simp) (by simp)).step (drew_gb _ none) (by simp) (by simp)⟩
  have HP0 : Aside0 (PBox ((w.alloc (.cells #[.string ⟨#[]⟩, .string ⟨#[]⟩] 74)).drew) p G) := ⟨blk_drew (blk_alloc hp _)⟩
  have HT0 : Aside0 (((w.alloc (.cells #[.string ⟨#[]⟩, .string ⟨#[]⟩] 74)).drew).heap[w.heap.size]? = some (.cells #[.string ⟨#[]⟩, .string ⟨#[]⟩] 74 (0, 0))) := ⟨blk_drew (blk_new w _)⟩
  have PG := Aside0.mk hne
  have TG := Aside0.mk (show w.heap.size ≠ G by omega)
  have cp0 := HP0.out.cell
  clear hs hp hne hG h1 hl h2 hl1
  go_enter Try.func89, Try.ntmps89
  go_upto_region 1 with (fail)
  refine wp_region_any (by kernel_rfl) ?_
  (try (change wpAny _ _ _ _ _ _ _ (World.drew _)))
  refine wpAny_ready (rs := [0, 2]) (by kernel_rfl) (by simp) ?_
  refine AllReady.cons rfl (fun K hK => ?_) (AllReady.cons rfl (fun K hK => ?_) (AllReady.nil))
  · go_simp
    refine hK _ _ ?_
    clear hK K
    refine wpAny_ready (rs := [1, 2]) (by kernel_rfl) (by simp) ?_
    refine AllReady.cons rfl (fun K hK => ?_) (AllReady.cons rfl (fun K hK => ?_) (AllReady.nil))
    · go_simp
      go_wp2_with (go_at_call 84; refine (C1.out _ HS0.out).mono ?_; rintro E w1 ⟨rfl, hs1, hg1⟩; have HS1 := Aside0.mk hs1; have HG1 := Aside0.mk (gb_trans HG0.out hg1); have HP1 := Aside0.mk (HP0.out.grown hg1 PG.out); have HT1 := Aside0.mk (blk_grown HT0.out hg1 (fun e => by injection e with e; exact TG.out e)); have cp1 := HP1.out.cell; clear hs1 hg1)
      (try (refine hK _ _ ?_; clear hK K))
      refine wpAny_ready (rs := [2]) (by kernel_rfl) (by simp) ?_
      refine AllReady.cons rfl (fun K hK => ?_) (AllReady.nil)
      · go_simp
        refine hK _ _ ?_
        clear hK K
        refine wpAny_ready (rs := [3]) (by kernel_rfl) (by simp) ?_
        refine AllReady.cons rfl (fun K hK => ?_) (AllReady.nil)
        · go_simp
          go_wp2_with (go_at_call 84; refine (C2.out _ HS1.out).mono ?_; rintro E w2 ⟨rfl, hg2⟩)
          exact ⟨rfl, NO.out _ (gb_trans HG1.out hg2)⟩
    · go_simp
      refine hK _ _ ?_
      clear hK K
      refine wpAny_ready (rs := [1]) (by kernel_rfl) (by simp) ?_
      refine AllReady.cons rfl (fun K hK => ?_) (AllReady.nil)
      · go_simp
        go_wp2_with (go_at_call 84; refine (C1.out _ HS0.out).mono ?_; rintro E w1 ⟨rfl, hs1, hg1⟩; have HS1 := Aside0.mk hs1; have HG1 := Aside0.mk (gb_trans HG0.out hg1); have HP1 := Aside0.mk (HP0.out.grown hg1 PG.out); have HT1 := Aside0.mk (blk_grown HT0.out hg1 (fun e => by injection e with e; exact TG.out e)); have cp1 := HP1.out.cell; clear hs1 hg1)
        (try (refine hK _ _ ?_; clear hK K))
        refine wpAny_ready (rs := [3]) (by kernel_rfl) (by simp) ?_
        refine AllReady.cons rfl (fun K hK => ?_) (AllReady.nil)
        · go_simp
          go_wp2_with (go_at_call 84; refine (C2.out _ HS1.out).mono ?_; rintro E w2 ⟨rfl, hg2⟩)
          exact ⟨rfl, NO.out _ (gb_trans HG1.out hg2)⟩
  · go_simp
    refine hK _ _ ?_
    clear hK K
    refine wpAny_ready (rs := [0]) (by kernel_rfl) (by simp) ?_
    refine AllReady.cons rfl (fun K hK => ?_) (AllReady.nil)
    · go_simp
      refine hK _ _ ?_
      clear hK K
      refine wpAny_ready (rs := [1]) (by kernel_rfl) (by simp) ?_
      refine AllReady.cons rfl (fun K hK => ?_) (AllReady.nil)
      · go_simp
        go_wp2_with (go_at_call 84; refine (C1.out _ HS0.out).mono ?_; rintro E w1 ⟨rfl, hs1, hg1⟩; have HS1 := Aside0.mk hs1; have HG1 := Aside0.mk (gb_trans HG0.out hg1); have HP1 := Aside0.mk (HP0.out.grown hg1 PG.out); have HT1 := Aside0.mk (blk_grown HT0.out hg1 (fun e => by injection e with e; exact TG.out e)); have cp1 := HP1.out.cell; clear hs1 hg1)
        (try (refine hK _ _ ?_; clear hK K))
        refine wpAny_ready (rs := [3]) (by kernel_rfl) (by simp) ?_
        refine AllReady.cons rfl (fun K hK => ?_) (AllReady.nil)
        · go_simp
          go_wp2_with (go_at_call 84; refine (C2.out _ HS1.out).mono ?_; rintro E w2 ⟨rfl, hg2⟩)
          exact ⟨rfl, NO.out _ (gb_trans HG1.out hg2)⟩
set_option maxHeartbeats 4000000 in
set_option maxRecDepth 100000 in
theorem nextP_0 (p G : Nat) (l : List Int) (hl : l.length ≤ 1000000000) (w0 w : World) (hs : RdS w0 w G l) (hp : PBox w p G) (hne : p ≠ G) (x : ByteArray) (l1 : List Int) (h1 : itemW l = some (x, l1)) (y : ByteArray) (l2 : List Int) (h2 : itemW l1 = some (y, l2)) :
    Calls Try.prog 89 #[.pointer (some ⟨p, 0, none⟩)] w fun E w' => E = .returned (.agg #[.string x, .string y]) ∧ RdS w0 w' G l2 ∧ w.grownBy w' (some G) := by
  obtain ⟨Q, hQ⟩ : ∃ Q : Ending → World → Prop, Q = fun E w' => E = .returned (.agg #[.string x, .string y]) ∧ RdS w0 w' G l2 ∧ w.grownBy w' (some G) := ⟨_, rfl⟩
  rw [← hQ]
  have YES : Aside0 (∀ w', RdS w0 w' G l2 → w.grownBy w' (some G) → Q (.returned (.agg #[.string x, .string y])) w') := ⟨fun w' h h' => by rw [hQ]; exact ⟨rfl, h, h'⟩⟩
  clear hQ
  have C1 : Aside0 (∀ W, RdS w0 W G l → Calls Try.prog 84 #[.pointer (some ⟨G, 0, none⟩)] W fun E w' => E = .returned (.string x) ∧ RdS w0 w' G l1 ∧ W.grownBy w' (some G)) := ⟨fun W h => (word_item G l hl w0 W h).mono fun E w' h => ⟨(h.1 x l1 h1).1, (h.1 x l1 h1).2, h.2.2⟩⟩
  have hl1 := itemW_less l x l1 h1
  have C2 : Aside0 (∀ W, RdS w0 W G l1 → Calls Try.prog 84 #[.pointer (some ⟨G, 0, none⟩)] W fun E w' => E = .returned (Value.string y) ∧ RdS w0 w' G l2 ∧ W.grownBy w' (some G)) := ⟨fun W h => (word_item G l1 (by omega) w0 W h).mono fun E w' h => ⟨(h.1 y l2 h2).1, (h.1 y l2 h2).2, h.2.2⟩⟩
  have hG := hs.lt2
  have HG0 : Aside0 (w.grownBy ((w.alloc (.cells #[.string ⟨#[]⟩, .string ⟨#[]⟩] 74)).drew) (some G)) := ⟨World.grownBy.trans (World.grownBy_alloc w _ _) (drew_gb _ _)⟩
  have HS0 : Aside0 (RdS w0 ((w.alloc (.cells #[.string ⟨#[]⟩, .string ⟨#[]⟩] 74)).drew) G l) := ⟨(hs.step (World.grownBy_alloc w _ none) (by simp) (by simp)).step (drew_gb _ none) (by simp) (by simp)⟩
  have HP0 : Aside0 (PBox ((w.alloc (.cells #[.string ⟨#[]⟩, .string ⟨#[]⟩] 74)).drew) p G) := ⟨blk_drew (blk_alloc hp _)⟩
  have HT0 : Aside0 (((w.alloc (.cells #[.string ⟨#[]⟩, .string ⟨#[]⟩] 74)).drew).heap[w.heap.size]? = some (.cells #[.string ⟨#[]⟩, .string ⟨#[]⟩] 74 (0, 0))) := ⟨blk_drew (blk_new w _)⟩
  have PG := Aside0.mk hne
  have TG := Aside0.mk (show w.heap.size ≠ G by omega)
  have cp0 := HP0.out.cell
  have FIN : Aside0 (∀ w2, RdS w0 w2 G l2 → w.grownBy w2 (some G) → w2.heap[w.heap.size]? = some (.cells #[.string ⟨#[]⟩, .string ⟨#[]⟩] 74 (0, 0)) → RdS w0 ((w2.setCell ⟨w.heap.size, 0, none⟩ (.string x)).setCell ⟨w.heap.size, 1, none⟩ (.string y)) G l2 ∧ w.grownBy ((w2.setCell ⟨w.heap.size, 0, none⟩ (.string x)).setCell ⟨w.heap.size, 1, none⟩ (.string y)) (some G) ∧ ((w2.setCell ⟨w.heap.size, 0, none⟩ (.string x)).setCell ⟨w.heap.size, 1, none⟩ (.string y)).heap[w.heap.size]? = some (.cells #[.string x, .string y] 74 (0, 0))) := ⟨fun w2 a b c => ⟨(a.step (gb_setAt w2 w.heap.size 0 _) (fun e => by injection e with e; omega) (fun k e => by injection e with e; have := hs.lt; omega)).step (gb_setAt _ w.heap.size 1 _) (fun e => by injection e with e; omega) (fun k e => by injection e with e; have := hs.lt; omega), gb_new (gb_new b (gb_setAt w2 w.heap.size 0 _) (fun k e => by injection e with e; omega)) (gb_setAt _ w.heap.size 1 _) (fun k e => by injection e with e; omega), blk_set (cs := #[.string x, .string ⟨#[]⟩]) (blk_set c 0 _) 1 _⟩⟩
  clear hs hp hne hG h1 hl h2 hl1
  go_enter Try.func89, Try.ntmps89
  go_upto_region 1 with (fail)
  refine wp_region_any (by kernel_rfl) ?_
  (try (change wpAny _ _ _ _ _ _ _ (World.drew _)))
  refine wpAny_ready (rs := [0, 2]) (by kernel_rfl) (by simp) ?_
  refine AllReady.cons rfl (fun K hK => ?_) (AllReady.cons rfl (fun K hK => ?_) (AllReady.nil))
  · go_simp
    refine hK _ _ ?_
    clear hK K
    refine wpAny_ready (rs := [1, 2]) (by kernel_rfl) (by simp) ?_
    refine AllReady.cons rfl (fun K hK => ?_) (AllReady.cons rfl (fun K hK => ?_) (AllReady.nil))
    · go_simp
      go_wp2_with (go_at_call 84; refine (C1.out _ HS0.out).mono ?_; rintro E w1 ⟨rfl, hs1, hg1⟩; have HS1 := Aside0.mk hs1; have HG1 := Aside0.mk (gb_trans HG0.out hg1); have HP1 := Aside0.mk (HP0.out.grown hg1 PG.out); have HT1 := Aside0.mk (blk_grown HT0.out hg1 (fun e => by injection e with e; exact TG.out e)); have cp1 := HP1.out.cell; clear hs1 hg1)
      (try (refine hK _ _ ?_; clear hK K))
      refine wpAny_ready (rs := [2]) (by kernel_rfl) (by simp) ?_
      refine AllReady.cons rfl (fun K hK => ?_) (AllReady.nil)
      · go_simp
        refine hK _ _ ?_
        clear hK K
        refine wpAny_ready (rs := [3]) (by kernel_rfl) (by simp) ?_
        refine AllReady.cons rfl (fun K hK => ?_) (AllReady.nil)
        · go_simp
          go_wp2_with (go_at_call 84; refine (C2.out _ HS1.out).mono ?_; rintro E w2 ⟨rfl, hs2, hg2⟩; have HS2 := Aside0.mk hs2; have HG2 := Aside0.mk (gb_trans HG1.out hg2); have HT2 := Aside0.mk (blk_grown HT1.out hg2 (fun e => by injection e with e; exact TG.out e)); have ct0 := blk_cell HT2.out 0; have ct1 := blk_cell HT2.out 1; have ft0 := blk_frozen HT2.out 0; have ft1 := blk_frozen HT2.out 1; clear hs2 hg2)
          (try (refine hK _ _ ?_; clear hK K))
          refine wpAny_ready (rs := [4]) (by kernel_rfl) (by simp) ?_
          refine AllReady.cons rfl (fun K hK => ?_) (AllReady.nil)
          · go_simp
            refine hK _ _ ?_
            clear hK K
            refine wpAny_ready (rs := [5]) (by kernel_rfl) (by simp) ?_
            refine AllReady.cons rfl (fun K hK => ?_) (AllReady.nil)
            · go_simp
              refine hK _ _ ?_
              clear hK K
              refine wpAny_done (by kernel_rfl) ?_ _
              go_wp2
              obtain ⟨q1, q2, q3⟩ := FIN.out _ HS2.out HG2.out HT2.out
              exact bodyPost_ret (results_single rfl (.cell _ _ _ _ _ rfl q3 Try.underlying74 rfl (by kernel_rfl) .nil)) rfl (YES.out _ q1 q2)
    · go_simp
      refine hK _ _ ?_
      clear hK K
      refine wpAny_ready (rs := [1]) (by kernel_rfl) (by simp) ?_
      refine AllReady.cons rfl (fun K hK => ?_) (AllReady.nil)
      · go_simp
        go_wp2_with (go_at_call 84; refine (C1.out _ HS0.out).mono ?_; rintro E w1 ⟨rfl, hs1, hg1⟩; have HS1 := Aside0.mk hs1; have HG1 := Aside0.mk (gb_trans HG0.out hg1); have HP1 := Aside0.mk (HP0.out.grown hg1 PG.out); have HT1 := Aside0.mk (blk_grown HT0.out hg1 (fun e => by injection e with e; exact TG.out e)); have cp1 := HP1.out.cell; clear hs1 hg1)
        (try (refine hK _ _ ?_; clear hK K))
        refine wpAny_ready (rs := [3]) (by kernel_rfl) (by simp) ?_
        refine AllReady.cons rfl (fun K hK => ?_) (AllReady.nil)
        · go_simp
          go_wp2_with (go_at_call 84; refine (C2.out _ HS1.out).mono ?_; rintro E w2 ⟨rfl, hs2, hg2⟩; have HS2 := Aside0.mk hs2; have HG2 := Aside0.mk (gb_trans HG1.out hg2); have HT2 := Aside0.mk (blk_grown HT1.out hg2 (fun e => by injection e with e; exact TG.out e)); have ct0 := blk_cell HT2.out 0; have ct1 := blk_cell HT2.out 1; have ft0 := blk_frozen HT2.out 0; have ft1 := blk_frozen HT2.out 1; clear hs2 hg2)
          (try (refine hK _ _ ?_; clear hK K))
          refine wpAny_ready (rs := [4]) (by kernel_rfl) (by simp) ?_
          refine AllReady.cons rfl (fun K hK => ?_) (AllReady.nil)
          · go_simp
            refine hK _ _ ?_
            clear hK K
            refine wpAny_ready (rs := [5]) (by kernel_rfl) (by simp) ?_
            refine AllReady.cons rfl (fun K hK => ?_) (AllReady.nil)
            · go_simp
              refine hK _ _ ?_
              clear hK K
              refine wpAny_done (by kernel_rfl) ?_ _
              go_wp2
              obtain ⟨q1, q2, q3⟩ := FIN.out _ HS2.out HG2.out HT2.out
              exact bodyPost_ret (results_single rfl (.cell _ _ _ _ _ rfl q3 Try.underlying74 rfl (by kernel_rfl) .nil)) rfl (YES.out _ q1 q2)
  · go_simp
    refine hK _ _ ?_
    clear hK K
    refine wpAny_ready (rs := [0]) (by kernel_rfl) (by simp) ?_
    refine AllReady.cons rfl (fun K hK => ?_) (AllReady.nil)
    · go_simp
      refine hK _ _ ?_
      clear hK K
      refine wpAny_ready (rs := [1]) (by kernel_rfl) (by simp) ?_
      refine AllReady.cons rfl (fun K hK => ?_) (AllReady.nil)
      · go_simp
        go_wp2_with (go_at_call 84; refine (C1.out _ HS0.out).mono ?_; rintro E w1 ⟨rfl, hs1, hg1⟩; have HS1 := Aside0.mk hs1; have HG1 := Aside0.mk (gb_trans HG0.out hg1); have HP1 := Aside0.mk (HP0.out.grown hg1 PG.out); have HT1 := Aside0.mk (blk_grown HT0.out hg1 (fun e => by injection e with e; exact TG.out e)); have cp1 := HP1.out.cell; clear hs1 hg1)
        (try (refine hK _ _ ?_; clear hK K))
        refine wpAny_ready (rs := [3]) (by kernel_rfl) (by simp) ?_
        refine AllReady.cons rfl (fun K hK => ?_) (AllReady.nil)
        · go_simp
          go_wp2_with (go_at_call 84; refine (C2.out _ HS1.out).mono ?_; rintro E w2 ⟨rfl, hs2, hg2⟩; have HS2 := Aside0.mk hs2; have HG2 := Aside0.mk (gb_trans HG1.out hg2); have HT2 := Aside0.mk (blk_grown HT1.out hg2 (fun e => by injection e with e; exact TG.out e)); have ct0 := blk_cell HT2.out 0; have ct1 := blk_cell HT2.out 1; have ft0 := blk_frozen HT2.out 0; have ft1 := blk_frozen HT2.out 1; clear hs2 hg2)
          (try (refine hK _ _ ?_; clear hK K))
          refine wpAny_ready (rs := [4]) (by kernel_rfl) (by simp) ?_
          refine AllReady.cons rfl (fun K hK => ?_) (AllReady.nil)
          · go_simp
            refine hK _ _ ?_
            clear hK K
            refine wpAny_ready (rs := [5]) (by kernel_rfl) (by simp) ?_
            refine AllReady.cons rfl (fun K hK => ?_) (AllReady.nil)
            · go_simp
              refine hK _ _ ?_
              clear hK K
              refine wpAny_done (by kernel_rfl) ?_ _
              go_wp2
              obtain ⟨q1, q2, q3⟩ := FIN.out _ HS2.out HG2.out HT2.out
              exact bodyPost_ret (results_single rfl (.cell _ _ _ _ _ rfl q3 Try.underlying74 rfl (by kernel_rfl) .nil)) rfl (YES.out _ q1 q2)
/-- A column. -/
def itemC (l : List Int) : Option (S43 × List Int) := (itemW l).bind fun p => (itemB p.2).map fun q => (⟨p.1, IntKind.i64.wrap q.1⟩, q.2)
set_option maxHeartbeats 4000000 in
set_option maxRecDepth 100000 in
theorem nextC_1 (p G : Nat) (l : List Int) (hl : l.length ≤ 1000000000) (w0 w : World) (hs : RdS w0 w G l) (hp : PBox w p G) (hne : p ≠ G) (h1 : itemW l = none) :
    Calls Try.prog 83 #[.pointer (some ⟨p, 0, none⟩)] w fun E w' => E = .panicked badP ∧ w.grownBy w' (some G) := by
  obtain ⟨Q, hQ⟩ : ∃ Q : Ending → World → Prop, Q = fun E w' => E = .panicked badP ∧ w.grownBy w' (some G) := ⟨_, rfl⟩
  rw [← hQ]
  have NO : Aside0 (∀ w', w.grownBy w' (some G) → Q (.panicked badP) w') := ⟨fun w' h => by rw [hQ]; exact ⟨rfl, h⟩⟩
  clear hQ
  have C1 : Aside0 (∀ W, RdS w0 W G l → Calls Try.prog 84 #[.pointer (some ⟨G, 0, none⟩)] W fun E w' => E = .panicked badP ∧ W.grownBy w' (some G)) := ⟨fun W h => (word_item G l hl w0 W h).mono fun E w' h => ⟨h.2.1 h1, h.2.2⟩⟩
  have hG := hs.lt2
  have HG0 : Aside0 (w.grownBy ((w.alloc (.cells #[.string ⟨#[]⟩, .int .i64 0] 43)).drew) (some G)) := ⟨World.grownBy.trans (World.grownBy_alloc w _ _) (drew_gb _ _)⟩
  have HS0 : Aside0 (RdS w0 ((w.alloc (.cells #[.string ⟨#[]⟩, .int .i64 0] 43)).drew) G l) := ⟨(hs.step (World.grownBy_alloc w _ none) (by simp) (by simp)).step (drew_gb _ none) (by simp) (by simp)⟩
  have HP0 : Aside0 (PBox ((w.alloc (.cells #[.string ⟨#[]⟩, .int .i64 0] 43)).drew) p G) := ⟨blk_drew (blk_alloc hp _)⟩
  have HT0 : Aside0 (((w.alloc (.cells #[.string ⟨#[]⟩, .int .i64 0] 43)).drew).heap[w.heap.size]? = some (.cells #[.string ⟨#[]⟩, .int .i64 0] 43 (0, 0))) := ⟨blk_drew (blk_new w _)⟩
  have PG := Aside0.mk hne
  have TG := Aside0.mk (show w.heap.size ≠ G by omega)
  have cp0 := HP0.out.cell
  clear hs hp hne hG h1 hl 
  go_enter Try.func83, Try.ntmps83
  go_upto_region 1 with (fail)
  refine wp_region_any (by kernel_rfl) ?_
  (try (change wpAny _ _ _ _ _ _ _ (World.drew _)))
  refine wpAny_ready (rs := [0, 2]) (by kernel_rfl) (by simp) ?_
  refine AllReady.cons rfl (fun K hK => ?_) (AllReady.cons rfl (fun K hK => ?_) (AllReady.nil))
  · go_simp
    refine hK _ _ ?_
    clear hK K
    refine wpAny_ready (rs := [1, 2]) (by kernel_rfl) (by simp) ?_
    refine AllReady.cons rfl (fun K hK => ?_) (AllReady.cons rfl (fun K hK => ?_) (AllReady.nil))
    · go_simp
      go_wp2_with (go_at_call 84; refine (C1.out _ HS0.out).mono ?_; rintro E w1 ⟨rfl, hg1⟩)
      exact ⟨rfl, NO.out _ (gb_trans HG0.out hg1)⟩
    · go_simp
      refine hK _ _ ?_
      clear hK K
      refine wpAny_ready (rs := [1]) (by kernel_rfl) (by simp) ?_
      refine AllReady.cons rfl (fun K hK => ?_) (AllReady.nil)
      · go_simp
        go_wp2_with (go_at_call 84; refine (C1.out _ HS0.out).mono ?_; rintro E w1 ⟨rfl, hg1⟩)
        exact ⟨rfl, NO.out _ (gb_trans HG0.out hg1)⟩
  · go_simp
    refine hK _ _ ?_
    clear hK K
    refine wpAny_ready (rs := [0]) (by kernel_rfl) (by simp) ?_
    refine AllReady.cons rfl (fun K hK => ?_) (AllReady.nil)
    · go_simp
      refine hK _ _ ?_
      clear hK K
      refine wpAny_ready (rs := [1]) (by kernel_rfl) (by simp) ?_
      refine AllReady.cons rfl (fun K hK => ?_) (AllReady.nil)
      · go_simp
        go_wp2_with (go_at_call 84; refine (C1.out _ HS0.out).mono ?_; rintro E w1 ⟨rfl, hg1⟩)
        exact ⟨rfl, NO.out _ (gb_trans HG0.out hg1)⟩
set_option maxHeartbeats 4000000 in
set_option maxRecDepth 100000 in
theorem nextC_2 (p G : Nat) (l : List Int) (hl : l.length ≤ 1000000000) (w0 w : World) (hs : RdS w0 w G l) (hp : PBox w p G) (hne : p ≠ G) (x : ByteArray) (l1 : List Int) (h1 : itemW l = some (x, l1)) (h2 : itemB l1 = none) :
    Calls Try.prog 83 #[.pointer (some ⟨p, 0, none⟩)] w fun E w' => E = .panicked badP ∧ w.grownBy w' (some G) := by
  obtain ⟨Q, hQ⟩ : ∃ Q : Ending → World → Prop, Q = fun E w' => E = .panicked badP ∧ w.grownBy w' (some G) := ⟨_, rfl⟩
  rw [← hQ]
  have NO : Aside0 (∀ w', w.grownBy w' (some G) → Q (.panicked badP) w') := ⟨fun w' h => by rw [hQ]; exact ⟨rfl, h⟩⟩
  clear hQ
  have C1 : Aside0 (∀ W, RdS w0 W G l → Calls Try.prog 84 #[.pointer (some ⟨G, 0, none⟩)] W fun E w' => E = .returned (.string x) ∧ RdS w0 w' G l1 ∧ W.grownBy w' (some G)) := ⟨fun W h => (word_item G l hl w0 W h).mono fun E w' h => ⟨(h.1 x l1 h1).1, (h.1 x l1 h1).2, h.2.2⟩⟩
  have hl1 := itemW_less l x l1 h1
  have C2 : Aside0 (∀ W, RdS w0 W G l1 → Calls Try.prog 85 #[.pointer (some ⟨G, 0, none⟩)] W fun E w' => E = .panicked badP ∧ W.grownBy w' (some G)) := ⟨fun W h => (byte_item G l1 (by omega) w0 W h).mono fun E w' h => ⟨h.2.1 h2, h.2.2⟩⟩
  have hG := hs.lt2
  have HG0 : Aside0 (w.grownBy ((w.alloc (.cells #[.string ⟨#[]⟩, .int .i64 0] 43)).drew) (some G)) := ⟨World.grownBy.trans (World.grownBy_alloc w _ _) (drew_gb _ _)⟩
  have HS0 : Aside0 (RdS w0 ((w.alloc (.cells #[.string ⟨#[]⟩, .int .i64 0] 43)).drew) G l) := ⟨(hs.step (World.grownBy_alloc w _ none) (by simp) (by simp)).step (drew_gb _ none) (by simp) (by simp)⟩
  have HP0 : Aside0 (PBox ((w.alloc (.cells #[.string ⟨#[]⟩, .int .i64 0] 43)).drew) p G) := ⟨blk_drew (blk_alloc hp _)⟩
  have HT0 : Aside0 (((w.alloc (.cells #[.string ⟨#[]⟩, .int .i64 0] 43)).drew).heap[w.heap.size]? = some (.cells #[.string ⟨#[]⟩, .int .i64 0] 43 (0, 0))) := ⟨blk_drew (blk_new w _)⟩
  have PG := Aside0.mk hne
  have TG := Aside0.mk (show w.heap.size ≠ G by omega)
  have cp0 := HP0.out.cell
  clear hs hp hne hG h1 hl h2 hl1
  go_enter Try.func83, Try.ntmps83
  go_upto_region 1 with (fail)
  refine wp_region_any (by kernel_rfl) ?_
  (try (change wpAny _ _ _ _ _ _ _ (World.drew _)))
  refine wpAny_ready (rs := [0, 2]) (by kernel_rfl) (by simp) ?_
  refine AllReady.cons rfl (fun K hK => ?_) (AllReady.cons rfl (fun K hK => ?_) (AllReady.nil))
  · go_simp
    refine hK _ _ ?_
    clear hK K
    refine wpAny_ready (rs := [1, 2]) (by kernel_rfl) (by simp) ?_
    refine AllReady.cons rfl (fun K hK => ?_) (AllReady.cons rfl (fun K hK => ?_) (AllReady.nil))
    · go_simp
      go_wp2_with (go_at_call 84; refine (C1.out _ HS0.out).mono ?_; rintro E w1 ⟨rfl, hs1, hg1⟩; have HS1 := Aside0.mk hs1; have HG1 := Aside0.mk (gb_trans HG0.out hg1); have HP1 := Aside0.mk (HP0.out.grown hg1 PG.out); have HT1 := Aside0.mk (blk_grown HT0.out hg1 (fun e => by injection e with e; exact TG.out e)); have cp1 := HP1.out.cell; clear hs1 hg1)
      (try (refine hK _ _ ?_; clear hK K))
      refine wpAny_ready (rs := [2]) (by kernel_rfl) (by simp) ?_
      refine AllReady.cons rfl (fun K hK => ?_) (AllReady.nil)
      · go_simp
        refine hK _ _ ?_
        clear hK K
        refine wpAny_ready (rs := [3]) (by kernel_rfl) (by simp) ?_
        refine AllReady.cons rfl (fun K hK => ?_) (AllReady.nil)
        · go_simp
          go_wp2_with (go_at_call 85; refine (C2.out _ HS1.out).mono ?_; rintro E w2 ⟨rfl, hg2⟩)
          exact ⟨rfl, NO.out _ (gb_trans HG1.out hg2)⟩
    · go_simp
      refine hK _ _ ?_
      clear hK K
      refine wpAny_ready (rs := [1]) (by kernel_rfl) (by simp) ?_
      refine AllReady.cons rfl (fun K hK => ?_) (AllReady.nil)
      · go_simp
        go_wp2_with (go_at_call 84; refine (C1.out _ HS0.out).mono ?_; rintro E w1 ⟨rfl, hs1, hg1⟩; have HS1 := Aside0.mk hs1; have HG1 := Aside0.mk (gb_trans HG0.out hg1); have HP1 := Aside0.mk (HP0.out.grown hg1 PG.out); have HT1 := Aside0.mk (blk_grown HT0.out hg1 (fun e => by injection e with e; exact TG.out e)); have cp1 := HP1.out.cell; clear hs1 hg1)
        (try (refine hK _ _ ?_; clear hK K))
        refine wpAny_ready (rs := [3]) (by kernel_rfl) (by simp) ?_
        refine AllReady.cons rfl (fun K hK => ?_) (AllReady.nil)
        · go_simp
          go_wp2_with (go_at_call 85; refine (C2.out _ HS1.out).mono ?_; rintro E w2 ⟨rfl, hg2⟩)
          exact ⟨rfl, NO.out _ (gb_trans HG1.out hg2)⟩
  · go_simp
    refine hK _ _ ?_
    clear hK K
    refine wpAny_ready (rs := [0]) (by kernel_rfl) (by simp) ?_
    refine AllReady.cons rfl (fun K hK => ?_) (AllReady.nil)
    · go_simp
      refine hK _ _ ?_
      clear hK K
      refine wpAny_ready (rs := [1]) (by kernel_rfl) (by simp) ?_
      refine AllReady.cons rfl (fun K hK => ?_) (AllReady.nil)
      · go_simp
        go_wp2_with (go_at_call 84; refine (C1.out _ HS0.out).mono ?_; rintro E w1 ⟨rfl, hs1, hg1⟩; have HS1 := Aside0.mk hs1; have HG1 := Aside0.mk (gb_trans HG0.out hg1); have HP1 := Aside0.mk (HP0.out.grown hg1 PG.out); have HT1 := Aside0.mk (blk_grown HT0.out hg1 (fun e => by injection e with e; exact TG.out e)); have cp1 := HP1.out.cell; clear hs1 hg1)
        (try (refine hK _ _ ?_; clear hK K))
        refine wpAny_ready (rs := [3]) (by kernel_rfl) (by simp) ?_
        refine AllReady.cons rfl (fun K hK => ?_) (AllReady.nil)
        · go_simp
          go_wp2_with (go_at_call 85; refine (C2.out _ HS1.out).mono ?_; rintro E w2 ⟨rfl, hg2⟩)
          exact ⟨rfl, NO.out _ (gb_trans HG1.out hg2)⟩
set_option maxHeartbeats 4000000 in
set_option maxRecDepth 100000 in
theorem nextC_0 (p G : Nat) (l : List Int) (hl : l.length ≤ 1000000000) (w0 w : World) (hs : RdS w0 w G l) (hp : PBox w p G) (hne : p ≠ G) (x : ByteArray) (l1 : List Int) (h1 : itemW l = some (x, l1)) (y : Int) (l2 : List Int) (h2 : itemB l1 = some (y, l2)) :
    Calls Try.prog 83 #[.pointer (some ⟨p, 0, none⟩)] w fun E w' => E = .returned (.agg #[.string x, .int .i64 (IntKind.i64.wrap y)]) ∧ RdS w0 w' G l2 ∧ w.grownBy w' (some G) := by
  obtain ⟨Q, hQ⟩ : ∃ Q : Ending → World → Prop, Q = fun E w' => E = .returned (.agg #[.string x, .int .i64 (IntKind.i64.wrap y)]) ∧ RdS w0 w' G l2 ∧ w.grownBy w' (some G) := ⟨_, rfl⟩
  rw [← hQ]
  have YES : Aside0 (∀ w', RdS w0 w' G l2 → w.grownBy w' (some G) → Q (.returned (.agg #[.string x, .int .i64 (IntKind.i64.wrap y)])) w') := ⟨fun w' h h' => by rw [hQ]; exact ⟨rfl, h, h'⟩⟩
  clear hQ
  have C1 : Aside0 (∀ W, RdS w0 W G l → Calls Try.prog 84 #[.pointer (some ⟨G, 0, none⟩)] W fun E w' => E = .returned (.string x) ∧ RdS w0 w' G l1 ∧ W.grownBy w' (some G)) := ⟨fun W h => (word_item G l hl w0 W h).mono fun E w' h => ⟨(h.1 x l1 h1).1, (h.1 x l1 h1).2, h.2.2⟩⟩
  have hl1 := itemW_less l x l1 h1
  have C2 : Aside0 (∀ W, RdS w0 W G l1 → Calls Try.prog 85 #[.pointer (some ⟨G, 0, none⟩)] W fun E w' => E = .returned (Value.int .u8 y) ∧ RdS w0 w' G l2 ∧ W.grownBy w' (some G)) := ⟨fun W h => (byte_item G l1 (by omega) w0 W h).mono fun E w' h => ⟨(h.1 y l2 h2).1, (h.1 y l2 h2).2, h.2.2⟩⟩
  have hG := hs.lt2
  have HG0 : Aside0 (w.grownBy ((w.alloc (.cells #[.string ⟨#[]⟩, .int .i64 0] 43)).drew) (some G)) := ⟨World.grownBy.trans (World.grownBy_alloc w _ _) (drew_gb _ _)⟩
  have HS0 : Aside0 (RdS w0 ((w.alloc (.cells #[.string ⟨#[]⟩, .int .i64 0] 43)).drew) G l) := ⟨(hs.step (World.grownBy_alloc w _ none) (by simp) (by simp)).step (drew_gb _ none) (by simp) (by simp)⟩
  have HP0 : Aside0 (PBox ((w.alloc (.cells #[.string ⟨#[]⟩, .int .i64 0] 43)).drew) p G) := ⟨blk_drew (blk_alloc hp _)⟩
  have HT0 : Aside0 (((w.alloc (.cells #[.string ⟨#[]⟩, .int .i64 0] 43)).drew).heap[w.heap.size]? = some (.cells #[.string ⟨#[]⟩, .int .i64 0] 43 (0, 0))) := ⟨blk_drew (blk_new w _)⟩
  have PG := Aside0.mk hne
  have TG := Aside0.mk (show w.heap.size ≠ G by omega)
  have cp0 := HP0.out.cell
  have FIN : Aside0 (∀ w2, RdS w0 w2 G l2 → w.grownBy w2 (some G) → w2.heap[w.heap.size]? = some (.cells #[.string ⟨#[]⟩, .int .i64 0] 43 (0, 0)) → RdS w0 ((w2.setCell ⟨w.heap.size, 0, none⟩ (.string x)).setCell ⟨w.heap.size, 1, none⟩ (.int .i64 (IntKind.i64.wrap y))) G l2 ∧ w.grownBy ((w2.setCell ⟨w.heap.size, 0, none⟩ (.string x)).setCell ⟨w.heap.size, 1, none⟩ (.int .i64 (IntKind.i64.wrap y))) (some G) ∧ ((w2.setCell ⟨w.heap.size, 0, none⟩ (.string x)).setCell ⟨w.heap.size, 1, none⟩ (.int .i64 (IntKind.i64.wrap y))).heap[w.heap.size]? = some (.cells #[.string x, .int .i64 (IntKind.i64.wrap y)] 43 (0, 0))) := ⟨fun w2 a b c => ⟨(a.step (gb_setAt w2 w.heap.size 0 _) (fun e => by injection e with e; omega) (fun k e => by injection e with e; have := hs.lt; omega)).step (gb_setAt _ w.heap.size 1 _) (fun e => by injection e with e; omega) (fun k e => by injection e with e; have := hs.lt; omega), gb_new (gb_new b (gb_setAt w2 w.heap.size 0 _) (fun k e => by injection e with e; omega)) (gb_setAt _ w.heap.size 1 _) (fun k e => by injection e with e; omega), blk_set (cs := #[.string x, .int .i64 0]) (blk_set c 0 _) 1 _⟩⟩
  clear hs hp hne hG h1 hl h2 hl1
  go_enter Try.func83, Try.ntmps83
  go_upto_region 1 with (fail)
  refine wp_region_any (by kernel_rfl) ?_
  (try (change wpAny _ _ _ _ _ _ _ (World.drew _)))
  refine wpAny_ready (rs := [0, 2]) (by kernel_rfl) (by simp) ?_
  refine AllReady.cons rfl (fun K hK => ?_) (AllReady.cons rfl (fun K hK => ?_) (AllReady.nil))
  · go_simp
    refine hK _ _ ?_
    clear hK K
    refine wpAny_ready (rs := [1, 2]) (by kernel_rfl) (by simp) ?_
    refine AllReady.cons rfl (fun K hK => ?_) (AllReady.cons rfl (fun K hK => ?_) (AllReady.nil))
    · go_simp
      go_wp2_with (go_at_call 84; refine (C1.out _ HS0.out).mono ?_; rintro E w1 ⟨rfl, hs1, hg1⟩; have HS1 := Aside0.mk hs1; have HG1 := Aside0.mk (gb_trans HG0.out hg1); have HP1 := Aside0.mk (HP0.out.grown hg1 PG.out); have HT1 := Aside0.mk (blk_grown HT0.out hg1 (fun e => by injection e with e; exact TG.out e)); have cp1 := HP1.out.cell; clear hs1 hg1)
      (try (refine hK _ _ ?_; clear hK K))
      refine wpAny_ready (rs := [2]) (by kernel_rfl) (by simp) ?_
      refine AllReady.cons rfl (fun K hK => ?_) (AllReady.nil)
      · go_simp
        refine hK _ _ ?_
        clear hK K
        refine wpAny_ready (rs := [3]) (by kernel_rfl) (by simp) ?_
        refine AllReady.cons rfl (fun K hK => ?_) (AllReady.nil)
        · go_simp
          go_wp2_with (go_at_call 85; refine (C2.out _ HS1.out).mono ?_; rintro E w2 ⟨rfl, hs2, hg2⟩; have HS2 := Aside0.mk hs2; have HG2 := Aside0.mk (gb_trans HG1.out hg2); have HT2 := Aside0.mk (blk_grown HT1.out hg2 (fun e => by injection e with e; exact TG.out e)); have ct0 := blk_cell HT2.out 0; have ct1 := blk_cell HT2.out 1; have ft0 := blk_frozen HT2.out 0; have ft1 := blk_frozen HT2.out 1; clear hs2 hg2)
          (try (refine hK _ _ ?_; clear hK K))
          refine wpAny_ready (rs := [4]) (by kernel_rfl) (by simp) ?_
          refine AllReady.cons rfl (fun K hK => ?_) (AllReady.nil)
          · go_simp
            refine hK _ _ ?_
            clear hK K
            refine wpAny_ready (rs := [5]) (by kernel_rfl) (by simp) ?_
            refine AllReady.cons rfl (fun K hK => ?_) (AllReady.nil)
            · go_simp
              refine hK _ _ ?_
              clear hK K
              refine wpAny_ready (rs := [6]) (by kernel_rfl) (by simp) ?_
              refine AllReady.cons rfl (fun K hK => ?_) (AllReady.nil)
              · go_simp
                refine hK _ _ ?_
                clear hK K
                refine wpAny_done (by kernel_rfl) ?_ _
                go_wp2
                obtain ⟨q1, q2, q3⟩ := FIN.out _ HS2.out HG2.out HT2.out
                exact bodyPost_ret (results_single rfl (.cell _ _ _ _ _ rfl q3 Try.underlying43 rfl (by kernel_rfl) .nil)) rfl (YES.out _ q1 q2)
    · go_simp
      refine hK _ _ ?_
      clear hK K
      refine wpAny_ready (rs := [1]) (by kernel_rfl) (by simp) ?_
      refine AllReady.cons rfl (fun K hK => ?_) (AllReady.nil)
      · go_simp
        go_wp2_with (go_at_call 84; refine (C1.out _ HS0.out).mono ?_; rintro E w1 ⟨rfl, hs1, hg1⟩; have HS1 := Aside0.mk hs1; have HG1 := Aside0.mk (gb_trans HG0.out hg1); have HP1 := Aside0.mk (HP0.out.grown hg1 PG.out); have HT1 := Aside0.mk (blk_grown HT0.out hg1 (fun e => by injection e with e; exact TG.out e)); have cp1 := HP1.out.cell; clear hs1 hg1)
        (try (refine hK _ _ ?_; clear hK K))
        refine wpAny_ready (rs := [3]) (by kernel_rfl) (by simp) ?_
        refine AllReady.cons rfl (fun K hK => ?_) (AllReady.nil)
        · go_simp
          go_wp2_with (go_at_call 85; refine (C2.out _ HS1.out).mono ?_; rintro E w2 ⟨rfl, hs2, hg2⟩; have HS2 := Aside0.mk hs2; have HG2 := Aside0.mk (gb_trans HG1.out hg2); have HT2 := Aside0.mk (blk_grown HT1.out hg2 (fun e => by injection e with e; exact TG.out e)); have ct0 := blk_cell HT2.out 0; have ct1 := blk_cell HT2.out 1; have ft0 := blk_frozen HT2.out 0; have ft1 := blk_frozen HT2.out 1; clear hs2 hg2)
          (try (refine hK _ _ ?_; clear hK K))
          refine wpAny_ready (rs := [4]) (by kernel_rfl) (by simp) ?_
          refine AllReady.cons rfl (fun K hK => ?_) (AllReady.nil)
          · go_simp
            refine hK _ _ ?_
            clear hK K
            refine wpAny_ready (rs := [5]) (by kernel_rfl) (by simp) ?_
            refine AllReady.cons rfl (fun K hK => ?_) (AllReady.nil)
            · go_simp
              refine hK _ _ ?_
              clear hK K
              refine wpAny_ready (rs := [6]) (by kernel_rfl) (by simp) ?_
              refine AllReady.cons rfl (fun K hK => ?_) (AllReady.nil)
              · go_simp
                refine hK _ _ ?_
                clear hK K
                refine wpAny_done (by kernel_rfl) ?_ _
                go_wp2
                obtain ⟨q1, q2, q3⟩ := FIN.out _ HS2.out HG2.out HT2.out
                exact bodyPost_ret (results_single rfl (.cell _ _ _ _ _ rfl q3 Try.underlying43 rfl (by kernel_rfl) .nil)) rfl (YES.out _ q1 q2)
  · go_simp
    refine hK _ _ ?_
    clear hK K
    refine wpAny_ready (rs := [0]) (by kernel_rfl) (by simp) ?_
    refine AllReady.cons rfl (fun K hK => ?_) (AllReady.nil)
    · go_simp
      refine hK _ _ ?_
      clear hK K
      refine wpAny_ready (rs := [1]) (by kernel_rfl) (by simp) ?_
      refine AllReady.cons rfl (fun K hK => ?_) (AllReady.nil)
      · go_simp
        go_wp2_with (go_at_call 84; refine (C1.out _ HS0.out).mono ?_; rintro E w1 ⟨rfl, hs1, hg1⟩; have HS1 := Aside0.mk hs1; have HG1 := Aside0.mk (gb_trans HG0.out hg1); have HP1 := Aside0.mk (HP0.out.grown hg1 PG.out); have HT1 := Aside0.mk (blk_grown HT0.out hg1 (fun e => by injection e with e; exact TG.out e)); have cp1 := HP1.out.cell; clear hs1 hg1)
        (try (refine hK _ _ ?_; clear hK K))
        refine wpAny_ready (rs := [3]) (by kernel_rfl) (by simp) ?_
        refine AllReady.cons rfl (fun K hK => ?_) (AllReady.nil)
        · go_simp
          go_wp2_with (go_at_call 85; refine (C2.out _ HS1.out).mono ?_; rintro E w2 ⟨rfl, hs2, hg2⟩; have HS2 := Aside0.mk hs2; have HG2 := Aside0.mk (gb_trans HG1.out hg2); have HT2 := Aside0.mk (blk_grown HT1.out hg2 (fun e => by injection e with e; exact TG.out e)); have ct0 := blk_cell HT2.out 0; have ct1 := blk_cell HT2.out 1; have ft0 := blk_frozen HT2.out 0; have ft1 := blk_frozen HT2.out 1; clear hs2 hg2)
          (try (refine hK _ _ ?_; clear hK K))
          refine wpAny_ready (rs := [4]) (by kernel_rfl) (by simp) ?_
          refine AllReady.cons rfl (fun K hK => ?_) (AllReady.nil)
          · go_simp
            refine hK _ _ ?_
            clear hK K
            refine wpAny_ready (rs := [5]) (by kernel_rfl) (by simp) ?_
            refine AllReady.cons rfl (fun K hK => ?_) (AllReady.nil)
            · go_simp
              refine hK _ _ ?_
              clear hK K
              refine wpAny_ready (rs := [6]) (by kernel_rfl) (by simp) ?_
              refine AllReady.cons rfl (fun K hK => ?_) (AllReady.nil)
              · go_simp
                refine hK _ _ ?_
                clear hK K
                refine wpAny_done (by kernel_rfl) ?_ _
                go_wp2
                obtain ⟨q1, q2, q3⟩ := FIN.out _ HS2.out HG2.out HT2.out
                exact bodyPost_ret (results_single rfl (.cell _ _ _ _ _ rfl q3 Try.underlying43 rfl (by kernel_rfl) .nil)) rfl (YES.out _ q1 q2)
end Go.Proofs.Ytgihecpobichbaa.Q
