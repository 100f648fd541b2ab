/- What package code's reader makes of a value: walked. -/
import Derived.Test.YtgihecpobichbaaReadP
import Derived.Test.YtgihecpobichbaaFx2
import Derived.Deep.CutBlock
namespace Go.Proofs.Ytgihecpobichbaa.Q
open Go.RowKit Go.Proofs.YtgihecpobichbaaW.PrintWords Go.Proofs.YtgihecpobichbaaW.PrintLast Go.Proofs.YtgihecpobichbaaW.PrintMore
set_option linter.unusedVariables false
set_option linter.unusedSimpArgs false

/-- What is wrong with a value. -/
def chkV (v : S116) : Int :=
  if v.f0 = 0 then (if v.f1 = 0 ∧ v.f2.toList = [] then 0 else 31)
  else if v.f0 = 1 then (if v.f2.toList = [] then 0 else 31)
  else if v.f0 = 2 then (if (v.f1 = 0 ∨ v.f1 = 1) ∧ v.f2.toList = [] then 0 else 31)
  else if v.f0 = 3 then (if v.f1 = 0 ∧ v.f2.size ≤ 200 then 0 else 31) else 30
theorem chk_ev (v : S116) : Ev (fun k => value_Check.f k v.f0 v.f1 v.f2) (chkV v) := by
  obtain ⟨k0, n, s⟩ := v
  unfold value_Check.f chkV
  simp only
  have hj1 : ∀ b : Bool, Ev (fun k => value_Check.j1 k b) (if b = true then 31 else 0) := by
    intro b
    refine Ev.step (f := fun _ => some (if b = true then 31 else 0)) (fun k => ?_) (Ev.now _)
    simp only [value_Check.j1]
    split <;> rfl
  have hj0 : ∀ (g : Bool), Ev (fun k => value_Check.j0 k g k0 n s) (if g = true then (if k0 = 3 then 0 else (if s.toList = [] then 0 else 31)) else 31) := by
    intro g
    cases g with
    | false =>
      refine Ev.step (fun k => ?_) (hj1 true)
      simp only [value_Check.j0]
      rw [if_neg (by simp)]
    | true =>
      by_cases h3 : k0 = 3
      · simp only [if_true, if_pos h3]
        refine Ev.step (fun k => ?_) (hj1 false)
        simp only [value_Check.j0]
        rw [if_pos trivial, if_pos h3]
      · simp only [if_true, if_neg h3]
        have h := hj1 (s.toList != [])
        have e : (if (s.toList != []) = true then (31 : Int) else 0) = (if s.toList = [] then 0 else 31) := by
          by_cases hs : s.toList = []
          · rw [if_neg (by simp [hs]), if_pos hs]
          · rw [if_pos (by simp [hs]), if_neg hs]
        rw [e] at h
        refine Ev.step (fun k => ?_) h
        simp only [value_Check.j0]
        rw [if_pos trivial, if_neg h3]
  by_cases h0 : k0 = 0
  · rw [if_pos h0]
    refine Ev.congr (fun k => if_pos h0) ?_
    have h := hj0 (n == 0)
    rw [if_neg (show ¬ k0 = 3 by omega)] at h
    by_cases hn : n = 0
    · rw [if_pos (by simp [hn])] at h
      have e : (if n = 0 ∧ s.toList = [] then (0 : Int) else 31) = (if s.toList = [] then 0 else 31) := by simp [hn]
      rw [e]
      exact h
    · rw [if_neg (by simp [hn])] at h
      rw [if_neg (fun z => hn z.1)]
      exact h
  · rw [if_neg h0]
    refine Ev.congr (fun k => if_neg h0) ?_
    by_cases h1 : k0 = 1
    · rw [if_pos h1]
      refine Ev.congr (fun k => if_pos h1) ?_
      have h := hj0 true
      rw [if_pos rfl, if_neg (show ¬ k0 = 3 by omega)] at h
      exact h
    · rw [if_neg h1]
      refine Ev.congr (fun k => if_neg h1) ?_
      by_cases h2 : k0 = 2
      · rw [if_pos h2]
        refine Ev.congr (fun k => if_pos h2) ?_
        by_cases hn : n = 0
        · refine Ev.congr (fun k => if_pos hn) ?_
          have h := hj0 true
          rw [if_pos rfl, if_neg (show ¬ k0 = 3 by omega)] at h
          have e : (if (n = 0 ∨ n = 1) ∧ s.toList = [] then (0 : Int) else 31) = (if s.toList = [] then 0 else 31) := by simp [hn]
          rw [e]
          exact h
        · refine Ev.congr (fun k => if_neg hn) ?_
          have h := hj0 (n == 1)
          rw [if_neg (show ¬ k0 = 3 by omega)] at h
          by_cases hn1 : n = 1
          · rw [if_pos (by simp [hn1])] at h
            have e : (if (n = 0 ∨ n = 1) ∧ s.toList = [] then (0 : Int) else 31) = (if s.toList = [] then 0 else 31) := by simp [hn1]
            rw [e]
            exact h
          · rw [if_neg (by simp [hn1])] at h
            rw [if_neg (fun z => by omega)]
            exact h
      · rw [if_neg h2]
        refine Ev.congr (fun k => if_neg h2) ?_
        by_cases h3 : k0 = 3
        · rw [if_pos h3]
          refine Ev.congr (fun k => if_pos h3) ?_
          by_cases hn : n = 0
          · refine Ev.congr (fun k => if_pos hn) ?_
            have h := hj0 (decide ((s.size : Int) ≤ 200))
            rw [if_pos h3] at h
            by_cases hs : s.size ≤ 200
            · rw [if_pos (by simp; omega)] at h
              rw [if_pos ⟨hn, hs⟩]
              exact h
            · rw [if_neg (by simp; omega)] at h
              rw [if_neg (fun z => hs z.2)]
              exact h
          · refine Ev.congr (fun k => if_neg hn) ?_
            have h := hj0 false
            rw [if_neg (by simp)] at h
            rw [if_neg (fun z => hn z.1)]
            exact h
        · rw [if_neg h3]
          exact Ev.congr (fun k => if_neg h3) (Ev.now _)
/-- What is read behind a value's first byte. -/
def preV (k : Int) (l : List Int) : Option (S116 × List Int) :=
  if k = 1 then (itemI l).map fun q => (⟨k, q.1, ⟨#[]⟩⟩, q.2)
  else if k = 2 then (itemB l).map fun q => (⟨k, wrap64 q.1, ⟨#[]⟩⟩, q.2)
  else if k = 3 then (itemW l).map fun q => (⟨k, 0, q.1⟩, q.2)
  else some (⟨k, 0, ⟨#[]⟩⟩, l)
def itemV (l : List Int) : Option (S116 × List Int) := (itemB l).bind fun p => (preV (wrap64 p.1) p.2).bind fun q => if chkV q.1 = 0 then some q else none
set_option maxHeartbeats 4000000 in
set_option maxRecDepth 100000 in
theorem value_item (G : Nat) (l : List Int) (hl : l.length ≤ 1000000000) (w0 w : World) (hs : RdS w0 w G l) :
    Calls Try.prog 79 #[.pointer (some ⟨G, 0, none⟩)] w (RdOut w0 w G (itemV l) (fun x : S116 => .agg #[.int .i64 x.f0, .int .i64 x.f1, .string x.f2])) := by
  have hG := hs.lt2
  have HL0 := Aside0.mk (show w0.heap.size ≤ w.heap.size from hs.below.size)
  obtain ⟨RR, hRR⟩ : ∃ RR, itemV l = RR := ⟨_, rfl⟩
  rw [hRR]
  obtain ⟨Q, hQ⟩ : ∃ Q : Ending → World → Prop, Q = RdOut w0 w G RR (fun x : S116 => .agg #[.int .i64 x.f0, .int .i64 x.f1, .string x.f2]) := ⟨_, rfl⟩
  rw [← hQ]
  have hno : Aside0 (∀ w', RR = none → w.grownBy w' (some G) → Q (.panicked badP) w') := ⟨by
    intro w' h1 h2
    rw [hQ]
    exact ⟨fun xs l' h => (by rw [h1] at h; cases h), fun _ => rfl, h2⟩⟩
  have hyes : Aside0 (∀ w' x l', RR = some (x, l') → RdS w0 w' G l' → w.grownBy w' (some G) → Q (.returned (.agg #[.int .i64 x.f0, .int .i64 x.f1, .string x.f2])) w') := ⟨by
    intro w' x l' h1 h3 h4
    rw [hQ]
    refine ⟨fun xs' l'' h => ?_, fun h => (by rw [h1] at h; cases h), h4⟩
    rw [h1] at h
    simp only [Option.some.injEq, Prod.mk.injEq] at h
    obtain ⟨rfl, rfl⟩ := h
    exact ⟨rfl, h3⟩⟩
  clear hQ
  unfold itemV at hRR
  have hs1 := hs.step (World.grownBy_alloc w (.cells #[.int .i64 0, .int .i64 0, .string ⟨#[]⟩] 116) none) (by simp) (by simp)
  have hbi := byte_item G l hl w0 _ hs1
  have HG0 := Aside0.mk (World.grownBy_alloc w (.cells #[.int .i64 0, .int .i64 0, .string ⟨#[]⟩] 116) (some G))
  have HT0 : Aside0 ((w.alloc (.cells #[.int .i64 0, .int .i64 0, .string ⟨#[]⟩] 116)).heap[w.heap.size]? = some (.cells #[.int .i64 0, .int .i64 0, .string ⟨#[]⟩] 116 (0, 0))) := ⟨blk_new w _⟩
  have HTG := Aside0.mk (show w.heap.size ≠ G by omega)
  clear hs hs1 hG
  cases h1 : itemB l with
  | none =>
    rw [h1] at hRR
    have HR := Aside0.mk hRR
    have hc : Calls Try.prog 85 #[.pointer (some ⟨G, 0, none⟩)] (w.alloc (.cells #[.int .i64 0, .int .i64 0, .string ⟨#[]⟩] 116)) fun E w' => E = .panicked badP ∧ (w.alloc (.cells #[.int .i64 0, .int .i64 0, .string ⟨#[]⟩] 116)).grownBy w' (some G) := hbi.mono fun E w' h => ⟨h.2.1 h1, h.2.2⟩
    clear hbi h1 hRR
    go_enter Try.func79, Try.ntmps79
    go_wp2_with fail
    refine hc.mono ?_
    rintro E w1 ⟨rfl, hg1⟩
    go_wp2
    exact ⟨rfl, hno.out _ HR.out.symm (gb_trans HG0.out hg1)⟩
  | some q =>
    obtain ⟨b, l1⟩ := q
    rw [h1] at hRR
    simp only [Option.bind_some] at hRR
    have hll := itemB_lt l b l1 h1
    have hc : Calls Try.prog 85 #[.pointer (some ⟨G, 0, none⟩)] (w.alloc (.cells #[.int .i64 0, .int .i64 0, .string ⟨#[]⟩] 116)) fun E w' => E = .returned (.int .u8 b) ∧ RdS w0 w' G l1 ∧ (w.alloc (.cells #[.int .i64 0, .int .i64 0, .string ⟨#[]⟩] 116)).grownBy w' (some G) := hbi.mono fun E w' h => ⟨(h.1 b l1 h1).1, (h.1 b l1 h1).2, h.2.2⟩
    have HR := Aside0.mk hRR
    have HL1 := Aside0.mk (show l1.length ≤ 1000000000 by omega)
    clear hbi h1 hRR hll hl
    go_enter Try.func79, Try.ntmps79
    go_wp2_with fail
    refine hc.mono ?_
    rintro E w1 ⟨rfl, hs1, hg1⟩
    have HG1 := Aside0.mk (gb_trans HG0.out hg1)
    have HT1 := Aside0.mk (blk_grown HT0.out hg1 (fun e => by injection e with e; exact HTG.out e))
    have HS1 := Aside0.mk hs1
    clear hs1 hg1 hc HG0 HT0
    go_upto_block 0 with (fail)
    have HS2 : Aside0 (RdS w0 (w1.alloc (.cells #[.int .i64 (wrap64 b), .int .i64 0, .string ⟨#[]⟩] 116)) G l1) := ⟨HS1.out.step (World.grownBy_alloc w1 _ none) (by simp) (by simp)⟩
    have HT2 : Aside0 ((w1.alloc (.cells #[.int .i64 (wrap64 b), .int .i64 0, .string ⟨#[]⟩] 116)).heap[w.heap.size]? = some (.cells #[.int .i64 0, .int .i64 0, .string ⟨#[]⟩] 116 (0, 0))) := ⟨blk_alloc HT1.out _⟩
    have HV2 : Aside0 ((w1.alloc (.cells #[.int .i64 (wrap64 b), .int .i64 0, .string ⟨#[]⟩] 116)).heap[w1.heap.size]? = some (.cells #[.int .i64 (wrap64 b), .int .i64 0, .string ⟨#[]⟩] 116 (0, 0))) := ⟨blk_new w1 _⟩
    have HG2 : Aside0 (w.grownBy (w1.alloc (.cells #[.int .i64 (wrap64 b), .int .i64 0, .string ⟨#[]⟩] 116)) (some G)) := ⟨World.grownBy.trans HG1.out (World.grownBy_alloc w1 _ _)⟩
    have HVG := Aside0.mk (show w1.heap.size ≠ G from fun e => by have := HS1.out.lt2; omega)
    have HW0 := Aside0.mk (show w0.heap.size ≤ w1.heap.size from HS1.out.below.size)
    have HWg := Aside0.mk (show w.heap.size ≤ w1.heap.size from HG1.out.size)
    have HWn := Aside0.mk (show w.heap.size ≠ w1.heap.size from fun e => by have := blk_lt HT1.out; omega)
    clear HS1 HT1 HG1
    generalize wrap64 b = k at HR HS2 HT2 HV2 HG2 ⊢
    generalize w1.alloc (.cells #[.int .i64 k, .int .i64 0, .string ⟨#[]⟩] 116) = W2 at HS2 HT2 HV2 HG2 ⊢
    generalize w1.heap.size = g3 at HV2 HVG HW0 HWg HWn ⊢
    go_cut [] (fun wc => ∃ (x : S116) (l2 : List Int), Aside0 (preV k l1 = some (x, l2)) ∧ Aside0 (RdS w0 wc G l2) ∧ Aside0 (w.grownBy wc (some G)) ∧ Aside0 (wc.heap[w.heap.size]? = some (.cells #[.int .i64 0, .int .i64 0, .string ⟨#[]⟩] 116 (0, 0))) ∧ Aside0 (wc.heap[g3]? = some (.cells #[.int .i64 x.f0, .int .i64 x.f1, .string x.f2] 116 (0, 0))))
    case first =>
      by_cases k1 : k = 1
      · subst k1
        have cv0 : _ = some (Value.int .i64 1) := (blk_cell HV2.out 0).trans rfl
        cases h2 : itemI l1 with
        | none =>
          have hcn : ∀ W, RdS w0 W G l1 → Calls Try.prog 93 #[.pointer (some ⟨G, 0, none⟩)] W fun E w' => E = .panicked badP ∧ W.grownBy w' (some G) := fun W hW => (whole_item G l1 (by have := HL1.out; omega) w0 W hW).mono fun E w' h => ⟨h.2.1 h2, h.2.2⟩
          have hRn : RR = none := by rw [← HR.out]; simp [preV, h2]
          have HRn := Aside0.mk hRn
          clear h2 hRn HR
          go_wp2_with fail
          refine (hcn _ HS2.out).mono ?_
          rintro E w2 ⟨rfl, hg2⟩
          go_wp2
          exact ⟨rfl, hno.out _ HRn.out (gb_trans HG2.out hg2)⟩
        | some q =>
          obtain ⟨x, l2⟩ := q
          have hcs : ∀ W, RdS w0 W G l1 → Calls Try.prog 93 #[.pointer (some ⟨G, 0, none⟩)] W fun E w' => E = .returned (.int .i64 x) ∧ RdS w0 w' G l2 ∧ W.grownBy w' (some G) := fun W hW => (whole_item G l1 (by have := HL1.out; omega) w0 W hW).mono fun E w' h => ⟨(h.1 x l2 h2).1, (h.1 x l2 h2).2, h.2.2⟩
          have HX : Aside0 (preV 1 l1 = some (⟨1, x, ⟨#[]⟩⟩, l2)) := ⟨by simp [preV, h2]⟩
          clear h2
          go_wp2_with fail
          refine (hcs _ HS2.out).mono ?_
          rintro E w2 ⟨rfl, hs3, hg2⟩
          have HT3 := Aside0.mk (blk_grown HT2.out hg2 (fun e => by injection e with e; exact HTG.out e))
          have HV3 := Aside0.mk (blk_grown HV2.out hg2 (fun e => by injection e with e; exact HVG.out e))
          have HG3 := Aside0.mk (gb_trans HG2.out hg2)
          have HS3 := Aside0.mk hs3
          have cv := blk_cell HV3.out 1
          have fv := blk_frozen HV3.out 1
          clear hs3 hg2 hcs HG2 HT2 HV2 HS2
          go_wp2
          go_meet
          case rel =>
            refine ⟨⟨1, x, ⟨#[]⟩⟩, l2, HX, ⟨HS3.out.step (gb_setAt w2 g3 1 (.int .i64 x)) (fun e => by injection e with e; exact HVG.out e.symm) (fun k e => by injection e with e; have := HW0.out; omega)⟩, ⟨gb_new HG3.out (gb_setAt w2 g3 1 (.int .i64 x)) (fun k e => by injection e with e; have := HWg.out; omega)⟩, ⟨blk_far HT3.out (fun e => by have := HWn.out; exact this e) _⟩, ⟨blk_set HV3.out 1 (.int .i64 x)⟩⟩
      by_cases k2 : k = 2
      · subst k2
        have cv0 : _ = some (Value.int .i64 2) := (blk_cell HV2.out 0).trans rfl
        cases h2 : itemB l1 with
        | none =>
          have hcn : ∀ W, RdS w0 W G l1 → Calls Try.prog 85 #[.pointer (some ⟨G, 0, none⟩)] W fun E w' => E = .panicked badP ∧ W.grownBy w' (some G) := fun W hW => (byte_item G l1 HL1.out w0 W hW).mono fun E w' h => ⟨h.2.1 h2, h.2.2⟩
          have hRn : RR = none := by rw [← HR.out]; simp [preV, h2]
          have HRn := Aside0.mk hRn
          clear h2 hRn HR
          go_wp2_with fail
          refine (hcn _ HS2.out).mono ?_
          rintro E w2 ⟨rfl, hg2⟩
          go_wp2
          exact ⟨rfl, hno.out _ HRn.out (gb_trans HG2.out hg2)⟩
        | some q =>
          obtain ⟨x, l2⟩ := q
          have hcs : ∀ W, RdS w0 W G l1 → Calls Try.prog 85 #[.pointer (some ⟨G, 0, none⟩)] W fun E w' => E = .returned (.int .u8 x) ∧ RdS w0 w' G l2 ∧ W.grownBy w' (some G) := fun W hW => (byte_item G l1 HL1.out w0 W hW).mono fun E w' h => ⟨(h.1 x l2 h2).1, (h.1 x l2 h2).2, h.2.2⟩
          have HX : Aside0 (preV 2 l1 = some (⟨2, wrap64 x, ⟨#[]⟩⟩, l2)) := ⟨by simp [preV, h2]⟩
          clear h2
          go_wp2_with fail
          refine (hcs _ HS2.out).mono ?_
          rintro E w2 ⟨rfl, hs3, hg2⟩
          have HT3 := Aside0.mk (blk_grown HT2.out hg2 (fun e => by injection e with e; exact HTG.out e))
          have HV3 := Aside0.mk (blk_grown HV2.out hg2 (fun e => by injection e with e; exact HVG.out e))
          have HG3 := Aside0.mk (gb_trans HG2.out hg2)
          have HS3 := Aside0.mk hs3
          have cv := blk_cell HV3.out 1
          have fv := blk_frozen HV3.out 1
          clear hs3 hg2 hcs HG2 HT2 HV2 HS2
          go_wp2
          go_meet
          case rel =>
            refine ⟨⟨2, wrap64 x, ⟨#[]⟩⟩, l2, HX, ⟨HS3.out.step (gb_setAt w2 g3 1 (.int .i64 (wrap64 x))) (fun e => by injection e with e; exact HVG.out e.symm) (fun k e => by injection e with e; have := HW0.out; omega)⟩, ⟨gb_new HG3.out (gb_setAt w2 g3 1 (.int .i64 (wrap64 x))) (fun k e => by injection e with e; have := HWg.out; omega)⟩, ⟨blk_far HT3.out (fun e => by have := HWn.out; exact this e) _⟩, ⟨blk_set HV3.out 1 (.int .i64 (wrap64 x))⟩⟩
      by_cases k3 : k = 3
      · subst k3
        have cv0 : _ = some (Value.int .i64 3) := (blk_cell HV2.out 0).trans rfl
        cases h2 : itemW l1 with
        | none =>
          have hcn : ∀ W, RdS w0 W G l1 → Calls Try.prog 84 #[.pointer (some ⟨G, 0, none⟩)] W fun E w' => E = .panicked badP ∧ W.grownBy w' (some G) := fun W hW => (word_item G l1 HL1.out w0 W hW).mono fun E w' h => ⟨h.2.1 h2, h.2.2⟩
          have hRn : RR = none := by rw [← HR.out]; simp [preV, h2]
          have HRn := Aside0.mk hRn
          clear h2 hRn HR
          go_wp2_with fail
          refine (hcn _ HS2.out).mono ?_
          rintro E w2 ⟨rfl, hg2⟩
          go_wp2
          exact ⟨rfl, hno.out _ HRn.out (gb_trans HG2.out hg2)⟩
        | some q =>
          obtain ⟨x, l2⟩ := q
          have hcs : ∀ W, RdS w0 W G l1 → Calls Try.prog 84 #[.pointer (some ⟨G, 0, none⟩)] W fun E w' => E = .returned (.string x) ∧ RdS w0 w' G l2 ∧ W.grownBy w' (some G) := fun W hW => (word_item G l1 HL1.out w0 W hW).mono fun E w' h => ⟨(h.1 x l2 h2).1, (h.1 x l2 h2).2, h.2.2⟩
          have HX : Aside0 (preV 3 l1 = some (⟨3, 0, x⟩, l2)) := ⟨by simp [preV, h2]⟩
          clear h2
          go_wp2_with fail
          refine (hcs _ HS2.out).mono ?_
          rintro E w2 ⟨rfl, hs3, hg2⟩
          have HT3 := Aside0.mk (blk_grown HT2.out hg2 (fun e => by injection e with e; exact HTG.out e))
          have HV3 := Aside0.mk (blk_grown HV2.out hg2 (fun e => by injection e with e; exact HVG.out e))
          have HG3 := Aside0.mk (gb_trans HG2.out hg2)
          have HS3 := Aside0.mk hs3
          have cv := blk_cell HV3.out 2
          have fv := blk_frozen HV3.out 2
          clear hs3 hg2 hcs HG2 HT2 HV2 HS2
          go_wp2
          go_meet
          case rel =>
            refine ⟨⟨3, 0, x⟩, l2, HX, ⟨HS3.out.step (gb_setAt w2 g3 2 (.string x)) (fun e => by injection e with e; exact HVG.out e.symm) (fun k e => by injection e with e; have := HW0.out; omega)⟩, ⟨gb_new HG3.out (gb_setAt w2 g3 2 (.string x)) (fun k e => by injection e with e; have := HWg.out; omega)⟩, ⟨blk_far HT3.out (fun e => by have := HWn.out; exact this e) _⟩, ⟨blk_set HV3.out 2 (.string x)⟩⟩
      have b1 : (k == 1) = false := by simpa using k1
      have b2 : (k == 2) = false := by simpa using k2
      have b3 : (k == 3) = false := by simpa using k3
      have HX : Aside0 (preV k l1 = some (⟨k, 0, ⟨#[]⟩⟩, l1)) := ⟨by simp [preV, k1, k2, k3]⟩
      go_wp2
      go_meet
      case rel => exact ⟨_, l1, HX, HS2, HG2, HT2, HV2⟩
    case rest =>
      obtain ⟨x, l2, HX, HS3, HG3, HT3, HV3⟩ := hcut
      have hR := HR.out
      rw [HX.out] at hR
      simp only [Option.bind_some] at hR
      clear HR HS2 HT2 HV2 HG2
      obtain ⟨K, hK⟩ := (chk_ev x).rounds
      have cv0 : _ = some (Value.int .i64 x.f0) := (blk_cell HV3.out 0).trans rfl
      have cv1 : _ = some (Value.int .i64 x.f1) := (blk_cell HV3.out 1).trans rfl
      have cv2 : _ = some (Value.string x.f2) := (blk_cell HV3.out 2).trans rfl
      have HK := Aside0.mk hK
      have HRx := Aside0.mk hR
      clear hK hR HX
      go_wp2_with fail
      refine (value_Check.calls K x.f0 x.f1 x.f2 (chkV x) _ HK.out).mono ?_
      rintro E w4 ⟨rfl, hb4⟩
      have hg4 := grown_of_below hb4 none
      have HG4 := Aside0.mk (gb_new HG3.out hg4 (fun k e => by cases e))
      have HS4 := Aside0.mk (HS3.out.step hg4 (by simp) (by simp))
      have ht4 := blk_below HT3.out hb4
      have hv4 := blk_below HV3.out hb4
      have HT4 := Aside0.mk ht4
      have dv0 : _ = some (Value.int .i64 x.f0) := (blk_cell hv4 0).trans rfl
      have dv1 : _ = some (Value.int .i64 x.f1) := (blk_cell hv4 1).trans rfl
      have dv2 : _ = some (Value.string x.f2) := (blk_cell hv4 2).trans rfl
      have ct0 := blk_cell ht4 0
      have ct1 := blk_cell ht4 1
      have ct2 := blk_cell ht4 2
      have ft0 := blk_frozen ht4 0
      have ft1 := blk_frozen ht4 1
      have ft2 := blk_frozen ht4 2
      clear hg4 hb4 cv0 cv1 cv2 ht4 hv4 HS3 HG3 HT3 HV3
      by_cases hc0 : chkV x = 0
      · have hR := HRx.out
        rw [if_pos hc0] at hR
        have HRy := Aside0.mk hR
        rw [hc0]
        clear HRx hR hc0
        go_wp2
        have q1 := HS4.out.step (gb_setAt w4 w.heap.size 0 (.int .i64 x.f0)) (fun e => by injection e with e; exact HTG.out e.symm) (fun k e => by injection e with e; have := HL0.out; omega)
        have q2 := q1.step (gb_setAt _ w.heap.size 1 (.int .i64 x.f1)) (fun e => by injection e with e; exact HTG.out e.symm) (fun k e => by injection e with e; have := HL0.out; omega)
        have q3 := q2.step (gb_setAt _ w.heap.size 2 (.string x.f2)) (fun e => by injection e with e; exact HTG.out e.symm) (fun k e => by injection e with e; have := HL0.out; omega)
        have p3 := gb_new (gb_new (gb_new HG4.out (gb_setAt w4 w.heap.size 0 (.int .i64 x.f0)) (fun k e => by injection e with e; omega)) (gb_setAt _ w.heap.size 1 (.int .i64 x.f1)) (fun k e => by injection e with e; omega)) (gb_setAt _ w.heap.size 2 (.string x.f2)) (fun k e => by injection e with e; omega)
        have c3 := blk_set (cs := #[.int .i64 x.f0, .int .i64 x.f1, .string ⟨#[]⟩]) (blk_set (cs := #[.int .i64 x.f0, .int .i64 0, .string ⟨#[]⟩]) (blk_set HT4.out 0 (.int .i64 x.f0)) 1 (.int .i64 x.f1)) 2 (.string x.f2)
        exact bodyPost_ret (results_single rfl (.cell _ _ _ _ _ rfl c3 Try.underlying116 rfl (by kernel_rfl) .nil)) rfl (hyes.out _ _ _ HRy.out.symm q3 p3)
      · have hR := HRx.out
        rw [if_neg hc0] at hR
        have HRy := Aside0.mk hR
        clear HRx hR
        generalize chkV x = cc at hc0 ⊢
        have hcb : (cc != 0) = true := by simpa using hc0
        go_wp2
        exact ⟨rfl, hno.out _ HRy.out.symm HG4.out⟩
end Go.Proofs.Ytgihecpobichbaa.Q
