/- package code's rows, one by one: walked. Printed by wip/gen/readx.py. -/
import Derived.Test.YtgihecpobichbaaReadV
import Derived.Test.YtgihecpobichbaaHUnnums
import Derived.Test.YtgihecpobichbaaVarL
namespace Go.Proofs.Ytgihecpobichbaa.Q
open Go.RowKit Go.Proofs.YtgihecpobichbaaW.PrintWords Go.Proofs.YtgihecpobichbaaW.PrintLast Go.Proofs.YtgihecpobichbaaW.PrintMore
set_option linter.unusedVariables false
set_option linter.unusedSimpArgs false
theorem itemI_less1 (l : List Int) (a : Int) (r : List Int) (h : itemI l = some (a, r)) : r.length ≤ l.length := Nat.le_of_lt (itemI_less l a r h)
theorem itemV_less (l : List Int) (a : S116) (r : List Int) (h : itemV l = some (a, r)) : r.length < l.length := by
  unfold itemV at h
  obtain ⟨⟨b, l1⟩, h1, h2⟩ := Option.bind_eq_some_iff.1 h
  obtain ⟨⟨x, l2⟩, h3, h4⟩ := Option.bind_eq_some_iff.1 h2
  have e1 := itemB_lt l b l1 h1
  have e2 : l2.length ≤ l1.length := by
    unfold preV at h3
    split at h3
    · obtain ⟨⟨y, r1⟩, h5, h6⟩ := Option.map_eq_some_iff.1 h3
      simp only [Prod.mk.injEq] at h6
      rw [← h6.2]
      exact itemI_less1 _ _ _ h5
    · split at h3
      · obtain ⟨⟨y, r1⟩, h5, h6⟩ := Option.map_eq_some_iff.1 h3
        simp only [Prod.mk.injEq] at h6
        rw [← h6.2]
        exact Nat.le_of_lt (itemB_lt _ _ _ h5)
      · split at h3
        · obtain ⟨⟨y, r1⟩, h5, h6⟩ := Option.map_eq_some_iff.1 h3
          simp only [Prod.mk.injEq] at h6
          rw [← h6.2]
          exact Nat.le_of_lt (itemW_lt _ _ _ h5)
        · simp only [Option.some.injEq, Prod.mk.injEq] at h3
          rw [h3.2]
          exact Nat.le_refl _
  simp only at h4
  split at h4
  · simp only [Option.some.injEq, Prod.mk.injEq] at h4
    rw [← h4.2]
    omega
  · cases h4
/-- Is a row right? -/
def rowOk (xs : List S116) : Bool := decide (xs.length ≤ 12) && xs.all (fun v => chkV v == 0)
theorem rdV_drop (l : List S116) (j : Int) (h0 : 0 ≤ j) (h1 : j < (l.length : Int)) : l.drop j.toNat = rd_T116 l j :: l.drop (j + 1).toNat := by
  have e : (j + 1).toNat = j.toNat + 1 := by omega
  have hl : j.toNat < l.length := by omega
  rw [e, List.drop_eq_getElem_cons hl]
  unfold rd_T116
  rw [List.getD_eq_getElem?_getD, List.getElem?_eq_getElem hl]
  rfl
theorem row_loop (l : List S116) (hl : l.length ≤ 9223372036854775806) : ∀ (d : Nat) (i : Int), 0 ≤ i → i ≤ 12 → i + d = l.length → Ev (fun k => value_Row.l0 k l (l.length : Int) i) (decide (l.length ≤ 12) && (l.drop i.toNat).all (fun v => chkV v == 0)) := by
  intro d
  induction d with
  | zero =>
    intro i h0 h12 h1
    rw [List.drop_of_length_le (by omega), decide_eq_true (by omega)]
    exact Ev.step (f := fun _ => some true) (fun k => by simp only [value_Row.l0]; rw [if_neg (by omega)]) (Ev.now _)
  | succ d ih =>
    intro i h0 h12 h1
    have e2 : wrap64 (i + 1) = i + 1 := wrap_in (by unfold in64; omega)
    rw [rdV_drop l i h0 (by omega), List.all_cons]
    obtain ⟨y, hy⟩ : ∃ y, rd_T116 l i = y := ⟨_, rfl⟩
    by_cases h : i = 12
    · rw [decide_eq_false (by omega), Bool.false_and]
      refine Ev.step (f := fun _ => some false) (fun k => ?_) (Ev.now _)
      simp only [value_Row.l0]
      rw [if_pos (by omega), if_pos h0, if_pos (by omega), if_pos h]
    · rw [hy]
      by_cases hc : chkV y = 0
      · have hb : (chkV y == 0) = true := by simp [hc]
        rw [hb, Bool.true_and]
        refine Ev.step (fun k => ?_) (Ev.bind (f := fun k t168 => (if t168 = 0 then (value_Row.l0 k l (l.length : Int) (wrap64 (i + 1))) else (some false))) (chk_ev y) (Ev.congr (fun k => if_pos hc) (by rw [e2]; exact ih (i + 1) (by omega) (by omega) (by omega))))
        simp only [value_Row.l0]
        rw [if_pos (by omega), if_pos h0, if_pos (by omega), if_neg h, hy]
      · have hb : (chkV y == 0) = false := by simpa using hc
        rw [hb, Bool.false_and, Bool.and_false]
        refine Ev.step (fun k => ?_) (Ev.bind (f := fun k t168 => (if t168 = 0 then (value_Row.l0 k l (l.length : Int) (wrap64 (i + 1))) else (some false))) (chk_ev y) (Ev.congr (fun k => if_neg hc) (Ev.now _)))
        simp only [value_Row.l0]
        rw [if_pos (by omega), if_pos h0, if_pos (by omega), if_neg h, hy]
theorem row_ev (l : List S116) (hl : l.length ≤ 9223372036854775806) : Ev (fun k => value_Row.f k l) (rowOk l) := row_loop l hl l.length 0 (by omega) (by omega) (by omega)
theorem readN_count {α : Type} (item : List Int → Option (α × List Int)) (hi : ∀ l a r, item l = some (a, r) → r.length < l.length) : ∀ (n : Nat) (l : List Int) (xs : List α) (r : List Int), readN item n l = some (xs, r) → xs.length + r.length ≤ l.length
  | 0, l, xs, r, h => by
    simp only [readN, Option.some.injEq, Prod.mk.injEq] at h
    rw [← h.1, h.2]
    simp
  | n + 1, l, xs, r, h => by
    simp only [readN] at h
    obtain ⟨⟨a, l1⟩, h1, h2⟩ := Option.bind_eq_some_iff.1 h
    obtain ⟨⟨ys, r1⟩, h3, h4⟩ := Option.map_eq_some_iff.1 h2
    simp only [Prod.mk.injEq] at h4 h3
    obtain ⟨rfl, rfl⟩ := h4
    have := hi l a l1 h1
    have := readN_count item hi n l1 ys r1 h3
    simp only [List.length_cons]
    omega
theorem readItems_count {α : Type} (item : List Int → Option (α × List Int)) (hi : ∀ l a r, item l = some (a, r) → r.length < l.length) (l : List Int) (xs : List α) (r : List Int) (h : readItems item l = some (xs, r)) : xs.length ≤ l.length := by
  unfold readItems at h
  split at h
  · split at h
    · cases h
    · have := readN_count item hi _ _ _ _ h
      rw [List.length_drop] at this
      omega
  · cases h
def itemR (l : List Int) : Option (List S116 × List Int) := (readItems itemV l).bind fun p => if rowOk p.1 = true then some p else none
theorem readItems_less {α : Type} (item : List Int → Option (α × List Int)) (hi : ∀ l a r, item l = some (a, r) → r.length < l.length) (l : List Int) (xs : List α) (r : List Int) (h : readItems item l = some (xs, r)) : r.length < l.length := by
  unfold readItems at h
  split at h
  · rename_i h0
    have hp := un_pos h0
    split at h
    · cases h
    · have := readN_less item hi _ _ _ _ h
      rw [List.length_drop] at this
      omega
  · cases h
theorem itemR_less (l : List Int) (a : List S116) (r : List Int) (h : itemR l = some (a, r)) : r.length < l.length := by
  unfold itemR at h
  obtain ⟨⟨x, l1⟩, h1, h2⟩ := Option.bind_eq_some_iff.1 h
  have := readItems_less itemV itemV_less l x l1 h1
  simp only at h2
  split at h2
  · simp only [Option.some.injEq, Prod.mk.injEq] at h2
    rw [← h2.2]
    exact this
  · cases h2
set_option maxHeartbeats 4000000 in
set_option maxRecDepth 100000 in
theorem itemsV_calls (G : Nat) (l : List Int) (hl : l.length ≤ 1000000000) (w0 w : World) (hs : RdS w0 w G l) (RR : Option (List S116 × List Int)) (hRR : readItems itemV l = RR) :
    Calls Try.prog 78 #[.pointer (some ⟨G, 0, none⟩), .func (.func 79) #[.pointer (some ⟨G, 0, none⟩)] #[]] w fun E w' =>
      (∀ xs l', RR = some (xs, l') → ∃ v, E = .returned v ∧ Kd.R k116 116 w' w.heap.size (fun _ => True) v xs ∧ RdS w0 w' G l') ∧ (RR = none → E = .panicked badP) ∧ w.grownBy w' (some G) := by
  have hG := hs.lt
  have hnum := num_un G l (by omega) w0 w hs
  obtain ⟨Q, hQ⟩ : ∃ Q : Ending → World → Prop, Q = fun E w' => (∀ xs l', RR = some (xs, l') → ∃ v, E = .returned v ∧ Kd.R k116 116 w' w.heap.size (fun _ => True) v xs ∧ RdS w0 w' G l') ∧ (RR = none → E = .panicked badP) ∧ w.grownBy w' (some G) := ⟨_, rfl⟩
  rw [← hQ]
  have hno : ∀ w', RR = none → w.grownBy w' (some G) → Q (.panicked badP) w' := by
    intro w' h1 h2
    rw [hQ]
    exact ⟨fun xs l' h => (by rw [h1] at h; cases h), fun _ => rfl, h2⟩
  have hyes : ∀ w' v xs l', RR = some (xs, l') → Kd.R k116 116 w' w.heap.size (fun _ => True) v xs → RdS w0 w' G l' → w.grownBy w' (some G) → Q (.returned v) w' := by
    intro w' v xs l' h1 h2 h3 h4
    rw [hQ]
    refine ⟨fun xs' l'' h => ?_, fun h => (by rw [h1] at h; cases h), h4⟩
    rw [h1] at h
    simp only [Option.some.injEq, Prod.mk.injEq] at h
    obtain ⟨rfl, rfl⟩ := h
    exact ⟨v, rfl, h2, h3⟩
  clear hQ
  unfold readItems at hRR
  have hun := unS_le l 0 0
  have hj : 0 ≤ (un l).2.1 ∧ (un l).2.1 ≤ (l.length : Int) := ⟨hun.1, by simpa [un] using hun.2⟩
  obtain ⟨n, hn⟩ : ∃ n, (un l).1 = n := ⟨_, rfl⟩
  have hn0 : 0 ≤ n := hn ▸ un_range l (by omega)
  obtain ⟨l1, hl1⟩ : ∃ l1, l.drop (un l).2.1.toNat = l1 := ⟨_, rfl⟩
  have hl1' : l1.length ≤ 1000000000 := by rw [← hl1, List.length_drop]; omega
  by_cases he : (un l).2.2 = 0
  · rw [if_pos he, hn, hl1] at hRR
    rw [hn, hl1] at hnum
    have hc : Calls Try.prog 111 #[.pointer (some ⟨G, 0, none⟩)] w fun E w' => E = .returned (.int .u64 n) ∧ RdS w0 w' G l1 ∧ w.grownBy w' (some G) := hnum.mono fun E w' ⟨h1, _, h3⟩ => ⟨(h1 he).1, (h1 he).2, h3⟩
    clear hnum hn hl1 hun hj he hs
    go_enter Try.func78, Try.ntmps78
    go_wp2_with fail
    refine hc.mono ?_
    rintro E w1 ⟨rfl, hs1, hg1⟩
    have hG1 := hs1.lt
    obtain ⟨A1, c1, h1⟩ := hs1
    have hcell := h1.box.cell
    have hfz := h1.box.frozen
    have hlen : (l1.length : Int) ≤ 18446744073709551615 := by omega
    by_cases hbig : n > (l1.length : Int)
    · rw [if_pos hbig] at hRR
      have HR := Aside0.mk hRR
      clear hRR hc
      go_wp2
      exact ⟨rfl, hno _ HR.out.symm hg1⟩
    · rw [if_neg hbig] at hRR
      have HR := Aside0.mk hRR
      have HS1 := Aside0.mk (⟨A1, c1, h1⟩ : RdS w0 w1 G l1)
      have HG1 := Aside0.mk hg1
      clear hRR hc h1 hg1
      go_wp2_with fail
      have hnle : n ≤ 1000000000 := by omega
      have HB := Aside0.mk hbig
      clear hbig hcell hfz
      go_loopg [6, 20] (n.toNat) (fun kq v6 v20 wr => ∃ (i : Nat) (xs : List S116) (l2 : List Int), v20 = .int .u64 i ∧ Aside0 ((i : Int) + kq = n) ∧ Aside0 (((readN itemV kq l2).map fun q => (xs ++ q.1, q.2)) = RR) ∧ Aside0 (xs.length = i) ∧ Aside0 (Kd.R k116 116 wr w.heap.size (fun _ => True) v6 xs) ∧ Aside0 (RdS w0 wr G l2) ∧ Aside0 (w.grownBy wr (some G)) ∧ Aside0 (l2.length ≤ 1000000000))
      case atStart => exact ⟨0, [], l1, rfl, ⟨by omega⟩, ⟨by rw [← HR.out]; cases readN itemV n.toNat l1 <;> rfl⟩, ⟨rfl⟩, ⟨Kd.R_nil _ _ _ _ _⟩, HS1, HG1, ⟨hl1'⟩⟩
      case round =>
        clear HR HS1 HG1
        obtain ⟨i, xs, l2, rfl, HI, HF, HX, HO, HS, HG, HL⟩ := hrel
        cases gk with
        | zero =>
          have hlb : decide ((i : Int) < n) = false := decide_eq_false (by have := HI.out; omega)
          have hF := HF.out
          simp only [readN, Option.map_some, List.append_nil] at hF
          have HF2 := Aside0.mk hF
          clear hF HF
          go_wp2
          first
            | exact hyes _ _ _ _ HF2.out.symm HO.out HS.out HG.out
            | (go_ret; exact hyes _ _ _ _ HF2.out.symm HO.out HS.out HG.out)
        | succ k1 =>
          have hlb : decide ((i : Int) < n) = true := decide_eq_true (by have := HI.out; omega)
          have hi1 : (i : Int) + 1 ≤ 1000000001 := by have := HI.out; omega
          have hcw := value_item G l2 (by have := HL.out; omega) w0 wr HS.out
          cases hit : itemV l2 with
          | none =>
            have hcn : Calls Try.prog 79 #[.pointer (some ⟨G, 0, none⟩)] wr fun E w' => E = .panicked badP ∧ wr.grownBy w' (some G) := hcw.mono fun E w' ⟨_, h2, h3⟩ => ⟨h2 hit, h3⟩
            have hRn : RR = none := by rw [← HF.out, readN, hit]; rfl
            have HRn := Aside0.mk hRn
            clear hcw hit hRn
            go_wp2_with fail
            refine hcn.mono ?_
            rintro E w2 ⟨rfl, hg2⟩
            go_wp2
            exact ⟨rfl, hno _ HRn.out (gb_trans HG.out hg2)⟩
          | some p =>
            obtain ⟨x, l3⟩ := p
            have hcs : Calls Try.prog 79 #[.pointer (some ⟨G, 0, none⟩)] wr fun E w' => E = .returned (.agg #[.int .i64 x.f0, .int .i64 x.f1, .string x.f2]) ∧ RdS w0 w' G l3 ∧ wr.grownBy w' (some G) := hcw.mono fun E w' ⟨h1, _, h3⟩ => ⟨(h1 x l3 hit).1, (h1 x l3 hit).2, h3⟩
            have hF2 : ((readN itemV k1 l3).map fun q => ((xs ++ [x]) ++ q.1, q.2)) = RR := by
              rw [← HF.out, readN, hit]
              simp only [Option.bind_some]
              cases readN itemV k1 l3 with
              | none => rfl
              | some q => simp
            have hl3 : l3.length ≤ l2.length := Nat.le_of_lt (itemV_less l2 x l3 hit)
            have HF3 := Aside0.mk hF2
            have HL3 := Aside0.mk (show l3.length ≤ 1000000000 by have := HL.out; omega)
            clear hcw hit hF2 hl3 HF HL
            go_wp2_with fail
            refine hcs.mono ?_
            rintro E w2 ⟨rfl, hs2, hg2⟩
            have HG2 := Aside0.mk (gb_trans HG.out hg2)
            have HO2 := Aside0.mk (R_past HO.out hg2 hG.1)
            have HS2 := Aside0.mk hs2
            have HZ := Aside0.mk (show w.heap.size ≤ w2.heap.size from HG2.out.4)
            clear hg2 hs2 HO HS HG
            go_wp2_with (first | ((with_reducible refine gate_builtin (b := .append) (xs := #[.tmp 22, .tmp 25]) rfl ?_); (try (refine gate_guard (by rfl) ?_; dsimp only)); at_builtin; refine Kd.R_append k116 (w0 := w2) w.heap.size rfl (.tmp 22) (.tmp 25) 111 116 (.agg #[.int .i64 0, .int .i64 0, .string ⟨#[]⟩]) 32 rfl Try.underlying111 info116 rfl (by decide) (by omega) u6 xs x [.int .i64 x.f0, .int .i64 x.f1, .string x.f2] (fun _ => True) (fun _ => False) rfl rfl ?aP (fun _ hk => hk.elim) ?aF ?aO ?aB ?aS ?aL ?_; (case aP => exact k116_mkM _ _ _ x); (case aB => exact Below.refl _ _); (case aF => exact (fun _ _ => trivial)); (case aO => exact HO2.out); (case aS => exact HZ.out); (case aL => have := HX.out; omega); intro v1 w3 ho hb hg hat; have HO3 := Aside0.mk ho; have HGr := Aside0.mk hg; clear ho hb hg hat))
            have hne : ∀ k, u6.ownBlock = some k → w.heap.size ≤ k := Kd.R_base HO2.out
            have HS3 := Aside0.mk (HS2.out.step HGr.out (fun e => by have := hne G e.symm; omega) (fun k e => by have := hne k e; omega))
            have HG3 := Aside0.mk (gb_new HG2.out HGr.out hne)
            clear hne
            go_roundg k1
            case measure => omega
            case rel => exact ⟨i + 1, xs ++ [x], l3, by congr 1, ⟨by have := HI.out; omega⟩, HF3, ⟨by rw [List.length_append, HX.out]; rfl⟩, HO3, HS3, HG3, HL3⟩
  · rw [if_neg he] at hRR
    have hc : Calls Try.prog 111 #[.pointer (some ⟨G, 0, none⟩)] w fun E w' => E = .panicked badP ∧ w.grownBy w' (some G) := hnum.mono fun E w' ⟨_, h2, h3⟩ => ⟨h2 he, h3⟩
    have HR := Aside0.mk hRR
    clear hnum hn hl1 hun hj he hs hRR
    go_enter Try.func78, Try.ntmps78
    go_wp2_with fail
    refine hc.mono ?_
    rintro E w1 ⟨rfl, hg1⟩
    go_wp2
    exact ⟨rfl, hno _ HR.out.symm hg1⟩
set_option maxHeartbeats 4000000 in
set_option maxRecDepth 100000 in
theorem nextR_item (p G : Nat) (l : List Int) (hl : l.length ≤ 1000000000) (w0 w : World) (hs : RdS w0 w G l) (hp : PBox w p G) (hne : p ≠ G) :
    Calls Try.prog 77 #[.pointer (some ⟨p, 0, none⟩)] w fun E w' =>
      (∀ xs l', itemR l = some (xs, l') → (∃ v, E = .returned v ∧ Kd.R k116 116 w' w.heap.size (fun _ => True) v xs) ∧ RdS w0 w' G l') ∧ (itemR l = none → E = .panicked badP) ∧ w.grownBy w' (some G) := by
  have mf := mkf
  have cp := hp.cell
  obtain ⟨RR, hRR⟩ : ∃ RR, itemR l = RR := ⟨_, rfl⟩
  rw [hRR]
  obtain ⟨R1, hR1⟩ : ∃ R1, readItems itemV l = R1 := ⟨_, rfl⟩
  have hc := itemsV_calls G l hl w0 w hs R1 hR1
  unfold itemR at hRR
  rw [hR1] at hRR
  obtain ⟨Q, hQ⟩ : ∃ Q : Ending → World → Prop, Q = fun E w' =>
      (∀ xs l', RR = some (xs, l') → (∃ v, E = .returned v ∧ Kd.R k116 116 w' w.heap.size (fun _ => True) v xs) ∧ RdS w0 w' G l') ∧ (RR = none → E = .panicked badP) ∧ w.grownBy w' (some G) := ⟨_, rfl⟩
  rw [← hQ]
  have hno : Aside0 (∀ w', RR = none → w.grownBy w' (some G) → Q (.panicked badP) w') := ⟨by
    intro w' h1 h2
    rw [hQ]
    exact ⟨fun xs l' h => (by rw [h1] at h; cases h), fun _ => rfl, h2⟩⟩
  have hyes : Aside0 (∀ w' v xs l', RR = some (xs, l') → Kd.R k116 116 w' w.heap.size (fun _ => True) v xs → RdS w0 w' G l' → w.grownBy w' (some G) → Q (.returned v) w') := ⟨by
    intro w' v xs l' h1 h2 h3 h4
    rw [hQ]
    refine ⟨fun xs' l'' h => ?_, fun h => (by rw [h1] at h; cases h), h4⟩
    rw [h1] at h
    simp only [Option.some.injEq, Prod.mk.injEq] at h
    obtain ⟨rfl, rfl⟩ := h
    exact ⟨⟨v, rfl, h2⟩, h3⟩⟩
  replace hR1 := Aside0.mk hR1
  clear hQ hs hp hne
  cases hR : R1 with
  | none =>
    rw [hR] at hRR
    have HR := Aside0.mk hRR
    have hcn : Calls Try.prog 78 #[.pointer (some ⟨G, 0, none⟩), .func (.func 79) #[.pointer (some ⟨G, 0, none⟩)] #[]] w fun E w' => E = .panicked badP ∧ w.grownBy w' (some G) := hc.mono fun E w' h => ⟨h.2.1 hR, h.2.2⟩
    clear hc hR hRR
    go_enter Try.func77, Try.ntmps77
    go_wp2_with fail
    refine hcn.mono ?_
    rintro E w1 ⟨rfl, hg1⟩
    go_wp2
    exact ⟨rfl, hno.out _ HR.out.symm hg1⟩
  | some q =>
    obtain ⟨xs, l'⟩ := q
    rw [hR] at hRR
    simp only [Option.bind_some] at hRR
    have hcs : Calls Try.prog 78 #[.pointer (some ⟨G, 0, none⟩), .func (.func 79) #[.pointer (some ⟨G, 0, none⟩)] #[]] w fun E w' => (∃ v, E = .returned v ∧ Kd.R k116 116 w' w.heap.size (fun _ => True) v xs) ∧ RdS w0 w' G l' ∧ w.grownBy w' (some G) := hc.mono fun E w' h => by
      obtain ⟨v, e, hv, hr⟩ := h.1 xs l' hR
      exact ⟨⟨v, e, hv⟩, hr, h.2.2⟩
    have HR := Aside0.mk hRR
    have HXL := Aside0.mk (show xs.length ≤ 9223372036854775806 by have := readItems_count itemV itemV_less l xs l' (hR1.out.trans hR); omega)
    clear hc hR hRR
    go_enter Try.func77, Try.ntmps77
    go_wp2_with fail
    refine hcs.mono ?_
    rintro E w1 ⟨⟨v, rfl, hv⟩, hs1, hg1⟩
    obtain ⟨Av, cv, rfl⟩ := Kd.R_slice hv
    have HV := Aside0.mk hv
    have HS1 := Aside0.mk hs1
    have HG1 := Aside0.mk hg1
    have hrd := Kd.R_reads' hv
    have hmax := Kd.C_max hrd.2.2
    obtain ⟨K, hK⟩ := (row_ev xs HXL.out).rounds
    have HK := Aside0.mk hK
    have HRD := Aside0.mk hrd
    clear hv hs1 hg1 hcs cp hrd hmax hK
    go_wp2_with fail
    refine (value_Row.calls K Av cv xs (rowOk xs) _ HRD.out.2.2 HRD.out.2.1 HK.out).mono ?_
    rintro E w2 ⟨rfl, hb2⟩
    have hg2 := grown_of_below hb2 none
    have HV2 := Aside0.mk (Kd.R_below HV.out hb2)
    have HS2 := Aside0.mk (HS1.out.step hg2 (by simp) (by simp))
    have HG2 := Aside0.mk (gb_new HG1.out hg2 (fun k e => by cases e))
    clear hb2 hg2 HV HS1 HG1 HRD HK
    cases hr : rowOk xs with
    | true =>
      have hR := HR.out
      rw [if_pos hr] at hR
      have HRy := Aside0.mk hR
      clear HR hR hr
      go_wp2
      first | exact hyes.out _ _ _ _ HRy.out.symm HV2.out HS2.out HG2.out | (go_ret; exact hyes.out _ _ _ _ HRy.out.symm HV2.out HS2.out HG2.out)
    | false =>
      have hR := HR.out
      rw [if_neg (by rw [hr]; simp)] at hR
      have HRy := Aside0.mk hR
      clear HR hR hr
      go_wp2
      exact ⟨rfl, hno.out _ HRy.out.symm HG2.out⟩
end Go.Proofs.Ytgihecpobichbaa.Q
