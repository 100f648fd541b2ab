/- package code's rows, one by one: walked. Printed by wip/gen/readx.py. -/
import Derived.Test.YtgihecpobichbaaZCodeReads1
import Derived.Test.YtgihecpobichbaaWMore
import Derived.Below
import Derived.Lib.FrozenHead
import Derived.Laws.BytesArg
import Derived.Lib.Bytealg
import Derived.Test.YtgihecpobichbaaK
import Derived.Deep.QuietTactic
namespace Go.Proofs.Ytgihecpobichbaa.Q
open Go.RowKit Go.Proofs.YtgihecpobichbaaW.PrintWords Go.Proofs.YtgihecpobichbaaW.PrintLast Go.Proofs.YtgihecpobichbaaW.PrintMore
set_option linter.unusedVariables false
set_option linter.unusedSimpArgs false
theorem itemI_less1 (l : List Int) (a : Int) (r : List Int) (h : itemI l = some (a, r)) : r.length ≤ l.length := Nat.le_of_lt (itemI_less l a r h)
theorem itemV_less (l : List Int) (a : S116) (r : List Int) (h : itemV l = some (a, r)) : r.length < l.length := by
  unfold itemV at h
  obtain ⟨⟨b, l1⟩, h1, h2⟩ := Option.bind_eq_some_iff.1 h
  obtain ⟨⟨x, l2⟩, h3, h4⟩ := Option.bind_eq_some_iff.1 h2
  have e1 := itemB_lt l b l1 h1
  have e2 : l2.length ≤ l1.length := by
    unfold preV at h3
    split at h3
    · obtain ⟨⟨y, r1⟩, h5, h6⟩ := Option.map_eq_some_iff.1 h3
      simp only [Prod.mk.injEq] at h6
      rw [← h6.2]
      exact itemI_less1 _ _ _ h5
    · split at h3
      · obtain ⟨⟨y, r1⟩, h5, h6⟩ := Option.map_eq_some_iff.1 h3
        simp only [Prod.mk.injEq] at h6
        rw [← h6.2]
        exact Nat.le_of_lt (itemB_lt _ _ _ h5)
      · split at h3
        · obtain ⟨⟨y, r1⟩, h5, h6⟩ := Option.map_eq_some_iff.1 h3
          simp only [Prod.mk.injEq] at h6
          rw [← h6.2]
          exact Nat.le_of_lt (itemW_lt _ _ _ h5)
        · simp only [Option.some.injEq, Prod.mk.injEq] at h3
          rw [h3.2]
          exact Nat.le_refl _
  simp only at h4
  split at h4
  · simp only [Option.some.injEq, Prod.mk.injEq] at h4
    rw [← h4.2]
    omega
  · cases h4
/-- Is a row right? -/
def rowOk (xs : List S116) : Bool := decide (xs.length ≤ 12) && xs.all (fun v => chkV v == 0)
theorem rdV_drop (l : List S116) (j : Int) (h0 : 0 ≤ j) (h1 : j < (l.length : Int)) : l.drop j.toNat = rd_T116 l j :: l.drop (j + 1).toNat := by
  have e : (j + 1).toNat = j.toNat + 1 := by omega
  have hl : j.toNat < l.length := by omega
  rw [e, List.drop_eq_getElem_cons hl]
  unfold rd_T116
  rw [List.getD_eq_getElem?_getD, List.getElem?_eq_getElem hl]
  rfl
theorem row_loop (l : List S116) (hl : l.length ≤ 9223372036854775806) : ∀ (d : Nat) (i : Int), 0 ≤ i → i ≤ 12 → i + d = l.length → Ev (fun k => value_Row.l0 k l (l.length : Int) i) (decide (l.length ≤ 12) && (l.drop i.toNat).all (fun v => chkV v == 0)) := by
  intro d
  induction d with
  | zero =>
    intro i h0 h12 h1
    rw [List.drop_of_length_le (by omega), decide_eq_true (by omega)]
    exact Ev.step (f := fun _ => some true) (fun k => by simp only [value_Row.l0]; rw [if_neg (by omega)]) (Ev.now _)
  | succ d ih =>
    intro i h0 h12 h1
    have e2 : wrap64 (i + 1) = i + 1 := wrap_in (by unfold in64; omega)
    rw [rdV_drop l i h0 (by omega), List.all_cons]
    obtain ⟨y, hy⟩ : ∃ y, rd_T116 l i = y := ⟨_, rfl⟩
    by_cases h : i = 12
    · rw [decide_eq_false (by omega), Bool.false_and]
      refine Ev.step (f := fun _ => some false) (fun k => ?_) (Ev.now _)
      simp only [value_Row.l0]
      rw [if_pos (by omega), if_pos h0, if_pos (by omega), if_pos h]
    · rw [hy]
      by_cases hc : chkV y = 0
      · have hb : (chkV y == 0) = true := by simp [hc]
        rw [hb, Bool.true_and]
        refine Ev.step (fun k => ?_) (Ev.bind (f := fun k t168 => (if t168 = 0 then (value_Row.l0 k l (l.length : Int) (wrap64 (i + 1))) else (some false))) (chk_ev y) (Ev.congr (fun k => if_pos hc) (by rw [e2]; exact ih (i + 1) (by omega) (by omega) (by omega))))
        simp only [value_Row.l0]
        rw [if_pos (by omega), if_pos h0, if_pos (by omega), if_neg h, hy]
      · have hb : (chkV y == 0) = false := by simpa using hc
        rw [hb, Bool.false_and, Bool.and_false]
        refine Ev.step (fun k => ?_) (Ev.bind (f := fun k t168 => (if t168 = 0 then (value_Row.l0 k l (l.length : Int) (wrap64 (i + 1))) else (some false))) (chk_ev y) (Ev.congr (fun k => if_neg hc) (Ev.now _)))
        simp only [value_Row.l0]
        rw [if_pos (by omega), if_pos h0, if_pos (by omega), if_neg h, hy]
theorem row_ev (l : List S116) (hl : l.length ≤ 9223372036854775806) : Ev (fun k => value_Row.f k l) (rowOk l) := row_loop l hl l.length 0 (by omega) (by omega) (by omega)
theorem readN_count {α : Type} (item : List Int → Option (α × List Int)) (hi : ∀ l a r, item l = some (a, r) → r.length < l.length) : ∀ (n : Nat) (l : List Int) (xs : List α) (r : List Int), readN item n l = some (xs, r) → xs.length + r.length ≤ l.length
  | 0, l, xs, r, h => by
    simp only [readN, Option.some.injEq, Prod.mk.injEq] at h
    rw [← h.1, h.2]
    simp
  | n + 1, l, xs, r, h => by
    simp only [readN] at h
    obtain ⟨⟨a, l1⟩, h1, h2⟩ := Option.bind_eq_some_iff.1 h
    obtain ⟨⟨ys, r1⟩, h3, h4⟩ := Option.map_eq_some_iff.1 h2
    simp only [Prod.mk.injEq] at h4 h3
    obtain ⟨rfl, rfl⟩ := h4
    have := hi l a l1 h1
    have := readN_count item hi n l1 ys r1 h3
    simp only [List.length_cons]
    omega
theorem readItems_count {α : Type} (item : List Int → Option (α × List Int)) (hi : ∀ l a r, item l = some (a, r) → r.length < l.length) (l : List Int) (xs : List α) (r : List Int) (h : readItems item l = some (xs, r)) : xs.length ≤ l.length := by
  unfold readItems at h
  split at h
  · split at h
    · cases h
    · have := readN_count item hi _ _ _ _ h
      rw [List.length_drop] at this
      omega
  · cases h
def itemR (l : List Int) : Option (List S116 × List Int) := (readItems itemV l).bind fun p => if rowOk p.1 = true then some p else none
theorem readItems_less {α : Type} (item : List Int → Option (α × List Int)) (hi : ∀ l a r, item l = some (a, r) → r.length < l.length) (l : List Int) (xs : List α) (r : List Int) (h : readItems item l = some (xs, r)) : r.length < l.length := by
  unfold readItems at h
  split at h
  · rename_i h0
    have hp := un_pos h0
    split at h
    · cases h
    · have := readN_less item hi _ _ _ _ h
      rw [List.length_drop] at this
      omega
  · cases h
theorem itemR_less (l : List Int) (a : List S116) (r : List Int) (h : itemR l = some (a, r)) : r.length < l.length := by
  unfold itemR at h
  obtain ⟨⟨x, l1⟩, h1, h2⟩ := Option.bind_eq_some_iff.1 h
  have := readItems_less itemV itemV_less l x l1 h1
  simp only at h2
  split at h2
  · simp only [Option.some.injEq, Prod.mk.injEq] at h2
    rw [← h2.2]
    exact this
  · cases h2
set_option maxHeartbeats 4000000 in
set_option maxRecDepth 100000 in
theorem itemsV_calls (G : Nat) (l : List Int) (hl : l.length ≤ 1000000000) (w0 w : World) (hs : RdS w0 w G l) (RR : Option (List S116 × List Int)) (hRR : readItems itemV l = RR) :
    Calls Try.prog 78 #[.pointer (some ⟨G, 0, none⟩), .func (.func 79) #[.pointer (some ⟨G, 0, none⟩)] #[]] w fun E w' =>
      (∀ xs l', RR = some (xs, l') → ∃ v, E = .returned v ∧ Kd.R k116 116 w' w.heap.size (fun _ => True) v xs ∧ RdS w0 w' G l') ∧ (RR = none → E = .panicked badP) ∧ w.grownBy w' (some G) := by
  have hG := hs.lt
  have hnum := num_un G l (by omega) w0 w hs
  obtain ⟨Q, hQ⟩ : ∃ Q : Ending → World → Prop, Q = fun E w' => (∀ xs l', RR = some (xs, l') → ∃ v, E = .returned v ∧ Kd.R k116 116 w' w.heap.size (fun _ => True) v xs ∧ RdS w0 w' G l') ∧ (RR = none → E = .panicked badP) ∧ w.grownBy w' (some G) := ⟨_, rfl⟩
  rw [← hQ]
  have hno : ∀ w', RR = none → w.grownBy w' (some G) → Q (.panicked badP) w' := by
    intro w' h1 h2
    rw [hQ]
    exact ⟨fun xs l' h => (by rw [h1] at h; cases h), fun _ => rfl, h2⟩
  have hyes : ∀ w' v xs l', RR = some (xs, l') → Kd.R k116 116 w' w.heap.size (fun _ => True) v xs → RdS w0 w' G l' → w.grownBy w' (some G) → Q (.returned v) w' := by
    intro w' v xs l' h1 h2 h3 h4
    rw [hQ]
    refine ⟨fun xs' l'' h => ?_, fun h => (by rw [h1] at h; cases h), h4⟩
    rw [h1] at h
    simp only [Option.some.injEq, Prod.mk.injEq] at h
    obtain ⟨rfl, rfl⟩ := h
    exact ⟨v, rfl, h2, h3⟩
  clear hQ
  unfold readItems at hRR
  have hun := unS_le l 0 0
  have hj : 0 ≤ (un l).2.1 ∧ (un l).2.1 ≤ (l.length : Int) := ⟨hun.1, by simpa [un] using hun.2⟩
  obtain ⟨n, hn⟩ : ∃ n, (un l).1 = n := ⟨_, rfl⟩
  have hn0 : 0 ≤ n := hn ▸ un_range l (by omega)
  obtain ⟨l1, hl1⟩ : ∃ l1, l.drop (un l).2.1.toNat = l1 := ⟨_, rfl⟩
  have hl1' : l1.length ≤ 1000000000 := by rw [← hl1, List.length_drop]; omega
  by_cases he : (un l).2.2 = 0
  · rw [if_pos he, hn, hl1] at hRR
    rw [hn, hl1] at hnum
    have hc : Calls Try.prog 111 #[.pointer (some ⟨G, 0, none⟩)] w fun E w' => E = .returned (.int .u64 n) ∧ RdS w0 w' G l1 ∧ w.grownBy w' (some G) := hnum.mono fun E w' ⟨h1, _, h3⟩ => ⟨(h1 he).1, (h1 he).2, h3⟩
    clear hnum hn hl1 hun hj he hs
    go_enter Try.func78, Try.ntmps78
    go_wp2_with fail
    refine hc.mono ?_
    rintro E w1 ⟨rfl, hs1, hg1⟩
    have hG1 := hs1.lt
    obtain ⟨A1, c1, h1⟩ := hs1
    have hcell := h1.box.cell
    have hfz := h1.box.frozen
    have hlen : (l1.length : Int) ≤ 18446744073709551615 := by omega
    by_cases hbig : n > (l1.length : Int)
    · rw [if_pos hbig] at hRR
      have HR := Aside0.mk hRR
      clear hRR hc
      go_wp2
      exact ⟨rfl, hno _ HR.out.symm hg1⟩
    · rw [if_neg hbig] at hRR
      have HR := Aside0.mk hRR
      have HS1 := Aside0.mk (⟨A1, c1, h1⟩ : RdS w0 w1 G l1)
      have HG1 := Aside0.mk hg1
      clear hRR hc h1 hg1
      go_wp2_with fail
      have hnle : n ≤ 1000000000 := by omega
      have HB := Aside0.mk hbig
      clear hbig hcell hfz
      go_loopg [6, 20] (n.toNat) (fun kq v6 v20 wr => ∃ (i : Nat) (xs : List S116) (l2 : List Int), v20 = .int .u64 i ∧ Aside0 ((i : Int) + kq = n) ∧ Aside0 (((readN itemV kq l2).map fun q => (xs ++ q.1, q.2)) = RR) ∧ Aside0 (xs.length = i) ∧ Aside0 (Kd.R k116 116 wr w.heap.size (fun _ => True) v6 xs) ∧ Aside0 (RdS w0 wr G l2) ∧ Aside0 (w.grownBy wr (some G)) ∧ Aside0 (l2.length ≤ 1000000000))
      case atStart => exact ⟨0, [], l1, rfl, ⟨by omega⟩, ⟨by rw [← HR.out]; cases readN itemV n.toNat l1 <;> rfl⟩, ⟨rfl⟩, ⟨Kd.R_nil _ _ _ _ _⟩, HS1, HG1, ⟨hl1'⟩⟩
      case round =>
        clear HR HS1 HG1
        obtain ⟨i, xs, l2, rfl, HI, HF, HX, HO, HS, HG, HL⟩ := hrel
        cases gk with
        | zero =>
          have hlb : decide ((i : Int) < n) = false := decide_eq_false (by have := HI.out; omega)
          have hF := HF.out
          simp only [readN, Option.map_some, List.append_nil] at hF
          have HF2 := Aside0.mk hF
          clear hF HF
          go_wp2
          first
            | exact hyes _ _ _ _ HF2.out.symm HO.out HS.out HG.out
            | (go_ret; exact hyes _ _ _ _ HF2.out.symm HO.out HS.out HG.out)
        | succ k1 =>
          have hlb : decide ((i : Int) < n) = true := decide_eq_true (by have := HI.out; omega)
          have hi1 : (i : Int) + 1 ≤ 1000000001 := by have := HI.out; omega
          have hcw := value_item G l2 (by have := HL.out; omega) w0 wr HS.out
          cases hit : itemV l2 with
          | none =>
            have hcn : Calls Try.prog 79 #[.pointer (some ⟨G, 0, none⟩)] wr fun E w' => E = .panicked badP ∧ wr.grownBy w' (some G) := hcw.mono fun E w' ⟨_, h2, h3⟩ => ⟨h2 hit, h3⟩
            have hRn : RR = none := by rw [← HF.out, readN, hit]; rfl
            have HRn := Aside0.mk hRn
            clear hcw hit hRn
            go_wp2_with fail
            refine hcn.mono ?_
            rintro E w2 ⟨rfl, hg2⟩
            go_wp2
            exact ⟨rfl, hno _ HRn.out (gb_trans HG.out hg2)⟩
          | some p =>
            obtain ⟨x, l3⟩ := p
            have hcs : Calls Try.prog 79 #[.pointer (some ⟨G, 0, none⟩)] wr fun E w' => E = .returned (.agg #[.int .i64 x.f0, .int .i64 x.f1, .string x.f2]) ∧ RdS w0 w' G l3 ∧ wr.grownBy w' (some G) := hcw.mono fun E w' ⟨h1, _, h3⟩ => ⟨(h1 x l3 hit).1, (h1 x l3 hit).2, h3⟩
            have hF2 : ((readN itemV k1 l3).map fun q => ((xs ++ [x]) ++ q.1, q.2)) = RR := by
              rw [← HF.out, readN, hit]
              simp only [Option.bind_some]
              cases readN itemV k1 l3 with
              | none => rfl
              | some q => simp
            have hl3 : l3.length ≤ l2.length := Nat.le_of_lt (itemV_less l2 x l3 hit)
            have HF3 := Aside0.mk hF2
            have HL3 := Aside0.mk (show l3.length ≤ 1000000000 by have := HL.out; omega)
            clear hcw hit hF2 hl3 HF HL
            go_wp2_with fail
            refine hcs.mono ?_
            rintro E w2 ⟨rfl, hs2, hg2⟩
            have HG2 := Aside0.mk (gb_trans HG.out hg2)
            have HO2 := Aside0.mk (R_past HO.out hg2 hG.1)
            have HS2 := Aside0.mk hs2
            have HZ := Aside0.mk (show w.heap.size ≤ w2.heap.size from HG2.out.4)
            clear hg2 hs2 HO HS HG
            go_wp2_with (first | ((with_reducible refine gate_builtin (b := .append) (xs := #[.tmp 22, .tmp 25]) rfl ?_); (try (refine gate_guard (by rfl) ?_; dsimp only)); at_builtin; refine Kd.R_append k116 (w0 := w2) w.heap.size rfl (.tmp 22) (.tmp 25) 111 116 (.agg #[.int .i64 0, .int .i64 0, .string ⟨#[]⟩]) 32 rfl Try.underlying111 info116 rfl (by decide) (by omega) u6 xs x [.int .i64 x.f0, .int .i64 x.f1, .string x.f2] (fun _ => True) (fun _ => False) rfl rfl ?aP (fun _ hk => hk.elim) ?aF ?aO ?aB ?aS ?aL ?_; (case aP => exact k116_mkM _ _ _ x); (case aB => exact Below.refl _ _); (case aF => exact (fun _ _ => trivial)); (case aO => exact HO2.out); (case aS => exact HZ.out); (case aL => have := HX.out; omega); intro v1 w3 ho hb hg hat; have HO3 := Aside0.mk ho; have HGr := Aside0.mk hg; clear ho hb hg hat))
            have hne : ∀ k, u6.ownBlock = some k → w.heap.size ≤ k := Kd.R_base HO2.out
            have HS3 := Aside0.mk (HS2.out.step HGr.out (fun e => by have := hne G e.symm; omega) (fun k e => by have := hne k e; omega))
            have HG3 := Aside0.mk (gb_new HG2.out HGr.out hne)
            clear hne
            go_roundg k1
            case measure => omega
            case rel => exact ⟨i + 1, xs ++ [x], l3, by congr 1, ⟨by have := HI.out; omega⟩, HF3, ⟨by rw [List.length_append, HX.out]; rfl⟩, HO3, HS3, HG3, HL3⟩
  · rw [if_neg he] at hRR
    have hc : Calls Try.prog 111 #[.pointer (some ⟨G, 0, none⟩)] w fun E w' => E = .panicked badP ∧ w.grownBy w' (some G) := hnum.mono fun E w' ⟨_, h2, h3⟩ => ⟨h2 he, h3⟩
    have HR := Aside0.mk hRR
    clear hnum hn hl1 hun hj he hs hRR
    go_enter Try.func78, Try.ntmps78
    go_wp2_with fail
    refine hc.mono ?_
    rintro E w1 ⟨rfl, hg1⟩
    go_wp2
    exact ⟨rfl, hno _ HR.out.symm hg1⟩
set_option maxHeartbeats 4000000 in
set_option maxRecDepth 100000 in
theorem nextR_item (p G : Nat) (l : List Int) (hl : l.length ≤ 1000000000) (w0 w : World) (hs : RdS w0 w G l) (hp : PBox w p G) (hne : p ≠ G) :
    Calls Try.prog 77 #[.pointer (some ⟨p, 0, none⟩)] w fun E w' =>
      (∀ xs l', itemR l = some (xs, l') → (∃ v, E = .returned v ∧ Kd.R k116 116 w' w.heap.size (fun _ => True) v xs) ∧ RdS w0 w' G l') ∧ (itemR l = none → E = .panicked badP) ∧ w.grownBy w' (some G) := by
  have mf := mkf
  have cp := hp.cell
  obtain ⟨RR, hRR⟩ : ∃ RR, itemR l = RR := ⟨_, rfl⟩
  rw [hRR]
  obtain ⟨R1, hR1⟩ : ∃ R1, readItems itemV l = R1 := ⟨_, rfl⟩
  have hc := itemsV_calls G l hl w0 w hs R1 hR1
  unfold itemR at hRR
  rw [hR1] at hRR
  obtain ⟨Q, hQ⟩ : ∃ Q : Ending → World → Prop, Q = fun E w' =>
      (∀ xs l', RR = some (xs, l') → (∃ v, E = .returned v ∧ Kd.R k116 116 w' w.heap.size (fun _ => True) v xs) ∧ RdS w0 w' G l') ∧ (RR = none → E = .panicked badP) ∧ w.grownBy w' (some G) := ⟨_, rfl⟩
  rw [← hQ]
  have hno : Aside0 (∀ w', RR = none → w.grownBy w' (some G) → Q (.panicked badP) w') := ⟨by
    intro w' h1 h2
    rw [hQ]
    exact ⟨fun xs l' h => (by rw [h1] at h; cases h), fun _ => rfl, h2⟩⟩
  have hyes : Aside0 (∀ w' v xs l', RR = some (xs, l') → Kd.R k116 116 w' w.heap.size (fun _ => True) v xs → RdS w0 w' G l' → w.grownBy w' (some G) → Q (.returned v) w') := ⟨by
    intro w' v xs l' h1 h2 h3 h4
    rw [hQ]
    refine ⟨fun xs' l'' h => ?_, fun h => (by rw [h1] at h; cases h), h4⟩
    rw [h1] at h
    simp only [Option.some.injEq, Prod.mk.injEq] at h
    obtain ⟨rfl, rfl⟩ := h
    exact ⟨⟨v, rfl, h2⟩, h3⟩⟩
  replace hR1 := Aside0.mk hR1
  clear hQ hs hp hne
  cases hR : R1 with
  | none =>
    rw [hR] at hRR
    have HR := Aside0.mk hRR
    have hcn : Calls Try.prog 78 #[.pointer (some ⟨G, 0, none⟩), .func (.func 79) #[.pointer (some ⟨G, 0, none⟩)] #[]] w fun E w' => E = .panicked badP ∧ w.grownBy w' (some G) := hc.mono fun E w' h => ⟨h.2.1 hR, h.2.2⟩
    clear hc hR hRR
    go_enter Try.func77, Try.ntmps77
    go_wp2_with fail
    refine hcn.mono ?_
    rintro E w1 ⟨rfl, hg1⟩
    go_wp2
    exact ⟨rfl, hno.out _ HR.out.symm hg1⟩
  | some q =>
    obtain ⟨xs, l'⟩ := q
    rw [hR] at hRR
    simp only [Option.bind_some] at hRR
    have hcs : Calls Try.prog 78 #[.pointer (some ⟨G, 0, none⟩), .func (.func 79) #[.pointer (some ⟨G, 0, none⟩)] #[]] w fun E w' => (∃ v, E = .returned v ∧ Kd.R k116 116 w' w.heap.size (fun _ => True) v xs) ∧ RdS w0 w' G l' ∧ w.grownBy w' (some G) := hc.mono fun E w' h => by
      obtain ⟨v, e, hv, hr⟩ := h.1 xs l' hR
      exact ⟨⟨v, e, hv⟩, hr, h.2.2⟩
    have HR := Aside0.mk hRR
    have HXL := Aside0.mk (show xs.length ≤ 9223372036854775806 by have := readItems_count itemV itemV_less l xs l' (hR1.out.trans hR); omega)
    clear hc hR hRR
    go_enter Try.func77, Try.ntmps77
    go_wp2_with fail
    refine hcs.mono ?_
    rintro E w1 ⟨⟨v, rfl, hv⟩, hs1, hg1⟩
    obtain ⟨Av, cv, rfl⟩ := Kd.R_slice hv
    have HV := Aside0.mk hv
    have HS1 := Aside0.mk hs1
    have HG1 := Aside0.mk hg1
    have hrd := Kd.R_reads' hv
    have hmax := Kd.C_max hrd.2.2
    obtain ⟨K, hK⟩ := (row_ev xs HXL.out).rounds
    have HK := Aside0.mk hK
    have HRD := Aside0.mk hrd
    clear hv hs1 hg1 hcs cp hrd hmax hK
    go_wp2_with fail
    refine (value_Row.calls K Av cv xs (rowOk xs) _ HRD.out.2.2 HRD.out.2.1 HK.out).mono ?_
    rintro E w2 ⟨rfl, hb2⟩
    have hg2 := grown_of_below hb2 none
    have HV2 := Aside0.mk (Kd.R_below HV.out hb2)
    have HS2 := Aside0.mk (HS1.out.step hg2 (by simp) (by simp))
    have HG2 := Aside0.mk (gb_new HG1.out hg2 (fun k e => by cases e))
    clear hb2 hg2 HV HS1 HG1 HRD HK
    cases hr : rowOk xs with
    | true =>
      have hR := HR.out
      rw [if_pos hr] at hR
      have HRy := Aside0.mk hR
      clear HR hR hr
      go_wp2
      first | exact hyes.out _ _ _ _ HRy.out.symm HV2.out HS2.out HG2.out | (go_ret; exact hyes.out _ _ _ _ HRy.out.symm HV2.out HS2.out HG2.out)
    | false =>
      have hR := HR.out
      rw [if_neg (by rw [hr]; simp)] at hR
      have HRy := Aside0.mk hR
      clear HR hR hr
      go_wp2
      exact ⟨rfl, hno.out _ HRy.out.symm HG2.out⟩
end Go.Proofs.Ytgihecpobichbaa.Q
/- package code's Unrows: walked. Printed by wip/gen/readx.py. -/
namespace Go.Proofs.Ytgihecpobichbaa.Q
open Go.RowKit Go.Proofs.YtgihecpobichbaaW.PrintWords Go.Proofs.YtgihecpobichbaaW.PrintLast Go.Proofs.YtgihecpobichbaaW.PrintMore
set_option linter.unusedVariables false
set_option linter.unusedSimpArgs false
set_option maxHeartbeats 4000000 in
set_option maxRecDepth 100000 in
theorem itemsR_calls (p G : Nat) (l : List Int) (hl : l.length ≤ 1000000000) (w0 w : World) (hs : RdS w0 w G l) (hp : PBox w p G) (hne : p ≠ G) (RR : Option (List (List S116) × List Int)) (hRR : readItems itemR l = RR) :
    Calls Try.prog 76 #[.pointer (some ⟨G, 0, none⟩), .func (.func 77) #[] #[.pointer (some ⟨p, 0, none⟩)]] w fun E w' =>
      (∀ xs l', RR = some (xs, l') → ∃ v, E = .returned v ∧ Kd.R (Kd.slice 116 k116) 111 w' w.heap.size (fun _ => True) v xs ∧ RdS w0 w' G l') ∧ (RR = none → E = .panicked badP) ∧ w.grownBy w' (some G) := by
  have hG := hs.lt
  have hplt := blk_lt hp
  have HP0 := Aside0.mk hp
  have hnum := num_un G l (by omega) w0 w hs
  obtain ⟨Q, hQ⟩ : ∃ Q : Ending → World → Prop, Q = fun E w' => (∀ xs l', RR = some (xs, l') → ∃ v, E = .returned v ∧ Kd.R (Kd.slice 116 k116) 111 w' w.heap.size (fun _ => True) v xs ∧ RdS w0 w' G l') ∧ (RR = none → E = .panicked badP) ∧ w.grownBy w' (some G) := ⟨_, rfl⟩
  rw [← hQ]
  have hno : ∀ w', RR = none → w.grownBy w' (some G) → Q (.panicked badP) w' := by
    intro w' h1 h2
    rw [hQ]
    exact ⟨fun xs l' h => (by rw [h1] at h; cases h), fun _ => rfl, h2⟩
  have hyes : ∀ w' v xs l', RR = some (xs, l') → Kd.R (Kd.slice 116 k116) 111 w' w.heap.size (fun _ => True) v xs → RdS w0 w' G l' → w.grownBy w' (some G) → Q (.returned v) w' := by
    intro w' v xs l' h1 h2 h3 h4
    rw [hQ]
    refine ⟨fun xs' l'' h => ?_, fun h => (by rw [h1] at h; cases h), h4⟩
    rw [h1] at h
    simp only [Option.some.injEq, Prod.mk.injEq] at h
    obtain ⟨rfl, rfl⟩ := h
    exact ⟨v, rfl, h2, h3⟩
  clear hQ
  unfold readItems at hRR
  have hun := unS_le l 0 0
  have hj : 0 ≤ (un l).2.1 ∧ (un l).2.1 ≤ (l.length : Int) := ⟨hun.1, by simpa [un] using hun.2⟩
  obtain ⟨n, hn⟩ : ∃ n, (un l).1 = n := ⟨_, rfl⟩
  have hn0 : 0 ≤ n := hn ▸ un_range l (by omega)
  obtain ⟨l1, hl1⟩ : ∃ l1, l.drop (un l).2.1.toNat = l1 := ⟨_, rfl⟩
  have hl1' : l1.length ≤ 1000000000 := by rw [← hl1, List.length_drop]; omega
  by_cases he : (un l).2.2 = 0
  · rw [if_pos he, hn, hl1] at hRR
    rw [hn, hl1] at hnum
    have hc : Calls Try.prog 111 #[.pointer (some ⟨G, 0, none⟩)] w fun E w' => E = .returned (.int .u64 n) ∧ RdS w0 w' G l1 ∧ w.grownBy w' (some G) := hnum.mono fun E w' ⟨h1, _, h3⟩ => ⟨(h1 he).1, (h1 he).2, h3⟩
    clear hnum hn hl1 hun hj he hs hp
    go_enter Try.func76, Try.ntmps76
    go_wp2_with fail
    refine hc.mono ?_
    rintro E w1 ⟨rfl, hs1, hg1⟩
    have hG1 := hs1.lt
    obtain ⟨A1, c1, h1⟩ := hs1
    have hcell := h1.box.cell
    have hfz := h1.box.frozen
    have hlen : (l1.length : Int) ≤ 18446744073709551615 := by omega
    by_cases hbig : n > (l1.length : Int)
    · rw [if_pos hbig] at hRR
      have HR := Aside0.mk hRR
      clear hRR hc
      go_wp2
      exact ⟨rfl, hno _ HR.out.symm hg1⟩
    · rw [if_neg hbig] at hRR
      have HR := Aside0.mk hRR
      have HS1 := Aside0.mk (⟨A1, c1, h1⟩ : RdS w0 w1 G l1)
      have HG1 := Aside0.mk hg1
      have HPB1 := Aside0.mk (HP0.out.grown hg1 hne)
      clear hRR hc h1 hg1
      go_wp2_with fail
      have hnle : n ≤ 1000000000 := by omega
      have HB := Aside0.mk hbig
      clear hbig hcell hfz
      go_loopg [6, 20] (n.toNat) (fun kq v6 v20 wr => ∃ (i : Nat) (xs : List (List S116)) (l2 : List Int), v20 = .int .u64 i ∧ Aside0 ((i : Int) + kq = n) ∧ Aside0 (((readN itemR kq l2).map fun q => (xs ++ q.1, q.2)) = RR) ∧ Aside0 (xs.length = i) ∧ Aside0 (Kd.R (Kd.slice 116 k116) 111 wr w.heap.size (fun _ => True) v6 xs) ∧ Aside0 (RdS w0 wr G l2) ∧ Aside0 (w.grownBy wr (some G)) ∧ Aside0 (l2.length ≤ 1000000000) ∧ Aside0 (PBox wr p G))
      case atStart => exact ⟨0, [], l1, rfl, ⟨by omega⟩, ⟨by rw [← HR.out]; cases readN itemR n.toNat l1 <;> rfl⟩, ⟨rfl⟩, ⟨Kd.R_nil _ _ _ _ _⟩, HS1, HG1, ⟨hl1'⟩, HPB1⟩
      case round =>
        clear HR HS1 HG1 HPB1
        obtain ⟨i, xs, l2, rfl, HI, HF, HX, HO, HS, HG, HL, HPB⟩ := hrel
        cases gk with
        | zero =>
          have hlb : decide ((i : Int) < n) = false := decide_eq_false (by have := HI.out; omega)
          have hF := HF.out
          simp only [readN, Option.map_some, List.append_nil] at hF
          have HF2 := Aside0.mk hF
          clear hF HF
          go_wp2
          first
            | exact hyes _ _ _ _ HF2.out.symm HO.out HS.out HG.out
            | (go_ret; exact hyes _ _ _ _ HF2.out.symm HO.out HS.out HG.out)
        | succ k1 =>
          have hlb : decide ((i : Int) < n) = true := decide_eq_true (by have := HI.out; omega)
          have hi1 : (i : Int) + 1 ≤ 1000000001 := by have := HI.out; omega
          have hcw := nextR_item p G l2 HL.out w0 wr HS.out HPB.out hne
          cases hit : itemR l2 with
          | none =>
            have hcn : Calls Try.prog 77 #[.pointer (some ⟨p, 0, none⟩)] wr fun E w' => E = .panicked badP ∧ wr.grownBy w' (some G) := hcw.mono fun E w' ⟨_, h2, h3⟩ => ⟨h2 hit, h3⟩
            have hRn : RR = none := by rw [← HF.out, readN, hit]; rfl
            have HRn := Aside0.mk hRn
            clear hcw hit hRn
            go_wp2_with fail
            refine hcn.mono ?_
            rintro E w2 ⟨rfl, hg2⟩
            go_wp2
            exact ⟨rfl, hno _ HRn.out (gb_trans HG.out hg2)⟩
          | some p =>
            obtain ⟨x, l3⟩ := p
            have hcs : Calls Try.prog 77 #[.pointer (some ⟨p, 0, none⟩)] wr fun E w' => (∃ vx, E = .returned vx ∧ Kd.R k116 116 w' wr.heap.size (fun _ => True) vx x) ∧ RdS w0 w' G l3 ∧ wr.grownBy w' (some G) := hcw.mono fun E w' ⟨h1, _, h3⟩ => ⟨(h1 x l3 hit).1, (h1 x l3 hit).2, h3⟩
            have hF2 : ((readN itemR k1 l3).map fun q => ((xs ++ [x]) ++ q.1, q.2)) = RR := by
              rw [← HF.out, readN, hit]
              simp only [Option.bind_some]
              cases readN itemR k1 l3 with
              | none => rfl
              | some q => simp
            have hl3 : l3.length ≤ l2.length := Nat.le_of_lt (itemR_less l2 x l3 hit)
            have HF3 := Aside0.mk hF2
            have HL3 := Aside0.mk (show l3.length ≤ 1000000000 by have := HL.out; omega)
            clear hcw hit hF2 hl3 HF HL
            go_wp2_with fail
            refine hcs.mono ?_
            rintro E w2 ⟨⟨vx, rfl, hvx⟩, hs2, hg2⟩
            obtain ⟨Ax, cx, rfl⟩ := Kd.R_slice hvx
            have HVX := Aside0.mk (Kd.R_lower (Kd.R_bound hvx) (base' := w.heap.size) HG.out.size)
            have HUL := Aside0.mk (Kd.R_lt HO.out)
            clear hvx
            have HG2 := Aside0.mk (gb_trans HG.out hg2)
            have HO2 := Aside0.mk (R_past HO.out hg2 hG.1)
            have HS2 := Aside0.mk hs2
            have HPB2 := Aside0.mk (HPB.out.grown hg2 hne)
            have HZ := Aside0.mk (show w.heap.size ≤ w2.heap.size from HG2.out.4)
            clear hg2 hs2 HO HS HG HPB
            go_wp2_with (first | ((with_reducible refine gate_builtin (b := .append) (xs := #[.tmp 22, .tmp 25]) rfl ?_); (try (refine gate_guard (by rfl) ?_; dsimp only)); at_builtin; refine Kd.R_append (Kd.slice 116 k116) (w0 := w2) w.heap.size rfl (.tmp 22) (.tmp 25) 37 111 (.slice none 0 0) 24 rfl Try.underlying37 info111 rfl (by decide) (by omega) u6 xs x [.slice Ax x.length cx] (fun _ => True) (fun k => True ∧ wr.heap.size ≤ k ∧ k < w2.heap.size ∧ ∃ q, q ∈ 116 :: (k116).E ∧ ∃ cells, w2.heap[k]? = some (.cells cells q (0, 0))) rfl rfl ?aP (fun k hk => ⟨trivial, fun e => by have := HUL.out k e.symm; have := hk.2.1; omega⟩) ?aF ?aO ?aB ?aS ?aL ?_; (case aP => exact ⟨_, rfl, HVX.out⟩); (case aB => exact Below.refl _ _); (case aF => exact (fun _ _ => trivial)); (case aO => exact HO2.out); (case aS => exact HZ.out); (case aL => have := HX.out; omega); intro v1 w3 ho hb hg hat; have HO3 := Aside0.mk ho; have HGr := Aside0.mk hg; clear ho hb hg hat))
            have hnb : ∀ k, u6.ownBlock = some k → w.heap.size ≤ k := Kd.R_base HO2.out
            have HS3 := Aside0.mk (HS2.out.step HGr.out (fun e => by have := hnb G e.symm; omega) (fun k e => by have := hnb k e; omega))
            have HG3 := Aside0.mk (gb_new HG2.out HGr.out hnb)
            have HPB3 := Aside0.mk (blk_grown HPB2.out HGr.out (fun e => by have := hnb p e.symm; omega))
            clear hnb
            go_roundg k1
            case measure => omega
            case rel => exact ⟨i + 1, xs ++ [x], l3, by congr 1, ⟨by have := HI.out; omega⟩, HF3, ⟨by rw [List.length_append, HX.out]; rfl⟩, HO3, HS3, HG3, HL3, HPB3⟩
  · rw [if_neg he] at hRR
    have hc : Calls Try.prog 111 #[.pointer (some ⟨G, 0, none⟩)] w fun E w' => E = .panicked badP ∧ w.grownBy w' (some G) := hnum.mono fun E w' ⟨_, h2, h3⟩ => ⟨h2 he, h3⟩
    have HR := Aside0.mk hRR
    clear hnum hn hl1 hun hj he hs hRR hp
    go_enter Try.func76, Try.ntmps76
    go_wp2_with fail
    refine hc.mono ?_
    rintro E w1 ⟨rfl, hg1⟩
    go_wp2
    exact ⟨rfl, hno _ HR.out.symm hg1⟩
def ItemsROut (w0 w : World) (G : Nat) (RR : Option (List (List S116) × List Int)) (E : Ending) (w' : World) : Prop :=
  (∀ xs l', RR = some (xs, l') → ∃ v, E = .returned v ∧ Kd.R (Kd.slice 116 k116) 111 w' w.heap.size (fun _ => True) v xs ∧ RdS w0 w' G l') ∧ (RR = none → E = .panicked badP) ∧ w.grownBy w' (some G)
set_option maxHeartbeats 1000000 in
theorem un1R_calls (G : Nat) (l : List Int) (hl : l.length ≤ 1000000000) (w0 w : World) (hs : RdS w0 w G l) :
    Calls Try.prog 75 #[.pointer (some ⟨G, 0, none⟩)] w (ItemsROut w0 w G (readItems itemR l)) := by
  have mf := mkf
  have hG := hs.lt2
  obtain ⟨RR, hRR⟩ : ∃ RR, readItems itemR l = RR := ⟨_, rfl⟩
  have hpb : PBox (w.alloc (.cells #[.pointer (some ⟨G, 0, none⟩)] 129)) w.heap.size G := blk_new w _
  have hc := itemsR_calls w.heap.size G l hl w0 _ (hs.step (World.grownBy_alloc w (.cells #[.pointer (some ⟨G, 0, none⟩)] 129) none) (by simp) (by simp)) hpb (by omega) RR hRR
  have c0 := hpb.cell
  rw [hRR]
  obtain ⟨Q, hQ⟩ : ∃ Q : Ending → World → Prop, Q = ItemsROut w0 w G RR := ⟨_, rfl⟩
  rw [← hQ]
  have hQ' : ∀ E w', ItemsROut w0 w G RR E w' → Q E w' := fun E w' h => by rw [hQ]; exact h
  clear hQ hs hRR hpb hG
  go_enter Try.func75, Try.ntmps75
  go_wp2_with fail
  refine hc.mono ?_
  rintro E w1 ⟨h1, h2, h3⟩
  have h3' : w.grownBy w1 (some G) := World.grownBy.trans (World.grownBy_alloc w _ _) h3
  have h1' : ∀ xs l', RR = some (xs, l') → ∃ v, E = .returned v ∧ Kd.R (Kd.slice 116 k116) 111 w1 w.heap.size (fun _ => True) v xs ∧ RdS w0 w1 G l' := by
    intro xs l' hx
    obtain ⟨v, e, hv, hr⟩ := h1 xs l' hx
    exact ⟨v, e, Kd.R_lower hv (by rw [World.size_alloc]; omega), hr⟩
  clear h1 h3 c0
  cases hR : RR with
  | none =>
    obtain rfl := h2 hR
    have H := hQ' (.panicked badP) w1 ⟨h1', h2, h3'⟩
    clear h1' h2 hQ' hc h3'
    go_wp2
    exact ⟨rfl, H⟩
  | some p =>
    obtain ⟨xs, l'⟩ := p
    obtain ⟨v, rfl, h4, h5⟩ := h1' xs l' hR
    have H := hQ' (.returned v) w1 ⟨h1', h2, h3'⟩
    clear h1' h2 hQ' hc h4 h5 h3'
    go_wp2
    first | exact H | (go_ret; exact H)
set_option maxHeartbeats 1000000 in
theorem catch_bad_R (bl be : Nat) (hne : bl ≠ be) (v0 : Value) (e0 : Int) (w : World) (hl : Boxed w bl 37 v0) (he : Boxed w be 24 (.int .i64 e0)) :
    CallsD Try.prog 110 #[.pointer (some ⟨bl, 0, none⟩), .pointer (some ⟨be, 0, none⟩)] (.panicking badP) w fun e u' w' =>
      e = .returned (.tuple #[]) ∧ u' = .panicking [{ v := .iface 134 (.agg #[]), recovered := true }] ∧ w' = ((w.setCell ⟨bl, 0, none⟩ (.slice none 0 0)).setCell ⟨be, 0, none⟩ (.int .i64 41)).alloc (.cells #[] 134) := by
  have l1 := hl.lt
  have l2 := he.lt
  have m1 := hl.cell
  have f1 := hl.frozen
  have m2 := he.cell
  have f2 := he.frozen
  have m3 := (he.other (Ne.symm hne) (.slice none 0 0)).cell
  have f3 := (he.other (Ne.symm hne) (.slice none 0 0)).frozen
  refine callsD_of_wpS Try.func110 rfl fun c₀ cs hu => ?_
  unfold badP at hu
  apply wpS_seq
  apply wpS_region
  simp [wpOpsS, go_sem, recoverD, hu, Try.ntmps110, Exit.thenS]
  have k1 := bad_ne
  have k2 := assert_bad
  refine wpS_of_wp ?_
  simp only [Array.replicate_succ, Array.replicate_zero, List.push_toArray, List.append_toArray, List.nil_append, List.cons_append, List.setIfInBounds_toArray, List.set_cons_succ, List.set_cons_zero]
  go_wp2
  simp [bodyPostS, results, Try.results110]
theorem catch_idle_R (p q : Addr) (w : World) :
    CallsD Try.prog 110 #[.pointer (some p), .pointer (some q)] .returning w fun e u' w' => e = .returned (.tuple #[]) ∧ u' = .returning ∧ w = w' := by
  have k3 : ∀ w : World, (binOp .neq 20 .nilIface .nilIface).run Try.prog w = .ok (.bool false) w := fun _ => by kernel_rfl
  refine callsD_of_wpS Try.func110 rfl fun c₀ cs hu => ?_
  apply wpS_seq
  apply wpS_region
  simp [wpOpsS, go_sem, recoverD, hu, Try.ntmps110, Exit.thenS]
  refine wpS_of_wp ?_
  simp only [Array.replicate_succ, Array.replicate_zero, List.push_toArray, List.append_toArray, List.nil_append, List.cons_append, List.setIfInBounds_toArray, List.set_cons_succ, List.set_cons_zero]
  go_wp2
  cases c₀
  simp_all [bodyPostS, results, Try.results110]
/-- What code.Unrows comes to. -/
def readR (l : List Int) : List (List S116) × Int :=
  match readItems itemR l with
  | some (xs, l') => if l'.length > 0 ∨ l.length > 16777216 then ([], 41) else (xs, 0)
  | none => ([], 41)
set_option maxHeartbeats 4000000 in
set_option maxRecDepth 100000 in
theorem readR_calls (A : Option Addr) (c : Nat) (l : List Int) (hl : l.length ≤ 1000000000) (w : World) (hr : Kd.C (Kd.int .u8) w A l.length l) (hc : l.length ≤ c) (r1 : List (List S116)) (r2 : Int) (hrr : readR l = (r1, r2)) :
    Calls Try.prog 74 #[.slice A l.length c, .func (.func 75) #[] #[]] w fun e w' => ∃ v0_ : Value, e = .returned (.tuple #[v0_, .int .i64 r2]) ∧ Kd.R (Kd.slice 116 k116) 111 w' w.heap.size (fun _ => True) v0_ r1 ∧ Below w.heap.size w w' := by
  have mf := mkf
  have HR := Aside0.mk hr
  clear hr
  go_enter_defers Try.func74, Try.ntmps74
  go_wp2_with fail
  have bg := Boxed.new ((w.alloc (.cells #[.slice none 0 0] 37)).alloc (.cells #[.int .i64 0] 24)) 168 (.slice A l.length c)
  rw [World.size_alloc, World.size_alloc] at bg
  have bl := ((Boxed.new w 37 (.slice none 0 0)).alloc (.cells #[.int .i64 0] 24)).alloc (.cells #[.slice A l.length c] 168)
  have be := (Boxed.new (w.alloc (.cells #[.slice none 0 0] 37)) 24 (.int .i64 0)).alloc (.cells #[.slice A l.length c] 168)
  rw [World.size_alloc] at be
  have hb3 : Below w.heap.size w (((w.alloc (.cells #[.slice none 0 0] 37)).alloc (.cells #[.int .i64 0] 24)).alloc (.cells #[.slice A l.length c] 168)) := below_alloc (below_alloc (below_alloc (Below.refl _ _) _) _) _
  have hs3 : (((w.alloc (.cells #[.slice none 0 0] 37)).alloc (.cells #[.int .i64 0] 24)).alloc (.cells #[.slice A l.length c] 168)).heap.size = w.heap.size + 1 + 1 + 1 := by rw [World.size_alloc, World.size_alloc, World.size_alloc]
  generalize ((w.alloc (.cells #[.slice none 0 0] 37)).alloc (.cells #[.int .i64 0] 24)).alloc (.cells #[.slice A l.length c] 168) = W3 at bg bl be hb3 hs3 ⊢
  refine (un1R_calls (w.heap.size + 1 + 1) l hl w W3 ⟨A, c, ⟨bg, HR.out, hb3, by omega, hc⟩⟩).mono ?_
  rintro E w1 ⟨h1, h2, h3⟩
  have bl1 := bl.kept h3 (fun e => by injection e with e; omega)
  have be1 := be.kept h3 (fun e => by injection e with e; omega)
  have hb1 : Below w.heap.size w w1 := hb3.grown h3 (by omega) (fun k hk => by injection hk with hk; omega)
  have HB1 := Aside0.mk hb1
  have BL := Aside0.mk bl1
  have BE := Aside0.mk be1
  have hlt := h3.size
  rw [hs3] at hlt
  cases hR : readItems itemR l with
  | none =>
    obtain rfl := h2 hR
    have hI : readR l = ([], 41) := by unfold readR; rw [hR]
    rw [hI] at hrr
    simp only [Prod.mk.injEq] at hrr
    obtain ⟨rfl, rfl⟩ := hrr
    clear h1 h2 h3 bg bl be hb3 bl1 be1 hb1 hR hI
    unfold badP
    go_wp2
    refine leaves_cons (f := 110) (args := #[.pointer (some ⟨w.heap.size, 0, none⟩), .pointer (some ⟨w.heap.size + 1, 0, none⟩)]) (by simp) (by simp [go_sem]) ?_
    refine (catch_bad_R w.heap.size (w.heap.size + 1) (by omega) (.slice none 0 0) 0 w1 BL.out BE.out).mono ?_
    rintro e u' w'' ⟨rfl, rfl, rfl⟩
    have xl := ((BL.out.set (.slice none 0 0)).other (show w.heap.size ≠ w.heap.size + 1 by omega) (.int .i64 41)).alloc (.cells #[] 134)
    have xe := ((BE.out.other (show w.heap.size + 1 ≠ w.heap.size by omega) (.slice none 0 0)).set (.int .i64 41)).alloc (.cells #[] 134)
    have yl := xl.cell
    have ye := xe.cell
    have hB : Below w.heap.size w (((w1.setCell ⟨w.heap.size, 0, none⟩ (.slice none 0 0)).setCell ⟨w.heap.size + 1, 0, none⟩ (.int .i64 41)).alloc (.cells #[] 134)) := below_alloc (below_set (below_set HB1.out (by omega)) (by omega)) _
    generalize ((w1.setCell ⟨w.heap.size, 0, none⟩ (.slice none 0 0)).setCell ⟨w.heap.size + 1, 0, none⟩ (.int .i64 41)).alloc (.cells #[] 134) = W4 at xl xe yl ye hB ⊢
    simp [Leaves, settle, results, Try.results74, go_sem]
    refine ⟨.tuple #[.slice none 0 0, .int .i64 41], by simp [yl, ye, go_sem], _, rfl, Kd.R_nil _ _ _ _ _, hB⟩
  | some p =>
    obtain ⟨xs, l'⟩ := p
    obtain ⟨v, rfl, h4, h5⟩ := h1 xs l' hR
    obtain ⟨A', c', hd⟩ := h5
    obtain ⟨A2, c2, rfl⟩ := Kd.R_slice h4
    have bx := hd.box
    have H4 := Aside0.mk h4
    have hI : readR l = (if l'.length > 0 ∨ l.length > 16777216 then ([], 41) else (xs, 0)) := by unfold readR; rw [hR]
    rw [hI] at hrr
    have cg : (w1.setCell ⟨w.heap.size, 0, none⟩ (.slice A2 xs.length c2)).cell? ⟨w.heap.size + 1 + 1, 0, none⟩ = some (.slice A' l'.length c') := (bx.other (by omega) (.slice A2 xs.length c2)).cell
    have BL2 : Aside0 (Boxed (w1.setCell ⟨w.heap.size, 0, none⟩ (.slice A2 xs.length c2)) w.heap.size 37 (.slice A2 xs.length c2)) := ⟨BL.out.set _⟩
    have BE2 : Aside0 (Boxed (w1.setCell ⟨w.heap.size, 0, none⟩ (.slice A2 xs.length c2)) (w.heap.size + 1) 24 (.int .i64 0)) := ⟨BE.out.other (by omega) _⟩
    have HB2 : Aside0 (Below w.heap.size w (w1.setCell ⟨w.heap.size, 0, none⟩ (.slice A2 xs.length c2))) := ⟨below_set HB1.out (by omega)⟩
    have cl1 : w1.cell? ⟨w.heap.size, 0, none⟩ = some (.slice none 0 0) := bl1.cell
    have fl1 : w1.frozen? ⟨w.heap.size, 0, none⟩ = false := bl1.frozen
    have ce1 : w1.cell? ⟨w.heap.size + 1, 0, none⟩ = some (.int .i64 0) := be1.cell
    have fe1 : w1.frozen? ⟨w.heap.size + 1, 0, none⟩ = false := be1.frozen
    clear h1 h2 h3 bg bl be hb3 bl1 be1 hb1 hR hI h4 hd bx
    by_cases hx : l'.length > 0
    · rw [if_pos (.inl hx)] at hrr
      simp only [Prod.mk.injEq] at hrr
      obtain ⟨rfl, rfl⟩ := hrr
      have d1 : decide (0 < (l'.length : Int)) = true := decide_eq_true (by omega)
      have d2 : decide (0 < l'.length) = true := decide_eq_true hx
      clear hx
      go_wp2
      refine leaves_cons (f := 110) (args := #[.pointer (some ⟨w.heap.size, 0, none⟩), .pointer (some ⟨w.heap.size + 1, 0, none⟩)]) (by simp) (by simp [go_sem]) ?_
      refine (catch_bad_R w.heap.size (w.heap.size + 1) (by omega) (.slice A2 xs.length c2) 0 (w1.setCell ⟨w.heap.size, 0, none⟩ (.slice A2 xs.length c2)) BL2.out BE2.out).mono ?_
      rintro e u' w'' ⟨rfl, rfl, rfl⟩
      have xl := ((BL2.out.set (.slice none 0 0)).other (show w.heap.size ≠ w.heap.size + 1 by omega) (.int .i64 41)).alloc (.cells #[] 134)
      have xe := ((BE2.out.other (show w.heap.size + 1 ≠ w.heap.size by omega) (.slice none 0 0)).set (.int .i64 41)).alloc (.cells #[] 134)
      have yl := xl.cell
      have ye := xe.cell
      have hB : Below w.heap.size w ((((w1.setCell ⟨w.heap.size, 0, none⟩ (.slice A2 xs.length c2)).setCell ⟨w.heap.size, 0, none⟩ (.slice none 0 0)).setCell ⟨w.heap.size + 1, 0, none⟩ (.int .i64 41)).alloc (.cells #[] 134)) := below_alloc (below_set (below_set HB2.out (by omega)) (by omega)) _
      generalize (((w1.setCell ⟨w.heap.size, 0, none⟩ (.slice A2 xs.length c2)).setCell ⟨w.heap.size, 0, none⟩ (.slice none 0 0)).setCell ⟨w.heap.size + 1, 0, none⟩ (.int .i64 41)).alloc (.cells #[] 134) = W4 at xl xe yl ye hB ⊢
      simp [Leaves, settle, results, Try.results74, go_sem]
      refine ⟨.tuple #[.slice none 0 0, .int .i64 41], by simp [yl, ye, go_sem], _, rfl, Kd.R_nil _ _ _ _ _, hB⟩
    · have d1 : decide (0 < (l'.length : Int)) = false := decide_eq_false (by omega)
      have d2 : decide (0 < l'.length) = false := decide_eq_false hx
      by_cases hy : l.length > 16777216
      · rw [if_pos (.inr hy)] at hrr
        simp only [Prod.mk.injEq] at hrr
        obtain ⟨rfl, rfl⟩ := hrr
        have e1 : decide (16777216 < (l.length : Int)) = true := decide_eq_true (by omega)
        have e2 : decide (16777216 < l.length) = true := decide_eq_true hy
        clear hx hy
        go_wp2
        refine leaves_cons (f := 110) (args := #[.pointer (some ⟨w.heap.size, 0, none⟩), .pointer (some ⟨w.heap.size + 1, 0, none⟩)]) (by simp) (by simp [go_sem]) ?_
        refine (catch_bad_R w.heap.size (w.heap.size + 1) (by omega) (.slice A2 xs.length c2) 0 (w1.setCell ⟨w.heap.size, 0, none⟩ (.slice A2 xs.length c2)) BL2.out BE2.out).mono ?_
        rintro e u' w'' ⟨rfl, rfl, rfl⟩
        have xl := ((BL2.out.set (.slice none 0 0)).other (show w.heap.size ≠ w.heap.size + 1 by omega) (.int .i64 41)).alloc (.cells #[] 134)
        have xe := ((BE2.out.other (show w.heap.size + 1 ≠ w.heap.size by omega) (.slice none 0 0)).set (.int .i64 41)).alloc (.cells #[] 134)
        have yl := xl.cell
        have ye := xe.cell
        have hB : Below w.heap.size w ((((w1.setCell ⟨w.heap.size, 0, none⟩ (.slice A2 xs.length c2)).setCell ⟨w.heap.size, 0, none⟩ (.slice none 0 0)).setCell ⟨w.heap.size + 1, 0, none⟩ (.int .i64 41)).alloc (.cells #[] 134)) := below_alloc (below_set (below_set HB2.out (by omega)) (by omega)) _
        generalize (((w1.setCell ⟨w.heap.size, 0, none⟩ (.slice A2 xs.length c2)).setCell ⟨w.heap.size, 0, none⟩ (.slice none 0 0)).setCell ⟨w.heap.size + 1, 0, none⟩ (.int .i64 41)).alloc (.cells #[] 134) = W4 at xl xe yl ye hB ⊢
        simp [Leaves, settle, results, Try.results74, go_sem]
        refine ⟨.tuple #[.slice none 0 0, .int .i64 41], by simp [yl, ye, go_sem], _, rfl, Kd.R_nil _ _ _ _ _, hB⟩
      · rw [if_neg (by omega)] at hrr
        simp only [Prod.mk.injEq] at hrr
        obtain ⟨rfl, rfl⟩ := hrr
        have e1 : decide (16777216 < (l.length : Int)) = false := decide_eq_false (by omega)
        have e2 : decide (16777216 < l.length) = false := decide_eq_false hy
        clear hx hy
        go_wp2
        refine leaves_cons (f := 110) (args := #[.pointer (some ⟨w.heap.size, 0, none⟩), .pointer (some ⟨w.heap.size + 1, 0, none⟩)]) (by simp) (by simp [go_sem]) ?_
        refine (catch_idle_R ⟨w.heap.size, 0, none⟩ ⟨w.heap.size + 1, 0, none⟩ _).mono ?_
        rintro e u' w'' ⟨rfl, rfl, rfl⟩
        have VV : ∃ v : Value, v = .slice A2 xs.length c2 := ⟨_, rfl⟩
        have x1 := (BL2.out.set (.slice A2 xs.length c2)).other (show w.heap.size ≠ w.heap.size + 1 by omega) (.int .i64 0)
        have x2 := (BE2.out.other (show w.heap.size + 1 ≠ w.heap.size by omega) (.slice A2 xs.length c2)).set (.int .i64 0)
        have yl := x1.cell
        have ye := x2.cell
        have hB : Below w.heap.size w (((w1.setCell ⟨w.heap.size, 0, none⟩ (.slice A2 xs.length c2)).setCell ⟨w.heap.size, 0, none⟩ (.slice A2 xs.length c2)).setCell ⟨w.heap.size + 1, 0, none⟩ (.int .i64 0)) := below_set (below_set HB2.out (by omega)) (by omega)
        have q1 := R_past H4.out (grownBy_setCell' w1 w.heap.size (.slice A2 xs.length c2)) (by omega)
        have q2 := R_past q1 (grownBy_setCell' _ w.heap.size (.slice A2 xs.length c2)) (by omega)
        have q3 := Kd.R_lower (base' := w.heap.size) (R_past q2 (grownBy_setCell' _ (w.heap.size + 1) (.int .i64 0)) (by omega)) (by omega)
        generalize ((w1.setCell ⟨w.heap.size, 0, none⟩ (.slice A2 xs.length c2)).setCell ⟨w.heap.size, 0, none⟩ (.slice A2 xs.length c2)).setCell ⟨w.heap.size + 1, 0, none⟩ (.int .i64 0) = W4 at x1 x2 yl ye hB q3 ⊢
        simp [Leaves, settle, results, Try.results74, go_sem]
        refine ⟨.tuple #[.slice A2 xs.length c2, .int .i64 0], by simp [yl, ye, go_sem], _, rfl, q3, hB⟩
def code_Unrows.f (k : Nat) (l0 : List Int) : Option (List (List S116) × Int) := if l0.length ≤ 1000000000 then some (readR l0) else none
set_option maxHeartbeats 1000000 in
theorem code_Unrows.calls (k : Nat) (A0 : Option Addr) (c0 : Nat) (l0 : List Int) (r1 : List (List S116)) (r2 : Int) (w : World) (hr0 : Kd.C (Kd.int .u8) w A0 l0.length l0) (hc0 : l0.length ≤ c0) (h : code_Unrows.f k l0 = some (r1, r2)) :
    Calls Try.prog 29 #[.slice A0 l0.length c0] w fun e w' => ∃ v0_ : Value, e = .returned (.tuple #[v0_, .int .i64 r2]) ∧ Kd.R (Kd.slice 116 k116) 111 w' w.heap.size (fun _ => True) v0_ r1 ∧ Below w.heap.size w w' := by
  unfold code_Unrows.f at h
  split at h
  · rename_i hl
    have hrr := Option.some.inj h
    have hc := readR_calls A0 c0 l0 hl w hr0 hc0 r1 r2 hrr
    clear hr0 h hrr
    go_enter Try.func29, Try.ntmps29
    go_wp2_with fail
    refine hc.mono ?_
    rintro e w1 ⟨v, rfl, hR, hb⟩
    go_wp2
    go_ret2
    exact ⟨v, rfl, hR, hb⟩
  · cases h
end Go.Proofs.Ytgihecpobichbaa.Q
/- package code's Unpairs: walked. Printed by wip/gen/readx.py. -/
namespace Go.Proofs.Ytgihecpobichbaa.Q
open Go.RowKit Go.Proofs.YtgihecpobichbaaW.PrintWords Go.Proofs.YtgihecpobichbaaW.PrintLast Go.Proofs.YtgihecpobichbaaW.PrintMore
set_option linter.unusedVariables false
set_option linter.unusedSimpArgs false
theorem nextP_item (p G : Nat) (l : List Int) (hl : l.length ≤ 1000000000) (w0 w : World) (hs : RdS w0 w G l) (hp : PBox w p G) (hne : p ≠ G) :
    Calls Try.prog 89 #[.pointer (some ⟨p, 0, none⟩)] w (RdOut w0 w G (itemP l) (fun x : S74 => .agg #[.string x.f0, .string x.f1])) := by
  unfold RdOut itemP
  cases h1 : itemW l with
  | none =>
    refine (nextP_1 p G l hl w0 w hs hp hne h1).mono ?_
    rintro E w' ⟨rfl, hg⟩
    exact ⟨fun x l' h => (by simp at h), fun _ => rfl, hg⟩
  | some q =>
    obtain ⟨x, l1⟩ := q
    cases h2 : itemW l1 with
    | none =>
      refine (nextP_2 p G l hl w0 w hs hp hne x l1 h1 h2).mono ?_
      rintro E w' ⟨rfl, hg⟩
      exact ⟨fun x l' h => (by simp [h2] at h), fun _ => rfl, hg⟩
    | some q =>
      obtain ⟨y, l2⟩ := q
      refine (nextP_0 p G l hl w0 w hs hp hne x l1 h1 y l2 h2).mono ?_
      rintro E w' ⟨rfl, hs2, hg⟩
      refine ⟨fun x' l' h => ?_, fun h => (by simp [h2] at h), hg⟩
      simp only [Option.bind_some, h2, Option.map_some, Option.some.injEq, Prod.mk.injEq] at h
      obtain ⟨rfl, rfl⟩ := h
      exact ⟨rfl, hs2⟩
theorem itemP_less (l : List Int) (a : S74) (r : List Int) (h : itemP l = some (a, r)) : r.length < l.length := by
  unfold itemP at h
  obtain ⟨⟨x, l1⟩, h1, h2⟩ := Option.bind_eq_some_iff.1 h
  obtain ⟨⟨y, l2⟩, h3, h4⟩ := Option.map_eq_some_iff.1 h2
  simp only [Prod.mk.injEq] at h4 h3
  obtain ⟨_, rfl⟩ := h4
  have e1 := itemW_lt l x l1 h1
  have e2 := itemW_lt l1 y l2 h3
  omega
set_option maxHeartbeats 4000000 in
set_option maxRecDepth 100000 in
theorem itemsP_calls (p G : Nat) (l : List Int) (hl : l.length ≤ 1000000000) (w0 w : World) (hs : RdS w0 w G l) (hp : PBox w p G) (hne : p ≠ G) (RR : Option (List S74 × List Int)) (hRR : readItems itemP l = RR) :
    Calls Try.prog 88 #[.pointer (some ⟨G, 0, none⟩), .func (.func 89) #[] #[.pointer (some ⟨p, 0, none⟩)]] w fun E w' =>
      (∀ xs l', RR = some (xs, l') → ∃ v, E = .returned v ∧ Kd.R k74 74 w' w.heap.size (fun _ => True) v xs ∧ RdS w0 w' G l') ∧ (RR = none → E = .panicked badP) ∧ w.grownBy w' (some G) := by
  have hG := hs.lt
  have hplt := blk_lt hp
  have HP0 := Aside0.mk hp
  have hnum := num_un G l (by omega) w0 w hs
  obtain ⟨Q, hQ⟩ : ∃ Q : Ending → World → Prop, Q = fun E w' => (∀ xs l', RR = some (xs, l') → ∃ v, E = .returned v ∧ Kd.R k74 74 w' w.heap.size (fun _ => True) v xs ∧ RdS w0 w' G l') ∧ (RR = none → E = .panicked badP) ∧ w.grownBy w' (some G) := ⟨_, rfl⟩
  rw [← hQ]
  have hno : ∀ w', RR = none → w.grownBy w' (some G) → Q (.panicked badP) w' := by
    intro w' h1 h2
    rw [hQ]
    exact ⟨fun xs l' h => (by rw [h1] at h; cases h), fun _ => rfl, h2⟩
  have hyes : ∀ w' v xs l', RR = some (xs, l') → Kd.R k74 74 w' w.heap.size (fun _ => True) v xs → RdS w0 w' G l' → w.grownBy w' (some G) → Q (.returned v) w' := by
    intro w' v xs l' h1 h2 h3 h4
    rw [hQ]
    refine ⟨fun xs' l'' h => ?_, fun h => (by rw [h1] at h; cases h), h4⟩
    rw [h1] at h
    simp only [Option.some.injEq, Prod.mk.injEq] at h
    obtain ⟨rfl, rfl⟩ := h
    exact ⟨v, rfl, h2, h3⟩
  clear hQ
  unfold readItems at hRR
  have hun := unS_le l 0 0
  have hj : 0 ≤ (un l).2.1 ∧ (un l).2.1 ≤ (l.length : Int) := ⟨hun.1, by simpa [un] using hun.2⟩
  obtain ⟨n, hn⟩ : ∃ n, (un l).1 = n := ⟨_, rfl⟩
  have hn0 : 0 ≤ n := hn ▸ un_range l (by omega)
  obtain ⟨l1, hl1⟩ : ∃ l1, l.drop (un l).2.1.toNat = l1 := ⟨_, rfl⟩
  have hl1' : l1.length ≤ 1000000000 := by rw [← hl1, List.length_drop]; omega
  by_cases he : (un l).2.2 = 0
  · rw [if_pos he, hn, hl1] at hRR
    rw [hn, hl1] at hnum
    have hc : Calls Try.prog 111 #[.pointer (some ⟨G, 0, none⟩)] w fun E w' => E = .returned (.int .u64 n) ∧ RdS w0 w' G l1 ∧ w.grownBy w' (some G) := hnum.mono fun E w' ⟨h1, _, h3⟩ => ⟨(h1 he).1, (h1 he).2, h3⟩
    clear hnum hn hl1 hun hj he hs hp
    go_enter Try.func88, Try.ntmps88
    go_wp2_with fail
    refine hc.mono ?_
    rintro E w1 ⟨rfl, hs1, hg1⟩
    have hG1 := hs1.lt
    obtain ⟨A1, c1, h1⟩ := hs1
    have hcell := h1.box.cell
    have hfz := h1.box.frozen
    have hlen : (l1.length : Int) ≤ 18446744073709551615 := by omega
    by_cases hbig : n > (l1.length : Int)
    · rw [if_pos hbig] at hRR
      have HR := Aside0.mk hRR
      clear hRR hc
      go_wp2
      exact ⟨rfl, hno _ HR.out.symm hg1⟩
    · rw [if_neg hbig] at hRR
      have HR := Aside0.mk hRR
      have HS1 := Aside0.mk (⟨A1, c1, h1⟩ : RdS w0 w1 G l1)
      have HG1 := Aside0.mk hg1
      have HPB1 := Aside0.mk (HP0.out.grown hg1 hne)
      clear hRR hc h1 hg1
      go_wp2_with fail
      have hnle : n ≤ 1000000000 := by omega
      have HB := Aside0.mk hbig
      clear hbig hcell hfz
      go_loopg [6, 20] (n.toNat) (fun kq v6 v20 wr => ∃ (i : Nat) (xs : List S74) (l2 : List Int), v20 = .int .u64 i ∧ Aside0 ((i : Int) + kq = n) ∧ Aside0 (((readN itemP kq l2).map fun q => (xs ++ q.1, q.2)) = RR) ∧ Aside0 (xs.length = i) ∧ Aside0 (Kd.R k74 74 wr w.heap.size (fun _ => True) v6 xs) ∧ Aside0 (RdS w0 wr G l2) ∧ Aside0 (w.grownBy wr (some G)) ∧ Aside0 (l2.length ≤ 1000000000) ∧ Aside0 (PBox wr p G))
      case atStart => exact ⟨0, [], l1, rfl, ⟨by omega⟩, ⟨by rw [← HR.out]; cases readN itemP n.toNat l1 <;> rfl⟩, ⟨rfl⟩, ⟨Kd.R_nil _ _ _ _ _⟩, HS1, HG1, ⟨hl1'⟩, HPB1⟩
      case round =>
        clear HR HS1 HG1 HPB1
        obtain ⟨i, xs, l2, rfl, HI, HF, HX, HO, HS, HG, HL, HPB⟩ := hrel
        cases gk with
        | zero =>
          have hlb : decide ((i : Int) < n) = false := decide_eq_false (by have := HI.out; omega)
          have hF := HF.out
          simp only [readN, Option.map_some, List.append_nil] at hF
          have HF2 := Aside0.mk hF
          clear hF HF
          go_wp2
          first
            | exact hyes _ _ _ _ HF2.out.symm HO.out HS.out HG.out
            | (go_ret; exact hyes _ _ _ _ HF2.out.symm HO.out HS.out HG.out)
        | succ k1 =>
          have hlb : decide ((i : Int) < n) = true := decide_eq_true (by have := HI.out; omega)
          have hi1 : (i : Int) + 1 ≤ 1000000001 := by have := HI.out; omega
          have hcw := nextP_item p G l2 (by have := HL.out; omega) w0 wr HS.out HPB.out hne
          cases hit : itemP l2 with
          | none =>
            have hcn : Calls Try.prog 89 #[.pointer (some ⟨p, 0, none⟩)] wr fun E w' => E = .panicked badP ∧ wr.grownBy w' (some G) := hcw.mono fun E w' ⟨_, h2, h3⟩ => ⟨h2 hit, h3⟩
            have hRn : RR = none := by rw [← HF.out, readN, hit]; rfl
            have HRn := Aside0.mk hRn
            clear hcw hit hRn
            go_wp2_with fail
            refine hcn.mono ?_
            rintro E w2 ⟨rfl, hg2⟩
            go_wp2
            exact ⟨rfl, hno _ HRn.out (gb_trans HG.out hg2)⟩
          | some p =>
            obtain ⟨x, l3⟩ := p
            have hcs : Calls Try.prog 89 #[.pointer (some ⟨p, 0, none⟩)] wr fun E w' => E = .returned (.agg #[.string x.f0, .string x.f1]) ∧ RdS w0 w' G l3 ∧ wr.grownBy w' (some G) := hcw.mono fun E w' ⟨h1, _, h3⟩ => ⟨(h1 x l3 hit).1, (h1 x l3 hit).2, h3⟩
            have hF2 : ((readN itemP k1 l3).map fun q => ((xs ++ [x]) ++ q.1, q.2)) = RR := by
              rw [← HF.out, readN, hit]
              simp only [Option.bind_some]
              cases readN itemP k1 l3 with
              | none => rfl
              | some q => simp
            have hl3 : l3.length ≤ l2.length := Nat.le_of_lt (itemP_less l2 x l3 hit)
            have HF3 := Aside0.mk hF2
            have HL3 := Aside0.mk (show l3.length ≤ 1000000000 by have := HL.out; omega)
            clear hcw hit hF2 hl3 HF HL
            go_wp2_with fail
            refine hcs.mono ?_
            rintro E w2 ⟨rfl, hs2, hg2⟩
            have HG2 := Aside0.mk (gb_trans HG.out hg2)
            have HO2 := Aside0.mk (R_past HO.out hg2 hG.1)
            have HS2 := Aside0.mk hs2
            have HPB2 := Aside0.mk (HPB.out.grown hg2 hne)
            have HZ := Aside0.mk (show w.heap.size ≤ w2.heap.size from HG2.out.4)
            clear hg2 hs2 HO HS HG HPB
            go_wp2_with (first | ((with_reducible refine gate_builtin (b := .append) (xs := #[.tmp 22, .tmp 25]) rfl ?_); (try (refine gate_guard (by rfl) ?_; dsimp only)); at_builtin; refine Kd.R_append k74 (w0 := w2) w.heap.size rfl (.tmp 22) (.tmp 25) 39 74 (.agg #[.string ⟨#[]⟩, .string ⟨#[]⟩]) 32 rfl Try.underlying39 info74 rfl (by decide) (by omega) u6 xs x [.string x.f0, .string x.f1] (fun _ => True) (fun _ => False) rfl rfl ?aP (fun _ hk => hk.elim) ?aF ?aO ?aB ?aS ?aL ?_; (case aP => exact k74_mkM _ _ _ x); (case aB => exact Below.refl _ _); (case aF => exact (fun _ _ => trivial)); (case aO => exact HO2.out); (case aS => exact HZ.out); (case aL => have := HX.out; omega); intro v1 w3 ho hb hg hat; have HO3 := Aside0.mk ho; have HGr := Aside0.mk hg; clear ho hb hg hat))
            have hnb : ∀ k, u6.ownBlock = some k → w.heap.size ≤ k := Kd.R_base HO2.out
            have HS3 := Aside0.mk (HS2.out.step HGr.out (fun e => by have := hnb G e.symm; omega) (fun k e => by have := hnb k e; omega))
            have HG3 := Aside0.mk (gb_new HG2.out HGr.out hnb)
            have HPB3 := Aside0.mk (blk_grown HPB2.out HGr.out (fun e => by have := hnb p e.symm; omega))
            clear hnb
            go_roundg k1
            case measure => omega
            case rel => exact ⟨i + 1, xs ++ [x], l3, by congr 1, ⟨by have := HI.out; omega⟩, HF3, ⟨by rw [List.length_append, HX.out]; rfl⟩, HO3, HS3, HG3, HL3, HPB3⟩
  · rw [if_neg he] at hRR
    have hc : Calls Try.prog 111 #[.pointer (some ⟨G, 0, none⟩)] w fun E w' => E = .panicked badP ∧ w.grownBy w' (some G) := hnum.mono fun E w' ⟨_, h2, h3⟩ => ⟨h2 he, h3⟩
    have HR := Aside0.mk hRR
    clear hnum hn hl1 hun hj he hs hRR hp
    go_enter Try.func88, Try.ntmps88
    go_wp2_with fail
    refine hc.mono ?_
    rintro E w1 ⟨rfl, hg1⟩
    go_wp2
    exact ⟨rfl, hno _ HR.out.symm hg1⟩
def ItemsPOut (w0 w : World) (G : Nat) (RR : Option (List S74 × List Int)) (E : Ending) (w' : World) : Prop :=
  (∀ xs l', RR = some (xs, l') → ∃ v, E = .returned v ∧ Kd.R k74 74 w' w.heap.size (fun _ => True) v xs ∧ RdS w0 w' G l') ∧ (RR = none → E = .panicked badP) ∧ w.grownBy w' (some G)
set_option maxHeartbeats 1000000 in
theorem un1P_calls (G : Nat) (l : List Int) (hl : l.length ≤ 1000000000) (w0 w : World) (hs : RdS w0 w G l) :
    Calls Try.prog 87 #[.pointer (some ⟨G, 0, none⟩)] w (ItemsPOut w0 w G (readItems itemP l)) := by
  have mf := mkf
  have hG := hs.lt2
  obtain ⟨RR, hRR⟩ : ∃ RR, readItems itemP l = RR := ⟨_, rfl⟩
  have hpb : PBox (w.alloc (.cells #[.pointer (some ⟨G, 0, none⟩)] 129)) w.heap.size G := blk_new w _
  have hc := itemsP_calls w.heap.size G l hl w0 _ (hs.step (World.grownBy_alloc w (.cells #[.pointer (some ⟨G, 0, none⟩)] 129) none) (by simp) (by simp)) hpb (by omega) RR hRR
  have c0 := hpb.cell
  rw [hRR]
  obtain ⟨Q, hQ⟩ : ∃ Q : Ending → World → Prop, Q = ItemsPOut w0 w G RR := ⟨_, rfl⟩
  rw [← hQ]
  have hQ' : ∀ E w', ItemsPOut w0 w G RR E w' → Q E w' := fun E w' h => by rw [hQ]; exact h
  clear hQ hs hRR hpb hG
  go_enter Try.func87, Try.ntmps87
  go_wp2_with fail
  refine hc.mono ?_
  rintro E w1 ⟨h1, h2, h3⟩
  have h3' : w.grownBy w1 (some G) := World.grownBy.trans (World.grownBy_alloc w _ _) h3
  have h1' : ∀ xs l', RR = some (xs, l') → ∃ v, E = .returned v ∧ Kd.R k74 74 w1 w.heap.size (fun _ => True) v xs ∧ RdS w0 w1 G l' := by
    intro xs l' hx
    obtain ⟨v, e, hv, hr⟩ := h1 xs l' hx
    exact ⟨v, e, Kd.R_lower hv (by rw [World.size_alloc]; omega), hr⟩
  clear h1 h3 c0
  cases hR : RR with
  | none =>
    obtain rfl := h2 hR
    have H := hQ' (.panicked badP) w1 ⟨h1', h2, h3'⟩
    clear h1' h2 hQ' hc h3'
    go_wp2
    exact ⟨rfl, H⟩
  | some p =>
    obtain ⟨xs, l'⟩ := p
    obtain ⟨v, rfl, h4, h5⟩ := h1' xs l' hR
    have H := hQ' (.returned v) w1 ⟨h1', h2, h3'⟩
    clear h1' h2 hQ' hc h4 h5 h3'
    go_wp2
    first | exact H | (go_ret; exact H)
set_option maxHeartbeats 1000000 in
theorem catch_bad_P (bl be : Nat) (hne : bl ≠ be) (v0 : Value) (e0 : Int) (w : World) (hl : Boxed w bl 39 v0) (he : Boxed w be 24 (.int .i64 e0)) :
    CallsD Try.prog 114 #[.pointer (some ⟨bl, 0, none⟩), .pointer (some ⟨be, 0, none⟩)] (.panicking badP) w fun e u' w' =>
      e = .returned (.tuple #[]) ∧ u' = .panicking [{ v := .iface 134 (.agg #[]), recovered := true }] ∧ w' = ((w.setCell ⟨bl, 0, none⟩ (.slice none 0 0)).setCell ⟨be, 0, none⟩ (.int .i64 41)).alloc (.cells #[] 134) := by
  have l1 := hl.lt
  have l2 := he.lt
  have m1 := hl.cell
  have f1 := hl.frozen
  have m2 := he.cell
  have f2 := he.frozen
  have m3 := (he.other (Ne.symm hne) (.slice none 0 0)).cell
  have f3 := (he.other (Ne.symm hne) (.slice none 0 0)).frozen
  refine callsD_of_wpS Try.func114 rfl fun c₀ cs hu => ?_
  unfold badP at hu
  apply wpS_seq
  apply wpS_region
  simp [wpOpsS, go_sem, recoverD, hu, Try.ntmps114, Exit.thenS]
  have k1 := bad_ne
  have k2 := assert_bad
  refine wpS_of_wp ?_
  simp only [Array.replicate_succ, Array.replicate_zero, List.push_toArray, List.append_toArray, List.nil_append, List.cons_append, List.setIfInBounds_toArray, List.set_cons_succ, List.set_cons_zero]
  go_wp2
  simp [bodyPostS, results, Try.results114]
theorem catch_idle_P (p q : Addr) (w : World) :
    CallsD Try.prog 114 #[.pointer (some p), .pointer (some q)] .returning w fun e u' w' => e = .returned (.tuple #[]) ∧ u' = .returning ∧ w = w' := by
  have k3 : ∀ w : World, (binOp .neq 20 .nilIface .nilIface).run Try.prog w = .ok (.bool false) w := fun _ => by kernel_rfl
  refine callsD_of_wpS Try.func114 rfl fun c₀ cs hu => ?_
  apply wpS_seq
  apply wpS_region
  simp [wpOpsS, go_sem, recoverD, hu, Try.ntmps114, Exit.thenS]
  refine wpS_of_wp ?_
  simp only [Array.replicate_succ, Array.replicate_zero, List.push_toArray, List.append_toArray, List.nil_append, List.cons_append, List.setIfInBounds_toArray, List.set_cons_succ, List.set_cons_zero]
  go_wp2
  cases c₀
  simp_all [bodyPostS, results, Try.results114]
/-- What code.Unpairs comes to. -/
def readP (l : List Int) : List S74 × Int :=
  match readItems itemP l with
  | some (xs, l') => if l'.length > 0 ∨ l.length > 16777216 then ([], 41) else (xs, 0)
  | none => ([], 41)
set_option maxHeartbeats 4000000 in
set_option maxRecDepth 100000 in
theorem readP_calls (A : Option Addr) (c : Nat) (l : List Int) (hl : l.length ≤ 1000000000) (w : World) (hr : Kd.C (Kd.int .u8) w A l.length l) (hc : l.length ≤ c) (r1 : List S74) (r2 : Int) (hrr : readP l = (r1, r2)) :
    Calls Try.prog 86 #[.slice A l.length c, .func (.func 87) #[] #[]] w fun e w' => ∃ v0_ : Value, e = .returned (.tuple #[v0_, .int .i64 r2]) ∧ Kd.R k74 74 w' w.heap.size (fun _ => True) v0_ r1 ∧ Below w.heap.size w w' := by
  have mf := mkf
  have HR := Aside0.mk hr
  clear hr
  go_enter_defers Try.func86, Try.ntmps86
  go_wp2_with fail
  have bg := Boxed.new ((w.alloc (.cells #[.slice none 0 0] 39)).alloc (.cells #[.int .i64 0] 24)) 168 (.slice A l.length c)
  rw [World.size_alloc, World.size_alloc] at bg
  have bl := ((Boxed.new w 39 (.slice none 0 0)).alloc (.cells #[.int .i64 0] 24)).alloc (.cells #[.slice A l.length c] 168)
  have be := (Boxed.new (w.alloc (.cells #[.slice none 0 0] 39)) 24 (.int .i64 0)).alloc (.cells #[.slice A l.length c] 168)
  rw [World.size_alloc] at be
  have hb3 : Below w.heap.size w (((w.alloc (.cells #[.slice none 0 0] 39)).alloc (.cells #[.int .i64 0] 24)).alloc (.cells #[.slice A l.length c] 168)) := below_alloc (below_alloc (below_alloc (Below.refl _ _) _) _) _
  have hs3 : (((w.alloc (.cells #[.slice none 0 0] 39)).alloc (.cells #[.int .i64 0] 24)).alloc (.cells #[.slice A l.length c] 168)).heap.size = w.heap.size + 1 + 1 + 1 := by rw [World.size_alloc, World.size_alloc, World.size_alloc]
  generalize ((w.alloc (.cells #[.slice none 0 0] 39)).alloc (.cells #[.int .i64 0] 24)).alloc (.cells #[.slice A l.length c] 168) = W3 at bg bl be hb3 hs3 ⊢
  refine (un1P_calls (w.heap.size + 1 + 1) l hl w W3 ⟨A, c, ⟨bg, HR.out, hb3, by omega, hc⟩⟩).mono ?_
  rintro E w1 ⟨h1, h2, h3⟩
  have bl1 := bl.kept h3 (fun e => by injection e with e; omega)
  have be1 := be.kept h3 (fun e => by injection e with e; omega)
  have hb1 : Below w.heap.size w w1 := hb3.grown h3 (by omega) (fun k hk => by injection hk with hk; omega)
  have HB1 := Aside0.mk hb1
  have BL := Aside0.mk bl1
  have BE := Aside0.mk be1
  have hlt := h3.size
  rw [hs3] at hlt
  cases hR : readItems itemP l with
  | none =>
    obtain rfl := h2 hR
    have hI : readP l = ([], 41) := by unfold readP; rw [hR]
    rw [hI] at hrr
    simp only [Prod.mk.injEq] at hrr
    obtain ⟨rfl, rfl⟩ := hrr
    clear h1 h2 h3 bg bl be hb3 bl1 be1 hb1 hR hI
    unfold badP
    go_wp2
    refine leaves_cons (f := 114) (args := #[.pointer (some ⟨w.heap.size, 0, none⟩), .pointer (some ⟨w.heap.size + 1, 0, none⟩)]) (by simp) (by simp [go_sem]) ?_
    refine (catch_bad_P w.heap.size (w.heap.size + 1) (by omega) (.slice none 0 0) 0 w1 BL.out BE.out).mono ?_
    rintro e u' w'' ⟨rfl, rfl, rfl⟩
    have xl := ((BL.out.set (.slice none 0 0)).other (show w.heap.size ≠ w.heap.size + 1 by omega) (.int .i64 41)).alloc (.cells #[] 134)
    have xe := ((BE.out.other (show w.heap.size + 1 ≠ w.heap.size by omega) (.slice none 0 0)).set (.int .i64 41)).alloc (.cells #[] 134)
    have yl := xl.cell
    have ye := xe.cell
    have hB : Below w.heap.size w (((w1.setCell ⟨w.heap.size, 0, none⟩ (.slice none 0 0)).setCell ⟨w.heap.size + 1, 0, none⟩ (.int .i64 41)).alloc (.cells #[] 134)) := below_alloc (below_set (below_set HB1.out (by omega)) (by omega)) _
    generalize ((w1.setCell ⟨w.heap.size, 0, none⟩ (.slice none 0 0)).setCell ⟨w.heap.size + 1, 0, none⟩ (.int .i64 41)).alloc (.cells #[] 134) = W4 at xl xe yl ye hB ⊢
    simp [Leaves, settle, results, Try.results86, go_sem]
    refine ⟨.tuple #[.slice none 0 0, .int .i64 41], by simp [yl, ye, go_sem], _, rfl, Kd.R_nil _ _ _ _ _, hB⟩
  | some p =>
    obtain ⟨xs, l'⟩ := p
    obtain ⟨v, rfl, h4, h5⟩ := h1 xs l' hR
    obtain ⟨A', c', hd⟩ := h5
    obtain ⟨A2, c2, rfl⟩ := Kd.R_slice h4
    have bx := hd.box
    have H4 := Aside0.mk h4
    have hI : readP l = (if l'.length > 0 ∨ l.length > 16777216 then ([], 41) else (xs, 0)) := by unfold readP; rw [hR]
    rw [hI] at hrr
    have cg : (w1.setCell ⟨w.heap.size, 0, none⟩ (.slice A2 xs.length c2)).cell? ⟨w.heap.size + 1 + 1, 0, none⟩ = some (.slice A' l'.length c') := (bx.other (by omega) (.slice A2 xs.length c2)).cell
    have BL2 : Aside0 (Boxed (w1.setCell ⟨w.heap.size, 0, none⟩ (.slice A2 xs.length c2)) w.heap.size 39 (.slice A2 xs.length c2)) := ⟨BL.out.set _⟩
    have BE2 : Aside0 (Boxed (w1.setCell ⟨w.heap.size, 0, none⟩ (.slice A2 xs.length c2)) (w.heap.size + 1) 24 (.int .i64 0)) := ⟨BE.out.other (by omega) _⟩
    have HB2 : Aside0 (Below w.heap.size w (w1.setCell ⟨w.heap.size, 0, none⟩ (.slice A2 xs.length c2))) := ⟨below_set HB1.out (by omega)⟩
    have cl1 : w1.cell? ⟨w.heap.size, 0, none⟩ = some (.slice none 0 0) := bl1.cell
    have fl1 : w1.frozen? ⟨w.heap.size, 0, none⟩ = false := bl1.frozen
    have ce1 : w1.cell? ⟨w.heap.size + 1, 0, none⟩ = some (.int .i64 0) := be1.cell
    have fe1 : w1.frozen? ⟨w.heap.size + 1, 0, none⟩ = false := be1.frozen
    clear h1 h2 h3 bg bl be hb3 bl1 be1 hb1 hR hI h4 hd bx
    by_cases hx : l'.length > 0
    · rw [if_pos (.inl hx)] at hrr
      simp only [Prod.mk.injEq] at hrr
      obtain ⟨rfl, rfl⟩ := hrr
      have d1 : decide (0 < (l'.length : Int)) = true := decide_eq_true (by omega)
      have d2 : decide (0 < l'.length) = true := decide_eq_true hx
      clear hx
      go_wp2
      refine leaves_cons (f := 114) (args := #[.pointer (some ⟨w.heap.size, 0, none⟩), .pointer (some ⟨w.heap.size + 1, 0, none⟩)]) (by simp) (by simp [go_sem]) ?_
      refine (catch_bad_P w.heap.size (w.heap.size + 1) (by omega) (.slice A2 xs.length c2) 0 (w1.setCell ⟨w.heap.size, 0, none⟩ (.slice A2 xs.length c2)) BL2.out BE2.out).mono ?_
      rintro e u' w'' ⟨rfl, rfl, rfl⟩
      have xl := ((BL2.out.set (.slice none 0 0)).other (show w.heap.size ≠ w.heap.size + 1 by omega) (.int .i64 41)).alloc (.cells #[] 134)
      have xe := ((BE2.out.other (show w.heap.size + 1 ≠ w.heap.size by omega) (.slice none 0 0)).set (.int .i64 41)).alloc (.cells #[] 134)
      have yl := xl.cell
      have ye := xe.cell
      have hB : Below w.heap.size w ((((w1.setCell ⟨w.heap.size, 0, none⟩ (.slice A2 xs.length c2)).setCell ⟨w.heap.size, 0, none⟩ (.slice none 0 0)).setCell ⟨w.heap.size + 1, 0, none⟩ (.int .i64 41)).alloc (.cells #[] 134)) := below_alloc (below_set (below_set HB2.out (by omega)) (by omega)) _
      generalize (((w1.setCell ⟨w.heap.size, 0, none⟩ (.slice A2 xs.length c2)).setCell ⟨w.heap.size, 0, none⟩ (.slice none 0 0)).setCell ⟨w.heap.size + 1, 0, none⟩ (.int .i64 41)).alloc (.cells #[] 134) = W4 at xl xe yl ye hB ⊢
      simp [Leaves, settle, results, Try.results86, go_sem]
      refine ⟨.tuple #[.slice none 0 0, .int .i64 41], by simp [yl, ye, go_sem], _, rfl, Kd.R_nil _ _ _ _ _, hB⟩
    · have d1 : decide (0 < (l'.length : Int)) = false := decide_eq_false (by omega)
      have d2 : decide (0 < l'.length) = false := decide_eq_false hx
      by_cases hy : l.length > 16777216
      · rw [if_pos (.inr hy)] at hrr
        simp only [Prod.mk.injEq] at hrr
        obtain ⟨rfl, rfl⟩ := hrr
        have e1 : decide (16777216 < (l.length : Int)) = true := decide_eq_true (by omega)
        have e2 : decide (16777216 < l.length) = true := decide_eq_true hy
        clear hx hy
        go_wp2
        refine leaves_cons (f := 114) (args := #[.pointer (some ⟨w.heap.size, 0, none⟩), .pointer (some ⟨w.heap.size + 1, 0, none⟩)]) (by simp) (by simp [go_sem]) ?_
        refine (catch_bad_P w.heap.size (w.heap.size + 1) (by omega) (.slice A2 xs.length c2) 0 (w1.setCell ⟨w.heap.size, 0, none⟩ (.slice A2 xs.length c2)) BL2.out BE2.out).mono ?_
        rintro e u' w'' ⟨rfl, rfl, rfl⟩
        have xl := ((BL2.out.set (.slice none 0 0)).other (show w.heap.size ≠ w.heap.size + 1 by omega) (.int .i64 41)).alloc (.cells #[] 134)
        have xe := ((BE2.out.other (show w.heap.size + 1 ≠ w.heap.size by omega) (.slice none 0 0)).set (.int .i64 41)).alloc (.cells #[] 134)
        have yl := xl.cell
        have ye := xe.cell
        have hB : Below w.heap.size w ((((w1.setCell ⟨w.heap.size, 0, none⟩ (.slice A2 xs.length c2)).setCell ⟨w.heap.size, 0, none⟩ (.slice none 0 0)).setCell ⟨w.heap.size + 1, 0, none⟩ (.int .i64 41)).alloc (.cells #[] 134)) := below_alloc (below_set (below_set HB2.out (by omega)) (by omega)) _
        generalize (((w1.setCell ⟨w.heap.size, 0, none⟩ (.slice A2 xs.length c2)).setCell ⟨w.heap.size, 0, none⟩ (.slice none 0 0)).setCell ⟨w.heap.size + 1, 0, none⟩ (.int .i64 41)).alloc (.cells #[] 134) = W4 at xl xe yl ye hB ⊢
        simp [Leaves, settle, results, Try.results86, go_sem]
        refine ⟨.tuple #[.slice none 0 0, .int .i64 41], by simp [yl, ye, go_sem], _, rfl, Kd.R_nil _ _ _ _ _, hB⟩
      · rw [if_neg (by omega)] at hrr
        simp only [Prod.mk.injEq] at hrr
        obtain ⟨rfl, rfl⟩ := hrr
        have e1 : decide (16777216 < (l.length : Int)) = false := decide_eq_false (by omega)
        have e2 : decide (16777216 < l.length) = false := decide_eq_false hy
        clear hx hy
        go_wp2
        refine leaves_cons (f := 114) (args := #[.pointer (some ⟨w.heap.size, 0, none⟩), .pointer (some ⟨w.heap.size + 1, 0, none⟩)]) (by simp) (by simp [go_sem]) ?_
        refine (catch_idle_P ⟨w.heap.size, 0, none⟩ ⟨w.heap.size + 1, 0, none⟩ _).mono ?_
        rintro e u' w'' ⟨rfl, rfl, rfl⟩
        have VV : ∃ v : Value, v = .slice A2 xs.length c2 := ⟨_, rfl⟩
        have x1 := (BL2.out.set (.slice A2 xs.length c2)).other (show w.heap.size ≠ w.heap.size + 1 by omega) (.int .i64 0)
        have x2 := (BE2.out.other (show w.heap.size + 1 ≠ w.heap.size by omega) (.slice A2 xs.length c2)).set (.int .i64 0)
        have yl := x1.cell
        have ye := x2.cell
        have hB : Below w.heap.size w (((w1.setCell ⟨w.heap.size, 0, none⟩ (.slice A2 xs.length c2)).setCell ⟨w.heap.size, 0, none⟩ (.slice A2 xs.length c2)).setCell ⟨w.heap.size + 1, 0, none⟩ (.int .i64 0)) := below_set (below_set HB2.out (by omega)) (by omega)
        have q1 := R_past H4.out (grownBy_setCell' w1 w.heap.size (.slice A2 xs.length c2)) (by omega)
        have q2 := R_past q1 (grownBy_setCell' _ w.heap.size (.slice A2 xs.length c2)) (by omega)
        have q3 := Kd.R_lower (base' := w.heap.size) (R_past q2 (grownBy_setCell' _ (w.heap.size + 1) (.int .i64 0)) (by omega)) (by omega)
        generalize ((w1.setCell ⟨w.heap.size, 0, none⟩ (.slice A2 xs.length c2)).setCell ⟨w.heap.size, 0, none⟩ (.slice A2 xs.length c2)).setCell ⟨w.heap.size + 1, 0, none⟩ (.int .i64 0) = W4 at x1 x2 yl ye hB q3 ⊢
        simp [Leaves, settle, results, Try.results86, go_sem]
        refine ⟨.tuple #[.slice A2 xs.length c2, .int .i64 0], by simp [yl, ye, go_sem], _, rfl, q3, hB⟩
def code_Unpairs.f (k : Nat) (l0 : List Int) : Option (List S74 × Int) := if l0.length ≤ 1000000000 then some (readP l0) else none
set_option maxHeartbeats 1000000 in
theorem code_Unpairs.calls (k : Nat) (A0 : Option Addr) (c0 : Nat) (l0 : List Int) (r1 : List S74) (r2 : Int) (w : World) (hr0 : Kd.C (Kd.int .u8) w A0 l0.length l0) (hc0 : l0.length ≤ c0) (h : code_Unpairs.f k l0 = some (r1, r2)) :
    Calls Try.prog 31 #[.slice A0 l0.length c0] w fun e w' => ∃ v0_ : Value, e = .returned (.tuple #[v0_, .int .i64 r2]) ∧ Kd.R k74 74 w' w.heap.size (fun _ => True) v0_ r1 ∧ Below w.heap.size w w' := by
  unfold code_Unpairs.f at h
  split at h
  · rename_i hl
    have hrr := Option.some.inj h
    have hc := readP_calls A0 c0 l0 hl w hr0 hc0 r1 r2 hrr
    clear hr0 h hrr
    go_enter Try.func31, Try.ntmps31
    go_wp2_with fail
    refine hc.mono ?_
    rintro e w1 ⟨v, rfl, hR, hb⟩
    go_wp2
    go_ret2
    exact ⟨v, rfl, hR, hb⟩
  · cases h
end Go.Proofs.Ytgihecpobichbaa.Q
/- package code's Uncols: walked. Printed by wip/gen/readx.py. -/
namespace Go.Proofs.Ytgihecpobichbaa.Q
open Go.RowKit Go.Proofs.YtgihecpobichbaaW.PrintWords Go.Proofs.YtgihecpobichbaaW.PrintLast Go.Proofs.YtgihecpobichbaaW.PrintMore
set_option linter.unusedVariables false
set_option linter.unusedSimpArgs false
theorem nextC_item (p G : Nat) (l : List Int) (hl : l.length ≤ 1000000000) (w0 w : World) (hs : RdS w0 w G l) (hp : PBox w p G) (hne : p ≠ G) :
    Calls Try.prog 83 #[.pointer (some ⟨p, 0, none⟩)] w (RdOut w0 w G (itemC l) (fun x : S43 => .agg #[.string x.f0, .int .i64 x.f1])) := by
  unfold RdOut itemC
  cases h1 : itemW l with
  | none =>
    refine (nextC_1 p G l hl w0 w hs hp hne h1).mono ?_
    rintro E w' ⟨rfl, hg⟩
    exact ⟨fun x l' h => (by simp at h), fun _ => rfl, hg⟩
  | some q =>
    obtain ⟨x, l1⟩ := q
    cases h2 : itemB l1 with
    | none =>
      refine (nextC_2 p G l hl w0 w hs hp hne x l1 h1 h2).mono ?_
      rintro E w' ⟨rfl, hg⟩
      exact ⟨fun x l' h => (by simp [h2] at h), fun _ => rfl, hg⟩
    | some q =>
      obtain ⟨y, l2⟩ := q
      refine (nextC_0 p G l hl w0 w hs hp hne x l1 h1 y l2 h2).mono ?_
      rintro E w' ⟨rfl, hs2, hg⟩
      refine ⟨fun x' l' h => ?_, fun h => (by simp [h2] at h), hg⟩
      simp only [Option.bind_some, h2, Option.map_some, Option.some.injEq, Prod.mk.injEq] at h
      obtain ⟨rfl, rfl⟩ := h
      exact ⟨rfl, hs2⟩
theorem itemC_less (l : List Int) (a : S43) (r : List Int) (h : itemC l = some (a, r)) : r.length < l.length := by
  unfold itemC at h
  obtain ⟨⟨x, l1⟩, h1, h2⟩ := Option.bind_eq_some_iff.1 h
  obtain ⟨⟨y, l2⟩, h3, h4⟩ := Option.map_eq_some_iff.1 h2
  simp only [Prod.mk.injEq] at h4 h3
  obtain ⟨_, rfl⟩ := h4
  have e1 := itemW_lt l x l1 h1
  have e2 := itemB_lt l1 y l2 h3
  omega
set_option maxHeartbeats 4000000 in
set_option maxRecDepth 100000 in
theorem itemsC_calls (p G : Nat) (l : List Int) (hl : l.length ≤ 1000000000) (w0 w : World) (hs : RdS w0 w G l) (hp : PBox w p G) (hne : p ≠ G) (RR : Option (List S43 × List Int)) (hRR : readItems itemC l = RR) :
    Calls Try.prog 82 #[.pointer (some ⟨G, 0, none⟩), .func (.func 83) #[] #[.pointer (some ⟨p, 0, none⟩)]] w fun E w' =>
      (∀ xs l', RR = some (xs, l') → ∃ v, E = .returned v ∧ Kd.R k43 43 w' w.heap.size (fun _ => True) v xs ∧ RdS w0 w' G l') ∧ (RR = none → E = .panicked badP) ∧ w.grownBy w' (some G) := by
  have hG := hs.lt
  have hplt := blk_lt hp
  have HP0 := Aside0.mk hp
  have hnum := num_un G l (by omega) w0 w hs
  obtain ⟨Q, hQ⟩ : ∃ Q : Ending → World → Prop, Q = fun E w' => (∀ xs l', RR = some (xs, l') → ∃ v, E = .returned v ∧ Kd.R k43 43 w' w.heap.size (fun _ => True) v xs ∧ RdS w0 w' G l') ∧ (RR = none → E = .panicked badP) ∧ w.grownBy w' (some G) := ⟨_, rfl⟩
  rw [← hQ]
  have hno : ∀ w', RR = none → w.grownBy w' (some G) → Q (.panicked badP) w' := by
    intro w' h1 h2
    rw [hQ]
    exact ⟨fun xs l' h => (by rw [h1] at h; cases h), fun _ => rfl, h2⟩
  have hyes : ∀ w' v xs l', RR = some (xs, l') → Kd.R k43 43 w' w.heap.size (fun _ => True) v xs → RdS w0 w' G l' → w.grownBy w' (some G) → Q (.returned v) w' := by
    intro w' v xs l' h1 h2 h3 h4
    rw [hQ]
    refine ⟨fun xs' l'' h => ?_, fun h => (by rw [h1] at h; cases h), h4⟩
    rw [h1] at h
    simp only [Option.some.injEq, Prod.mk.injEq] at h
    obtain ⟨rfl, rfl⟩ := h
    exact ⟨v, rfl, h2, h3⟩
  clear hQ
  unfold readItems at hRR
  have hun := unS_le l 0 0
  have hj : 0 ≤ (un l).2.1 ∧ (un l).2.1 ≤ (l.length : Int) := ⟨hun.1, by simpa [un] using hun.2⟩
  obtain ⟨n, hn⟩ : ∃ n, (un l).1 = n := ⟨_, rfl⟩
  have hn0 : 0 ≤ n := hn ▸ un_range l (by omega)
  obtain ⟨l1, hl1⟩ : ∃ l1, l.drop (un l).2.1.toNat = l1 := ⟨_, rfl⟩
  have hl1' : l1.length ≤ 1000000000 := by rw [← hl1, List.length_drop]; omega
  by_cases he : (un l).2.2 = 0
  · rw [if_pos he, hn, hl1] at hRR
    rw [hn, hl1] at hnum
    have hc : Calls Try.prog 111 #[.pointer (some ⟨G, 0, none⟩)] w fun E w' => E = .returned (.int .u64 n) ∧ RdS w0 w' G l1 ∧ w.grownBy w' (some G) := hnum.mono fun E w' ⟨h1, _, h3⟩ => ⟨(h1 he).1, (h1 he).2, h3⟩
    clear hnum hn hl1 hun hj he hs hp
    go_enter Try.func82, Try.ntmps82
    go_wp2_with fail
    refine hc.mono ?_
    rintro E w1 ⟨rfl, hs1, hg1⟩
    have hG1 := hs1.lt
    obtain ⟨A1, c1, h1⟩ := hs1
    have hcell := h1.box.cell
    have hfz := h1.box.frozen
    have hlen : (l1.length : Int) ≤ 18446744073709551615 := by omega
    by_cases hbig : n > (l1.length : Int)
    · rw [if_pos hbig] at hRR
      have HR := Aside0.mk hRR
      clear hRR hc
      go_wp2
      exact ⟨rfl, hno _ HR.out.symm hg1⟩
    · rw [if_neg hbig] at hRR
      have HR := Aside0.mk hRR
      have HS1 := Aside0.mk (⟨A1, c1, h1⟩ : RdS w0 w1 G l1)
      have HG1 := Aside0.mk hg1
      have HPB1 := Aside0.mk (HP0.out.grown hg1 hne)
      clear hRR hc h1 hg1
      go_wp2_with fail
      have hnle : n ≤ 1000000000 := by omega
      have HB := Aside0.mk hbig
      clear hbig hcell hfz
      go_loopg [6, 20] (n.toNat) (fun kq v6 v20 wr => ∃ (i : Nat) (xs : List S43) (l2 : List Int), v20 = .int .u64 i ∧ Aside0 ((i : Int) + kq = n) ∧ Aside0 (((readN itemC kq l2).map fun q => (xs ++ q.1, q.2)) = RR) ∧ Aside0 (xs.length = i) ∧ Aside0 (Kd.R k43 43 wr w.heap.size (fun _ => True) v6 xs) ∧ Aside0 (RdS w0 wr G l2) ∧ Aside0 (w.grownBy wr (some G)) ∧ Aside0 (l2.length ≤ 1000000000) ∧ Aside0 (PBox wr p G))
      case atStart => exact ⟨0, [], l1, rfl, ⟨by omega⟩, ⟨by rw [← HR.out]; cases readN itemC n.toNat l1 <;> rfl⟩, ⟨rfl⟩, ⟨Kd.R_nil _ _ _ _ _⟩, HS1, HG1, ⟨hl1'⟩, HPB1⟩
      case round =>
        clear HR HS1 HG1 HPB1
        obtain ⟨i, xs, l2, rfl, HI, HF, HX, HO, HS, HG, HL, HPB⟩ := hrel
        cases gk with
        | zero =>
          have hlb : decide ((i : Int) < n) = false := decide_eq_false (by have := HI.out; omega)
          have hF := HF.out
          simp only [readN, Option.map_some, List.append_nil] at hF
          have HF2 := Aside0.mk hF
          clear hF HF
          go_wp2
          first
            | exact hyes _ _ _ _ HF2.out.symm HO.out HS.out HG.out
            | (go_ret; exact hyes _ _ _ _ HF2.out.symm HO.out HS.out HG.out)
        | succ k1 =>
          have hlb : decide ((i : Int) < n) = true := decide_eq_true (by have := HI.out; omega)
          have hi1 : (i : Int) + 1 ≤ 1000000001 := by have := HI.out; omega
          have hcw := nextC_item p G l2 (by have := HL.out; omega) w0 wr HS.out HPB.out hne
          cases hit : itemC l2 with
          | none =>
            have hcn : Calls Try.prog 83 #[.pointer (some ⟨p, 0, none⟩)] wr fun E w' => E = .panicked badP ∧ wr.grownBy w' (some G) := hcw.mono fun E w' ⟨_, h2, h3⟩ => ⟨h2 hit, h3⟩
            have hRn : RR = none := by rw [← HF.out, readN, hit]; rfl
            have HRn := Aside0.mk hRn
            clear hcw hit hRn
            go_wp2_with fail
            refine hcn.mono ?_
            rintro E w2 ⟨rfl, hg2⟩
            go_wp2
            exact ⟨rfl, hno _ HRn.out (gb_trans HG.out hg2)⟩
          | some p =>
            obtain ⟨x, l3⟩ := p
            have hcs : Calls Try.prog 83 #[.pointer (some ⟨p, 0, none⟩)] wr fun E w' => E = .returned (.agg #[.string x.f0, .int .i64 x.f1]) ∧ RdS w0 w' G l3 ∧ wr.grownBy w' (some G) := hcw.mono fun E w' ⟨h1, _, h3⟩ => ⟨(h1 x l3 hit).1, (h1 x l3 hit).2, h3⟩
            have hF2 : ((readN itemC k1 l3).map fun q => ((xs ++ [x]) ++ q.1, q.2)) = RR := by
              rw [← HF.out, readN, hit]
              simp only [Option.bind_some]
              cases readN itemC k1 l3 with
              | none => rfl
              | some q => simp
            have hl3 : l3.length ≤ l2.length := Nat.le_of_lt (itemC_less l2 x l3 hit)
            have HF3 := Aside0.mk hF2
            have HL3 := Aside0.mk (show l3.length ≤ 1000000000 by have := HL.out; omega)
            clear hcw hit hF2 hl3 HF HL
            go_wp2_with fail
            refine hcs.mono ?_
            rintro E w2 ⟨rfl, hs2, hg2⟩
            have HG2 := Aside0.mk (gb_trans HG.out hg2)
            have HO2 := Aside0.mk (R_past HO.out hg2 hG.1)
            have HS2 := Aside0.mk hs2
            have HPB2 := Aside0.mk (HPB.out.grown hg2 hne)
            have HZ := Aside0.mk (show w.heap.size ≤ w2.heap.size from HG2.out.4)
            clear hg2 hs2 HO HS HG HPB
            go_wp2_with (first | ((with_reducible refine gate_builtin (b := .append) (xs := #[.tmp 22, .tmp 25]) rfl ?_); (try (refine gate_guard (by rfl) ?_; dsimp only)); at_builtin; refine Kd.R_append k43 (w0 := w2) w.heap.size rfl (.tmp 22) (.tmp 25) 38 43 (.agg #[.string ⟨#[]⟩, .int .i64 0]) 24 rfl Try.underlying38 info43 rfl (by decide) (by omega) u6 xs x [.string x.f0, .int .i64 x.f1] (fun _ => True) (fun _ => False) rfl rfl ?aP (fun _ hk => hk.elim) ?aF ?aO ?aB ?aS ?aL ?_; (case aP => exact k43_mkM _ _ _ x); (case aB => exact Below.refl _ _); (case aF => exact (fun _ _ => trivial)); (case aO => exact HO2.out); (case aS => exact HZ.out); (case aL => have := HX.out; omega); intro v1 w3 ho hb hg hat; have HO3 := Aside0.mk ho; have HGr := Aside0.mk hg; clear ho hb hg hat))
            have hnb : ∀ k, u6.ownBlock = some k → w.heap.size ≤ k := Kd.R_base HO2.out
            have HS3 := Aside0.mk (HS2.out.step HGr.out (fun e => by have := hnb G e.symm; omega) (fun k e => by have := hnb k e; omega))
            have HG3 := Aside0.mk (gb_new HG2.out HGr.out hnb)
            have HPB3 := Aside0.mk (blk_grown HPB2.out HGr.out (fun e => by have := hnb p e.symm; omega))
            clear hnb
            go_roundg k1
            case measure => omega
            case rel => exact ⟨i + 1, xs ++ [x], l3, by congr 1, ⟨by have := HI.out; omega⟩, HF3, ⟨by rw [List.length_append, HX.out]; rfl⟩, HO3, HS3, HG3, HL3, HPB3⟩
  · rw [if_neg he] at hRR
    have hc : Calls Try.prog 111 #[.pointer (some ⟨G, 0, none⟩)] w fun E w' => E = .panicked badP ∧ w.grownBy w' (some G) := hnum.mono fun E w' ⟨_, h2, h3⟩ => ⟨h2 he, h3⟩
    have HR := Aside0.mk hRR
    clear hnum hn hl1 hun hj he hs hRR hp
    go_enter Try.func82, Try.ntmps82
    go_wp2_with fail
    refine hc.mono ?_
    rintro E w1 ⟨rfl, hg1⟩
    go_wp2
    exact ⟨rfl, hno _ HR.out.symm hg1⟩
def ItemsCOut (w0 w : World) (G : Nat) (RR : Option (List S43 × List Int)) (E : Ending) (w' : World) : Prop :=
  (∀ xs l', RR = some (xs, l') → ∃ v, E = .returned v ∧ Kd.R k43 43 w' w.heap.size (fun _ => True) v xs ∧ RdS w0 w' G l') ∧ (RR = none → E = .panicked badP) ∧ w.grownBy w' (some G)
set_option maxHeartbeats 1000000 in
theorem un1C_calls (G : Nat) (l : List Int) (hl : l.length ≤ 1000000000) (w0 w : World) (hs : RdS w0 w G l) :
    Calls Try.prog 81 #[.pointer (some ⟨G, 0, none⟩)] w (ItemsCOut w0 w G (readItems itemC l)) := by
  have mf := mkf
  have hG := hs.lt2
  obtain ⟨RR, hRR⟩ : ∃ RR, readItems itemC l = RR := ⟨_, rfl⟩
  have hpb : PBox (w.alloc (.cells #[.pointer (some ⟨G, 0, none⟩)] 129)) w.heap.size G := blk_new w _
  have hc := itemsC_calls w.heap.size G l hl w0 _ (hs.step (World.grownBy_alloc w (.cells #[.pointer (some ⟨G, 0, none⟩)] 129) none) (by simp) (by simp)) hpb (by omega) RR hRR
  have c0 := hpb.cell
  rw [hRR]
  obtain ⟨Q, hQ⟩ : ∃ Q : Ending → World → Prop, Q = ItemsCOut w0 w G RR := ⟨_, rfl⟩
  rw [← hQ]
  have hQ' : ∀ E w', ItemsCOut w0 w G RR E w' → Q E w' := fun E w' h => by rw [hQ]; exact h
  clear hQ hs hRR hpb hG
  go_enter Try.func81, Try.ntmps81
  go_wp2_with fail
  refine hc.mono ?_
  rintro E w1 ⟨h1, h2, h3⟩
  have h3' : w.grownBy w1 (some G) := World.grownBy.trans (World.grownBy_alloc w _ _) h3
  have h1' : ∀ xs l', RR = some (xs, l') → ∃ v, E = .returned v ∧ Kd.R k43 43 w1 w.heap.size (fun _ => True) v xs ∧ RdS w0 w1 G l' := by
    intro xs l' hx
    obtain ⟨v, e, hv, hr⟩ := h1 xs l' hx
    exact ⟨v, e, Kd.R_lower hv (by rw [World.size_alloc]; omega), hr⟩
  clear h1 h3 c0
  cases hR : RR with
  | none =>
    obtain rfl := h2 hR
    have H := hQ' (.panicked badP) w1 ⟨h1', h2, h3'⟩
    clear h1' h2 hQ' hc h3'
    go_wp2
    exact ⟨rfl, H⟩
  | some p =>
    obtain ⟨xs, l'⟩ := p
    obtain ⟨v, rfl, h4, h5⟩ := h1' xs l' hR
    have H := hQ' (.returned v) w1 ⟨h1', h2, h3'⟩
    clear h1' h2 hQ' hc h4 h5 h3'
    go_wp2
    first | exact H | (go_ret; exact H)
set_option maxHeartbeats 1000000 in
theorem catch_bad_C (bl be : Nat) (hne : bl ≠ be) (v0 : Value) (e0 : Int) (w : World) (hl : Boxed w bl 38 v0) (he : Boxed w be 24 (.int .i64 e0)) :
    CallsD Try.prog 112 #[.pointer (some ⟨bl, 0, none⟩), .pointer (some ⟨be, 0, none⟩)] (.panicking badP) w fun e u' w' =>
      e = .returned (.tuple #[]) ∧ u' = .panicking [{ v := .iface 134 (.agg #[]), recovered := true }] ∧ w' = ((w.setCell ⟨bl, 0, none⟩ (.slice none 0 0)).setCell ⟨be, 0, none⟩ (.int .i64 41)).alloc (.cells #[] 134) := by
  have l1 := hl.lt
  have l2 := he.lt
  have m1 := hl.cell
  have f1 := hl.frozen
  have m2 := he.cell
  have f2 := he.frozen
  have m3 := (he.other (Ne.symm hne) (.slice none 0 0)).cell
  have f3 := (he.other (Ne.symm hne) (.slice none 0 0)).frozen
  refine callsD_of_wpS Try.func112 rfl fun c₀ cs hu => ?_
  unfold badP at hu
  apply wpS_seq
  apply wpS_region
  simp [wpOpsS, go_sem, recoverD, hu, Try.ntmps112, Exit.thenS]
  have k1 := bad_ne
  have k2 := assert_bad
  refine wpS_of_wp ?_
  simp only [Array.replicate_succ, Array.replicate_zero, List.push_toArray, List.append_toArray, List.nil_append, List.cons_append, List.setIfInBounds_toArray, List.set_cons_succ, List.set_cons_zero]
  go_wp2
  simp [bodyPostS, results, Try.results112]
theorem catch_idle_C (p q : Addr) (w : World) :
    CallsD Try.prog 112 #[.pointer (some p), .pointer (some q)] .returning w fun e u' w' => e = .returned (.tuple #[]) ∧ u' = .returning ∧ w = w' := by
  have k3 : ∀ w : World, (binOp .neq 20 .nilIface .nilIface).run Try.prog w = .ok (.bool false) w := fun _ => by kernel_rfl
  refine callsD_of_wpS Try.func112 rfl fun c₀ cs hu => ?_
  apply wpS_seq
  apply wpS_region
  simp [wpOpsS, go_sem, recoverD, hu, Try.ntmps112, Exit.thenS]
  refine wpS_of_wp ?_
  simp only [Array.replicate_succ, Array.replicate_zero, List.push_toArray, List.append_toArray, List.nil_append, List.cons_append, List.setIfInBounds_toArray, List.set_cons_succ, List.set_cons_zero]
  go_wp2
  cases c₀
  simp_all [bodyPostS, results, Try.results112]
/-- What code.Uncols comes to. -/
def readC (l : List Int) : List S43 × Int :=
  match readItems itemC l with
  | some (xs, l') => if l'.length > 0 ∨ l.length > 16777216 then ([], 41) else (xs, 0)
  | none => ([], 41)
set_option maxHeartbeats 4000000 in
set_option maxRecDepth 100000 in
theorem readC_calls (A : Option Addr) (c : Nat) (l : List Int) (hl : l.length ≤ 1000000000) (w : World) (hr : Kd.C (Kd.int .u8) w A l.length l) (hc : l.length ≤ c) (r1 : List S43) (r2 : Int) (hrr : readC l = (r1, r2)) :
    Calls Try.prog 80 #[.slice A l.length c, .func (.func 81) #[] #[]] w fun e w' => ∃ v0_ : Value, e = .returned (.tuple #[v0_, .int .i64 r2]) ∧ Kd.R k43 43 w' w.heap.size (fun _ => True) v0_ r1 ∧ Below w.heap.size w w' := by
  have mf := mkf
  have HR := Aside0.mk hr
  clear hr
  go_enter_defers Try.func80, Try.ntmps80
  go_wp2_with fail
  have bg := Boxed.new ((w.alloc (.cells #[.slice none 0 0] 38)).alloc (.cells #[.int .i64 0] 24)) 168 (.slice A l.length c)
  rw [World.size_alloc, World.size_alloc] at bg
  have bl := ((Boxed.new w 38 (.slice none 0 0)).alloc (.cells #[.int .i64 0] 24)).alloc (.cells #[.slice A l.length c] 168)
  have be := (Boxed.new (w.alloc (.cells #[.slice none 0 0] 38)) 24 (.int .i64 0)).alloc (.cells #[.slice A l.length c] 168)
  rw [World.size_alloc] at be
  have hb3 : Below w.heap.size w (((w.alloc (.cells #[.slice none 0 0] 38)).alloc (.cells #[.int .i64 0] 24)).alloc (.cells #[.slice A l.length c] 168)) := below_alloc (below_alloc (below_alloc (Below.refl _ _) _) _) _
  have hs3 : (((w.alloc (.cells #[.slice none 0 0] 38)).alloc (.cells #[.int .i64 0] 24)).alloc (.cells #[.slice A l.length c] 168)).heap.size = w.heap.size + 1 + 1 + 1 := by rw [World.size_alloc, World.size_alloc, World.size_alloc]
  generalize ((w.alloc (.cells #[.slice none 0 0] 38)).alloc (.cells #[.int .i64 0] 24)).alloc (.cells #[.slice A l.length c] 168) = W3 at bg bl be hb3 hs3 ⊢
  refine (un1C_calls (w.heap.size + 1 + 1) l hl w W3 ⟨A, c, ⟨bg, HR.out, hb3, by omega, hc⟩⟩).mono ?_
  rintro E w1 ⟨h1, h2, h3⟩
  have bl1 := bl.kept h3 (fun e => by injection e with e; omega)
  have be1 := be.kept h3 (fun e => by injection e with e; omega)
  have hb1 : Below w.heap.size w w1 := hb3.grown h3 (by omega) (fun k hk => by injection hk with hk; omega)
  have HB1 := Aside0.mk hb1
  have BL := Aside0.mk bl1
  have BE := Aside0.mk be1
  have hlt := h3.size
  rw [hs3] at hlt
  cases hR : readItems itemC l with
  | none =>
    obtain rfl := h2 hR
    have hI : readC l = ([], 41) := by unfold readC; rw [hR]
    rw [hI] at hrr
    simp only [Prod.mk.injEq] at hrr
    obtain ⟨rfl, rfl⟩ := hrr
    clear h1 h2 h3 bg bl be hb3 bl1 be1 hb1 hR hI
    unfold badP
    go_wp2
    refine leaves_cons (f := 112) (args := #[.pointer (some ⟨w.heap.size, 0, none⟩), .pointer (some ⟨w.heap.size + 1, 0, none⟩)]) (by simp) (by simp [go_sem]) ?_
    refine (catch_bad_C w.heap.size (w.heap.size + 1) (by omega) (.slice none 0 0) 0 w1 BL.out BE.out).mono ?_
    rintro e u' w'' ⟨rfl, rfl, rfl⟩
    have xl := ((BL.out.set (.slice none 0 0)).other (show w.heap.size ≠ w.heap.size + 1 by omega) (.int .i64 41)).alloc (.cells #[] 134)
    have xe := ((BE.out.other (show w.heap.size + 1 ≠ w.heap.size by omega) (.slice none 0 0)).set (.int .i64 41)).alloc (.cells #[] 134)
    have yl := xl.cell
    have ye := xe.cell
    have hB : Below w.heap.size w (((w1.setCell ⟨w.heap.size, 0, none⟩ (.slice none 0 0)).setCell ⟨w.heap.size + 1, 0, none⟩ (.int .i64 41)).alloc (.cells #[] 134)) := below_alloc (below_set (below_set HB1.out (by omega)) (by omega)) _
    generalize ((w1.setCell ⟨w.heap.size, 0, none⟩ (.slice none 0 0)).setCell ⟨w.heap.size + 1, 0, none⟩ (.int .i64 41)).alloc (.cells #[] 134) = W4 at xl xe yl ye hB ⊢
    simp [Leaves, settle, results, Try.results80, go_sem]
    refine ⟨.tuple #[.slice none 0 0, .int .i64 41], by simp [yl, ye, go_sem], _, rfl, Kd.R_nil _ _ _ _ _, hB⟩
  | some p =>
    obtain ⟨xs, l'⟩ := p
    obtain ⟨v, rfl, h4, h5⟩ := h1 xs l' hR
    obtain ⟨A', c', hd⟩ := h5
    obtain ⟨A2, c2, rfl⟩ := Kd.R_slice h4
    have bx := hd.box
    have H4 := Aside0.mk h4
    have hI : readC l = (if l'.length > 0 ∨ l.length > 16777216 then ([], 41) else (xs, 0)) := by unfold readC; rw [hR]
    rw [hI] at hrr
    have cg : (w1.setCell ⟨w.heap.size, 0, none⟩ (.slice A2 xs.length c2)).cell? ⟨w.heap.size + 1 + 1, 0, none⟩ = some (.slice A' l'.length c') := (bx.other (by omega) (.slice A2 xs.length c2)).cell
    have BL2 : Aside0 (Boxed (w1.setCell ⟨w.heap.size, 0, none⟩ (.slice A2 xs.length c2)) w.heap.size 38 (.slice A2 xs.length c2)) := ⟨BL.out.set _⟩
    have BE2 : Aside0 (Boxed (w1.setCell ⟨w.heap.size, 0, none⟩ (.slice A2 xs.length c2)) (w.heap.size + 1) 24 (.int .i64 0)) := ⟨BE.out.other (by omega) _⟩
    have HB2 : Aside0 (Below w.heap.size w (w1.setCell ⟨w.heap.size, 0, none⟩ (.slice A2 xs.length c2))) := ⟨below_set HB1.out (by omega)⟩
    have cl1 : w1.cell? ⟨w.heap.size, 0, none⟩ = some (.slice none 0 0) := bl1.cell
    have fl1 : w1.frozen? ⟨w.heap.size, 0, none⟩ = false := bl1.frozen
    have ce1 : w1.cell? ⟨w.heap.size + 1, 0, none⟩ = some (.int .i64 0) := be1.cell
    have fe1 : w1.frozen? ⟨w.heap.size + 1, 0, none⟩ = false := be1.frozen
    clear h1 h2 h3 bg bl be hb3 bl1 be1 hb1 hR hI h4 hd bx
    by_cases hx : l'.length > 0
    · rw [if_pos (.inl hx)] at hrr
      simp only [Prod.mk.injEq] at hrr
      obtain ⟨rfl, rfl⟩ := hrr
      have d1 : decide (0 < (l'.length : Int)) = true := decide_eq_true (by omega)
      have d2 : decide (0 < l'.length) = true := decide_eq_true hx
      clear hx
      go_wp2
      refine leaves_cons (f := 112) (args := #[.pointer (some ⟨w.heap.size, 0, none⟩), .pointer (some ⟨w.heap.size + 1, 0, none⟩)]) (by simp) (by simp [go_sem]) ?_
      refine (catch_bad_C w.heap.size (w.heap.size + 1) (by omega) (.slice A2 xs.length c2) 0 (w1.setCell ⟨w.heap.size, 0, none⟩ (.slice A2 xs.length c2)) BL2.out BE2.out).mono ?_
      rintro e u' w'' ⟨rfl, rfl, rfl⟩
      have xl := ((BL2.out.set (.slice none 0 0)).other (show w.heap.size ≠ w.heap.size + 1 by omega) (.int .i64 41)).alloc (.cells #[] 134)
      have xe := ((BE2.out.other (show w.heap.size + 1 ≠ w.heap.size by omega) (.slice none 0 0)).set (.int .i64 41)).alloc (.cells #[] 134)
      have yl := xl.cell
      have ye := xe.cell
      have hB : Below w.heap.size w ((((w1.setCell ⟨w.heap.size, 0, none⟩ (.slice A2 xs.length c2)).setCell ⟨w.heap.size, 0, none⟩ (.slice none 0 0)).setCell ⟨w.heap.size + 1, 0, none⟩ (.int .i64 41)).alloc (.cells #[] 134)) := below_alloc (below_set (below_set HB2.out (by omega)) (by omega)) _
      generalize (((w1.setCell ⟨w.heap.size, 0, none⟩ (.slice A2 xs.length c2)).setCell ⟨w.heap.size, 0, none⟩ (.slice none 0 0)).setCell ⟨w.heap.size + 1, 0, none⟩ (.int .i64 41)).alloc (.cells #[] 134) = W4 at xl xe yl ye hB ⊢
      simp [Leaves, settle, results, Try.results80, go_sem]
      refine ⟨.tuple #[.slice none 0 0, .int .i64 41], by simp [yl, ye, go_sem], _, rfl, Kd.R_nil _ _ _ _ _, hB⟩
    · have d1 : decide (0 < (l'.length : Int)) = false := decide_eq_false (by omega)
      have d2 : decide (0 < l'.length) = false := decide_eq_false hx
      by_cases hy : l.length > 16777216
      · rw [if_pos (.inr hy)] at hrr
        simp only [Prod.mk.injEq] at hrr
        obtain ⟨rfl, rfl⟩ := hrr
        have e1 : decide (16777216 < (l.length : Int)) = true := decide_eq_true (by omega)
        have e2 : decide (16777216 < l.length) = true := decide_eq_true hy
        clear hx hy
        go_wp2
        refine leaves_cons (f := 112) (args := #[.pointer (some ⟨w.heap.size, 0, none⟩), .pointer (some ⟨w.heap.size + 1, 0, none⟩)]) (by simp) (by simp [go_sem]) ?_
        refine (catch_bad_C w.heap.size (w.heap.size + 1) (by omega) (.slice A2 xs.length c2) 0 (w1.setCell ⟨w.heap.size, 0, none⟩ (.slice A2 xs.length c2)) BL2.out BE2.out).mono ?_
        rintro e u' w'' ⟨rfl, rfl, rfl⟩
        have xl := ((BL2.out.set (.slice none 0 0)).other (show w.heap.size ≠ w.heap.size + 1 by omega) (.int .i64 41)).alloc (.cells #[] 134)
        have xe := ((BE2.out.other (show w.heap.size + 1 ≠ w.heap.size by omega) (.slice none 0 0)).set (.int .i64 41)).alloc (.cells #[] 134)
        have yl := xl.cell
        have ye := xe.cell
        have hB : Below w.heap.size w ((((w1.setCell ⟨w.heap.size, 0, none⟩ (.slice A2 xs.length c2)).setCell ⟨w.heap.size, 0, none⟩ (.slice none 0 0)).setCell ⟨w.heap.size + 1, 0, none⟩ (.int .i64 41)).alloc (.cells #[] 134)) := below_alloc (below_set (below_set HB2.out (by omega)) (by omega)) _
        generalize (((w1.setCell ⟨w.heap.size, 0, none⟩ (.slice A2 xs.length c2)).setCell ⟨w.heap.size, 0, none⟩ (.slice none 0 0)).setCell ⟨w.heap.size + 1, 0, none⟩ (.int .i64 41)).alloc (.cells #[] 134) = W4 at xl xe yl ye hB ⊢
        simp [Leaves, settle, results, Try.results80, go_sem]
        refine ⟨.tuple #[.slice none 0 0, .int .i64 41], by simp [yl, ye, go_sem], _, rfl, Kd.R_nil _ _ _ _ _, hB⟩
      · rw [if_neg (by omega)] at hrr
        simp only [Prod.mk.injEq] at hrr
        obtain ⟨rfl, rfl⟩ := hrr
        have e1 : decide (16777216 < (l.length : Int)) = false := decide_eq_false (by omega)
        have e2 : decide (16777216 < l.length) = false := decide_eq_false hy
        clear hx hy
        go_wp2
        refine leaves_cons (f := 112) (args := #[.pointer (some ⟨w.heap.size, 0, none⟩), .pointer (some ⟨w.heap.size + 1, 0, none⟩)]) (by simp) (by simp [go_sem]) ?_
        refine (catch_idle_C ⟨w.heap.size, 0, none⟩ ⟨w.heap.size + 1, 0, none⟩ _).mono ?_
        rintro e u' w'' ⟨rfl, rfl, rfl⟩
        have VV : ∃ v : Value, v = .slice A2 xs.length c2 := ⟨_, rfl⟩
        have x1 := (BL2.out.set (.slice A2 xs.length c2)).other (show w.heap.size ≠ w.heap.size + 1 by omega) (.int .i64 0)
        have x2 := (BE2.out.other (show w.heap.size + 1 ≠ w.heap.size by omega) (.slice A2 xs.length c2)).set (.int .i64 0)
        have yl := x1.cell
        have ye := x2.cell
        have hB : Below w.heap.size w (((w1.setCell ⟨w.heap.size, 0, none⟩ (.slice A2 xs.length c2)).setCell ⟨w.heap.size, 0, none⟩ (.slice A2 xs.length c2)).setCell ⟨w.heap.size + 1, 0, none⟩ (.int .i64 0)) := below_set (below_set HB2.out (by omega)) (by omega)
        have q1 := R_past H4.out (grownBy_setCell' w1 w.heap.size (.slice A2 xs.length c2)) (by omega)
        have q2 := R_past q1 (grownBy_setCell' _ w.heap.size (.slice A2 xs.length c2)) (by omega)
        have q3 := Kd.R_lower (base' := w.heap.size) (R_past q2 (grownBy_setCell' _ (w.heap.size + 1) (.int .i64 0)) (by omega)) (by omega)
        generalize ((w1.setCell ⟨w.heap.size, 0, none⟩ (.slice A2 xs.length c2)).setCell ⟨w.heap.size, 0, none⟩ (.slice A2 xs.length c2)).setCell ⟨w.heap.size + 1, 0, none⟩ (.int .i64 0) = W4 at x1 x2 yl ye hB q3 ⊢
        simp [Leaves, settle, results, Try.results80, go_sem]
        refine ⟨.tuple #[.slice A2 xs.length c2, .int .i64 0], by simp [yl, ye, go_sem], _, rfl, q3, hB⟩
def code_Uncols.f (k : Nat) (l0 : List Int) : Option (List S43 × Int) := if l0.length ≤ 1000000000 then some (readC l0) else none
set_option maxHeartbeats 1000000 in
theorem code_Uncols.calls (k : Nat) (A0 : Option Addr) (c0 : Nat) (l0 : List Int) (r1 : List S43) (r2 : Int) (w : World) (hr0 : Kd.C (Kd.int .u8) w A0 l0.length l0) (hc0 : l0.length ≤ c0) (h : code_Uncols.f k l0 = some (r1, r2)) :
    Calls Try.prog 30 #[.slice A0 l0.length c0] w fun e w' => ∃ v0_ : Value, e = .returned (.tuple #[v0_, .int .i64 r2]) ∧ Kd.R k43 43 w' w.heap.size (fun _ => True) v0_ r1 ∧ Below w.heap.size w w' := by
  unfold code_Uncols.f at h
  split at h
  · rename_i hl
    have hrr := Option.some.inj h
    have hc := readC_calls A0 c0 l0 hl w hr0 hc0 r1 r2 hrr
    clear hr0 h hrr
    go_enter Try.func30, Try.ntmps30
    go_wp2_with fail
    refine hc.mono ?_
    rintro e w1 ⟨v, rfl, hR, hb⟩
    go_wp2
    go_ret2
    exact ⟨v, rfl, hR, hb⟩
  · cases h
end Go.Proofs.Ytgihecpobichbaa.Q
/- A row of bytes that a conversion of a string lays, and what is appended to it: the row's mark stands where nothing is written. -/
namespace Go.Proofs.Ytgihecpobichbaa.Q
open Go.RowKit Go.Proofs.YtgihecpobichbaaW.PrintWords Go.Proofs.YtgihecpobichbaaW.PrintLast Go.Proofs.YtgihecpobichbaaW.PrintMore
set_option linter.unusedVariables false
set_option linter.unusedSimpArgs false

/-- v owns the bytes xs, in a block from base on. -/
def OwnB (w : World) (base : Nat) (e : TypeId) (v : Value) (xs : List Int) : Prop :=
  ∃ g cap cur fz, v = .slice (some ⟨g, 0, none⟩) xs.length cap ∧ base ≤ g ∧ w.heap[g]? = some (.cells cur e fz) ∧ (fz.2 ≤ xs.length ∨ cap ≤ fz.1) ∧ xs.length ≤ cap ∧ cap ≤ maxLen ∧ cur.size = cap ∧ cur.toList.take xs.length = nums .u8 xs
theorem OwnB.slice {w : World} {base : Nat} {e : TypeId} {v : Value} {xs : List Int} (h : OwnB w base e v xs) : ∃ A c, v = .slice A xs.length c := by
  obtain ⟨g, cap, cur, fz, h, _⟩ := h
  exact ⟨_, _, h⟩
theorem OwnB.lt {w : World} {base : Nat} {e : TypeId} {v : Value} {xs : List Int} (h : OwnB w base e v xs) : ∀ k, v.ownBlock = some k → base ≤ k ∧ k < w.heap.size := by
  intro k hk
  obtain ⟨g, cap, cur, fz, rfl, hb, hg, _⟩ := h
  simp [Value.ownBlock] at hk
  subst hk
  exact ⟨hb, (Array.getElem?_eq_some_iff.1 hg).1⟩
theorem OwnB.kept {w w' : World} {base : Nat} {e : TypeId} {v : Value} {xs : List Int} (h : OwnB w base e v xs) (hb : Below w.heap.size w w') : OwnB w' base e v xs := by
  obtain ⟨g, cap, cur, fz, rfl, h1, hg, rest⟩ := h
  refine ⟨g, cap, cur, fz, rfl, h1, ?_, rest⟩
  rw [hb.block g (Array.getElem?_eq_some_iff.1 hg).1]
  exact hg
theorem OwnB.cells {w : World} {base : Nat} {e : TypeId} {v : Value} {xs : List Int} (h : OwnB w base e v xs) {g : Nat} (hg : v.ownBlock = some g) : ∀ j u, (nums .u8 xs)[j]? = some u → w.cell? ((⟨g, 0, none⟩ : Addr).add j) = some u := by
  intro j u hu
  obtain ⟨g', cap, cur, fz, rfl, _, hgg, _, _, _, _, htake⟩ := h
  simp [Value.ownBlock] at hg
  subst hg
  have hadd : (⟨g', 0, none⟩ : Addr).add j = ⟨g', j, none⟩ := by unfold Addr.add; split <;> simp_all
  rw [hadd, cell_of_row w g' j cur e fz hgg]
  rw [← htake, List.getElem?_take] at hu
  split at hu
  · simpa using hu
  · cases hu
theorem OwnB.string {P : Program} {w : World} {base : Nat} {e' src dst e : TypeId} {v : Value} {xs : List Int} (hs : P.underlying src = some (.slice e)) (he : P.underlying e = some (.int .u8)) (hd : P.underlying dst = some .string)
    (h : OwnB w base e' v xs) : (convert src dst v).run P w = .ok (.string (strOfNums xs)) w := by
  have hc := fun g => h.cells (g := g)
  obtain ⟨g, cap, cur, fz, rfl, _⟩ := h
  refine run_convert_bytes_arg w src e hs he g 0 xs.length cap xs rfl (fun i hi => ?_) dst hd
  have hc := hc g rfl i (.int .u8 (xs.getD i 0)) (by simp [nums, List.getElem?_eq_getElem (show i < xs.length by omega), List.getD_eq_getElem?_getD])
  have ha : (⟨g, 0, none⟩ : Addr).add i = ⟨g, 0 + i, none⟩ := by unfold Addr.add; split <;> simp_all
  rwa [ha] at hc
section
variable {P : Program} {ops : Array Oper} {rest : List Oper} {o : Oper} {a : Act} {Q : Exit → Act → World → Prop}
end
theorem strNums_bytesOf (s : ByteArray) : strOfNums (bytesOf s) = s := by
  apply ByteArray.ext
  apply Array.ext'
  unfold strOfNums bytesOf
  simp [List.map_map]
  conv => rhs; rw [← List.map_id s.data.toList]
  apply List.map_congr_left
  intro b _
  have := b.toNat_lt
  apply UInt8.toNat_inj.1
  simp
end Go.Proofs.Ytgihecpobichbaa.Q
/- headgateref04.Nums: walked: the bytes of so many ints. -/
namespace Go.Proofs.Ytgihecpobichbaa.Q
open Go.RowKit Go.Proofs.YtgihecpobichbaaW.PrintWords Go.Proofs.YtgihecpobichbaaW.PrintLast Go.Proofs.YtgihecpobichbaaW.PrintMore
set_option linter.unusedVariables false
set_option linter.unusedSimpArgs false

end Go.Proofs.Ytgihecpobichbaa.Q
/- Ints as bytes and back: the package's and the document's, in plain words: no program in it. -/
namespace Go.Proofs.Ytgihecpobichbaa.Q
open Go.RowKit Go.Proofs.YtgihecpobichbaaW.PrintWords Go.Proofs.YtgihecpobichbaaW.PrintLast Go.Proofs.YtgihecpobichbaaW.PrintMore
set_option linter.unusedVariables false
set_option linter.unusedSimpArgs false

theorem readI_X (l : List Int) : readI l = readX itemI l := by
  unfold readI readX
  cases readItems itemI l <;> rfl
/-- What the document's reader comes to, from a place on. -/
def finX {α : Type} (N : Nat) (xs : List α) (r : Option (List α × List Int)) : List α × Bool :=
  match r with
  | some (ys, l') => if l'.length = 0 ∧ N ≤ 16777216 then (xs ++ ys, true) else ([], false)
  | none => ([], false)
theorem finX_readX {α : Type} (item : List Int → Option (α × List Int)) (hl : ∀ l a r, item l = some (a, r) → r.length < l.length) (b : List Int) :
    finX b.length [] (if (un b).2.2 = 0 then readN item (un b).1.toNat (b.drop (un b).2.1.toNat) else none) = ((readX item b).1, decide ((readX item b).2 = 0)) := by
  unfold readX readItems
  by_cases h : (un b).2.2 = 0
  · rw [if_pos h, if_pos h]
    by_cases h2 : (un b).1 > ((b.drop (un b).2.1.toNat).length : Int)
    · rw [if_pos h2, readN_short item hl _ _ (by omega)]
      rfl
    · rw [if_neg h2]
      cases hr : readN item (un b).1.toNat (b.drop (un b).2.1.toNat) with
      | none => rfl
      | some p =>
        obtain ⟨ys, l'⟩ := p
        simp only [finX]
        by_cases h3 : l'.length > 0 ∨ b.length > 16777216
        · simp only [if_pos h3]
          rw [if_neg (by omega)]
          rfl
        · simp only [if_neg h3]
          rw [if_pos (by omega)]
          rfl
  · rw [if_neg h, if_neg h]
    rfl
theorem refUnint_at (s : ByteArray) (hs : s.size ≤ 1000000) (p : Nat) (hp : p ≤ s.size) :
    Ev (fun k => headgateref04_Unint.f k s (p : Int)) (match itemI ((bytesOf s).drop p) with | some (x, l') => (x, (s.size : Int) - l'.length) | none => (0, -1)) := by
  have hl := bytesOf_length s
  unfold headgateref04_Unint.f
  refine Ev.bind (ref_at_nat s hs p hp) ?_
  unfold refOfA itemI
  by_cases h : (un ((bytesOf s).drop p)).2.2 = 0
  · rw [if_pos h, if_pos h]
    obtain ⟨n, k, hu⟩ : ∃ n k, un ((bytesOf s).drop p) = (n, k, 0) := ⟨(un ((bytesOf s).drop p)).1, (un ((bytesOf s).drop p)).2.1, by rw [← h]⟩
    have hpos := un_pos h
    obtain ⟨r, e1, e2, e3, e4⟩ := un_only (fun x hx => bytesOf_range s x (List.mem_of_mem_drop hx)) hu
    rw [hu] at hpos ⊢
    rw [List.length_drop] at hpos
    have hk : (s.size : Int) - (((bytesOf s).drop p).drop k.toNat).length = (p : Int) + k := by
      rw [List.length_drop, List.length_drop]
      simp only at hpos
      omega
    simp only [hk]
    rw [unz_val e3 e4]
    unfold zag
    have t1 : Int.tmod n 2 = n % 2 := Int.tmod_eq_emod_of_nonneg e3
    have t2 : Int.tdiv n 2 = n / 2 := Int.tdiv_eq_ediv_of_nonneg e3
    have t3 : IntKind.u64.wrap (n / 2) = n / 2 := wrap_u _ (by omega) (by omega)
    have t4 : wrap64 (n / 2) = n / 2 := wrap_in (by unfold in64; omega)
    have t5 : wrap64 (-(n / 2)) = -(n / 2) := wrap_in (by unfold in64; omega)
    have t6 : wrap64 (-(n / 2) - 1) = -(n / 2) - 1 := wrap_in (by unfold in64; omega)
    rw [t1, t2, t3, t4, t5, t6]
    by_cases ho : n % 2 = 1
    · rw [if_pos ho, if_pos ho]
      exact Ev.now _
    · rw [if_neg ho, if_neg ho]
      exact Ev.now _
  · rw [if_neg h, if_neg h]
    exact Ev.congr (f := fun _ => some ((0 : Int), (-1 : Int))) (fun k => by kernel_rfl) (Ev.now _)
theorem refUnnums_loop (s : ByteArray) (hs : s.size ≤ 1000000) (n : Int) (hn : n < 18446744073709551616) : ∀ (m p d : Nat) (xs : List Int) (i : Int), p ≤ s.size → s.size - p ≤ m → 0 ≤ i → n = i + d → xs.length ≤ p →
    Ev (fun k => headgateref04_Unnums.l0 k s n (p : Int) xs i) (finX s.size xs (readN itemI d ((bytesOf s).drop p))) := by
  have hl := bytesOf_length s
  have hj : ∀ (p : Int) (xs : List Int), Ev (fun k => headgateref04_Unnums.j1 k s p xs) (if p = (s.size : Int) then (if (s.size : Int) > 16777216 then ([], false) else (xs, true)) else ([], false)) := by
    intro p xs
    refine Ev.step (f := fun _ => some _) (fun k => ?_) (Ev.now _)
    simp only [headgateref04_Unnums.j1]
    split <;> (try split) <;> rfl
  intro m
  induction m with
  | zero =>
    intro p d xs i hp hm hi hd hx
    obtain rfl : p = s.size := by omega
    rw [List.drop_of_length_le (by omega)]
    cases d with
    | zero =>
      have h := hj (s.size : Int) xs
      rw [if_pos rfl, if_neg (by omega)] at h
      refine Ev.step (f := fun k => headgateref04_Unnums.j1 k s (s.size : Int) xs) (fun k => ?_) ?_
      · simp only [headgateref04_Unnums.l0]
        rw [if_neg (by omega)]
      · simp only [readN, finX, List.length_nil]
        rw [if_pos ⟨trivial, by omega⟩, List.append_nil]
        exact h
    | succ d =>
      have hI := refUnint_at s hs s.size (Nat.le_refl _)
      rw [List.drop_of_length_le (by omega)] at hI
      have hnone : itemI [] = none := rfl
      simp only [hnone] at hI
      have hr : readN itemI (d + 1) [] = none := by simp only [readN, hnone, Option.bind_none]
      rw [hr]
      have h2 : Ev (fun k => headgateref04_Unnums.l0 k s n (-1) (xs ++ [0]) (IntKind.u64.wrap (i + 1))) (finX s.size xs none) := by
        have h := hj (-1) (xs ++ [0])
        rw [if_neg (by omega)] at h
        refine Ev.step (fun k => ?_) h
        simp only [headgateref04_Unnums.l0]
        rw [if_neg (show ¬ (-1 : Int) ≥ 0 by omega)]
        split <;> rfl
      refine Ev.step (fun k => ?_) (Ev.bind (f := fun k (y : Int × Int) => headgateref04_Unnums.l0 k s n y.2 (xs ++ [y.1]) (IntKind.u64.wrap (i + 1))) hI h2)
      simp only [headgateref04_Unnums.l0]
      rw [if_pos (by omega), if_pos (by omega)]
      congr 1
      funext y
      rw [if_pos (by omega)]
  | succ m ih =>
    intro p d xs i hp hm hi hd hx
    cases d with
    | zero =>
      have h := hj (p : Int) xs
      refine Ev.step (f := fun k => headgateref04_Unnums.j1 k s (p : Int) xs) (fun k => ?_) ?_
      · simp only [headgateref04_Unnums.l0]
        rw [if_neg (by omega)]
      · simp only [readN, finX, List.length_drop, hl]
        rw [List.append_nil]
        by_cases hq : p = s.size
        · rw [if_pos (by omega), if_neg (by omega)] at h
          rw [if_pos (by omega)]
          exact h
        · rw [if_neg (by omega)] at h
          rw [if_neg (by omega)]
          exact h
    | succ d =>
      have hI := refUnint_at s hs p hp
      have hw : IntKind.u64.wrap (i + 1) = i + 1 := wrap_u _ (by omega) (by omega)
      cases hit : itemI ((bytesOf s).drop p) with
      | none =>
        rw [hit] at hI
        simp only at hI
        have hr : readN itemI (d + 1) ((bytesOf s).drop p) = none := by simp only [readN, hit, Option.bind_none]
        rw [hr]
        have h2 : Ev (fun k => headgateref04_Unnums.l0 k s n (-1) (xs ++ [0]) (IntKind.u64.wrap (i + 1))) (finX s.size xs none) := by
          have h := hj (-1) (xs ++ [0])
          rw [if_neg (by omega)] at h
          refine Ev.step (fun k => ?_) h
          simp only [headgateref04_Unnums.l0]
          rw [if_neg (show ¬ (-1 : Int) ≥ 0 by omega)]
          split <;> rfl
        refine Ev.step (fun k => ?_) (Ev.bind (f := fun k (y : Int × Int) => headgateref04_Unnums.l0 k s n y.2 (xs ++ [y.1]) (IntKind.u64.wrap (i + 1))) hI h2)
        simp only [headgateref04_Unnums.l0]
        rw [if_pos (by omega), if_pos (by omega)]
        congr 1
        funext y
        rw [if_pos (by omega)]
      | some q =>
        obtain ⟨x, l'⟩ := q
        rw [hit] at hI
        simp only at hI
        have hless := itemI_less _ _ _ hit
        obtain ⟨e1, e2⟩ := itemI_only _ _ _ (fun x hx => bytesOf_range s x (List.mem_of_mem_drop hx)) hit
        rw [List.length_drop] at hless
        have hdr : l' = (bytesOf s).drop (s.size - l'.length) := by
          have h3 : (bytesOf s).drop (p + (encI x).length) = l' := by
            rw [← List.drop_drop, e1]
            simp
          have h4 : (encI x).length + l'.length = s.size - p := by
            have := congrArg List.length e1
            rw [List.length_drop, List.length_append] at this
            omega
          have h5 : p + (encI x).length = s.size - l'.length := by omega
          rw [← h5]
          exact h3.symm
        have hcast : (s.size : Int) - (l'.length : Int) = ((s.size - l'.length : Nat) : Int) := by omega
        rw [hcast] at hI
        obtain ⟨p2, hp2⟩ : ∃ p2, p2 = s.size - l'.length := ⟨_, rfl⟩
        rw [← hp2] at hI hdr
        have h2 := ih p2 d (xs ++ [x]) (i + 1) (by omega) (by omega) (by omega) (by omega) (by rw [List.length_append]; simp; omega)
        rw [← hdr] at h2
        have hfin : finX s.size (xs ++ [x]) (readN itemI d l') = finX s.size xs (readN itemI (d + 1) ((bytesOf s).drop p)) := by
          simp only [readN, hit, Option.bind_some]
          cases readN itemI d l' with
          | none => rfl
          | some q =>
            simp only [Option.map_some, finX]
            split <;> simp
        rw [hfin, ← hw] at h2
        refine Ev.step (fun k => ?_) (Ev.bind (f := fun k (y : Int × Int) => headgateref04_Unnums.l0 k s n y.2 (xs ++ [y.1]) (IntKind.u64.wrap (i + 1))) hI h2)
        simp only [headgateref04_Unnums.l0]
        rw [if_pos (by omega), if_pos (by omega)]
        congr 1
        funext y
        rw [if_pos (by omega)]
theorem refUnnums (s : ByteArray) (hs : s.size ≤ 1000000) : Ev (fun k => headgateref04_Unnums.f k s) ((readI (bytesOf s)).1, decide ((readI (bytesOf s)).2 = 0)) := by
  have hl := bytesOf_length s
  unfold headgateref04_Unnums.f
  rw [readI_X, ← finX_readX itemI itemI_less, hl]
  refine Ev.bind (ref_at_nat s hs 0 (by omega)) ?_
  rw [List.drop_zero]
  unfold refOfA
  by_cases h : (un (bytesOf s)).2.2 = 0
  · rw [if_pos h, if_pos h]
    obtain ⟨n, k, hu⟩ : ∃ n k, un (bytesOf s) = (n, k, 0) := ⟨(un (bytesOf s)).1, (un (bytesOf s)).2.1, by rw [← h]⟩
    have hpos := un_pos h
    obtain ⟨r, e1, e2, e3, e4⟩ := un_only (bytesOf_range s) hu
    rw [hu] at hpos ⊢
    simp only at hpos ⊢
    have h2 := refUnnums_loop s hs n e4 s.size k.toNat n.toNat [] 0 (by omega) (by omega) (by omega) (by omega) (by simp)
    rw [show ((k.toNat : Nat) : Int) = ((0 : Nat) : Int) + k by omega] at h2
    exact h2
  · rw [if_neg h, if_neg h]
    simp only
    refine Ev.step (f := fun k => headgateref04_Unnums.j1 k s (-1) []) (fun k => ?_) (Ev.step (f := fun _ => some ([], false)) (fun k => ?_) (Ev.now _))
    · simp only [headgateref04_Unnums.l0]
      rw [if_neg (by omega)]
    · simp only [headgateref04_Unnums.j1]
      rw [if_neg (by omega)]
end Go.Proofs.Ytgihecpobichbaa.Q
/- Texts, values, rows, columns and pairs as bytes and back, in plain words: no program in it. -/
namespace Go.Proofs.Ytgihecpobichbaa.Q
open Go.RowKit Go.Proofs.YtgihecpobichbaaW.PrintWords Go.Proofs.YtgihecpobichbaaW.PrintLast Go.Proofs.YtgihecpobichbaaW.PrintMore
set_option linter.unusedVariables false
set_option linter.unusedSimpArgs false

abbrev Va := S116
abbrev Co := S43
abbrev Pa := S74
def encW (s : ByteArray) : List Int := numR 9 (s.size : Int) ++ bytesOf s
def encV (v : Va) : List Int := [v.f0 % 256] ++ (if v.f0 = 1 then encI v.f1 else if v.f0 = 2 then [v.f1 % 256] else if v.f0 = 3 then encW v.f2 else [])
def encR (r : List Va) : List Int := numR 9 (r.length : Int) ++ flat encV r
def encC (c : Co) : List Int := encW c.f0 ++ [c.f1 % 256]
def encP (p : Pa) : List Int := encW p.f0 ++ encW p.f1
/-- Is a value one that may be told? -/
def goodV (v : Va) : Prop := chkV v = 0 ∧ in64 v.f1
theorem itemW_only (l : List Int) (s : ByteArray) (r : List Int) (hb : Bytes l) (h : itemW l = some (s, r)) : l = encW s ++ r := by
  unfold itemW at h
  split at h
  · rename_i h0
    split at h
    · cases h
    · rename_i hle
      obtain ⟨n, k, hu⟩ : ∃ n k, un l = (n, k, 0) := ⟨(un l).1, (un l).2.1, by rw [← h0]⟩
      rw [hu] at h hle
      obtain ⟨r0, e1, e2, e3, e4⟩ := un_only hb hu
      simp only [e1, e2, drop_at, Option.some.injEq, Prod.mk.injEq] at h hle
      obtain ⟨rfl, rfl⟩ := h
      have hb0 : Bytes r0 := (e1 ▸ hb).right
      have hbt : ∀ x ∈ r0.take n.toNat, 0 ≤ x ∧ x ≤ 255 := fun x hx => hb0 x (List.mem_of_mem_take hx)
      unfold encW
      rw [bytes_strNums hbt, str_size, List.length_take]
      have e5 : ((min n.toNat r0.length : Nat) : Int) = n := by omega
      rw [e5, List.append_assoc, List.take_append_drop]
      exact e1
  · cases h
theorem wrap_byte {x : Int} (h : 0 ≤ x ∧ x ≤ 255) : wrap64 x = x := wrap_in (by unfold in64; omega)
theorem wrap_byte_i {x : Int} (h : 0 ≤ x ∧ x ≤ 255) : IntKind.i64.wrap x = x := by
  rw [IntKind.wrap_i64]
  omega
theorem itemB_only (l : List Int) (x : Int) (r : List Int) (h : itemB l = some (x, r)) : l = x :: r := by
  cases l with
  | nil => cases h
  | cons c l =>
    simp only [itemB, Option.some.injEq, Prod.mk.injEq] at h
    rw [h.1, h.2]
theorem itemV_only (l : List Int) (v : Va) (r : List Int) (hb : Bytes l) (h : itemV l = some (v, r)) : l = encV v ++ r ∧ goodV v := by
  unfold itemV at h
  obtain ⟨⟨b, l1⟩, h1, h2⟩ := Option.bind_eq_some_iff.1 h
  obtain ⟨⟨x, l2⟩, h3, h4⟩ := Option.bind_eq_some_iff.1 h2
  simp only at h3 h4
  have e1 := itemB_only l b l1 h1
  have hbb : 0 ≤ b ∧ b ≤ 255 := hb b (by rw [e1]; simp)
  have hb1 : Bytes l1 := fun y hy => hb y (by rw [e1]; simp [hy])
  rw [wrap_byte hbb] at h3
  split at h4
  · rename_i hc
    simp only [Option.some.injEq, Prod.mk.injEq] at h4
    obtain ⟨rfl, rfl⟩ := h4
    have em : b % 256 = b := by omega
    unfold preV at h3
    split at h3
    · rename_i hk
      obtain ⟨⟨y, r1⟩, h5, h6⟩ := Option.map_eq_some_iff.1 h3
      simp only [Prod.mk.injEq] at h6
      obtain ⟨rfl, rfl⟩ := h6
      obtain ⟨e2, g2⟩ := itemI_only _ _ _ hb1 h5
      refine ⟨?_, hc, g2⟩
      unfold encV
      simp only
      rw [em, if_pos hk, e1, e2]
      rfl
    · rename_i hk1
      split at h3
      · rename_i hk
        obtain ⟨⟨y, r1⟩, h5, h6⟩ := Option.map_eq_some_iff.1 h3
        simp only [Prod.mk.injEq] at h6
        obtain ⟨rfl, rfl⟩ := h6
        have e2 := itemB_only _ _ _ h5
        have hy : 0 ≤ y ∧ y ≤ 255 := hb1 y (by rw [e2]; simp)
        refine ⟨?_, hc, ?_⟩
        · unfold encV
          simp only
          rw [em, if_neg hk1, if_pos hk, e1, e2, wrap_byte hy, show y % 256 = y by omega]
          rfl
        · simp only
          rw [wrap_byte hy]
          unfold in64
          omega
      · rename_i hk2
        split at h3
        · rename_i hk
          obtain ⟨⟨y, r1⟩, h5, h6⟩ := Option.map_eq_some_iff.1 h3
          simp only [Prod.mk.injEq] at h6
          obtain ⟨rfl, rfl⟩ := h6
          have e2 := itemW_only _ _ _ hb1 h5
          refine ⟨?_, hc, by simp only; unfold in64; omega⟩
          unfold encV
          simp only
          rw [em, if_neg hk1, if_neg hk2, if_pos hk, e1, e2]
          rfl
        · rename_i hk
          simp only [Option.some.injEq, Prod.mk.injEq] at h3
          obtain ⟨rfl, rfl⟩ := h3
          refine ⟨?_, hc, by simp only; unfold in64; omega⟩
          unfold encV
          simp only
          rw [em, if_neg hk1, if_neg hk2, if_neg hk, e1]
          rfl
  · cases h4
def goodR (r : List Va) : Prop := rowOk r = true ∧ ∀ v ∈ r, in64 v.f1
theorem goodR_parts {r : List Va} (h : goodR r) : r.length ≤ 12 ∧ ∀ v ∈ r, goodV v := by
  obtain ⟨h1, h2⟩ := h
  unfold rowOk at h1
  rw [Bool.and_eq_true] at h1
  refine ⟨of_decide_eq_true h1.1, fun v hv => ⟨?_, h2 v hv⟩⟩
  have := List.all_eq_true.1 h1.2 v hv
  simpa using this
theorem itemR_only (l : List Int) (x : List Va) (r : List Int) (hb : Bytes l) (h : itemR l = some (x, r)) : l = encR x ++ r ∧ goodR x := by
  unfold itemR at h
  obtain ⟨⟨y, l1⟩, h1, h2⟩ := Option.bind_eq_some_iff.1 h
  simp only at h2
  split at h2
  · rename_i hr
    simp only [Option.some.injEq, Prod.mk.injEq] at h2
    obtain ⟨rfl, rfl⟩ := h2
    obtain ⟨e, g⟩ := readItems_only itemV encV goodV itemV_only l y l1 hb h1
    exact ⟨e, hr, fun v hv => (g v hv).2⟩
  · cases h2
def goodC (c : Co) : Prop := 0 ≤ c.f1 ∧ c.f1 ≤ 255
theorem itemC_only (l : List Int) (c : Co) (r : List Int) (hb : Bytes l) (h : itemC l = some (c, r)) : l = encC c ++ r ∧ goodC c := by
  unfold itemC at h
  obtain ⟨⟨x, l1⟩, h1, h2⟩ := Option.bind_eq_some_iff.1 h
  obtain ⟨⟨y, l2⟩, h3, h4⟩ := Option.map_eq_some_iff.1 h2
  simp only [Prod.mk.injEq] at h3 h4
  obtain ⟨rfl, rfl⟩ := h4
  have e1 := itemW_only l x l1 hb h1
  have hb1 : Bytes l1 := (e1 ▸ hb).right
  have e2 := itemB_only _ _ _ h3
  have hy : 0 ≤ y ∧ y ≤ 255 := hb1 y (by rw [e2]; simp)
  have e : IntKind.i64.wrap y = y := wrap_byte_i hy
  unfold encC goodC
  simp only
  rw [e]
  refine ⟨?_, hy⟩
  rw [e1, e2, show y % 256 = y by omega]
  simp
theorem itemP_only (l : List Int) (p : Pa) (r : List Int) (hb : Bytes l) (h : itemP l = some (p, r)) : l = encP p ++ r ∧ True := by
  unfold itemP at h
  obtain ⟨⟨x, l1⟩, h1, h2⟩ := Option.bind_eq_some_iff.1 h
  obtain ⟨⟨y, l2⟩, h3, h4⟩ := Option.map_eq_some_iff.1 h2
  simp only [Prod.mk.injEq] at h3 h4
  obtain ⟨rfl, rfl⟩ := h4
  have e1 := itemW_only l x l1 hb h1
  have hb1 : Bytes l1 := (e1 ▸ hb).right
  have e2 := itemW_only _ _ _ hb1 h3
  refine ⟨?_, trivial⟩
  unfold encP
  simp only
  rw [e1, e2, List.append_assoc]
theorem readR_X (l : List Int) : readR l = readX itemR l := by
  unfold readR readX
  cases readItems itemR l <;> rfl
theorem readC_X (l : List Int) : readC l = readX itemC l := by
  unfold readC readX
  cases readItems itemC l <;> rfl
theorem readP_X (l : List Int) : readP l = readX itemP l := by
  unfold readP readX
  cases readItems itemP l <;> rfl
end Go.Proofs.Ytgihecpobichbaa.Q
-- Written by a program of the session over the translation's print: functions as plain Lean, and that the machine's call comes to them.
namespace Go.Proofs.Ytgihecpobichbaa.Q
open Go.RowKit Go.Proofs.YtgihecpobichbaaW.PrintWords Go.Proofs.YtgihecpobichbaaW.PrintLast Go.Proofs.YtgihecpobichbaaW.PrintMore
attribute [local go_sem] max2_int min2_int max_two min_two max_three min_three max_four min_four   -- for this text's walks alone
set_option linter.unusedVariables false
set_option linter.unusedSimpArgs false

/-! ### api_Value_60: function 60 -/
/-! ### code_Rows_1: function 59 -/
/-! ### api_Value_58: function 58 -/
/-! ### code_Rows: function 20 -/
end Go.Proofs.Ytgihecpobichbaa.Q
-- Written by a program of the session over the translation's print: functions as plain Lean, and that the machine's call comes to them.
namespace Go.Proofs.Ytgihecpobichbaa.Q
open Go.RowKit Go.Proofs.YtgihecpobichbaaW.PrintWords Go.Proofs.YtgihecpobichbaaW.PrintLast Go.Proofs.YtgihecpobichbaaW.PrintMore
attribute [local go_sem] max2_int min2_int max_two min_two max_three min_three max_four min_four   -- for this text's walks alone
set_option linter.unusedVariables false
set_option linter.unusedSimpArgs false

end Go.Proofs.Ytgihecpobichbaa.Q
/- What package code tells of lists, in plain words: no program in it. -/
namespace Go.Proofs.Ytgihecpobichbaa.Q
open Go.RowKit Go.Proofs.YtgihecpobichbaaW.PrintWords Go.Proofs.YtgihecpobichbaaW.PrintLast Go.Proofs.YtgihecpobichbaaW.PrintMore
set_option linter.unusedVariables false
set_option linter.unusedSimpArgs false

theorem rdR_drop (l : List (List Va)) (j : Int) (h0 : 0 ≤ j) (h1 : j < (l.length : Int)) : l.drop j.toNat = rd_L12 l j :: l.drop (j + 1).toNat := by
  have e : (j + 1).toNat = j.toNat + 1 := by omega
  have hl : j.toNat < l.length := by omega
  rw [e, List.drop_eq_getElem_cons hl]
  unfold rd_L12
  rw [List.getD_eq_getElem?_getD, List.getElem?_eq_getElem hl]
  rfl
end Go.Proofs.Ytgihecpobichbaa.Q
-- Written by a program of the session over the translation's print: functions as plain Lean, and that the machine's call comes to them.
namespace Go.Proofs.Ytgihecpobichbaa.Q
open Go.RowKit Go.Proofs.YtgihecpobichbaaW.PrintWords Go.Proofs.YtgihecpobichbaaW.PrintLast Go.Proofs.YtgihecpobichbaaW.PrintMore
attribute [local go_sem] max2_int min2_int max_two min_two max_three min_three max_four min_four   -- for this text's walks alone
set_option linter.unusedVariables false
set_option linter.unusedSimpArgs false

-- NOT PRINTED: function 111 (code_reader_num)

-- NOT PRINTED: function 92 (code_items_int64)

-- NOT PRINTED: function 91 (code_Unnums_1)

-- NOT PRINTED: function 90 (code_read_int64)

/-! ### headgatelaw04_alive: function 12 -/
def headgatelaw04_alive.f (k : Nat)  : Option (Bool) := (code_Nums.f k (([(-1), 1] : List Int))).bind fun bt107 => ((code_Unnums.f k (([2, 1, 2] : List Int))).bind fun bt114 => ((code_Num.f k 300).bind fun t118 => (if (strOfNums t118).toList = ([172, 2] : List UInt8) then (if (strOfNums bt107.1).toList = ([2, 1, 2] : List UInt8) then (if bt107.2 = 0 then (if bt114.2 = 0 then (if (bt114.1.length : Int) = 2 then (if 0 < (bt114.1.length : Int) then (some ((rd bt114.1 0) == (-1))) else (none)) else (some false)) else (some false)) else (some false)) else (some false)) else (some false))))
set_option maxHeartbeats 8000000 in
set_option maxRecDepth 100000 in
theorem headgatelaw04_alive.calls (k : Nat)  (r : Bool) (w : World) (h : headgatelaw04_alive.f k  = some r) :
    Calls Try.prog 12 #[] w fun e w' => e = .returned (.bool r) ∧ Below w.heap.size w w' := by
  have HB := Aside0.mk (Below.refl w.heap.size w)
  have H : ((code_Nums.f k (([(-1), 1] : List Int))).bind fun bt107 => ((code_Unnums.f k (([2, 1, 2] : List Int))).bind fun bt114 => ((code_Num.f k 300).bind fun t118 => (if (strOfNums t118).toList = ([172, 2] : List UInt8) then (if (strOfNums bt107.1).toList = ([2, 1, 2] : List UInt8) then (if bt107.2 = 0 then (if bt114.2 = 0 then (if (bt114.1.length : Int) = 2 then (if 0 < (bt114.1.length : Int) then (some ((rd bt114.1 0) == (-1))) else (none)) else (some false)) else (some false)) else (some false)) else (some false)) else (some false))))) = some r := h
  clear h
  obtain ⟨y104, hy104⟩ : ∃ y_ : List Int, y_ = (([(-1), 1] : List Int)) := ⟨_, rfl⟩
  replace H : ((code_Nums.f k y104).bind fun bt107 => ((code_Unnums.f k (([2, 1, 2] : List Int))).bind fun bt114 => ((code_Num.f k 300).bind fun t118 => (if (strOfNums t118).toList = ([172, 2] : List UInt8) then (if (strOfNums bt107.1).toList = ([2, 1, 2] : List UInt8) then (if bt107.2 = 0 then (if bt114.2 = 0 then (if (bt114.1.length : Int) = 2 then (if 0 < (bt114.1.length : Int) then (some ((rd bt114.1 0) == (-1))) else (none)) else (some false)) else (some false)) else (some false)) else (some false)) else (some false))))) = some r := by first | (rw [hy104]; with_reducible exact H) | (have H2_ := (Option.bind_some _ _).symm.trans H; rw [hy104]; with_reducible exact H2_) | (have H2_ := (Option.bind_some _ _).symm.trans H; with_reducible exact H2_) | with_reducible exact H | (rw [hy104]; exact H) | exact H
  have Ny104 := Aside0.mk hy104
  clear hy104
  replace H := Option.bind_eq_some_iff.mp H
  obtain ⟨⟨t107, t108⟩, A10, H⟩ := H
  replace H : ((code_Unnums.f k (([2, 1, 2] : List Int))).bind fun bt114 => ((code_Num.f k 300).bind fun t118 => (if (strOfNums t118).toList = ([172, 2] : List UInt8) then (if (strOfNums t107).toList = ([2, 1, 2] : List UInt8) then (if t108 = 0 then (if bt114.2 = 0 then (if (bt114.1.length : Int) = 2 then (if 0 < (bt114.1.length : Int) then (some ((rd bt114.1 0) == (-1))) else (none)) else (some false)) else (some false)) else (some false)) else (some false)) else (some false)))) = some r := H
  have A1 := Aside0.mk A10
  clear A10
  obtain ⟨y111, hy111⟩ : ∃ y_ : List Int, y_ = (([2, 1, 2] : List Int)) := ⟨_, rfl⟩
  replace H : ((code_Unnums.f k y111).bind fun bt114 => ((code_Num.f k 300).bind fun t118 => (if (strOfNums t118).toList = ([172, 2] : List UInt8) then (if (strOfNums t107).toList = ([2, 1, 2] : List UInt8) then (if t108 = 0 then (if bt114.2 = 0 then (if (bt114.1.length : Int) = 2 then (if 0 < (bt114.1.length : Int) then (some ((rd bt114.1 0) == (-1))) else (none)) else (some false)) else (some false)) else (some false)) else (some false)) else (some false)))) = some r := by first | (rw [hy111]; with_reducible exact H) | (have H2_ := (Option.bind_some _ _).symm.trans H; rw [hy111]; with_reducible exact H2_) | (have H2_ := (Option.bind_some _ _).symm.trans H; with_reducible exact H2_) | with_reducible exact H | (rw [hy111]; exact H) | exact H
  have Ny111 := Aside0.mk hy111
  clear hy111
  replace H := Option.bind_eq_some_iff.mp H
  obtain ⟨⟨t114, t115⟩, A20, H⟩ := H
  replace H : ((code_Num.f k 300).bind fun t118 => (if (strOfNums t118).toList = ([172, 2] : List UInt8) then (if (strOfNums t107).toList = ([2, 1, 2] : List UInt8) then (if t108 = 0 then (if t115 = 0 then (if (t114.length : Int) = 2 then (if 0 < (t114.length : Int) then (some ((rd t114 0) == (-1))) else (none)) else (some false)) else (some false)) else (some false)) else (some false)) else (some false))) = some r := H
  have A2 := Aside0.mk A20
  clear A20
  replace H := Option.bind_eq_some_iff.mp H
  obtain ⟨t118, A30, H⟩ := H
  replace H : (if (strOfNums t118).toList = ([172, 2] : List UInt8) then (if (strOfNums t107).toList = ([2, 1, 2] : List UInt8) then (if t108 = 0 then (if t115 = 0 then (if (t114.length : Int) = 2 then (if 0 < (t114.length : Int) then (some ((rd t114 0) == (-1))) else (none)) else (some false)) else (some false)) else (some false)) else (some false)) else (some false)) = some r := H
  have A3 := Aside0.mk A30
  clear A30
  by_cases c4 : (strOfNums t118).toList = ([172, 2] : List UInt8)
  · rw [if_pos c4] at H
    have c4b0 : ((strOfNums t118).toList == ([172, 2] : List UInt8)) = true := beq_iff_eq.mpr c4
    have c4b1 : ((strOfNums t118).toList != ([172, 2] : List UInt8)) = false := bne_eq_false_iff_eq.mpr c4
    clear c4
    by_cases c5 : (strOfNums t107).toList = ([2, 1, 2] : List UInt8)
    · rw [if_pos c5] at H
      have c5b0 : ((strOfNums t107).toList == ([2, 1, 2] : List UInt8)) = true := beq_iff_eq.mpr c5
      have c5b1 : ((strOfNums t107).toList != ([2, 1, 2] : List UInt8)) = false := bne_eq_false_iff_eq.mpr c5
      clear c5
      by_cases c6 : t108 = 0
      · rw [if_pos c6] at H
        have c6b0 : (t108 == 0) = true := beq_iff_eq.mpr c6
        have c6b1 : (t108 != 0) = false := bne_eq_false_iff_eq.mpr c6
        clear c6
        by_cases c7 : t115 = 0
        · rw [if_pos c7] at H
          have c7b0 : (t115 == 0) = true := beq_iff_eq.mpr c7
          have c7b1 : (t115 != 0) = false := bne_eq_false_iff_eq.mpr c7
          clear c7
          by_cases c8 : (t114.length : Int) = 2
          · rw [if_pos c8] at H
            have c8b0 : ((t114.length : Int) == 2) = true := beq_iff_eq.mpr c8
            have c8b1 : ((t114.length : Int) != 2) = false := bne_eq_false_iff_eq.mpr c8
            clear c8
            by_cases c9 : 0 < (t114.length : Int)
            · rw [if_pos c9] at H
              have c9b0 : decide (0 < (t114.length : Int)) = true := decide_eq_true c9
              have c9b1 : decide (0 < t114.length) = true := decide_eq_true (by omega)
              clear c9
              obtain rfl := Option.some.inj H
              go_enter Try.func12, Try.ntmps12
              go_wp2_with (first | ((with_reducible refine gate_dst (N := 6) rfl ?_); (try (refine gate_guard (by rfl) ?_; dsimp only)); refine Kd.R_lit (Kd.int .i64) _ 2 ?hg (N := 6) ?hd (xs := ([(-1), 1] : List Int)) (inner := [.int .i64 (-1), .int .i64 1]) (ok := fun _ => True) (okp := fun _ => True) ?hr ?hp (fun _ hk => hk) trivial (Below.refl _ _) (Nat.le_refl _) (by simp) ?_; (case hd => rfl); (case hg => rfl); (case hr => first | (go_simp; done) | (go_simp; rfl)); (case hp => exact (Reps.one (show Kd.M (Kd.int .i64) _ _ _ (-1) [.int .i64 (-1)] from rfl) (Reps.one (show Kd.M (Kd.int .i64) _ _ _ 1 [.int .i64 1] from rfl) (Reps.none _ _)))); intro v105 w10 ho11 hb hg_ hnew_; clear hg_ hnew_; (first | rw [← Ny104.out] at ho11 | (simp only [Int.reduceToNat] at ho11; rw [← Ny104.out] at ho11)); have n0_ := Aside0.mk (Kd.R_lower ho11 (below_size (by repeat (first | (with_reducible first | exact HB.out | apply below_alloc | apply pw_below_drewN | apply below_drew1) | exact HB.out)))); have n1_ := Aside0.mk (below_step (by repeat (first | (with_reducible first | exact HB.out | apply below_alloc | apply pw_below_drewN | apply below_drew1) | exact HB.out)) hb); clear HB; have HO106 := n0_; have HB := n1_; clear n0_ n1_; clear hb ho11; obtain ⟨Ao12, co12, eo12⟩ := Kd.R_slice HO106.out; subst eo12) | ((with_reducible refine gate_callee (f := 27) rfl ?_); refine goesL_ (some 7) rfl rfl Try.func27 (by kernel_rfl) rfl #[.slice Ao12 y104.length co12] rfl (by (try simp only [List.map_toArray, List.map_cons, List.map_nil]); first | done | rfl | (simp only [List.length_drop, List.length_take]; rfl) | exact congrArg (fun x_ : Int => #[Value.int .u64 x_]) (show _ = _ % (18446744073709551616 : Int) by omega)) ?_; (with_reducible refine (code_Nums.calls k _ _ y104 t107 t108 _ ?side1 ?side2 A1.out).mono ?_); (case side1 => repeat (first | exact (Kd.R_reads' HO106.out).2.2 | (with_reducible refine Kd.C_alloc ?_ _) | (with_reducible refine Kd.C_drewN ?_ _) | (with_reducible refine Kd.C_drew ?_))); (case side2 => exact (Kd.R_reads' HO106.out).2.1); rintro e w13 ⟨v109, rfl, ho0, hb⟩; refine ⟨_, rfl, ?_⟩; have n0_ := Aside0.mk (Kd.R_below (by (with_reducible repeat (first | apply Kd.R_alloc | apply Kd.R_drewN | apply Kd.R_drew)); exact HO106.out) hb); have n1_ := Aside0.mk (Kd.R_lower ho0 (below_size (by repeat (first | (with_reducible first | exact HB.out | apply below_alloc | apply pw_below_drewN | apply below_drew1) | exact HB.out)))); have n2_ := Aside0.mk (below_step (by repeat (first | (with_reducible first | exact HB.out | apply below_alloc | apply pw_below_drewN | apply below_drew1) | exact HB.out)) hb); clear HO106; clear HB; have HO106 := n0_; have HO110 := n1_; have HB := n2_; clear n0_ n1_ n2_; (try clear hb); (try clear hb2); (try clear hk); (try clear hi); (try clear ho0)) | ((with_reducible refine gate_dst (N := 11) rfl ?_); (try (refine gate_guard (by rfl) ?_; dsimp only)); refine Kd.R_lit (Kd.int .u8) _ 5 ?hg (N := 11) ?hd (xs := ([2, 1, 2] : List Int)) (inner := [.int .u8 2, .int .u8 1, .int .u8 2]) (ok := fun _ => True) (okp := fun _ => True) ?hr ?hp (fun _ hk => hk) trivial (Below.refl _ _) (Nat.le_refl _) (by simp) ?_; (case hd => rfl); (case hg => rfl); (case hr => first | (go_simp; done) | (go_simp; rfl)); (case hp => exact (Reps.one (show Kd.M (Kd.int .u8) _ _ _ 2 [.int .u8 2] from rfl) (Reps.one (show Kd.M (Kd.int .u8) _ _ _ 1 [.int .u8 1] from rfl) (Reps.one (show Kd.M (Kd.int .u8) _ _ _ 2 [.int .u8 2] from rfl) (Reps.none _ _))))); intro v112 w14 ho15 hb hg_ hnew_; clear hg_ hnew_; (first | rw [← Ny111.out] at ho15 | (simp only [Int.reduceToNat] at ho15; rw [← Ny111.out] at ho15)); have n0_ := Aside0.mk (Kd.R_below (by (with_reducible repeat (first | apply Kd.R_alloc | apply Kd.R_drewN | apply Kd.R_drew)); exact HO106.out) hb); have n1_ := Aside0.mk (Kd.R_elder' (by (with_reducible repeat (first | apply Kd.R_alloc | apply Kd.R_drewN | apply Kd.R_drew)); exact HO110.out) (Kd.R_base ho15) hb); have n2_ := Aside0.mk (Kd.R_lower (Kd.R_new' ho15 (Kd.R_lt (by (with_reducible repeat (first | apply Kd.R_alloc | apply Kd.R_drewN | apply Kd.R_drew)); exact HO110.out))) (below_size (by repeat (first | (with_reducible first | exact HB.out | apply below_alloc | apply pw_below_drewN | apply below_drew1) | exact HB.out)))); have n3_ := Aside0.mk (below_step (by repeat (first | (with_reducible first | exact HB.out | apply below_alloc | apply pw_below_drewN | apply below_drew1) | exact HB.out)) hb); clear HO106; clear HO110; clear HB; have HO106 := n0_; have HO110 := n1_; have HO113 := n2_; have HB := n3_; clear n0_ n1_ n2_ n3_; clear hb ho15; obtain ⟨Ao16, co16, eo16⟩ := Kd.R_slice HO113.out; subst eo16) | ((with_reducible refine gate_callee (f := 32) rfl ?_); refine goesL_ (some 12) rfl rfl Try.func32 (by kernel_rfl) rfl #[.slice Ao16 y111.length co16] rfl (by (try simp only [List.map_toArray, List.map_cons, List.map_nil]); first | done | rfl | (simp only [List.length_drop, List.length_take]; rfl) | exact congrArg (fun x_ : Int => #[Value.int .u64 x_]) (show _ = _ % (18446744073709551616 : Int) by omega)) ?_; (with_reducible refine (code_Unnums.calls k _ _ y111 t114 t115 _ ?side1 ?side2 A2.out).mono ?_); (case side1 => repeat (first | exact (Kd.R_reads' HO113.out).2.2 | (with_reducible refine Kd.C_alloc ?_ _) | (with_reducible refine Kd.C_drewN ?_ _) | (with_reducible refine Kd.C_drew ?_))); (case side2 => exact (Kd.R_reads' HO113.out).2.1); rintro e w17 ⟨v116, rfl, ho0, hb⟩; refine ⟨_, rfl, ?_⟩; have n0_ := Aside0.mk (Kd.R_elder' (by (with_reducible repeat (first | apply Kd.R_alloc | apply Kd.R_drewN | apply Kd.R_drew)); exact HO106.out) (Kd.R_base ho0) hb); have n1_ := Aside0.mk (Kd.R_below (by (with_reducible repeat (first | apply Kd.R_alloc | apply Kd.R_drewN | apply Kd.R_drew)); exact HO110.out) hb); have n2_ := Aside0.mk (Kd.R_below (by (with_reducible repeat (first | apply Kd.R_alloc | apply Kd.R_drewN | apply Kd.R_drew)); exact HO113.out) hb); have n3_ := Aside0.mk (Kd.R_lower (Kd.R_new' ho0 (Kd.R_lt (by (with_reducible repeat (first | apply Kd.R_alloc | apply Kd.R_drewN | apply Kd.R_drew)); exact HO106.out))) (below_size (by repeat (first | (with_reducible first | exact HB.out | apply below_alloc | apply pw_below_drewN | apply below_drew1) | exact HB.out)))); have n4_ := Aside0.mk (below_step (by repeat (first | (with_reducible first | exact HB.out | apply below_alloc | apply pw_below_drewN | apply below_drew1) | exact HB.out)) hb); clear HO106; clear HO110; clear HO113; clear HB; have HO106 := n0_; have HO110 := n1_; have HO113 := n2_; have HO117 := n3_; have HB := n4_; clear n0_ n1_ n2_ n3_ n4_; (try clear hb); (try clear hb2); (try clear hk); (try clear hi); (try clear ho0)) | ((with_reducible refine gate_callee (f := 15) rfl ?_); refine goesL_ (some 15) rfl rfl Try.func15 (by kernel_rfl) rfl #[.int .u64 300] rfl (by (try simp only [List.map_toArray, List.map_cons, List.map_nil]); first | done | rfl | (simp only [List.length_drop, List.length_take]; rfl) | exact congrArg (fun x_ : Int => #[Value.int .u64 x_]) (show _ = _ % (18446744073709551616 : Int) by omega)) ?_; (with_reducible refine (code_Num.calls k 300 t118 _ A3.out).mono ?_); rintro e w18 ⟨v119, rfl, ho0, hb⟩; refine ⟨_, rfl, ?_⟩; have n0_ := Aside0.mk (Kd.R_below (by (with_reducible repeat (first | apply Kd.R_alloc | apply Kd.R_drewN | apply Kd.R_drew)); exact HO106.out) hb); have n1_ := Aside0.mk (Kd.R_elder' (by (with_reducible repeat (first | apply Kd.R_alloc | apply Kd.R_drewN | apply Kd.R_drew)); exact HO110.out) (Kd.R_base ho0) hb); have n2_ := Aside0.mk (Kd.R_elder' (by (with_reducible repeat (first | apply Kd.R_alloc | apply Kd.R_drewN | apply Kd.R_drew)); exact HO113.out) (Kd.R_base ho0) hb); have n3_ := Aside0.mk (Kd.R_below (by (with_reducible repeat (first | apply Kd.R_alloc | apply Kd.R_drewN | apply Kd.R_drew)); exact HO117.out) hb); have n4_ := Aside0.mk (Kd.R_lower (Kd.R_new' (Kd.R_new' ho0 (Kd.R_lt (by (with_reducible repeat (first | apply Kd.R_alloc | apply Kd.R_drewN | apply Kd.R_drew)); exact HO110.out))) (Kd.R_lt (by (with_reducible repeat (first | apply Kd.R_alloc | apply Kd.R_drewN | apply Kd.R_drew)); exact HO113.out))) (below_size (by repeat (first | (with_reducible first | exact HB.out | apply below_alloc | apply pw_below_drewN | apply below_drew1) | exact HB.out)))); have n5_ := Aside0.mk (below_step (by repeat (first | (with_reducible first | exact HB.out | apply below_alloc | apply pw_below_drewN | apply below_drew1) | exact HB.out)) hb); clear HO106; clear HO110; clear HO113; clear HO117; clear HB; have HO106 := n0_; have HO110 := n1_; have HO113 := n2_; have HO117 := n3_; have HO120 := n4_; have HB := n5_; clear n0_ n1_ n2_ n3_ n4_ n5_; (try clear hb); (try clear hb2); (try clear hk); (try clear hi); (try clear ho0); have hcv19 := own_string (P := Try.prog) Try.underlying27 Try.underlying5 Try.underlying9 (Kd.own_of_R HO120.out); have hcv20 := own_string (P := Try.prog) Try.underlying27 Try.underlying5 Try.underlying9 (Kd.own_of_R HO110.out); obtain ⟨Ao21, co21, eo21⟩ := Kd.R_slice HO117.out; subst eo21; have p121 : 0 ≤ (0 : Int) := (by omega); have q121 : 0 < (t114.length : Int) := of_decide_eq_true (by first | (with_reducible assumption) | assumption); obtain ⟨ad121, e121, hx121_0⟩ := Kd.at_int (Kd.R_reads' HO117.out).2.2 0 p121 q121; cases e121; have qi121 : (0 < t114.length) = True := eq_true (by omega); (try rw [show ((0 : Int)).toNat = 0 from rfl] at hx121_0); (try rw [Addr.add_zero'] at hx121_0); replace p121 := eq_true p121; replace q121 := eq_true q121))
              go_ret
              exact ⟨by first | rfl | (simp [errW_none, errW_some] <;> rfl) | (simp [*, errW_none, errW_some] <;> rfl), by repeat (first | (with_reducible first | exact HB.out | apply below_alloc | apply pw_below_drewN | apply below_drew1) | exact HB.out)⟩
            · rw [if_neg c9] at H
              exact absurd H (by simp)
          · rw [if_neg c8] at H
            have c8b0 : ((t114.length : Int) == 2) = false := beq_eq_false_iff_ne.mpr c8
            have c8b1 : ((t114.length : Int) != 2) = true := bne_iff_ne.mpr c8
            obtain rfl := Option.some.inj H
            go_enter Try.func12, Try.ntmps12
            go_wp2_with (first | ((with_reducible refine gate_dst (N := 6) rfl ?_); (try (refine gate_guard (by rfl) ?_; dsimp only)); refine Kd.R_lit (Kd.int .i64) _ 2 ?hg (N := 6) ?hd (xs := ([(-1), 1] : List Int)) (inner := [.int .i64 (-1), .int .i64 1]) (ok := fun _ => True) (okp := fun _ => True) ?hr ?hp (fun _ hk => hk) trivial (Below.refl _ _) (Nat.le_refl _) (by simp) ?_; (case hd => rfl); (case hg => rfl); (case hr => first | (go_simp; done) | (go_simp; rfl)); (case hp => exact (Reps.one (show Kd.M (Kd.int .i64) _ _ _ (-1) [.int .i64 (-1)] from rfl) (Reps.one (show Kd.M (Kd.int .i64) _ _ _ 1 [.int .i64 1] from rfl) (Reps.none _ _)))); intro v105 w22 ho23 hb hg_ hnew_; clear hg_ hnew_; (first | rw [← Ny104.out] at ho23 | (simp only [Int.reduceToNat] at ho23; rw [← Ny104.out] at ho23)); have n0_ := Aside0.mk (Kd.R_lower ho23 (below_size (by repeat (first | (with_reducible first | exact HB.out | apply below_alloc | apply pw_below_drewN | apply below_drew1) | exact HB.out)))); have n1_ := Aside0.mk (below_step (by repeat (first | (with_reducible first | exact HB.out | apply below_alloc | apply pw_below_drewN | apply below_drew1) | exact HB.out)) hb); clear HB; have HO106 := n0_; have HB := n1_; clear n0_ n1_; clear hb ho23; obtain ⟨Ao24, co24, eo24⟩ := Kd.R_slice HO106.out; subst eo24) | ((with_reducible refine gate_callee (f := 27) rfl ?_); refine goesL_ (some 7) rfl rfl Try.func27 (by kernel_rfl) rfl #[.slice Ao24 y104.length co24] rfl (by (try simp only [List.map_toArray, List.map_cons, List.map_nil]); first | done | rfl | (simp only [List.length_drop, List.length_take]; rfl) | exact congrArg (fun x_ : Int => #[Value.int .u64 x_]) (show _ = _ % (18446744073709551616 : Int) by omega)) ?_; (with_reducible refine (code_Nums.calls k _ _ y104 t107 t108 _ ?side1 ?side2 A1.out).mono ?_); (case side1 => repeat (first | exact (Kd.R_reads' HO106.out).2.2 | (with_reducible refine Kd.C_alloc ?_ _) | (with_reducible refine Kd.C_drewN ?_ _) | (with_reducible refine Kd.C_drew ?_))); (case side2 => exact (Kd.R_reads' HO106.out).2.1); rintro e w25 ⟨v109, rfl, ho0, hb⟩; refine ⟨_, rfl, ?_⟩; have n0_ := Aside0.mk (Kd.R_below (by (with_reducible repeat (first | apply Kd.R_alloc | apply Kd.R_drewN | apply Kd.R_drew)); exact HO106.out) hb); have n1_ := Aside0.mk (Kd.R_lower ho0 (below_size (by repeat (first | (with_reducible first | exact HB.out | apply below_alloc | apply pw_below_drewN | apply below_drew1) | exact HB.out)))); have n2_ := Aside0.mk (below_step (by repeat (first | (with_reducible first | exact HB.out | apply below_alloc | apply pw_below_drewN | apply below_drew1) | exact HB.out)) hb); clear HO106; clear HB; have HO106 := n0_; have HO110 := n1_; have HB := n2_; clear n0_ n1_ n2_; (try clear hb); (try clear hb2); (try clear hk); (try clear hi); (try clear ho0)) | ((with_reducible refine gate_dst (N := 11) rfl ?_); (try (refine gate_guard (by rfl) ?_; dsimp only)); refine Kd.R_lit (Kd.int .u8) _ 5 ?hg (N := 11) ?hd (xs := ([2, 1, 2] : List Int)) (inner := [.int .u8 2, .int .u8 1, .int .u8 2]) (ok := fun _ => True) (okp := fun _ => True) ?hr ?hp (fun _ hk => hk) trivial (Below.refl _ _) (Nat.le_refl _) (by simp) ?_; (case hd => rfl); (case hg => rfl); (case hr => first | (go_simp; done) | (go_simp; rfl)); (case hp => exact (Reps.one (show Kd.M (Kd.int .u8) _ _ _ 2 [.int .u8 2] from rfl) (Reps.one (show Kd.M (Kd.int .u8) _ _ _ 1 [.int .u8 1] from rfl) (Reps.one (show Kd.M (Kd.int .u8) _ _ _ 2 [.int .u8 2] from rfl) (Reps.none _ _))))); intro v112 w26 ho27 hb hg_ hnew_; clear hg_ hnew_; (first | rw [← Ny111.out] at ho27 | (simp only [Int.reduceToNat] at ho27; rw [← Ny111.out] at ho27)); have n0_ := Aside0.mk (Kd.R_below (by (with_reducible repeat (first | apply Kd.R_alloc | apply Kd.R_drewN | apply Kd.R_drew)); exact HO106.out) hb); have n1_ := Aside0.mk (Kd.R_elder' (by (with_reducible repeat (first | apply Kd.R_alloc | apply Kd.R_drewN | apply Kd.R_drew)); exact HO110.out) (Kd.R_base ho27) hb); have n2_ := Aside0.mk (Kd.R_lower (Kd.R_new' ho27 (Kd.R_lt (by (with_reducible repeat (first | apply Kd.R_alloc | apply Kd.R_drewN | apply Kd.R_drew)); exact HO110.out))) (below_size (by repeat (first | (with_reducible first | exact HB.out | apply below_alloc | apply pw_below_drewN | apply below_drew1) | exact HB.out)))); have n3_ := Aside0.mk (below_step (by repeat (first | (with_reducible first | exact HB.out | apply below_alloc | apply pw_below_drewN | apply below_drew1) | exact HB.out)) hb); clear HO106; clear HO110; clear HB; have HO106 := n0_; have HO110 := n1_; have HO113 := n2_; have HB := n3_; clear n0_ n1_ n2_ n3_; clear hb ho27; obtain ⟨Ao28, co28, eo28⟩ := Kd.R_slice HO113.out; subst eo28) | ((with_reducible refine gate_callee (f := 32) rfl ?_); refine goesL_ (some 12) rfl rfl Try.func32 (by kernel_rfl) rfl #[.slice Ao28 y111.length co28] rfl (by (try simp only [List.map_toArray, List.map_cons, List.map_nil]); first | done | rfl | (simp only [List.length_drop, List.length_take]; rfl) | exact congrArg (fun x_ : Int => #[Value.int .u64 x_]) (show _ = _ % (18446744073709551616 : Int) by omega)) ?_; (with_reducible refine (code_Unnums.calls k _ _ y111 t114 t115 _ ?side1 ?side2 A2.out).mono ?_); (case side1 => repeat (first | exact (Kd.R_reads' HO113.out).2.2 | (with_reducible refine Kd.C_alloc ?_ _) | (with_reducible refine Kd.C_drewN ?_ _) | (with_reducible refine Kd.C_drew ?_))); (case side2 => exact (Kd.R_reads' HO113.out).2.1); rintro e w29 ⟨v116, rfl, ho0, hb⟩; refine ⟨_, rfl, ?_⟩; have n0_ := Aside0.mk (Kd.R_elder' (by (with_reducible repeat (first | apply Kd.R_alloc | apply Kd.R_drewN | apply Kd.R_drew)); exact HO106.out) (Kd.R_base ho0) hb); have n1_ := Aside0.mk (Kd.R_below (by (with_reducible repeat (first | apply Kd.R_alloc | apply Kd.R_drewN | apply Kd.R_drew)); exact HO110.out) hb); have n2_ := Aside0.mk (Kd.R_below (by (with_reducible repeat (first | apply Kd.R_alloc | apply Kd.R_drewN | apply Kd.R_drew)); exact HO113.out) hb); have n3_ := Aside0.mk (Kd.R_lower (Kd.R_new' ho0 (Kd.R_lt (by (with_reducible repeat (first | apply Kd.R_alloc | apply Kd.R_drewN | apply Kd.R_drew)); exact HO106.out))) (below_size (by repeat (first | (with_reducible first | exact HB.out | apply below_alloc | apply pw_below_drewN | apply below_drew1) | exact HB.out)))); have n4_ := Aside0.mk (below_step (by repeat (first | (with_reducible first | exact HB.out | apply below_alloc | apply pw_below_drewN | apply below_drew1) | exact HB.out)) hb); clear HO106; clear HO110; clear HO113; clear HB; have HO106 := n0_; have HO110 := n1_; have HO113 := n2_; have HO117 := n3_; have HB := n4_; clear n0_ n1_ n2_ n3_ n4_; (try clear hb); (try clear hb2); (try clear hk); (try clear hi); (try clear ho0)) | ((with_reducible refine gate_callee (f := 15) rfl ?_); refine goesL_ (some 15) rfl rfl Try.func15 (by kernel_rfl) rfl #[.int .u64 300] rfl (by (try simp only [List.map_toArray, List.map_cons, List.map_nil]); first | done | rfl | (simp only [List.length_drop, List.length_take]; rfl) | exact congrArg (fun x_ : Int => #[Value.int .u64 x_]) (show _ = _ % (18446744073709551616 : Int) by omega)) ?_; (with_reducible refine (code_Num.calls k 300 t118 _ A3.out).mono ?_); rintro e w30 ⟨v119, rfl, ho0, hb⟩; refine ⟨_, rfl, ?_⟩; have n0_ := Aside0.mk (Kd.R_below (by (with_reducible repeat (first | apply Kd.R_alloc | apply Kd.R_drewN | apply Kd.R_drew)); exact HO106.out) hb); have n1_ := Aside0.mk (Kd.R_elder' (by (with_reducible repeat (first | apply Kd.R_alloc | apply Kd.R_drewN | apply Kd.R_drew)); exact HO110.out) (Kd.R_base ho0) hb); have n2_ := Aside0.mk (Kd.R_elder' (by (with_reducible repeat (first | apply Kd.R_alloc | apply Kd.R_drewN | apply Kd.R_drew)); exact HO113.out) (Kd.R_base ho0) hb); have n3_ := Aside0.mk (Kd.R_below (by (with_reducible repeat (first | apply Kd.R_alloc | apply Kd.R_drewN | apply Kd.R_drew)); exact HO117.out) hb); have n4_ := Aside0.mk (Kd.R_lower (Kd.R_new' (Kd.R_new' ho0 (Kd.R_lt (by (with_reducible repeat (first | apply Kd.R_alloc | apply Kd.R_drewN | apply Kd.R_drew)); exact HO110.out))) (Kd.R_lt (by (with_reducible repeat (first | apply Kd.R_alloc | apply Kd.R_drewN | apply Kd.R_drew)); exact HO113.out))) (below_size (by repeat (first | (with_reducible first | exact HB.out | apply below_alloc | apply pw_below_drewN | apply below_drew1) | exact HB.out)))); have n5_ := Aside0.mk (below_step (by repeat (first | (with_reducible first | exact HB.out | apply below_alloc | apply pw_below_drewN | apply below_drew1) | exact HB.out)) hb); clear HO106; clear HO110; clear HO113; clear HO117; clear HB; have HO106 := n0_; have HO110 := n1_; have HO113 := n2_; have HO117 := n3_; have HO120 := n4_; have HB := n5_; clear n0_ n1_ n2_ n3_ n4_ n5_; (try clear hb); (try clear hb2); (try clear hk); (try clear hi); (try clear ho0); have hcv31 := own_string (P := Try.prog) Try.underlying27 Try.underlying5 Try.underlying9 (Kd.own_of_R HO120.out); have hcv32 := own_string (P := Try.prog) Try.underlying27 Try.underlying5 Try.underlying9 (Kd.own_of_R HO110.out); obtain ⟨Ao33, co33, eo33⟩ := Kd.R_slice HO117.out; subst eo33))
            go_ret
            exact ⟨by first | rfl | (simp [errW_none, errW_some] <;> rfl) | (simp [*, errW_none, errW_some] <;> rfl), by repeat (first | (with_reducible first | exact HB.out | apply below_alloc | apply pw_below_drewN | apply below_drew1) | exact HB.out)⟩
        · rw [if_neg c7] at H
          have c7b0 : (t115 == 0) = false := beq_eq_false_iff_ne.mpr c7
          have c7b1 : (t115 != 0) = true := bne_iff_ne.mpr c7
          obtain rfl := Option.some.inj H
          go_enter Try.func12, Try.ntmps12
          go_wp2_with (first | ((with_reducible refine gate_dst (N := 6) rfl ?_); (try (refine gate_guard (by rfl) ?_; dsimp only)); refine Kd.R_lit (Kd.int .i64) _ 2 ?hg (N := 6) ?hd (xs := ([(-1), 1] : List Int)) (inner := [.int .i64 (-1), .int .i64 1]) (ok := fun _ => True) (okp := fun _ => True) ?hr ?hp (fun _ hk => hk) trivial (Below.refl _ _) (Nat.le_refl _) (by simp) ?_; (case hd => rfl); (case hg => rfl); (case hr => first | (go_simp; done) | (go_simp; rfl)); (case hp => exact (Reps.one (show Kd.M (Kd.int .i64) _ _ _ (-1) [.int .i64 (-1)] from rfl) (Reps.one (show Kd.M (Kd.int .i64) _ _ _ 1 [.int .i64 1] from rfl) (Reps.none _ _)))); intro v105 w34 ho35 hb hg_ hnew_; clear hg_ hnew_; (first | rw [← Ny104.out] at ho35 | (simp only [Int.reduceToNat] at ho35; rw [← Ny104.out] at ho35)); have n0_ := Aside0.mk (Kd.R_lower ho35 (below_size (by repeat (first | (with_reducible first | exact HB.out | apply below_alloc | apply pw_below_drewN | apply below_drew1) | exact HB.out)))); have n1_ := Aside0.mk (below_step (by repeat (first | (with_reducible first | exact HB.out | apply below_alloc | apply pw_below_drewN | apply below_drew1) | exact HB.out)) hb); clear HB; have HO106 := n0_; have HB := n1_; clear n0_ n1_; clear hb ho35; obtain ⟨Ao36, co36, eo36⟩ := Kd.R_slice HO106.out; subst eo36) | ((with_reducible refine gate_callee (f := 27) rfl ?_); refine goesL_ (some 7) rfl rfl Try.func27 (by kernel_rfl) rfl #[.slice Ao36 y104.length co36] rfl (by (try simp only [List.map_toArray, List.map_cons, List.map_nil]); first | done | rfl | (simp only [List.length_drop, List.length_take]; rfl) | exact congrArg (fun x_ : Int => #[Value.int .u64 x_]) (show _ = _ % (18446744073709551616 : Int) by omega)) ?_; (with_reducible refine (code_Nums.calls k _ _ y104 t107 t108 _ ?side1 ?side2 A1.out).mono ?_); (case side1 => repeat (first | exact (Kd.R_reads' HO106.out).2.2 | (with_reducible refine Kd.C_alloc ?_ _) | (with_reducible refine Kd.C_drewN ?_ _) | (with_reducible refine Kd.C_drew ?_))); (case side2 => exact (Kd.R_reads' HO106.out).2.1); rintro e w37 ⟨v109, rfl, ho0, hb⟩; refine ⟨_, rfl, ?_⟩; have n0_ := Aside0.mk (Kd.R_below (by (with_reducible repeat (first | apply Kd.R_alloc | apply Kd.R_drewN | apply Kd.R_drew)); exact HO106.out) hb); have n1_ := Aside0.mk (Kd.R_lower ho0 (below_size (by repeat (first | (with_reducible first | exact HB.out | apply below_alloc | apply pw_below_drewN | apply below_drew1) | exact HB.out)))); have n2_ := Aside0.mk (below_step (by repeat (first | (with_reducible first | exact HB.out | apply below_alloc | apply pw_below_drewN | apply below_drew1) | exact HB.out)) hb); clear HO106; clear HB; have HO106 := n0_; have HO110 := n1_; have HB := n2_; clear n0_ n1_ n2_; (try clear hb); (try clear hb2); (try clear hk); (try clear hi); (try clear ho0)) | ((with_reducible refine gate_dst (N := 11) rfl ?_); (try (refine gate_guard (by rfl) ?_; dsimp only)); refine Kd.R_lit (Kd.int .u8) _ 5 ?hg (N := 11) ?hd (xs := ([2, 1, 2] : List Int)) (inner := [.int .u8 2, .int .u8 1, .int .u8 2]) (ok := fun _ => True) (okp := fun _ => True) ?hr ?hp (fun _ hk => hk) trivial (Below.refl _ _) (Nat.le_refl _) (by simp) ?_; (case hd => rfl); (case hg => rfl); (case hr => first | (go_simp; done) | (go_simp; rfl)); (case hp => exact (Reps.one (show Kd.M (Kd.int .u8) _ _ _ 2 [.int .u8 2] from rfl) (Reps.one (show Kd.M (Kd.int .u8) _ _ _ 1 [.int .u8 1] from rfl) (Reps.one (show Kd.M (Kd.int .u8) _ _ _ 2 [.int .u8 2] from rfl) (Reps.none _ _))))); intro v112 w38 ho39 hb hg_ hnew_; clear hg_ hnew_; (first | rw [← Ny111.out] at ho39 | (simp only [Int.reduceToNat] at ho39; rw [← Ny111.out] at ho39)); have n0_ := Aside0.mk (Kd.R_below (by (with_reducible repeat (first | apply Kd.R_alloc | apply Kd.R_drewN | apply Kd.R_drew)); exact HO106.out) hb); have n1_ := Aside0.mk (Kd.R_elder' (by (with_reducible repeat (first | apply Kd.R_alloc | apply Kd.R_drewN | apply Kd.R_drew)); exact HO110.out) (Kd.R_base ho39) hb); have n2_ := Aside0.mk (Kd.R_lower (Kd.R_new' ho39 (Kd.R_lt (by (with_reducible repeat (first | apply Kd.R_alloc | apply Kd.R_drewN | apply Kd.R_drew)); exact HO110.out))) (below_size (by repeat (first | (with_reducible first | exact HB.out | apply below_alloc | apply pw_below_drewN | apply below_drew1) | exact HB.out)))); have n3_ := Aside0.mk (below_step (by repeat (first | (with_reducible first | exact HB.out | apply below_alloc | apply pw_below_drewN | apply below_drew1) | exact HB.out)) hb); clear HO106; clear HO110; clear HB; have HO106 := n0_; have HO110 := n1_; have HO113 := n2_; have HB := n3_; clear n0_ n1_ n2_ n3_; clear hb ho39; obtain ⟨Ao40, co40, eo40⟩ := Kd.R_slice HO113.out; subst eo40) | ((with_reducible refine gate_callee (f := 32) rfl ?_); refine goesL_ (some 12) rfl rfl Try.func32 (by kernel_rfl) rfl #[.slice Ao40 y111.length co40] rfl (by (try simp only [List.map_toArray, List.map_cons, List.map_nil]); first | done | rfl | (simp only [List.length_drop, List.length_take]; rfl) | exact congrArg (fun x_ : Int => #[Value.int .u64 x_]) (show _ = _ % (18446744073709551616 : Int) by omega)) ?_; (with_reducible refine (code_Unnums.calls k _ _ y111 t114 t115 _ ?side1 ?side2 A2.out).mono ?_); (case side1 => repeat (first | exact (Kd.R_reads' HO113.out).2.2 | (with_reducible refine Kd.C_alloc ?_ _) | (with_reducible refine Kd.C_drewN ?_ _) | (with_reducible refine Kd.C_drew ?_))); (case side2 => exact (Kd.R_reads' HO113.out).2.1); rintro e w41 ⟨v116, rfl, ho0, hb⟩; refine ⟨_, rfl, ?_⟩; have n0_ := Aside0.mk (Kd.R_elder' (by (with_reducible repeat (first | apply Kd.R_alloc | apply Kd.R_drewN | apply Kd.R_drew)); exact HO106.out) (Kd.R_base ho0) hb); have n1_ := Aside0.mk (Kd.R_below (by (with_reducible repeat (first | apply Kd.R_alloc | apply Kd.R_drewN | apply Kd.R_drew)); exact HO110.out) hb); have n2_ := Aside0.mk (Kd.R_below (by (with_reducible repeat (first | apply Kd.R_alloc | apply Kd.R_drewN | apply Kd.R_drew)); exact HO113.out) hb); have n3_ := Aside0.mk (Kd.R_lower (Kd.R_new' ho0 (Kd.R_lt (by (with_reducible repeat (first | apply Kd.R_alloc | apply Kd.R_drewN | apply Kd.R_drew)); exact HO106.out))) (below_size (by repeat (first | (with_reducible first | exact HB.out | apply below_alloc | apply pw_below_drewN | apply below_drew1) | exact HB.out)))); have n4_ := Aside0.mk (below_step (by repeat (first | (with_reducible first | exact HB.out | apply below_alloc | apply pw_below_drewN | apply below_drew1) | exact HB.out)) hb); clear HO106; clear HO110; clear HO113; clear HB; have HO106 := n0_; have HO110 := n1_; have HO113 := n2_; have HO117 := n3_; have HB := n4_; clear n0_ n1_ n2_ n3_ n4_; (try clear hb); (try clear hb2); (try clear hk); (try clear hi); (try clear ho0)) | ((with_reducible refine gate_callee (f := 15) rfl ?_); refine goesL_ (some 15) rfl rfl Try.func15 (by kernel_rfl) rfl #[.int .u64 300] rfl (by (try simp only [List.map_toArray, List.map_cons, List.map_nil]); first | done | rfl | (simp only [List.length_drop, List.length_take]; rfl) | exact congrArg (fun x_ : Int => #[Value.int .u64 x_]) (show _ = _ % (18446744073709551616 : Int) by omega)) ?_; (with_reducible refine (code_Num.calls k 300 t118 _ A3.out).mono ?_); rintro e w42 ⟨v119, rfl, ho0, hb⟩; refine ⟨_, rfl, ?_⟩; have n0_ := Aside0.mk (Kd.R_below (by (with_reducible repeat (first | apply Kd.R_alloc | apply Kd.R_drewN | apply Kd.R_drew)); exact HO106.out) hb); have n1_ := Aside0.mk (Kd.R_elder' (by (with_reducible repeat (first | apply Kd.R_alloc | apply Kd.R_drewN | apply Kd.R_drew)); exact HO110.out) (Kd.R_base ho0) hb); have n2_ := Aside0.mk (Kd.R_elder' (by (with_reducible repeat (first | apply Kd.R_alloc | apply Kd.R_drewN | apply Kd.R_drew)); exact HO113.out) (Kd.R_base ho0) hb); have n3_ := Aside0.mk (Kd.R_below (by (with_reducible repeat (first | apply Kd.R_alloc | apply Kd.R_drewN | apply Kd.R_drew)); exact HO117.out) hb); have n4_ := Aside0.mk (Kd.R_lower (Kd.R_new' (Kd.R_new' ho0 (Kd.R_lt (by (with_reducible repeat (first | apply Kd.R_alloc | apply Kd.R_drewN | apply Kd.R_drew)); exact HO110.out))) (Kd.R_lt (by (with_reducible repeat (first | apply Kd.R_alloc | apply Kd.R_drewN | apply Kd.R_drew)); exact HO113.out))) (below_size (by repeat (first | (with_reducible first | exact HB.out | apply below_alloc | apply pw_below_drewN | apply below_drew1) | exact HB.out)))); have n5_ := Aside0.mk (below_step (by repeat (first | (with_reducible first | exact HB.out | apply below_alloc | apply pw_below_drewN | apply below_drew1) | exact HB.out)) hb); clear HO106; clear HO110; clear HO113; clear HO117; clear HB; have HO106 := n0_; have HO110 := n1_; have HO113 := n2_; have HO117 := n3_; have HO120 := n4_; have HB := n5_; clear n0_ n1_ n2_ n3_ n4_ n5_; (try clear hb); (try clear hb2); (try clear hk); (try clear hi); (try clear ho0); have hcv43 := own_string (P := Try.prog) Try.underlying27 Try.underlying5 Try.underlying9 (Kd.own_of_R HO120.out); have hcv44 := own_string (P := Try.prog) Try.underlying27 Try.underlying5 Try.underlying9 (Kd.own_of_R HO110.out)))
          go_ret
          exact ⟨by first | rfl | (simp [errW_none, errW_some] <;> rfl) | (simp [*, errW_none, errW_some] <;> rfl), by repeat (first | (with_reducible first | exact HB.out | apply below_alloc | apply pw_below_drewN | apply below_drew1) | exact HB.out)⟩
      · rw [if_neg c6] at H
        have c6b0 : (t108 == 0) = false := beq_eq_false_iff_ne.mpr c6
        have c6b1 : (t108 != 0) = true := bne_iff_ne.mpr c6
        obtain rfl := Option.some.inj H
        go_enter Try.func12, Try.ntmps12
        go_wp2_with (first | ((with_reducible refine gate_dst (N := 6) rfl ?_); (try (refine gate_guard (by rfl) ?_; dsimp only)); refine Kd.R_lit (Kd.int .i64) _ 2 ?hg (N := 6) ?hd (xs := ([(-1), 1] : List Int)) (inner := [.int .i64 (-1), .int .i64 1]) (ok := fun _ => True) (okp := fun _ => True) ?hr ?hp (fun _ hk => hk) trivial (Below.refl _ _) (Nat.le_refl _) (by simp) ?_; (case hd => rfl); (case hg => rfl); (case hr => first | (go_simp; done) | (go_simp; rfl)); (case hp => exact (Reps.one (show Kd.M (Kd.int .i64) _ _ _ (-1) [.int .i64 (-1)] from rfl) (Reps.one (show Kd.M (Kd.int .i64) _ _ _ 1 [.int .i64 1] from rfl) (Reps.none _ _)))); intro v105 w45 ho46 hb hg_ hnew_; clear hg_ hnew_; (first | rw [← Ny104.out] at ho46 | (simp only [Int.reduceToNat] at ho46; rw [← Ny104.out] at ho46)); have n0_ := Aside0.mk (Kd.R_lower ho46 (below_size (by repeat (first | (with_reducible first | exact HB.out | apply below_alloc | apply pw_below_drewN | apply below_drew1) | exact HB.out)))); have n1_ := Aside0.mk (below_step (by repeat (first | (with_reducible first | exact HB.out | apply below_alloc | apply pw_below_drewN | apply below_drew1) | exact HB.out)) hb); clear HB; have HO106 := n0_; have HB := n1_; clear n0_ n1_; clear hb ho46; obtain ⟨Ao47, co47, eo47⟩ := Kd.R_slice HO106.out; subst eo47) | ((with_reducible refine gate_callee (f := 27) rfl ?_); refine goesL_ (some 7) rfl rfl Try.func27 (by kernel_rfl) rfl #[.slice Ao47 y104.length co47] rfl (by (try simp only [List.map_toArray, List.map_cons, List.map_nil]); first | done | rfl | (simp only [List.length_drop, List.length_take]; rfl) | exact congrArg (fun x_ : Int => #[Value.int .u64 x_]) (show _ = _ % (18446744073709551616 : Int) by omega)) ?_; (with_reducible refine (code_Nums.calls k _ _ y104 t107 t108 _ ?side1 ?side2 A1.out).mono ?_); (case side1 => repeat (first | exact (Kd.R_reads' HO106.out).2.2 | (with_reducible refine Kd.C_alloc ?_ _) | (with_reducible refine Kd.C_drewN ?_ _) | (with_reducible refine Kd.C_drew ?_))); (case side2 => exact (Kd.R_reads' HO106.out).2.1); rintro e w48 ⟨v109, rfl, ho0, hb⟩; refine ⟨_, rfl, ?_⟩; have n0_ := Aside0.mk (Kd.R_below (by (with_reducible repeat (first | apply Kd.R_alloc | apply Kd.R_drewN | apply Kd.R_drew)); exact HO106.out) hb); have n1_ := Aside0.mk (Kd.R_lower ho0 (below_size (by repeat (first | (with_reducible first | exact HB.out | apply below_alloc | apply pw_below_drewN | apply below_drew1) | exact HB.out)))); have n2_ := Aside0.mk (below_step (by repeat (first | (with_reducible first | exact HB.out | apply below_alloc | apply pw_below_drewN | apply below_drew1) | exact HB.out)) hb); clear HO106; clear HB; have HO106 := n0_; have HO110 := n1_; have HB := n2_; clear n0_ n1_ n2_; (try clear hb); (try clear hb2); (try clear hk); (try clear hi); (try clear ho0)) | ((with_reducible refine gate_dst (N := 11) rfl ?_); (try (refine gate_guard (by rfl) ?_; dsimp only)); refine Kd.R_lit (Kd.int .u8) _ 5 ?hg (N := 11) ?hd (xs := ([2, 1, 2] : List Int)) (inner := [.int .u8 2, .int .u8 1, .int .u8 2]) (ok := fun _ => True) (okp := fun _ => True) ?hr ?hp (fun _ hk => hk) trivial (Below.refl _ _) (Nat.le_refl _) (by simp) ?_; (case hd => rfl); (case hg => rfl); (case hr => first | (go_simp; done) | (go_simp; rfl)); (case hp => exact (Reps.one (show Kd.M (Kd.int .u8) _ _ _ 2 [.int .u8 2] from rfl) (Reps.one (show Kd.M (Kd.int .u8) _ _ _ 1 [.int .u8 1] from rfl) (Reps.one (show Kd.M (Kd.int .u8) _ _ _ 2 [.int .u8 2] from rfl) (Reps.none _ _))))); intro v112 w49 ho50 hb hg_ hnew_; clear hg_ hnew_; (first | rw [← Ny111.out] at ho50 | (simp only [Int.reduceToNat] at ho50; rw [← Ny111.out] at ho50)); have n0_ := Aside0.mk (Kd.R_below (by (with_reducible repeat (first | apply Kd.R_alloc | apply Kd.R_drewN | apply Kd.R_drew)); exact HO106.out) hb); have n1_ := Aside0.mk (Kd.R_elder' (by (with_reducible repeat (first | apply Kd.R_alloc | apply Kd.R_drewN | apply Kd.R_drew)); exact HO110.out) (Kd.R_base ho50) hb); have n2_ := Aside0.mk (Kd.R_lower (Kd.R_new' ho50 (Kd.R_lt (by (with_reducible repeat (first | apply Kd.R_alloc | apply Kd.R_drewN | apply Kd.R_drew)); exact HO110.out))) (below_size (by repeat (first | (with_reducible first | exact HB.out | apply below_alloc | apply pw_below_drewN | apply below_drew1) | exact HB.out)))); have n3_ := Aside0.mk (below_step (by repeat (first | (with_reducible first | exact HB.out | apply below_alloc | apply pw_below_drewN | apply below_drew1) | exact HB.out)) hb); clear HO106; clear HO110; clear HB; have HO106 := n0_; have HO110 := n1_; have HO113 := n2_; have HB := n3_; clear n0_ n1_ n2_ n3_; clear hb ho50; obtain ⟨Ao51, co51, eo51⟩ := Kd.R_slice HO113.out; subst eo51) | ((with_reducible refine gate_callee (f := 32) rfl ?_); refine goesL_ (some 12) rfl rfl Try.func32 (by kernel_rfl) rfl #[.slice Ao51 y111.length co51] rfl (by (try simp only [List.map_toArray, List.map_cons, List.map_nil]); first | done | rfl | (simp only [List.length_drop, List.length_take]; rfl) | exact congrArg (fun x_ : Int => #[Value.int .u64 x_]) (show _ = _ % (18446744073709551616 : Int) by omega)) ?_; (with_reducible refine (code_Unnums.calls k _ _ y111 t114 t115 _ ?side1 ?side2 A2.out).mono ?_); (case side1 => repeat (first | exact (Kd.R_reads' HO113.out).2.2 | (with_reducible refine Kd.C_alloc ?_ _) | (with_reducible refine Kd.C_drewN ?_ _) | (with_reducible refine Kd.C_drew ?_))); (case side2 => exact (Kd.R_reads' HO113.out).2.1); rintro e w52 ⟨v116, rfl, ho0, hb⟩; refine ⟨_, rfl, ?_⟩; have n0_ := Aside0.mk (Kd.R_elder' (by (with_reducible repeat (first | apply Kd.R_alloc | apply Kd.R_drewN | apply Kd.R_drew)); exact HO106.out) (Kd.R_base ho0) hb); have n1_ := Aside0.mk (Kd.R_below (by (with_reducible repeat (first | apply Kd.R_alloc | apply Kd.R_drewN | apply Kd.R_drew)); exact HO110.out) hb); have n2_ := Aside0.mk (Kd.R_below (by (with_reducible repeat (first | apply Kd.R_alloc | apply Kd.R_drewN | apply Kd.R_drew)); exact HO113.out) hb); have n3_ := Aside0.mk (Kd.R_lower (Kd.R_new' ho0 (Kd.R_lt (by (with_reducible repeat (first | apply Kd.R_alloc | apply Kd.R_drewN | apply Kd.R_drew)); exact HO106.out))) (below_size (by repeat (first | (with_reducible first | exact HB.out | apply below_alloc | apply pw_below_drewN | apply below_drew1) | exact HB.out)))); have n4_ := Aside0.mk (below_step (by repeat (first | (with_reducible first | exact HB.out | apply below_alloc | apply pw_below_drewN | apply below_drew1) | exact HB.out)) hb); clear HO106; clear HO110; clear HO113; clear HB; have HO106 := n0_; have HO110 := n1_; have HO113 := n2_; have HO117 := n3_; have HB := n4_; clear n0_ n1_ n2_ n3_ n4_; (try clear hb); (try clear hb2); (try clear hk); (try clear hi); (try clear ho0)) | ((with_reducible refine gate_callee (f := 15) rfl ?_); refine goesL_ (some 15) rfl rfl Try.func15 (by kernel_rfl) rfl #[.int .u64 300] rfl (by (try simp only [List.map_toArray, List.map_cons, List.map_nil]); first | done | rfl | (simp only [List.length_drop, List.length_take]; rfl) | exact congrArg (fun x_ : Int => #[Value.int .u64 x_]) (show _ = _ % (18446744073709551616 : Int) by omega)) ?_; (with_reducible refine (code_Num.calls k 300 t118 _ A3.out).mono ?_); rintro e w53 ⟨v119, rfl, ho0, hb⟩; refine ⟨_, rfl, ?_⟩; have n0_ := Aside0.mk (Kd.R_below (by (with_reducible repeat (first | apply Kd.R_alloc | apply Kd.R_drewN | apply Kd.R_drew)); exact HO106.out) hb); have n1_ := Aside0.mk (Kd.R_elder' (by (with_reducible repeat (first | apply Kd.R_alloc | apply Kd.R_drewN | apply Kd.R_drew)); exact HO110.out) (Kd.R_base ho0) hb); have n2_ := Aside0.mk (Kd.R_elder' (by (with_reducible repeat (first | apply Kd.R_alloc | apply Kd.R_drewN | apply Kd.R_drew)); exact HO113.out) (Kd.R_base ho0) hb); have n3_ := Aside0.mk (Kd.R_below (by (with_reducible repeat (first | apply Kd.R_alloc | apply Kd.R_drewN | apply Kd.R_drew)); exact HO117.out) hb); have n4_ := Aside0.mk (Kd.R_lower (Kd.R_new' (Kd.R_new' ho0 (Kd.R_lt (by (with_reducible repeat (first | apply Kd.R_alloc | apply Kd.R_drewN | apply Kd.R_drew)); exact HO110.out))) (Kd.R_lt (by (with_reducible repeat (first | apply Kd.R_alloc | apply Kd.R_drewN | apply Kd.R_drew)); exact HO113.out))) (below_size (by repeat (first | (with_reducible first | exact HB.out | apply below_alloc | apply pw_below_drewN | apply below_drew1) | exact HB.out)))); have n5_ := Aside0.mk (below_step (by repeat (first | (with_reducible first | exact HB.out | apply below_alloc | apply pw_below_drewN | apply below_drew1) | exact HB.out)) hb); clear HO106; clear HO110; clear HO113; clear HO117; clear HB; have HO106 := n0_; have HO110 := n1_; have HO113 := n2_; have HO117 := n3_; have HO120 := n4_; have HB := n5_; clear n0_ n1_ n2_ n3_ n4_ n5_; (try clear hb); (try clear hb2); (try clear hk); (try clear hi); (try clear ho0); have hcv54 := own_string (P := Try.prog) Try.underlying27 Try.underlying5 Try.underlying9 (Kd.own_of_R HO120.out); have hcv55 := own_string (P := Try.prog) Try.underlying27 Try.underlying5 Try.underlying9 (Kd.own_of_R HO110.out)))
        go_ret
        exact ⟨by first | rfl | (simp [errW_none, errW_some] <;> rfl) | (simp [*, errW_none, errW_some] <;> rfl), by repeat (first | (with_reducible first | exact HB.out | apply below_alloc | apply pw_below_drewN | apply below_drew1) | exact HB.out)⟩
    · rw [if_neg c5] at H
      have c5b0 : ((strOfNums t107).toList == ([2, 1, 2] : List UInt8)) = false := beq_eq_false_iff_ne.mpr c5
      have c5b1 : ((strOfNums t107).toList != ([2, 1, 2] : List UInt8)) = true := bne_iff_ne.mpr c5
      obtain rfl := Option.some.inj H
      go_enter Try.func12, Try.ntmps12
      go_wp2_with (first | ((with_reducible refine gate_dst (N := 6) rfl ?_); (try (refine gate_guard (by rfl) ?_; dsimp only)); refine Kd.R_lit (Kd.int .i64) _ 2 ?hg (N := 6) ?hd (xs := ([(-1), 1] : List Int)) (inner := [.int .i64 (-1), .int .i64 1]) (ok := fun _ => True) (okp := fun _ => True) ?hr ?hp (fun _ hk => hk) trivial (Below.refl _ _) (Nat.le_refl _) (by simp) ?_; (case hd => rfl); (case hg => rfl); (case hr => first | (go_simp; done) | (go_simp; rfl)); (case hp => exact (Reps.one (show Kd.M (Kd.int .i64) _ _ _ (-1) [.int .i64 (-1)] from rfl) (Reps.one (show Kd.M (Kd.int .i64) _ _ _ 1 [.int .i64 1] from rfl) (Reps.none _ _)))); intro v105 w56 ho57 hb hg_ hnew_; clear hg_ hnew_; (first | rw [← Ny104.out] at ho57 | (simp only [Int.reduceToNat] at ho57; rw [← Ny104.out] at ho57)); have n0_ := Aside0.mk (Kd.R_lower ho57 (below_size (by repeat (first | (with_reducible first | exact HB.out | apply below_alloc | apply pw_below_drewN | apply below_drew1) | exact HB.out)))); have n1_ := Aside0.mk (below_step (by repeat (first | (with_reducible first | exact HB.out | apply below_alloc | apply pw_below_drewN | apply below_drew1) | exact HB.out)) hb); clear HB; have HO106 := n0_; have HB := n1_; clear n0_ n1_; clear hb ho57; obtain ⟨Ao58, co58, eo58⟩ := Kd.R_slice HO106.out; subst eo58) | ((with_reducible refine gate_callee (f := 27) rfl ?_); refine goesL_ (some 7) rfl rfl Try.func27 (by kernel_rfl) rfl #[.slice Ao58 y104.length co58] rfl (by (try simp only [List.map_toArray, List.map_cons, List.map_nil]); first | done | rfl | (simp only [List.length_drop, List.length_take]; rfl) | exact congrArg (fun x_ : Int => #[Value.int .u64 x_]) (show _ = _ % (18446744073709551616 : Int) by omega)) ?_; (with_reducible refine (code_Nums.calls k _ _ y104 t107 t108 _ ?side1 ?side2 A1.out).mono ?_); (case side1 => repeat (first | exact (Kd.R_reads' HO106.out).2.2 | (with_reducible refine Kd.C_alloc ?_ _) | (with_reducible refine Kd.C_drewN ?_ _) | (with_reducible refine Kd.C_drew ?_))); (case side2 => exact (Kd.R_reads' HO106.out).2.1); rintro e w59 ⟨v109, rfl, ho0, hb⟩; refine ⟨_, rfl, ?_⟩; have n0_ := Aside0.mk (Kd.R_below (by (with_reducible repeat (first | apply Kd.R_alloc | apply Kd.R_drewN | apply Kd.R_drew)); exact HO106.out) hb); have n1_ := Aside0.mk (Kd.R_lower ho0 (below_size (by repeat (first | (with_reducible first | exact HB.out | apply below_alloc | apply pw_below_drewN | apply below_drew1) | exact HB.out)))); have n2_ := Aside0.mk (below_step (by repeat (first | (with_reducible first | exact HB.out | apply below_alloc | apply pw_below_drewN | apply below_drew1) | exact HB.out)) hb); clear HO106; clear HB; have HO106 := n0_; have HO110 := n1_; have HB := n2_; clear n0_ n1_ n2_; (try clear hb); (try clear hb2); (try clear hk); (try clear hi); (try clear ho0)) | ((with_reducible refine gate_dst (N := 11) rfl ?_); (try (refine gate_guard (by rfl) ?_; dsimp only)); refine Kd.R_lit (Kd.int .u8) _ 5 ?hg (N := 11) ?hd (xs := ([2, 1, 2] : List Int)) (inner := [.int .u8 2, .int .u8 1, .int .u8 2]) (ok := fun _ => True) (okp := fun _ => True) ?hr ?hp (fun _ hk => hk) trivial (Below.refl _ _) (Nat.le_refl _) (by simp) ?_; (case hd => rfl); (case hg => rfl); (case hr => first | (go_simp; done) | (go_simp; rfl)); (case hp => exact (Reps.one (show Kd.M (Kd.int .u8) _ _ _ 2 [.int .u8 2] from rfl) (Reps.one (show Kd.M (Kd.int .u8) _ _ _ 1 [.int .u8 1] from rfl) (Reps.one (show Kd.M (Kd.int .u8) _ _ _ 2 [.int .u8 2] from rfl) (Reps.none _ _))))); intro v112 w60 ho61 hb hg_ hnew_; clear hg_ hnew_; (first | rw [← Ny111.out] at ho61 | (simp only [Int.reduceToNat] at ho61; rw [← Ny111.out] at ho61)); have n0_ := Aside0.mk (Kd.R_below (by (with_reducible repeat (first | apply Kd.R_alloc | apply Kd.R_drewN | apply Kd.R_drew)); exact HO106.out) hb); have n1_ := Aside0.mk (Kd.R_elder' (by (with_reducible repeat (first | apply Kd.R_alloc | apply Kd.R_drewN | apply Kd.R_drew)); exact HO110.out) (Kd.R_base ho61) hb); have n2_ := Aside0.mk (Kd.R_lower (Kd.R_new' ho61 (Kd.R_lt (by (with_reducible repeat (first | apply Kd.R_alloc | apply Kd.R_drewN | apply Kd.R_drew)); exact HO110.out))) (below_size (by repeat (first | (with_reducible first | exact HB.out | apply below_alloc | apply pw_below_drewN | apply below_drew1) | exact HB.out)))); have n3_ := Aside0.mk (below_step (by repeat (first | (with_reducible first | exact HB.out | apply below_alloc | apply pw_below_drewN | apply below_drew1) | exact HB.out)) hb); clear HO106; clear HO110; clear HB; have HO106 := n0_; have HO110 := n1_; have HO113 := n2_; have HB := n3_; clear n0_ n1_ n2_ n3_; clear hb ho61; obtain ⟨Ao62, co62, eo62⟩ := Kd.R_slice HO113.out; subst eo62) | ((with_reducible refine gate_callee (f := 32) rfl ?_); refine goesL_ (some 12) rfl rfl Try.func32 (by kernel_rfl) rfl #[.slice Ao62 y111.length co62] rfl (by (try simp only [List.map_toArray, List.map_cons, List.map_nil]); first | done | rfl | (simp only [List.length_drop, List.length_take]; rfl) | exact congrArg (fun x_ : Int => #[Value.int .u64 x_]) (show _ = _ % (18446744073709551616 : Int) by omega)) ?_; (with_reducible refine (code_Unnums.calls k _ _ y111 t114 t115 _ ?side1 ?side2 A2.out).mono ?_); (case side1 => repeat (first | exact (Kd.R_reads' HO113.out).2.2 | (with_reducible refine Kd.C_alloc ?_ _) | (with_reducible refine Kd.C_drewN ?_ _) | (with_reducible refine Kd.C_drew ?_))); (case side2 => exact (Kd.R_reads' HO113.out).2.1); rintro e w63 ⟨v116, rfl, ho0, hb⟩; refine ⟨_, rfl, ?_⟩; have n0_ := Aside0.mk (Kd.R_elder' (by (with_reducible repeat (first | apply Kd.R_alloc | apply Kd.R_drewN | apply Kd.R_drew)); exact HO106.out) (Kd.R_base ho0) hb); have n1_ := Aside0.mk (Kd.R_below (by (with_reducible repeat (first | apply Kd.R_alloc | apply Kd.R_drewN | apply Kd.R_drew)); exact HO110.out) hb); have n2_ := Aside0.mk (Kd.R_below (by (with_reducible repeat (first | apply Kd.R_alloc | apply Kd.R_drewN | apply Kd.R_drew)); exact HO113.out) hb); have n3_ := Aside0.mk (Kd.R_lower (Kd.R_new' ho0 (Kd.R_lt (by (with_reducible repeat (first | apply Kd.R_alloc | apply Kd.R_drewN | apply Kd.R_drew)); exact HO106.out))) (below_size (by repeat (first | (with_reducible first | exact HB.out | apply below_alloc | apply pw_below_drewN | apply below_drew1) | exact HB.out)))); have n4_ := Aside0.mk (below_step (by repeat (first | (with_reducible first | exact HB.out | apply below_alloc | apply pw_below_drewN | apply below_drew1) | exact HB.out)) hb); clear HO106; clear HO110; clear HO113; clear HB; have HO106 := n0_; have HO110 := n1_; have HO113 := n2_; have HO117 := n3_; have HB := n4_; clear n0_ n1_ n2_ n3_ n4_; (try clear hb); (try clear hb2); (try clear hk); (try clear hi); (try clear ho0)) | ((with_reducible refine gate_callee (f := 15) rfl ?_); refine goesL_ (some 15) rfl rfl Try.func15 (by kernel_rfl) rfl #[.int .u64 300] rfl (by (try simp only [List.map_toArray, List.map_cons, List.map_nil]); first | done | rfl | (simp only [List.length_drop, List.length_take]; rfl) | exact congrArg (fun x_ : Int => #[Value.int .u64 x_]) (show _ = _ % (18446744073709551616 : Int) by omega)) ?_; (with_reducible refine (code_Num.calls k 300 t118 _ A3.out).mono ?_); rintro e w64 ⟨v119, rfl, ho0, hb⟩; refine ⟨_, rfl, ?_⟩; have n0_ := Aside0.mk (Kd.R_below (by (with_reducible repeat (first | apply Kd.R_alloc | apply Kd.R_drewN | apply Kd.R_drew)); exact HO106.out) hb); have n1_ := Aside0.mk (Kd.R_elder' (by (with_reducible repeat (first | apply Kd.R_alloc | apply Kd.R_drewN | apply Kd.R_drew)); exact HO110.out) (Kd.R_base ho0) hb); have n2_ := Aside0.mk (Kd.R_elder' (by (with_reducible repeat (first | apply Kd.R_alloc | apply Kd.R_drewN | apply Kd.R_drew)); exact HO113.out) (Kd.R_base ho0) hb); have n3_ := Aside0.mk (Kd.R_below (by (with_reducible repeat (first | apply Kd.R_alloc | apply Kd.R_drewN | apply Kd.R_drew)); exact HO117.out) hb); have n4_ := Aside0.mk (Kd.R_lower (Kd.R_new' (Kd.R_new' ho0 (Kd.R_lt (by (with_reducible repeat (first | apply Kd.R_alloc | apply Kd.R_drewN | apply Kd.R_drew)); exact HO110.out))) (Kd.R_lt (by (with_reducible repeat (first | apply Kd.R_alloc | apply Kd.R_drewN | apply Kd.R_drew)); exact HO113.out))) (below_size (by repeat (first | (with_reducible first | exact HB.out | apply below_alloc | apply pw_below_drewN | apply below_drew1) | exact HB.out)))); have n5_ := Aside0.mk (below_step (by repeat (first | (with_reducible first | exact HB.out | apply below_alloc | apply pw_below_drewN | apply below_drew1) | exact HB.out)) hb); clear HO106; clear HO110; clear HO113; clear HO117; clear HB; have HO106 := n0_; have HO110 := n1_; have HO113 := n2_; have HO117 := n3_; have HO120 := n4_; have HB := n5_; clear n0_ n1_ n2_ n3_ n4_ n5_; (try clear hb); (try clear hb2); (try clear hk); (try clear hi); (try clear ho0); have hcv65 := own_string (P := Try.prog) Try.underlying27 Try.underlying5 Try.underlying9 (Kd.own_of_R HO120.out); have hcv66 := own_string (P := Try.prog) Try.underlying27 Try.underlying5 Try.underlying9 (Kd.own_of_R HO110.out)))
      go_ret
      exact ⟨by first | rfl | (simp [errW_none, errW_some] <;> rfl) | (simp [*, errW_none, errW_some] <;> rfl), by repeat (first | (with_reducible first | exact HB.out | apply below_alloc | apply pw_below_drewN | apply below_drew1) | exact HB.out)⟩
  · rw [if_neg c4] at H
    have c4b0 : ((strOfNums t118).toList == ([172, 2] : List UInt8)) = false := beq_eq_false_iff_ne.mpr c4
    have c4b1 : ((strOfNums t118).toList != ([172, 2] : List UInt8)) = true := bne_iff_ne.mpr c4
    obtain rfl := Option.some.inj H
    go_enter Try.func12, Try.ntmps12
    go_wp2_with (first | ((with_reducible refine gate_dst (N := 6) rfl ?_); (try (refine gate_guard (by rfl) ?_; dsimp only)); refine Kd.R_lit (Kd.int .i64) _ 2 ?hg (N := 6) ?hd (xs := ([(-1), 1] : List Int)) (inner := [.int .i64 (-1), .int .i64 1]) (ok := fun _ => True) (okp := fun _ => True) ?hr ?hp (fun _ hk => hk) trivial (Below.refl _ _) (Nat.le_refl _) (by simp) ?_; (case hd => rfl); (case hg => rfl); (case hr => first | (go_simp; done) | (go_simp; rfl)); (case hp => exact (Reps.one (show Kd.M (Kd.int .i64) _ _ _ (-1) [.int .i64 (-1)] from rfl) (Reps.one (show Kd.M (Kd.int .i64) _ _ _ 1 [.int .i64 1] from rfl) (Reps.none _ _)))); intro v105 w67 ho68 hb hg_ hnew_; clear hg_ hnew_; (first | rw [← Ny104.out] at ho68 | (simp only [Int.reduceToNat] at ho68; rw [← Ny104.out] at ho68)); have n0_ := Aside0.mk (Kd.R_lower ho68 (below_size (by repeat (first | (with_reducible first | exact HB.out | apply below_alloc | apply pw_below_drewN | apply below_drew1) | exact HB.out)))); have n1_ := Aside0.mk (below_step (by repeat (first | (with_reducible first | exact HB.out | apply below_alloc | apply pw_below_drewN | apply below_drew1) | exact HB.out)) hb); clear HB; have HO106 := n0_; have HB := n1_; clear n0_ n1_; clear hb ho68; obtain ⟨Ao69, co69, eo69⟩ := Kd.R_slice HO106.out; subst eo69) | ((with_reducible refine gate_callee (f := 27) rfl ?_); refine goesL_ (some 7) rfl rfl Try.func27 (by kernel_rfl) rfl #[.slice Ao69 y104.length co69] rfl (by (try simp only [List.map_toArray, List.map_cons, List.map_nil]); first | done | rfl | (simp only [List.length_drop, List.length_take]; rfl) | exact congrArg (fun x_ : Int => #[Value.int .u64 x_]) (show _ = _ % (18446744073709551616 : Int) by omega)) ?_; (with_reducible refine (code_Nums.calls k _ _ y104 t107 t108 _ ?side1 ?side2 A1.out).mono ?_); (case side1 => repeat (first | exact (Kd.R_reads' HO106.out).2.2 | (with_reducible refine Kd.C_alloc ?_ _) | (with_reducible refine Kd.C_drewN ?_ _) | (with_reducible refine Kd.C_drew ?_))); (case side2 => exact (Kd.R_reads' HO106.out).2.1); rintro e w70 ⟨v109, rfl, ho0, hb⟩; refine ⟨_, rfl, ?_⟩; have n0_ := Aside0.mk (Kd.R_below (by (with_reducible repeat (first | apply Kd.R_alloc | apply Kd.R_drewN | apply Kd.R_drew)); exact HO106.out) hb); have n1_ := Aside0.mk (Kd.R_lower ho0 (below_size (by repeat (first | (with_reducible first | exact HB.out | apply below_alloc | apply pw_below_drewN | apply below_drew1) | exact HB.out)))); have n2_ := Aside0.mk (below_step (by repeat (first | (with_reducible first | exact HB.out | apply below_alloc | apply pw_below_drewN | apply below_drew1) | exact HB.out)) hb); clear HO106; clear HB; have HO106 := n0_; have HO110 := n1_; have HB := n2_; clear n0_ n1_ n2_; (try clear hb); (try clear hb2); (try clear hk); (try clear hi); (try clear ho0)) | ((with_reducible refine gate_dst (N := 11) rfl ?_); (try (refine gate_guard (by rfl) ?_; dsimp only)); refine Kd.R_lit (Kd.int .u8) _ 5 ?hg (N := 11) ?hd (xs := ([2, 1, 2] : List Int)) (inner := [.int .u8 2, .int .u8 1, .int .u8 2]) (ok := fun _ => True) (okp := fun _ => True) ?hr ?hp (fun _ hk => hk) trivial (Below.refl _ _) (Nat.le_refl _) (by simp) ?_; (case hd => rfl); (case hg => rfl); (case hr => first | (go_simp; done) | (go_simp; rfl)); (case hp => exact (Reps.one (show Kd.M (Kd.int .u8) _ _ _ 2 [.int .u8 2] from rfl) (Reps.one (show Kd.M (Kd.int .u8) _ _ _ 1 [.int .u8 1] from rfl) (Reps.one (show Kd.M (Kd.int .u8) _ _ _ 2 [.int .u8 2] from rfl) (Reps.none _ _))))); intro v112 w71 ho72 hb hg_ hnew_; clear hg_ hnew_; (first | rw [← Ny111.out] at ho72 | (simp only [Int.reduceToNat] at ho72; rw [← Ny111.out] at ho72)); have n0_ := Aside0.mk (Kd.R_below (by (with_reducible repeat (first | apply Kd.R_alloc | apply Kd.R_drewN | apply Kd.R_drew)); exact HO106.out) hb); have n1_ := Aside0.mk (Kd.R_elder' (by (with_reducible repeat (first | apply Kd.R_alloc | apply Kd.R_drewN | apply Kd.R_drew)); exact HO110.out) (Kd.R_base ho72) hb); have n2_ := Aside0.mk (Kd.R_lower (Kd.R_new' ho72 (Kd.R_lt (by (with_reducible repeat (first | apply Kd.R_alloc | apply Kd.R_drewN | apply Kd.R_drew)); exact HO110.out))) (below_size (by repeat (first | (with_reducible first | exact HB.out | apply below_alloc | apply pw_below_drewN | apply below_drew1) | exact HB.out)))); have n3_ := Aside0.mk (below_step (by repeat (first | (with_reducible first | exact HB.out | apply below_alloc | apply pw_below_drewN | apply below_drew1) | exact HB.out)) hb); clear HO106; clear HO110; clear HB; have HO106 := n0_; have HO110 := n1_; have HO113 := n2_; have HB := n3_; clear n0_ n1_ n2_ n3_; clear hb ho72; obtain ⟨Ao73, co73, eo73⟩ := Kd.R_slice HO113.out; subst eo73) | ((with_reducible refine gate_callee (f := 32) rfl ?_); refine goesL_ (some 12) rfl rfl Try.func32 (by kernel_rfl) rfl #[.slice Ao73 y111.length co73] rfl (by (try simp only [List.map_toArray, List.map_cons, List.map_nil]); first | done | rfl | (simp only [List.length_drop, List.length_take]; rfl) | exact congrArg (fun x_ : Int => #[Value.int .u64 x_]) (show _ = _ % (18446744073709551616 : Int) by omega)) ?_; (with_reducible refine (code_Unnums.calls k _ _ y111 t114 t115 _ ?side1 ?side2 A2.out).mono ?_); (case side1 => repeat (first | exact (Kd.R_reads' HO113.out).2.2 | (with_reducible refine Kd.C_alloc ?_ _) | (with_reducible refine Kd.C_drewN ?_ _) | (with_reducible refine Kd.C_drew ?_))); (case side2 => exact (Kd.R_reads' HO113.out).2.1); rintro e w74 ⟨v116, rfl, ho0, hb⟩; refine ⟨_, rfl, ?_⟩; have n0_ := Aside0.mk (Kd.R_elder' (by (with_reducible repeat (first | apply Kd.R_alloc | apply Kd.R_drewN | apply Kd.R_drew)); exact HO106.out) (Kd.R_base ho0) hb); have n1_ := Aside0.mk (Kd.R_below (by (with_reducible repeat (first | apply Kd.R_alloc | apply Kd.R_drewN | apply Kd.R_drew)); exact HO110.out) hb); have n2_ := Aside0.mk (Kd.R_below (by (with_reducible repeat (first | apply Kd.R_alloc | apply Kd.R_drewN | apply Kd.R_drew)); exact HO113.out) hb); have n3_ := Aside0.mk (Kd.R_lower (Kd.R_new' ho0 (Kd.R_lt (by (with_reducible repeat (first | apply Kd.R_alloc | apply Kd.R_drewN | apply Kd.R_drew)); exact HO106.out))) (below_size (by repeat (first | (with_reducible first | exact HB.out | apply below_alloc | apply pw_below_drewN | apply below_drew1) | exact HB.out)))); have n4_ := Aside0.mk (below_step (by repeat (first | (with_reducible first | exact HB.out | apply below_alloc | apply pw_below_drewN | apply below_drew1) | exact HB.out)) hb); clear HO106; clear HO110; clear HO113; clear HB; have HO106 := n0_; have HO110 := n1_; have HO113 := n2_; have HO117 := n3_; have HB := n4_; clear n0_ n1_ n2_ n3_ n4_; (try clear hb); (try clear hb2); (try clear hk); (try clear hi); (try clear ho0)) | ((with_reducible refine gate_callee (f := 15) rfl ?_); refine goesL_ (some 15) rfl rfl Try.func15 (by kernel_rfl) rfl #[.int .u64 300] rfl (by (try simp only [List.map_toArray, List.map_cons, List.map_nil]); first | done | rfl | (simp only [List.length_drop, List.length_take]; rfl) | exact congrArg (fun x_ : Int => #[Value.int .u64 x_]) (show _ = _ % (18446744073709551616 : Int) by omega)) ?_; (with_reducible refine (code_Num.calls k 300 t118 _ A3.out).mono ?_); rintro e w75 ⟨v119, rfl, ho0, hb⟩; refine ⟨_, rfl, ?_⟩; have n0_ := Aside0.mk (Kd.R_below (by (with_reducible repeat (first | apply Kd.R_alloc | apply Kd.R_drewN | apply Kd.R_drew)); exact HO106.out) hb); have n1_ := Aside0.mk (Kd.R_elder' (by (with_reducible repeat (first | apply Kd.R_alloc | apply Kd.R_drewN | apply Kd.R_drew)); exact HO110.out) (Kd.R_base ho0) hb); have n2_ := Aside0.mk (Kd.R_elder' (by (with_reducible repeat (first | apply Kd.R_alloc | apply Kd.R_drewN | apply Kd.R_drew)); exact HO113.out) (Kd.R_base ho0) hb); have n3_ := Aside0.mk (Kd.R_below (by (with_reducible repeat (first | apply Kd.R_alloc | apply Kd.R_drewN | apply Kd.R_drew)); exact HO117.out) hb); have n4_ := Aside0.mk (Kd.R_lower (Kd.R_new' (Kd.R_new' ho0 (Kd.R_lt (by (with_reducible repeat (first | apply Kd.R_alloc | apply Kd.R_drewN | apply Kd.R_drew)); exact HO110.out))) (Kd.R_lt (by (with_reducible repeat (first | apply Kd.R_alloc | apply Kd.R_drewN | apply Kd.R_drew)); exact HO113.out))) (below_size (by repeat (first | (with_reducible first | exact HB.out | apply below_alloc | apply pw_below_drewN | apply below_drew1) | exact HB.out)))); have n5_ := Aside0.mk (below_step (by repeat (first | (with_reducible first | exact HB.out | apply below_alloc | apply pw_below_drewN | apply below_drew1) | exact HB.out)) hb); clear HO106; clear HO110; clear HO113; clear HO117; clear HB; have HO106 := n0_; have HO110 := n1_; have HO113 := n2_; have HO117 := n3_; have HO120 := n4_; have HB := n5_; clear n0_ n1_ n2_ n3_ n4_ n5_; (try clear hb); (try clear hb2); (try clear hk); (try clear hi); (try clear ho0); have hcv76 := own_string (P := Try.prog) Try.underlying27 Try.underlying5 Try.underlying9 (Kd.own_of_R HO120.out)))
    go_ret
    exact ⟨by first | rfl | (simp [errW_none, errW_some] <;> rfl) | (simp [*, errW_none, errW_some] <;> rfl), by repeat (first | (with_reducible first | exact HB.out | apply below_alloc | apply pw_below_drewN | apply below_drew1) | exact HB.out)⟩

end Go.Proofs.Ytgihecpobichbaa.Q
-- Written by a program of the session over the translation's print: functions as plain Lean, and that the machine's call comes to them.
namespace Go.Proofs.Ytgihecpobichbaa.Q
open Go.RowKit Go.Proofs.YtgihecpobichbaaW.PrintWords Go.Proofs.YtgihecpobichbaaW.PrintLast Go.Proofs.YtgihecpobichbaaW.PrintMore
attribute [local go_sem] max2_int min2_int max_two min_two max_three min_three max_four min_four   -- for this text's walks alone
set_option linter.unusedVariables false
set_option linter.unusedSimpArgs false

attribute [local go_sem high] eqA116
/-! ### headgateref03_Cmp: function 119 -/
def headgateref03_Cmp.j0 : Nat → Bool → Int → Int → ByteArray → Int → Int → ByteArray → Option (Int)
  | 0, _, _, _, _, _, _, _ => none
  | k + 1, x37, x130000, x130001, x130002, x131000, x131001, x131002 => if x37 = true then (some (-1)) else (if (x130000 == x131000 && (x130001 == x131001 && (x130002.toList == x131002.toList))) = true then (some 0) else (some 1))
def headgateref03_Cmp.f (k : Nat) (a0_0 : Int) (a0_1 : Int) (a0_2 : ByteArray) (a1_0 : Int) (a1_1 : Int) (a1_2 : ByteArray) : Option (Int) := if a0_0 < a1_0 then (headgateref03_Cmp.j0 k true a0_0 a0_1 a0_2 a1_0 a1_1 a1_2) else (if a0_0 = a1_0 then (if a0_1 < a1_1 then (headgateref03_Cmp.j0 k true a0_0 a0_1 a0_2 a1_0 a1_1 a1_2) else (if a0_1 = a1_1 then (headgateref03_Cmp.j0 k (Op.bytesLess a0_2.toList a1_2.toList) a0_0 a0_1 a0_2 a1_0 a1_1 a1_2) else (headgateref03_Cmp.j0 k false a0_0 a0_1 a0_2 a1_0 a1_1 a1_2))) else (headgateref03_Cmp.j0 k false a0_0 a0_1 a0_2 a1_0 a1_1 a1_2))
set_option maxHeartbeats 8000000 in
set_option maxRecDepth 100000 in
theorem headgateref03_Cmp.calls (k : Nat) (a0_0 : Int) (a0_1 : Int) (a0_2 : ByteArray) (a1_0 : Int) (a1_1 : Int) (a1_2 : ByteArray) (r : Int) (w : World) (h : headgateref03_Cmp.f k a0_0 a0_1 a0_2 a1_0 a1_1 a1_2 = some r) :
    Calls Try.prog 119 #[.agg #[.int .i64 a0_0, .int .i64 a0_1, .string a0_2], .agg #[.int .i64 a1_0, .int .i64 a1_1, .string a1_2]] w fun e w' => e = .returned (.int .i64 r) ∧ Below w.heap.size w w' := by
  have hu116 := Try.underlying116
  have HB := Aside0.mk (Below.refl w.heap.size w)
  have H : (if a0_0 < a1_0 then (headgateref03_Cmp.j0 k true a0_0 a0_1 a0_2 a1_0 a1_1 a1_2) else (if a0_0 = a1_0 then (if a0_1 < a1_1 then (headgateref03_Cmp.j0 k true a0_0 a0_1 a0_2 a1_0 a1_1 a1_2) else (if a0_1 = a1_1 then (headgateref03_Cmp.j0 k (Op.bytesLess a0_2.toList a1_2.toList) a0_0 a0_1 a0_2 a1_0 a1_1 a1_2) else (headgateref03_Cmp.j0 k false a0_0 a0_1 a0_2 a1_0 a1_1 a1_2))) else (headgateref03_Cmp.j0 k false a0_0 a0_1 a0_2 a1_0 a1_1 a1_2))) = some r := h
  clear h
  have HC3 := Aside0.mk H
  clear H
  go_enter Try.func119, Try.ntmps119
  go_upto_region 1 with (first | ((with_reducible refine gate_dst (N := 2) rfl ?_); refine box_event ?hg (N := 2) ?hd (cs := #[.int .i64 a0_0, .int .i64 a0_1, .string a0_2]) (t := 116) ?hr ?_; (case hd => rfl); (case hg => rfl); (case hr => first | (go_simp; done) | (go_simp; rfl)); intro gb129 hg w4 hbox hb; have n0_ := Aside0.mk (below_step (by repeat (first | (with_reducible first | exact HB.out | apply below_alloc | apply pw_below_drewN | apply below_drew1) | exact HB.out)) hb); have n1_ := Aside0.mk (hbox); have n2_ := Aside0.mk ((by rw [hg]; exact (below_size (by repeat (first | (with_reducible first | exact HB.out | apply below_alloc | apply pw_below_drewN | apply below_drew1) | exact HB.out))) : w.heap.size ≤ gb129)); have n3_ := Aside0.mk ((by rw [hg]; exact (below_size (by repeat (first | (with_reducible first | exact HB.out | apply below_alloc | apply pw_below_drewN | apply below_drew1) | exact HB.out))) : w.heap.size ≤ gb129)); clear HB; have HB := n0_; have BK129 := n1_; have GW129 := n2_; have GE129 := n3_; clear n0_ n1_ n2_ n3_; clear hb hbox hg) | ((with_reducible refine gate_dst (N := 3) rfl ?_); refine box_event ?hg (N := 3) ?hd (cs := #[.int .i64 a1_0, .int .i64 a1_1, .string a1_2]) (t := 116) ?hr ?_; (case hd => rfl); (case hg => rfl); (case hr => first | (go_simp; done) | (go_simp; rfl)); intro gb130 hg w5 hbox hb; have n0_ := Aside0.mk (blk_below (g := gb129) (o := .cells #[.int .i64 a0_0, .int .i64 a0_1, .string a0_2] 116 (0, 0)) (by (with_reducible repeat (first | refine blk_drewN ?_ _ | refine blk_drew ?_ | refine blk_alloc ?_ _)); exact BK129.out) hb); have n1_ := Aside0.mk (below_step (by repeat (first | (with_reducible first | exact HB.out | apply below_alloc | apply pw_below_drewN | apply below_drew1 | refine below_set ?_ GE129.out) | exact HB.out)) hb); have n2_ := Aside0.mk (hbox); have n3_ := Aside0.mk ((by rw [hg]; exact (below_size (by repeat (first | (with_reducible first | exact HB.out | apply below_alloc | apply pw_below_drewN | apply below_drew1 | refine below_set ?_ GE129.out) | exact HB.out))) : w.heap.size ≤ gb130)); have n4_ := Aside0.mk ((by rw [hg]; exact (below_size (by repeat (first | (with_reducible first | exact HB.out | apply below_alloc | apply pw_below_drewN | apply below_drew1 | refine below_set ?_ GE129.out) | exact HB.out))) : w.heap.size ≤ gb130)); have n5_ := Aside0.mk ((by rw [hg]; exact Nat.ne_of_lt (blk_lt (g := gb129) (o := .cells #[.int .i64 a0_0, .int .i64 a0_1, .string a0_2] 116 (0, 0)) (by (with_reducible repeat (first | refine blk_drewN ?_ _ | refine blk_drew ?_ | refine blk_alloc ?_ _)); exact BK129.out)) : gb129 ≠ gb130)); have n6_ := Aside0.mk ((by rw [hg]; exact Nat.ne_of_gt (blk_lt (g := gb129) (o := .cells #[.int .i64 a0_0, .int .i64 a0_1, .string a0_2] 116 (0, 0)) (by (with_reducible repeat (first | refine blk_drewN ?_ _ | refine blk_drew ?_ | refine blk_alloc ?_ _)); exact BK129.out)) : gb130 ≠ gb129)); clear BK129; clear HB; have BK129 := n0_; have HB := n1_; have BK130 := n2_; have GW130 := n3_; have GE130 := n4_; have NB129_130 := n5_; have NB130_129 := n6_; clear n0_ n1_ n2_ n3_ n4_ n5_ n6_; clear hb hbox hg))
  (try simp only [Act.put, List.setIfInBounds_toArray, List.set_cons_zero, List.set_cons_succ])
  go_cut [37] (fun v37 wc => ∃ (kq : Nat) (x37_2 : Bool), v37 = .bool x37_2 ∧ Aside0 (headgateref03_Cmp.j0 kq x37_2 a0_0 a0_1 a0_2 a1_0 a1_1 a1_2 = some r) ∧ Aside0 (kq ≤ k) ∧ Aside0 (wc.heap[gb129]? = some (.cells #[.int .i64 a0_0, .int .i64 a0_1, .string a0_2] 116 (0, 0))) ∧ Aside0 (wc.heap[gb130]? = some (.cells #[.int .i64 a1_0, .int .i64 a1_1, .string a1_2] 116 (0, 0))) ∧ Aside0 (Below w.heap.size w wc))
  case first =>
    have H := HC3.out
    clear HC3
    by_cases c6 : a0_0 < a1_0
    · rw [if_pos c6] at H
      have c6b0 : decide (a0_0 < a1_0) = true := decide_eq_true c6
      clear c6
      (first | rw [c6b0] | (simp only [i64_w, i32_w]; rw [c6b0]) | skip)
      have H' := Aside0.mk H
      clear H
      have hnb7 := NB129_130.out
      have hnc7 := NB130_129.out
      obtain ⟨hcz8_0, hcz8_1, hcz8_2, hfz8_0, hfz8_1, hfz8_2⟩ := bf3 BK129.out
      obtain ⟨hcz9_0, hcz9_1, hcz9_2, hfz9_0, hfz9_1, hfz9_2⟩ := bf3 BK130.out
      go_wp2
      go_meet
      case rel => exact ⟨_, (true), (by first | rfl | (simp; done) | (simp [*]; done) | (simp; rw [Bool.eq_iff_iff]; simp; done)), H', ⟨by first | omega | exact Nat.le_refl _⟩, ⟨by (with_reducible repeat (first | refine blk_drewN ?_ _ | refine blk_drew ?_ | refine blk_alloc ?_ _)); exact BK129.out⟩, ⟨by (with_reducible repeat (first | refine blk_drewN ?_ _ | refine blk_drew ?_ | refine blk_alloc ?_ _)); exact BK130.out⟩, ⟨by repeat (first | (with_reducible first | exact HB.out | apply below_alloc | apply pw_below_drewN | apply below_drew1 | refine below_set ?_ GE129.out | refine below_set ?_ GE130.out) | exact HB.out)⟩⟩
    · rw [if_neg c6] at H
      have c6b0 : decide (a0_0 < a1_0) = false := decide_eq_false c6
      clear c6
      (first | rw [c6b0] | (simp only [i64_w, i32_w]; rw [c6b0]) | skip)
      by_cases c10 : a0_0 = a1_0
      · rw [if_pos c10] at H
        have c10b0 : (a0_0 == a1_0) = true := beq_iff_eq.mpr c10
        have c10b1 : (a0_0 != a1_0) = false := bne_eq_false_iff_eq.mpr c10
        clear c10
        by_cases c11 : a0_1 < a1_1
        · rw [if_pos c11] at H
          have c11b0 : decide (a0_1 < a1_1) = true := decide_eq_true c11
          clear c11
          have H' := Aside0.mk H
          clear H
          have hnb12 := NB129_130.out
          have hnc12 := NB130_129.out
          obtain ⟨hcz13_0, hcz13_1, hcz13_2, hfz13_0, hfz13_1, hfz13_2⟩ := bf3 BK129.out
          obtain ⟨hcz14_0, hcz14_1, hcz14_2, hfz14_0, hfz14_1, hfz14_2⟩ := bf3 BK130.out
          go_wp2
          go_meet
          case rel => exact ⟨_, (true), (by first | rfl | (simp; done) | (simp [*]; done) | (simp; rw [Bool.eq_iff_iff]; simp; done)), H', ⟨by first | omega | exact Nat.le_refl _⟩, ⟨by (with_reducible repeat (first | refine blk_drewN ?_ _ | refine blk_drew ?_ | refine blk_alloc ?_ _)); exact BK129.out⟩, ⟨by (with_reducible repeat (first | refine blk_drewN ?_ _ | refine blk_drew ?_ | refine blk_alloc ?_ _)); exact BK130.out⟩, ⟨by repeat (first | (with_reducible first | exact HB.out | apply below_alloc | apply pw_below_drewN | apply below_drew1 | refine below_set ?_ GE129.out | refine below_set ?_ GE130.out) | exact HB.out)⟩⟩
        · rw [if_neg c11] at H
          have c11b0 : decide (a0_1 < a1_1) = false := decide_eq_false c11
          clear c11
          by_cases c15 : a0_1 = a1_1
          · rw [if_pos c15] at H
            have c15b0 : (a0_1 == a1_1) = true := beq_iff_eq.mpr c15
            have c15b1 : (a0_1 != a1_1) = false := bne_eq_false_iff_eq.mpr c15
            clear c15
            have H' := Aside0.mk H
            clear H
            have hnb16 := NB129_130.out
            have hnc16 := NB130_129.out
            obtain ⟨hcz17_0, hcz17_1, hcz17_2, hfz17_0, hfz17_1, hfz17_2⟩ := bf3 BK129.out
            obtain ⟨hcz18_0, hcz18_1, hcz18_2, hfz18_0, hfz18_1, hfz18_2⟩ := bf3 BK130.out
            go_wp2
            go_meet
            case rel => exact ⟨_, ((Op.bytesLess a0_2.toList a1_2.toList)), (by first | rfl | (simp; done) | (simp [*]; done) | (simp; rw [Bool.eq_iff_iff]; simp; done)), H', ⟨by first | omega | exact Nat.le_refl _⟩, ⟨by (with_reducible repeat (first | refine blk_drewN ?_ _ | refine blk_drew ?_ | refine blk_alloc ?_ _)); exact BK129.out⟩, ⟨by (with_reducible repeat (first | refine blk_drewN ?_ _ | refine blk_drew ?_ | refine blk_alloc ?_ _)); exact BK130.out⟩, ⟨by repeat (first | (with_reducible first | exact HB.out | apply below_alloc | apply pw_below_drewN | apply below_drew1 | refine below_set ?_ GE129.out | refine below_set ?_ GE130.out) | exact HB.out)⟩⟩
          · rw [if_neg c15] at H
            have c15b0 : (a0_1 == a1_1) = false := beq_eq_false_iff_ne.mpr c15
            have c15b1 : (a0_1 != a1_1) = true := bne_iff_ne.mpr c15
            have H' := Aside0.mk H
            clear H
            have hnb19 := NB129_130.out
            have hnc19 := NB130_129.out
            obtain ⟨hcz20_0, hcz20_1, hcz20_2, hfz20_0, hfz20_1, hfz20_2⟩ := bf3 BK129.out
            obtain ⟨hcz21_0, hcz21_1, hcz21_2, hfz21_0, hfz21_1, hfz21_2⟩ := bf3 BK130.out
            go_wp2
            go_meet
            case rel => exact ⟨_, (false), (by first | rfl | (simp; done) | (simp [*]; done) | (simp; rw [Bool.eq_iff_iff]; simp; done)), H', ⟨by first | omega | exact Nat.le_refl _⟩, ⟨by (with_reducible repeat (first | refine blk_drewN ?_ _ | refine blk_drew ?_ | refine blk_alloc ?_ _)); exact BK129.out⟩, ⟨by (with_reducible repeat (first | refine blk_drewN ?_ _ | refine blk_drew ?_ | refine blk_alloc ?_ _)); exact BK130.out⟩, ⟨by repeat (first | (with_reducible first | exact HB.out | apply below_alloc | apply pw_below_drewN | apply below_drew1 | refine below_set ?_ GE129.out | refine below_set ?_ GE130.out) | exact HB.out)⟩⟩
      · rw [if_neg c10] at H
        have c10b0 : (a0_0 == a1_0) = false := beq_eq_false_iff_ne.mpr c10
        have c10b1 : (a0_0 != a1_0) = true := bne_iff_ne.mpr c10
        have H' := Aside0.mk H
        clear H
        have hnb22 := NB129_130.out
        have hnc22 := NB130_129.out
        obtain ⟨hcz23_0, hcz23_1, hcz23_2, hfz23_0, hfz23_1, hfz23_2⟩ := bf3 BK129.out
        obtain ⟨hcz24_0, hcz24_1, hcz24_2, hfz24_0, hfz24_1, hfz24_2⟩ := bf3 BK130.out
        go_wp2
        go_meet
        case rel => exact ⟨_, (false), (by first | rfl | (simp; done) | (simp [*]; done) | (simp; rw [Bool.eq_iff_iff]; simp; done)), H', ⟨by first | omega | exact Nat.le_refl _⟩, ⟨by (with_reducible repeat (first | refine blk_drewN ?_ _ | refine blk_drew ?_ | refine blk_alloc ?_ _)); exact BK129.out⟩, ⟨by (with_reducible repeat (first | refine blk_drewN ?_ _ | refine blk_drew ?_ | refine blk_alloc ?_ _)); exact BK130.out⟩, ⟨by repeat (first | (with_reducible first | exact HB.out | apply below_alloc | apply pw_below_drewN | apply below_drew1 | refine below_set ?_ GE129.out | refine below_set ?_ GE130.out) | exact HB.out)⟩⟩
  case rest =>
    clear HC3
    try clear c1
    try clear c2
    try clear p2
    try clear c6
    try clear c6b0
    try clear c7
    try clear c10
    try clear c10b0
    try clear c10b1
    try clear c11
    try clear c11b0
    try clear c12
    try clear c15
    try clear c15b0
    try clear c15b1
    try clear c16
    try clear c19
    try clear c22
    try clear hcz13_0
    try clear hcz13_1
    try clear hcz13_2
    try clear hcz14_0
    try clear hcz14_1
    try clear hcz14_2
    try clear hcz17_0
    try clear hcz17_1
    try clear hcz17_2
    try clear hcz18_0
    try clear hcz18_1
    try clear hcz18_2
    try clear hcz20_0
    try clear hcz20_1
    try clear hcz20_2
    try clear hcz21_0
    try clear hcz21_1
    try clear hcz21_2
    try clear hcz23_0
    try clear hcz23_1
    try clear hcz23_2
    try clear hcz24_0
    try clear hcz24_1
    try clear hcz24_2
    try clear hcz8_0
    try clear hcz8_1
    try clear hcz8_2
    try clear hcz9_0
    try clear hcz9_1
    try clear hcz9_2
    try clear hfz13_0
    try clear hfz13_1
    try clear hfz13_2
    try clear hfz14_0
    try clear hfz14_1
    try clear hfz14_2
    try clear hfz17_0
    try clear hfz17_1
    try clear hfz17_2
    try clear hfz18_0
    try clear hfz18_1
    try clear hfz18_2
    try clear hfz20_0
    try clear hfz20_1
    try clear hfz20_2
    try clear hfz21_0
    try clear hfz21_1
    try clear hfz21_2
    try clear hfz23_0
    try clear hfz23_1
    try clear hfz23_2
    try clear hfz24_0
    try clear hfz24_1
    try clear hfz24_2
    try clear hfz8_0
    try clear hfz8_1
    try clear hfz8_2
    try clear hfz9_0
    try clear hfz9_1
    try clear hfz9_2
    obtain ⟨kq, x37_2, rfl, HA, HJ2, BK129, BK130, HB⟩ := hcut
    cases kq with
    | zero => exact absurd HA.out (by simp [headgateref03_Cmp.j0])
    | succ kj2 =>
      have H := HA.out
      clear HA
      simp only [headgateref03_Cmp.j0] at H
      by_cases c25 : x37_2 = true
      · subst c25
        have H1 : (some (-1)) = some r := by rw [if_pos rfl] at H; exact H
        clear H
        have H := H1
        clear H1
        obtain rfl := Option.some.inj H
        go_wp2
        go_ret
        exact ⟨by first | rfl | (simp [errW_none, errW_some] <;> rfl) | (simp [*, errW_none, errW_some] <;> rfl), by repeat (first | (with_reducible first | exact HB.out | apply below_alloc | apply pw_below_drewN | apply below_drew1 | refine below_set ?_ GE129.out | refine below_set ?_ GE130.out) | exact HB.out)⟩
      · replace c25 := Bool.eq_false_iff.mpr c25
        subst c25
        have H1 : (if (a0_0 == a1_0 && (a0_1 == a1_1 && (a0_2.toList == a1_2.toList))) = true then (some 0) else (some 1)) = some r := by rw [if_neg (show ¬ (false = true) by decide)] at H; exact H
        clear H
        have H := H1
        clear H1
        by_cases c26 : (a0_0 == a1_0 && (a0_1 == a1_1 && (a0_2.toList == a1_2.toList))) = true
        · rw [if_pos c26] at H
          have c26b0 : (a0_0 == a1_0 && (a0_1 == a1_1 && (a0_2.toList == a1_2.toList))) = true := c26
          (try (have c26b1 : decide (a0_0 = a1_0 && (a0_1 == a1_1 && (a0_2.toList == a1_2.toList))) = true := by simpa using c26))
          (try (have c26b2 : (a0_0 == a1_0 && (a0_1 == a1_1 && (a0_2.toList == a1_2.toList))) = true := by simpa using c26))
          clear c26
          obtain rfl := Option.some.inj H
          have hnb27 := NB129_130.out
          have hnc27 := NB130_129.out
          obtain ⟨hcz28_0, hcz28_1, hcz28_2, hfz28_0, hfz28_1, hfz28_2⟩ := bf3 BK129.out
          obtain ⟨hcz29_0, hcz29_1, hcz29_2, hfz29_0, hfz29_1, hfz29_2⟩ := bf3 BK130.out
          go_wp2
          go_ret
          exact ⟨by first | rfl | (simp [errW_none, errW_some] <;> rfl) | (simp [*, errW_none, errW_some] <;> rfl), by repeat (first | (with_reducible first | exact HB.out | apply below_alloc | apply pw_below_drewN | apply below_drew1 | refine below_set ?_ GE129.out | refine below_set ?_ GE130.out) | exact HB.out)⟩
        · rw [if_neg c26] at H
          have c26b0 : (a0_0 == a1_0 && (a0_1 == a1_1 && (a0_2.toList == a1_2.toList))) = false := by simpa using c26
          (try (have c26b1 : decide (a0_0 = a1_0 && (a0_1 == a1_1 && (a0_2.toList == a1_2.toList))) = false := by simpa using c26))
          (try (have c26b2 : (a0_0 == a1_0 && (a0_1 == a1_1 && (a0_2.toList == a1_2.toList))) = false := by simpa using c26))
          (try (have c26b3 : ¬ (a0_0 = a1_0 && (a0_1 == a1_1 && (a0_2.toList == a1_2.toList))) := by simpa using c26))
          clear c26
          obtain rfl := Option.some.inj H
          have hnb30 := NB129_130.out
          have hnc30 := NB130_129.out
          obtain ⟨hcz31_0, hcz31_1, hcz31_2, hfz31_0, hfz31_1, hfz31_2⟩ := bf3 BK129.out
          obtain ⟨hcz32_0, hcz32_1, hcz32_2, hfz32_0, hfz32_1, hfz32_2⟩ := bf3 BK130.out
          go_wp2
          go_ret
          exact ⟨by first | rfl | (simp [errW_none, errW_some] <;> rfl) | (simp [*, errW_none, errW_some] <;> rfl), by repeat (first | (with_reducible first | exact HB.out | apply below_alloc | apply pw_below_drewN | apply below_drew1 | refine below_set ?_ GE129.out | refine below_set ?_ GE130.out) | exact HB.out)⟩

/-! ### headgateref03_CmpRow: function 116 -/
def headgateref03_CmpRow.l0 : Nat → List (S116) → List (S116) → Int → Option (Int)
  | 0, _, _, _ => none
  | k + 1, x0, x1, x5 => if x5 < (x0.length : Int) then (if x5 ≥ (x1.length : Int) then (some 1) else (if 0 ≤ x5 then (if x5 < (x1.length : Int) then ((headgateref03_Cmp.f k ((rd_T116 x0 x5).f0) ((rd_T116 x0 x5).f1) ((rd_T116 x0 x5).f2) ((rd_T116 x1 x5).f0) ((rd_T116 x1 x5).f1) ((rd_T116 x1 x5).f2)).bind fun t133 => (if t133 = 0 then (headgateref03_CmpRow.l0 k x0 x1 (wrap64 (x5 + 1))) else (some t133))) else (none)) else (none))) else (if (x0.length : Int) < (x1.length : Int) then (some (-1)) else (some 0))
def headgateref03_CmpRow.f (k : Nat) (l0 : List (S116)) (l1 : List (S116)) : Option (Int) := headgateref03_CmpRow.l0 k l0 l1 0
def headgateref03_CmpRow.T6 : Bool × List (List Nat × List Nat) := (true, [([], []), ([], []), ([0, 1], [0, 1]), ([2], [2]), ([], []), ([], []), ([4, 5], [4, 5]), ([6], [6]), ([3, 7], [3, 7]), ([8, 8, 0, 1, 2, 3, 4, 5, 6, 7, 8], [8])])
def headgateref03_CmpRow.B6 : List Nat := [0, 0, 3, 7, 0, 0, 48, 112, 255, 511]
theorem headgateref03_CmpRow.tab6 : rtab .any (opsOf Try.f116 6) = headgateref03_CmpRow.T6 := by kernel_rfl
theorem headgateref03_CmpRow.bits6 : waitsOk headgateref03_CmpRow.T6.2 headgateref03_CmpRow.B6 = true := by kernel_rfl
set_option maxHeartbeats 8000000 in
set_option maxRecDepth 100000 in
theorem headgateref03_CmpRow.calls (k : Nat) (A0 : Option Addr) (c0 : Nat) (l0 : List (S116)) (A1 : Option Addr) (c1 : Nat) (l1 : List (S116)) (r : Int) (w : World) (hr0 : Kd.C k116 w A0 l0.length l0) (hc0 : l0.length ≤ c0) (hr1 : Kd.C k116 w A1 l1.length l1) (hc1 : l1.length ≤ c1) (h : headgateref03_CmpRow.f k l0 l1 = some r) :
    Calls Try.prog 116 #[.slice A0 l0.length c0, .slice A1 l1.length c1] w fun e w' => e = .returned (.int .i64 r) ∧ Below w.heap.size w w' := by
  have hu116 := Try.underlying116
  have HR0 := Aside0.mk hr0
  have HC0 := Aside0.mk hc0
  clear hr0 hc0
  have HR1 := Aside0.mk hr1
  have HC1 := Aside0.mk hc1
  clear hr1 hc1
  have HB := Aside0.mk (Below.refl w.heap.size w)
  have H : (headgateref03_CmpRow.l0 k l0 l1 0) = some r := h
  clear h
  have H' := Aside0.mk H
  clear H
  go_enter Try.func116, Try.ntmps116
  go_wp2
  go_loopg [5] k (fun kq v5 w' => ∃ (x5_1 : Int), v5 = .int .i64 x5_1 ∧ Aside0 (headgateref03_CmpRow.l0 kq l0 l1 x5_1 = some r) ∧ Aside0 (kq ≤ k) ∧ Aside0 (Below w.heap.size w w'))
  case atStart => exact ⟨(0), (by first | rfl | (simp; done) | (simp [*]; done) | (simp; rw [Bool.eq_iff_iff]; simp; done)), H', ⟨Nat.le_refl _⟩, ⟨by repeat (first | (with_reducible first | exact HB.out | apply below_alloc | apply pw_below_drewN | apply below_drew1) | exact HB.out)⟩⟩
  case round =>
    clear H'
    try clear c1
    try clear p2
    obtain ⟨x5_1, rfl, HA, HK1, HB⟩ := hrel
    cases gk with
    | zero => exact absurd HA.out (by simp [headgateref03_CmpRow.l0])
    | succ k1 =>
      have H := HA.out
      clear HA
      simp only [headgateref03_CmpRow.l0] at H
      by_cases c3 : x5_1 < (l0.length : Int)
      · rw [if_pos c3] at H
        have c3b0 : decide (x5_1 < (l0.length : Int)) = true := decide_eq_true c3
        clear c3
        by_cases c4 : x5_1 ≥ (l1.length : Int)
        · rw [if_pos c4] at H
          have c4b0 : decide ((l1.length : Int) ≤ x5_1) = true := decide_eq_true c4
          clear c4
          obtain rfl := Option.some.inj H
          go_wp2
          go_ret
          exact ⟨by first | rfl | (simp [errW_none, errW_some] <;> rfl) | (simp [*, errW_none, errW_some] <;> rfl), by repeat (first | (with_reducible first | exact HB.out | apply below_alloc | apply pw_below_drewN | apply below_drew1) | exact HB.out)⟩
        · rw [if_neg c4] at H
          have c4b0 : decide ((l1.length : Int) ≤ x5_1) = false := decide_eq_false c4
          clear c4
          by_cases c5 : 0 ≤ x5_1
          · rw [if_pos c5] at H
            have c5b0 : decide (0 ≤ x5_1) = true := decide_eq_true c5
            clear c5
            by_cases c6 : x5_1 < (l1.length : Int)
            · rw [if_pos c6] at H
              have c6b0 : decide (x5_1 < (l1.length : Int)) = true := decide_eq_true c6
              clear c6
              replace H := Option.bind_eq_some_iff.mp H
              obtain ⟨t133, A70, H⟩ := H
              replace H : (if t133 = 0 then (headgateref03_CmpRow.l0 k1 l0 l1 (wrap64 (x5_1 + 1))) else (some t133)) = some r := H
              have A7 := Aside0.mk A70
              clear A70
              by_cases c8 : t133 = 0
              · rw [if_pos c8] at H
                have c8b0 : (t133 == 0) = true := beq_iff_eq.mpr c8
                have c8b1 : (t133 != 0) = false := bne_eq_false_iff_eq.mpr c8
                clear c8
                have H' := Aside0.mk H
                clear H
                try go_wp2
                have n0_ := Aside0.mk (below_drew1 HB.out)
                clear HB
                have HB := n0_
                clear n0_
                have p131 : 0 ≤ (x5_1 : Int) := of_decide_eq_true (by first | (with_reducible assumption) | assumption)
                have q131 : x5_1 < (l0.length : Int) := of_decide_eq_true (by first | (with_reducible assumption) | assumption)
                obtain ⟨ad131, e131, hx131_0, hx131_1, hx131_2⟩ := at_T116 HR0.out x5_1 p131 q131
                have hw131_2 := hx131_2
                have hw131_1 := hx131_1
                have hw131_0 := hx131_0
                cases e131
                replace hx131_0 := (HB.out.cell (World.block_lt_of_cell? w _ hx131_0)).trans hx131_0
                replace hx131_1 := (HB.out.cell (World.block_lt_of_cell? w _ hx131_1)).trans hx131_1
                replace hx131_2 := (HB.out.cell (World.block_lt_of_cell? w _ hx131_2)).trans hx131_2
                replace p131 := eq_true p131
                replace q131 := eq_true q131
                have p132 : 0 ≤ (x5_1 : Int) := of_decide_eq_true (by first | (with_reducible assumption) | assumption)
                have q132 : x5_1 < (l1.length : Int) := of_decide_eq_true (by first | (with_reducible assumption) | assumption)
                obtain ⟨ad132, e132, hx132_0, hx132_1, hx132_2⟩ := at_T116 HR1.out x5_1 p132 q132
                have hw132_2 := hx132_2
                have hw132_1 := hx132_1
                have hw132_0 := hx132_0
                cases e132
                replace hx132_0 := (HB.out.cell (World.block_lt_of_cell? w _ hx132_0)).trans hx132_0
                replace hx132_1 := (HB.out.cell (World.block_lt_of_cell? w _ hx132_1)).trans hx132_1
                replace hx132_2 := (HB.out.cell (World.block_lt_of_cell? w _ hx132_2)).trans hx132_2
                replace p132 := eq_true p132
                replace q132 := eq_true q132
                refine start_ (n := 10) (S := fun w' => w'.cell? (ad131.add ((x5_1).toNat * 3)) = some (.int .i64 ((rd_T116 l0 x5_1).f0)) ∧ w'.cell? ⟨(ad131.add ((x5_1).toNat * 3)).block, (ad131.add ((x5_1).toNat * 3)).off + 1, none⟩ = some (.int .i64 ((rd_T116 l0 x5_1).f1)) ∧ w'.cell? ⟨(ad131.add ((x5_1).toNat * 3)).block, (ad131.add ((x5_1).toNat * 3)).off + 2, none⟩ = some (.string ((rd_T116 l0 x5_1).f2)) ∧ w'.cell? (ad132.add ((x5_1).toNat * 3)) = some (.int .i64 ((rd_T116 l1 x5_1).f0)) ∧ w'.cell? ⟨(ad132.add ((x5_1).toNat * 3)).block, (ad132.add ((x5_1).toNat * 3)).off + 1, none⟩ = some (.int .i64 ((rd_T116 l1 x5_1).f1)) ∧ w'.cell? ⟨(ad132.add ((x5_1).toNat * 3)).block, (ad132.add ((x5_1).toNat * 3)).off + 2, none⟩ = some (.string ((rd_T116 l1 x5_1).f2))) (ds := []) #[false, false, false, false, false, false, false, false, false, false] (by kernel_rfl) rfl rfl ⟨((HB.out.cell (World.block_lt_of_cell? w _ hw131_0)).trans hw131_0), ((HB.out.cell (World.block_lt_of_cell? w _ hw131_1)).trans hw131_1), ((HB.out.cell (World.block_lt_of_cell? w _ hw131_2)).trans hw131_2), ((HB.out.cell (World.block_lt_of_cell? w _ hw132_0)).trans hw132_0), ((HB.out.cell (World.block_lt_of_cell? w _ hw132_1)).trans hw132_1), ((HB.out.cell (World.block_lt_of_cell? w _ hw132_2)).trans hw132_2)⟩ (fun hHeld => ?_); refine with_tabW headgateref03_CmpRow.tab6 headgateref03_CmpRow.bits6 (fun HT_ HW_ => ?_)
                generalize wr.drew = w9 at HB hx131_0 hx131_1 hx131_2 hx132_0 hx132_1 hx132_2 hHeld ⊢
                refine pure_ (i := 0) (N := some 17) (v := ?_) (a' := ?_) #[true, false, false, false, false, false, false, false, false, false] rfl rfl (any_of HT_.out (by kernel_rfl)) (fun _ _ _ h => h) (Or.inl ⟨by rfl, ?_⟩) ?_ ?_
                rotate_left
                · intro w'
                  go_simp
                  with_reducible rfl
                rotate_left
                · simp only [Act.put, List.setIfInBounds_toArray, List.set_cons_zero, List.set_cons_succ, i64_w, i32_w]
                  rfl
                refine pure_ (i := 1) (N := some 18) (v := ?_) (a' := ?_) #[true, true, false, false, false, false, false, false, false, false] rfl rfl (any_of HT_.out (by kernel_rfl)) (fun _ _ _ h => h) (Or.inl ⟨by rfl, ?_⟩) ?_ ?_
                rotate_left
                · intro w'
                  go_simp
                  with_reducible rfl
                rotate_left
                · simp only [Act.put, List.setIfInBounds_toArray, List.set_cons_zero, List.set_cons_succ, i64_w, i32_w]
                  rfl
                refine pure_ (i := 2) (N := some 19) (v := ?_) (a' := ?_) #[true, true, true, false, false, false, false, false, false, false] rfl rfl (any_of HT_.out (by kernel_rfl)) (fun _ _ _ h => h) (Or.inl ⟨by rfl, ?_⟩) ?_ ?_
                rotate_left
                · intro w'
                  go_simp
                  with_reducible rfl
                rotate_left
                · simp only [Act.put, List.setIfInBounds_toArray, List.set_cons_zero, List.set_cons_succ, i64_w, i32_w]
                  rfl
                refine pure_ (i := 4) (N := some 21) (v := ?_) (a' := ?_) #[true, true, true, false, true, false, false, false, false, false] rfl rfl (any_of HT_.out (by kernel_rfl)) (fun _ _ _ h => h) (Or.inl ⟨by rfl, ?_⟩) ?_ ?_
                rotate_left
                · intro w'
                  go_simp
                  with_reducible rfl
                rotate_left
                · simp only [Act.put, List.setIfInBounds_toArray, List.set_cons_zero, List.set_cons_succ, i64_w, i32_w]
                  rfl
                refine pure_ (i := 5) (N := some 22) (v := ?_) (a' := ?_) #[true, true, true, false, true, true, false, false, false, false] rfl rfl (any_of HT_.out (by kernel_rfl)) (fun _ _ _ h => h) (Or.inl ⟨by rfl, ?_⟩) ?_ ?_
                rotate_left
                · intro w'
                  go_simp
                  with_reducible rfl
                rotate_left
                · simp only [Act.put, List.setIfInBounds_toArray, List.set_cons_zero, List.set_cons_succ, i64_w, i32_w]
                  rfl
                refine pure_ (i := 6) (N := some 23) (v := ?_) (a' := ?_) #[true, true, true, false, true, true, true, false, false, false] rfl rfl (any_of HT_.out (by kernel_rfl)) (fun _ _ _ h => h) (Or.inl ⟨by rfl, ?_⟩) ?_ ?_
                rotate_left
                · intro w'
                  go_simp
                  with_reducible rfl
                rotate_left
                · simp only [Act.put, List.setIfInBounds_toArray, List.set_cons_zero, List.set_cons_succ, i64_w, i32_w]
                  rfl
                refine take_ (i := 3) (N := some 20) (v := ?_) (a' := ?_) #[true, true, true, true, true, true, true, false, false, false] rfl rfl (take_ofW HT_.out HW_.out (by kernel_rfl)) (fun _ _ _ h => h) (Or.inl ⟨by rfl, ?_⟩) hHeld ?_ ?_
                rotate_left
                · rintro w' ⟨s0, s1, s2, s3, s4, s5⟩
                  go_simp
                  with_reducible rfl
                rotate_left
                · simp only [Act.put, List.setIfInBounds_toArray, List.set_cons_zero, List.set_cons_succ, i64_w, i32_w]
                  rfl
                refine take_ (i := 7) (N := some 24) (v := ?_) (a' := ?_) #[true, true, true, true, true, true, true, true, false, false] rfl rfl (take_ofW HT_.out HW_.out (by kernel_rfl)) (fun _ _ _ h => h) (Or.inl ⟨by rfl, ?_⟩) hHeld ?_ ?_
                rotate_left
                · rintro w' ⟨s0, s1, s2, s3, s4, s5⟩
                  go_simp
                  with_reducible rfl
                rotate_left
                · simp only [Act.put, List.setIfInBounds_toArray, List.set_cons_zero, List.set_cons_succ, i64_w, i32_w]
                  rfl
                refine one_ (i := 8) (N := some 25) #[true, true, true, true, true, true, true, true, true, false] rfl rfl (one_of HT_.out (by kernel_rfl)) (by decide) (fun K hK => ?_)
                refine goes_ Try.func119 (by kernel_rfl) rfl #[.agg #[.int .i64 ((rd_T116 l0 x5_1).f0), .int .i64 ((rd_T116 l0 x5_1).f1), .string ((rd_T116 l0 x5_1).f2)], .agg #[.int .i64 ((rd_T116 l1 x5_1).f0), .int .i64 ((rd_T116 l1 x5_1).f1), .string ((rd_T116 l1 x5_1).f2)]] (by rfl) rfl rfl (by (try simp only [List.map_toArray, List.map_cons, List.map_nil]); first | done | rfl | (simp only [List.length_drop, List.length_take]; rfl) | exact congrArg (fun x_ : Int => #[Value.int .u64 x_]) (show _ = _ % (18446744073709551616 : Int) by omega)) ?_
                with_reducible refine (headgateref03_Cmp.calls k1 ((rd_T116 l0 x5_1).f0) ((rd_T116 l0 x5_1).f1) ((rd_T116 l0 x5_1).f2) ((rd_T116 l1 x5_1).f0) ((rd_T116 l1 x5_1).f1) ((rd_T116 l1 x5_1).f2) t133 _ A7.out).mono ?_
                rintro e w10 ⟨rfl, hb⟩
                refine ⟨_, rfl, ?_⟩
                have n0_ := Aside0.mk (below_step (by repeat (first | (with_reducible first | exact HB.out | apply below_alloc | apply pw_below_drewN | apply below_drew1) | exact HB.out)) hb)
                clear HB
                have HB := n0_
                clear n0_
                (try clear hb)
                (try clear hb2)
                (try clear hk)
                (try clear hi)
                refine hK.out _ _ ⟨((HB.out.cell (World.block_lt_of_cell? w _ hw131_0)).trans hw131_0), ((HB.out.cell (World.block_lt_of_cell? w _ hw131_1)).trans hw131_1), ((HB.out.cell (World.block_lt_of_cell? w _ hw131_2)).trans hw131_2), ((HB.out.cell (World.block_lt_of_cell? w _ hw132_0)).trans hw132_0), ((HB.out.cell (World.block_lt_of_cell? w _ hw132_1)).trans hw132_1), ((HB.out.cell (World.block_lt_of_cell? w _ hw132_2)).trans hw132_2)⟩ (fun hHeld => ?_)
                clear hK K
                refine norm_ (a' := ?_) ?_ ?_
                rotate_left
                · show Act.put _ (some 25) _ = _
                  simp only [Act.put, List.setIfInBounds_toArray, List.set_cons_zero, List.set_cons_succ, i64_w, i32_w]
                  rfl
                refine pure_ (i := 9) (N := some 6) (v := ?_) (a' := ?_) #[true, true, true, true, true, true, true, true, true, true] rfl rfl (any_of HT_.out (by kernel_rfl)) (fun _ _ _ h => h) (Or.inl ⟨by rfl, ?_⟩) ?_ ?_
                rotate_left
                · intro w'
                  go_simp
                  with_reducible rfl
                rotate_left
                · simp only [Act.put, List.setIfInBounds_toArray, List.set_cons_zero, List.set_cons_succ, i64_w, i32_w]
                  rfl
                refine done_ (done_of HT_.out (by kernel_rfl)) ?_
                try go_wp2
                go_roundg k1
                case measure => have := HK1.out; omega
                case rel => exact ⟨(wrap64 (x5_1 + 1)), (by first | rfl | (simp; done) | (simp [*]; done) | (simp; rw [Bool.eq_iff_iff]; simp; done)), H', ⟨by have := HK1.out; omega⟩, ⟨by repeat (first | (with_reducible first | exact HB.out | apply below_alloc | apply pw_below_drewN | apply below_drew1) | exact HB.out)⟩⟩
              · rw [if_neg c8] at H
                have c8b0 : (t133 == 0) = false := beq_eq_false_iff_ne.mpr c8
                have c8b1 : (t133 != 0) = true := bne_iff_ne.mpr c8
                obtain rfl := Option.some.inj H
                try go_wp2
                have n0_ := Aside0.mk (below_drew1 HB.out)
                clear HB
                have HB := n0_
                clear n0_
                have p131 : 0 ≤ (x5_1 : Int) := of_decide_eq_true (by first | (with_reducible assumption) | assumption)
                have q131 : x5_1 < (l0.length : Int) := of_decide_eq_true (by first | (with_reducible assumption) | assumption)
                obtain ⟨ad131, e131, hx131_0, hx131_1, hx131_2⟩ := at_T116 HR0.out x5_1 p131 q131
                have hw131_2 := hx131_2
                have hw131_1 := hx131_1
                have hw131_0 := hx131_0
                cases e131
                replace hx131_0 := (HB.out.cell (World.block_lt_of_cell? w _ hx131_0)).trans hx131_0
                replace hx131_1 := (HB.out.cell (World.block_lt_of_cell? w _ hx131_1)).trans hx131_1
                replace hx131_2 := (HB.out.cell (World.block_lt_of_cell? w _ hx131_2)).trans hx131_2
                replace p131 := eq_true p131
                replace q131 := eq_true q131
                have p132 : 0 ≤ (x5_1 : Int) := of_decide_eq_true (by first | (with_reducible assumption) | assumption)
                have q132 : x5_1 < (l1.length : Int) := of_decide_eq_true (by first | (with_reducible assumption) | assumption)
                obtain ⟨ad132, e132, hx132_0, hx132_1, hx132_2⟩ := at_T116 HR1.out x5_1 p132 q132
                have hw132_2 := hx132_2
                have hw132_1 := hx132_1
                have hw132_0 := hx132_0
                cases e132
                replace hx132_0 := (HB.out.cell (World.block_lt_of_cell? w _ hx132_0)).trans hx132_0
                replace hx132_1 := (HB.out.cell (World.block_lt_of_cell? w _ hx132_1)).trans hx132_1
                replace hx132_2 := (HB.out.cell (World.block_lt_of_cell? w _ hx132_2)).trans hx132_2
                replace p132 := eq_true p132
                replace q132 := eq_true q132
                refine start_ (n := 10) (S := fun w' => w'.cell? (ad131.add ((x5_1).toNat * 3)) = some (.int .i64 ((rd_T116 l0 x5_1).f0)) ∧ w'.cell? ⟨(ad131.add ((x5_1).toNat * 3)).block, (ad131.add ((x5_1).toNat * 3)).off + 1, none⟩ = some (.int .i64 ((rd_T116 l0 x5_1).f1)) ∧ w'.cell? ⟨(ad131.add ((x5_1).toNat * 3)).block, (ad131.add ((x5_1).toNat * 3)).off + 2, none⟩ = some (.string ((rd_T116 l0 x5_1).f2)) ∧ w'.cell? (ad132.add ((x5_1).toNat * 3)) = some (.int .i64 ((rd_T116 l1 x5_1).f0)) ∧ w'.cell? ⟨(ad132.add ((x5_1).toNat * 3)).block, (ad132.add ((x5_1).toNat * 3)).off + 1, none⟩ = some (.int .i64 ((rd_T116 l1 x5_1).f1)) ∧ w'.cell? ⟨(ad132.add ((x5_1).toNat * 3)).block, (ad132.add ((x5_1).toNat * 3)).off + 2, none⟩ = some (.string ((rd_T116 l1 x5_1).f2))) (ds := []) #[false, false, false, false, false, false, false, false, false, false] (by kernel_rfl) rfl rfl ⟨((HB.out.cell (World.block_lt_of_cell? w _ hw131_0)).trans hw131_0), ((HB.out.cell (World.block_lt_of_cell? w _ hw131_1)).trans hw131_1), ((HB.out.cell (World.block_lt_of_cell? w _ hw131_2)).trans hw131_2), ((HB.out.cell (World.block_lt_of_cell? w _ hw132_0)).trans hw132_0), ((HB.out.cell (World.block_lt_of_cell? w _ hw132_1)).trans hw132_1), ((HB.out.cell (World.block_lt_of_cell? w _ hw132_2)).trans hw132_2)⟩ (fun hHeld => ?_); refine with_tabW headgateref03_CmpRow.tab6 headgateref03_CmpRow.bits6 (fun HT_ HW_ => ?_)
                generalize wr.drew = w11 at HB hx131_0 hx131_1 hx131_2 hx132_0 hx132_1 hx132_2 hHeld ⊢
                refine pure_ (i := 0) (N := some 17) (v := ?_) (a' := ?_) #[true, false, false, false, false, false, false, false, false, false] rfl rfl (any_of HT_.out (by kernel_rfl)) (fun _ _ _ h => h) (Or.inl ⟨by rfl, ?_⟩) ?_ ?_
                rotate_left
                · intro w'
                  go_simp
                  with_reducible rfl
                rotate_left
                · simp only [Act.put, List.setIfInBounds_toArray, List.set_cons_zero, List.set_cons_succ, i64_w, i32_w]
                  rfl
                refine pure_ (i := 1) (N := some 18) (v := ?_) (a' := ?_) #[true, true, false, false, false, false, false, false, false, false] rfl rfl (any_of HT_.out (by kernel_rfl)) (fun _ _ _ h => h) (Or.inl ⟨by rfl, ?_⟩) ?_ ?_
                rotate_left
                · intro w'
                  go_simp
                  with_reducible rfl
                rotate_left
                · simp only [Act.put, List.setIfInBounds_toArray, List.set_cons_zero, List.set_cons_succ, i64_w, i32_w]
                  rfl
                refine pure_ (i := 2) (N := some 19) (v := ?_) (a' := ?_) #[true, true, true, false, false, false, false, false, false, false] rfl rfl (any_of HT_.out (by kernel_rfl)) (fun _ _ _ h => h) (Or.inl ⟨by rfl, ?_⟩) ?_ ?_
                rotate_left
                · intro w'
                  go_simp
                  with_reducible rfl
                rotate_left
                · simp only [Act.put, List.setIfInBounds_toArray, List.set_cons_zero, List.set_cons_succ, i64_w, i32_w]
                  rfl
                refine pure_ (i := 4) (N := some 21) (v := ?_) (a' := ?_) #[true, true, true, false, true, false, false, false, false, false] rfl rfl (any_of HT_.out (by kernel_rfl)) (fun _ _ _ h => h) (Or.inl ⟨by rfl, ?_⟩) ?_ ?_
                rotate_left
                · intro w'
                  go_simp
                  with_reducible rfl
                rotate_left
                · simp only [Act.put, List.setIfInBounds_toArray, List.set_cons_zero, List.set_cons_succ, i64_w, i32_w]
                  rfl
                refine pure_ (i := 5) (N := some 22) (v := ?_) (a' := ?_) #[true, true, true, false, true, true, false, false, false, false] rfl rfl (any_of HT_.out (by kernel_rfl)) (fun _ _ _ h => h) (Or.inl ⟨by rfl, ?_⟩) ?_ ?_
                rotate_left
                · intro w'
                  go_simp
                  with_reducible rfl
                rotate_left
                · simp only [Act.put, List.setIfInBounds_toArray, List.set_cons_zero, List.set_cons_succ, i64_w, i32_w]
                  rfl
                refine pure_ (i := 6) (N := some 23) (v := ?_) (a' := ?_) #[true, true, true, false, true, true, true, false, false, false] rfl rfl (any_of HT_.out (by kernel_rfl)) (fun _ _ _ h => h) (Or.inl ⟨by rfl, ?_⟩) ?_ ?_
                rotate_left
                · intro w'
                  go_simp
                  with_reducible rfl
                rotate_left
                · simp only [Act.put, List.setIfInBounds_toArray, List.set_cons_zero, List.set_cons_succ, i64_w, i32_w]
                  rfl
                refine take_ (i := 3) (N := some 20) (v := ?_) (a' := ?_) #[true, true, true, true, true, true, true, false, false, false] rfl rfl (take_ofW HT_.out HW_.out (by kernel_rfl)) (fun _ _ _ h => h) (Or.inl ⟨by rfl, ?_⟩) hHeld ?_ ?_
                rotate_left
                · rintro w' ⟨s0, s1, s2, s3, s4, s5⟩
                  go_simp
                  with_reducible rfl
                rotate_left
                · simp only [Act.put, List.setIfInBounds_toArray, List.set_cons_zero, List.set_cons_succ, i64_w, i32_w]
                  rfl
                refine take_ (i := 7) (N := some 24) (v := ?_) (a' := ?_) #[true, true, true, true, true, true, true, true, false, false] rfl rfl (take_ofW HT_.out HW_.out (by kernel_rfl)) (fun _ _ _ h => h) (Or.inl ⟨by rfl, ?_⟩) hHeld ?_ ?_
                rotate_left
                · rintro w' ⟨s0, s1, s2, s3, s4, s5⟩
                  go_simp
                  with_reducible rfl
                rotate_left
                · simp only [Act.put, List.setIfInBounds_toArray, List.set_cons_zero, List.set_cons_succ, i64_w, i32_w]
                  rfl
                refine one_ (i := 8) (N := some 25) #[true, true, true, true, true, true, true, true, true, false] rfl rfl (one_of HT_.out (by kernel_rfl)) (by decide) (fun K hK => ?_)
                refine goes_ Try.func119 (by kernel_rfl) rfl #[.agg #[.int .i64 ((rd_T116 l0 x5_1).f0), .int .i64 ((rd_T116 l0 x5_1).f1), .string ((rd_T116 l0 x5_1).f2)], .agg #[.int .i64 ((rd_T116 l1 x5_1).f0), .int .i64 ((rd_T116 l1 x5_1).f1), .string ((rd_T116 l1 x5_1).f2)]] (by rfl) rfl rfl (by (try simp only [List.map_toArray, List.map_cons, List.map_nil]); first | done | rfl | (simp only [List.length_drop, List.length_take]; rfl) | exact congrArg (fun x_ : Int => #[Value.int .u64 x_]) (show _ = _ % (18446744073709551616 : Int) by omega)) ?_
                with_reducible refine (headgateref03_Cmp.calls k1 ((rd_T116 l0 x5_1).f0) ((rd_T116 l0 x5_1).f1) ((rd_T116 l0 x5_1).f2) ((rd_T116 l1 x5_1).f0) ((rd_T116 l1 x5_1).f1) ((rd_T116 l1 x5_1).f2) t133 _ A7.out).mono ?_
                rintro e w12 ⟨rfl, hb⟩
                refine ⟨_, rfl, ?_⟩
                have n0_ := Aside0.mk (below_step (by repeat (first | (with_reducible first | exact HB.out | apply below_alloc | apply pw_below_drewN | apply below_drew1) | exact HB.out)) hb)
                clear HB
                have HB := n0_
                clear n0_
                (try clear hb)
                (try clear hb2)
                (try clear hk)
                (try clear hi)
                refine hK.out _ _ ⟨((HB.out.cell (World.block_lt_of_cell? w _ hw131_0)).trans hw131_0), ((HB.out.cell (World.block_lt_of_cell? w _ hw131_1)).trans hw131_1), ((HB.out.cell (World.block_lt_of_cell? w _ hw131_2)).trans hw131_2), ((HB.out.cell (World.block_lt_of_cell? w _ hw132_0)).trans hw132_0), ((HB.out.cell (World.block_lt_of_cell? w _ hw132_1)).trans hw132_1), ((HB.out.cell (World.block_lt_of_cell? w _ hw132_2)).trans hw132_2)⟩ (fun hHeld => ?_)
                clear hK K
                refine norm_ (a' := ?_) ?_ ?_
                rotate_left
                · show Act.put _ (some 25) _ = _
                  simp only [Act.put, List.setIfInBounds_toArray, List.set_cons_zero, List.set_cons_succ, i64_w, i32_w]
                  rfl
                refine pure_ (i := 9) (N := some 6) (v := ?_) (a' := ?_) #[true, true, true, true, true, true, true, true, true, true] rfl rfl (any_of HT_.out (by kernel_rfl)) (fun _ _ _ h => h) (Or.inl ⟨by rfl, ?_⟩) ?_ ?_
                rotate_left
                · intro w'
                  go_simp
                  with_reducible rfl
                rotate_left
                · simp only [Act.put, List.setIfInBounds_toArray, List.set_cons_zero, List.set_cons_succ, i64_w, i32_w]
                  rfl
                refine done_ (done_of HT_.out (by kernel_rfl)) ?_
                try go_wp2
                go_ret
                exact ⟨by first | rfl | (simp [errW_none, errW_some] <;> rfl) | (simp [*, errW_none, errW_some] <;> rfl), by repeat (first | (with_reducible first | exact HB.out | apply below_alloc | apply pw_below_drewN | apply below_drew1) | exact HB.out)⟩
            · rw [if_neg c6] at H
              exact absurd H (by simp)
          · rw [if_neg c5] at H
            exact absurd H (by simp)
      · rw [if_neg c3] at H
        have c3b0 : decide (x5_1 < (l0.length : Int)) = false := decide_eq_false c3
        clear c3
        by_cases c13 : (l0.length : Int) < (l1.length : Int)
        · rw [if_pos c13] at H
          have c13b0 : decide ((l0.length : Int) < (l1.length : Int)) = true := decide_eq_true c13
          have c13b1 : decide (l0.length < l1.length) = true := decide_eq_true (Int.ofNat_lt.mp c13)
          clear c13
          obtain rfl := Option.some.inj H
          go_wp2
          go_ret
          exact ⟨by first | rfl | (simp [errW_none, errW_some] <;> rfl) | (simp [*, errW_none, errW_some] <;> rfl), by repeat (first | (with_reducible first | exact HB.out | apply below_alloc | apply pw_below_drewN | apply below_drew1) | exact HB.out)⟩
        · rw [if_neg c13] at H
          have c13b0 : decide ((l0.length : Int) < (l1.length : Int)) = false := decide_eq_false c13
          have c13b1 : decide (l0.length < l1.length) = false := decide_eq_false (fun h => c13 (Int.ofNat_lt.mpr h))
          clear c13
          obtain rfl := Option.some.inj H
          go_wp2
          go_ret
          exact ⟨by first | rfl | (simp [errW_none, errW_some] <;> rfl) | (simp [*, errW_none, errW_some] <;> rfl), by repeat (first | (with_reducible first | exact HB.out | apply below_alloc | apply pw_below_drewN | apply below_drew1) | exact HB.out)⟩

/-! ### headgateref03_Same: function 97 -/
def headgateref03_Same.f (k : Nat) (l0 : List (S116)) (l1 : List (S116)) : Option (Bool) := if (l0.length : Int) = (l1.length : Int) then ((headgateref03_CmpRow.f k l0 l1).bind fun t134 => (some (t134 == 0))) else (some false)
set_option maxHeartbeats 8000000 in
set_option maxRecDepth 100000 in
theorem headgateref03_Same.calls (k : Nat) (A0 : Option Addr) (c0 : Nat) (l0 : List (S116)) (A1 : Option Addr) (c1 : Nat) (l1 : List (S116)) (r : Bool) (w : World) (hr0 : Kd.C k116 w A0 l0.length l0) (hc0 : l0.length ≤ c0) (hr1 : Kd.C k116 w A1 l1.length l1) (hc1 : l1.length ≤ c1) (h : headgateref03_Same.f k l0 l1 = some r) :
    Calls Try.prog 97 #[.slice A0 l0.length c0, .slice A1 l1.length c1] w fun e w' => e = .returned (.bool r) ∧ Below w.heap.size w w' := by
  have HR0 := Aside0.mk hr0
  have HC0 := Aside0.mk hc0
  clear hr0 hc0
  have HR1 := Aside0.mk hr1
  have HC1 := Aside0.mk hc1
  clear hr1 hc1
  have HB := Aside0.mk (Below.refl w.heap.size w)
  have H : (if (l0.length : Int) = (l1.length : Int) then ((headgateref03_CmpRow.f k l0 l1).bind fun t134 => (some (t134 == 0))) else (some false)) = some r := h
  clear h
  by_cases c3 : (l0.length : Int) = (l1.length : Int)
  · rw [if_pos c3] at H
    have c3b0 : ((l0.length : Int) == (l1.length : Int)) = true := beq_iff_eq.mpr c3
    have c3b1 : ((l0.length : Int) != (l1.length : Int)) = false := bne_eq_false_iff_eq.mpr c3
    have c3b2 : (l0.length == l1.length) = true := by first | simpa using c3 | (simp at c3 ⊢; omega)
    clear c3
    replace H := Option.bind_eq_some_iff.mp H
    obtain ⟨t134, A40, H⟩ := H
    replace H : (some (t134 == 0)) = some r := H
    have A4 := Aside0.mk A40
    clear A40
    obtain rfl := Option.some.inj H
    go_enter Try.func97, Try.ntmps97
    go_wp2_with (first | (go_at_call 116; (with_reducible refine (headgateref03_CmpRow.calls k _ _ l0 _ _ l1 t134 _ ?side1 ?side2 ?side3 ?side4 A4.out).mono ?_); (case side1 => repeat (first | exact HR0.out | (with_reducible refine Kd.C_alloc ?_ _) | (with_reducible refine Kd.C_drewN ?_ _) | (with_reducible refine Kd.C_drew ?_))); (case side2 => exact HC0.out); (case side3 => repeat (first | exact HR1.out | (with_reducible refine Kd.C_alloc ?_ _) | (with_reducible refine Kd.C_drewN ?_ _) | (with_reducible refine Kd.C_drew ?_))); (case side4 => exact HC1.out); rintro e w5 ⟨rfl, hb⟩; have n0_ := Aside0.mk (below_step (by repeat (first | (with_reducible first | exact HB.out | apply below_alloc | apply pw_below_drewN | apply below_drew1) | exact HB.out)) hb); clear HB; have HB := n0_; clear n0_; (try clear hb); (try clear hb2); (try clear hk); (try clear hi)))
    go_ret
    exact ⟨by first | rfl | (simp [errW_none, errW_some] <;> rfl) | (simp [*, errW_none, errW_some] <;> rfl), by repeat (first | (with_reducible first | exact HB.out | apply below_alloc | apply pw_below_drewN | apply below_drew1) | exact HB.out)⟩
  · rw [if_neg c3] at H
    have c3b0 : ((l0.length : Int) == (l1.length : Int)) = false := beq_eq_false_iff_ne.mpr c3
    have c3b1 : ((l0.length : Int) != (l1.length : Int)) = true := bne_iff_ne.mpr c3
    have c3b2 : (l0.length == l1.length) = false := by first | simpa using c3 | (simp at c3 ⊢; omega)
    obtain rfl := Option.some.inj H
    go_enter Try.func97, Try.ntmps97
    go_wp2
    go_ret
    exact ⟨by first | rfl | (simp [errW_none, errW_some] <;> rfl) | (simp [*, errW_none, errW_some] <;> rfl), by repeat (first | (with_reducible first | exact HB.out | apply below_alloc | apply pw_below_drewN | apply below_drew1) | exact HB.out)⟩

end Go.Proofs.Ytgihecpobichbaa.Q
-- Written by a program of the session over the translation's print: functions as plain Lean, and that the machine's call comes to them.
namespace Go.Proofs.Ytgihecpobichbaa.Q
open Go.RowKit Go.Proofs.YtgihecpobichbaaW.PrintWords Go.Proofs.YtgihecpobichbaaW.PrintLast Go.Proofs.YtgihecpobichbaaW.PrintMore
attribute [local go_sem] max2_int min2_int max_two min_two max_three min_three max_four min_four   -- for this text's walks alone
set_option linter.unusedVariables false
set_option linter.unusedSimpArgs false

/-! ### headgateref03_Rows: function 37 -/
def headgateref03_Rows.l0 : Nat → List (List (S116)) → List (List (S116)) → Int → Option (Bool)
  | 0, _, _, _ => none
  | k + 1, x0, x1, x5 => if x5 < (x0.length : Int) then (if 0 ≤ x5 then (if x5 < (x1.length : Int) then ((headgateref03_Same.f k (rd_L12 x0 x5) (rd_L12 x1 x5)).bind fun t137 => (if t137 = true then (headgateref03_Rows.l0 k x0 x1 (wrap64 (x5 + 1))) else (some false))) else (none)) else (none)) else (some true)
def headgateref03_Rows.f (k : Nat) (l0 : List (List (S116))) (l1 : List (List (S116))) : Option (Bool) := if (l0.length : Int) = (l1.length : Int) then (headgateref03_Rows.l0 k l0 l1 0) else (some false)
def headgateref03_Rows.T6 : Bool × List (List Nat × List Nat) := (true, [([], []), ([], []), ([0, 1], [0, 1]), ([2], [2]), ([], []), ([], []), ([4, 5], [4, 5]), ([6], [6]), ([3, 7], [3, 7]), ([8], [8])])
def headgateref03_Rows.B6 : List Nat := [0, 0, 3, 7, 0, 0, 48, 112, 255, 511]
theorem headgateref03_Rows.tab6 : rtab .any (opsOf Try.f37 6) = headgateref03_Rows.T6 := by kernel_rfl
theorem headgateref03_Rows.bits6 : waitsOk headgateref03_Rows.T6.2 headgateref03_Rows.B6 = true := by kernel_rfl
set_option maxHeartbeats 8000000 in
set_option maxRecDepth 100000 in
theorem headgateref03_Rows.calls (k : Nat) (A0 : Option Addr) (c0 : Nat) (l0 : List (List (S116))) (A1 : Option Addr) (c1 : Nat) (l1 : List (List (S116))) (r : Bool) (w : World) (hr0 : Kd.C (Kd.slice 116 k116) w A0 l0.length l0) (hc0 : l0.length ≤ c0) (hr1 : Kd.C (Kd.slice 116 k116) w A1 l1.length l1) (hc1 : l1.length ≤ c1) (h : headgateref03_Rows.f k l0 l1 = some r) :
    Calls Try.prog 37 #[.slice A0 l0.length c0, .slice A1 l1.length c1] w fun e w' => e = .returned (.bool r) ∧ Below w.heap.size w w' := by
  have HR0 := Aside0.mk hr0
  have HC0 := Aside0.mk hc0
  clear hr0 hc0
  have HR1 := Aside0.mk hr1
  have HC1 := Aside0.mk hc1
  clear hr1 hc1
  have HB := Aside0.mk (Below.refl w.heap.size w)
  have H : (if (l0.length : Int) = (l1.length : Int) then (headgateref03_Rows.l0 k l0 l1 0) else (some false)) = some r := h
  clear h
  by_cases c3 : (l0.length : Int) = (l1.length : Int)
  · rw [if_pos c3] at H
    have c3b0 : ((l0.length : Int) == (l1.length : Int)) = true := beq_iff_eq.mpr c3
    have c3b1 : ((l0.length : Int) != (l1.length : Int)) = false := bne_eq_false_iff_eq.mpr c3
    have c3b2 : (l0.length == l1.length) = true := by first | simpa using c3 | (simp at c3 ⊢; omega)
    clear c3
    have H' := Aside0.mk H
    clear H
    go_enter Try.func37, Try.ntmps37
    go_wp2
    go_loopg [5] k (fun kq v5 w' => ∃ (x5_1 : Int), v5 = .int .i64 x5_1 ∧ Aside0 (headgateref03_Rows.l0 kq l0 l1 x5_1 = some r) ∧ Aside0 (kq ≤ k) ∧ Aside0 (Below w.heap.size w w'))
    case atStart => exact ⟨(0), (by first | rfl | (simp; done) | (simp [*]; done) | (simp; rw [Bool.eq_iff_iff]; simp; done)), H', ⟨Nat.le_refl _⟩, ⟨by repeat (first | (with_reducible first | exact HB.out | apply below_alloc | apply pw_below_drewN | apply below_drew1) | exact HB.out)⟩⟩
    case round =>
      clear H'
      try clear c1
      try clear p2
      try clear c3
      try clear c3b0
      try clear c3b1
      try clear c3b2
      obtain ⟨x5_1, rfl, HA, HK1, HB⟩ := hrel
      cases gk with
      | zero => exact absurd HA.out (by simp [headgateref03_Rows.l0])
      | succ k1 =>
        have H := HA.out
        clear HA
        simp only [headgateref03_Rows.l0] at H
        by_cases c4 : x5_1 < (l0.length : Int)
        · rw [if_pos c4] at H
          have c4b0 : decide (x5_1 < (l0.length : Int)) = true := decide_eq_true c4
          clear c4
          by_cases c5 : 0 ≤ x5_1
          · rw [if_pos c5] at H
            have c5b0 : decide (0 ≤ x5_1) = true := decide_eq_true c5
            clear c5
            by_cases c6 : x5_1 < (l1.length : Int)
            · rw [if_pos c6] at H
              have c6b0 : decide (x5_1 < (l1.length : Int)) = true := decide_eq_true c6
              clear c6
              replace H := Option.bind_eq_some_iff.mp H
              obtain ⟨t137, A70, H⟩ := H
              replace H : (if t137 = true then (headgateref03_Rows.l0 k1 l0 l1 (wrap64 (x5_1 + 1))) else (some false)) = some r := H
              have A7 := Aside0.mk A70
              clear A70
              by_cases c8 : t137 = true
              · subst c8
                have H1 : (headgateref03_Rows.l0 k1 l0 l1 (wrap64 (x5_1 + 1))) = some r := by rw [if_pos rfl] at H; exact H
                clear H
                have H := H1
                clear H1
                have H' := Aside0.mk H
                clear H
                try go_wp2
                have n0_ := Aside0.mk (below_drew1 HB.out)
                clear HB
                have HB := n0_
                clear n0_
                have p135 : 0 ≤ (x5_1 : Int) := of_decide_eq_true (by first | (with_reducible assumption) | assumption)
                have q135 : x5_1 < (l0.length : Int) := of_decide_eq_true (by first | (with_reducible assumption) | assumption)
                obtain ⟨ad135, A135_0, c135_0, e135, hx135_0, hl135_0, hi135_0⟩ := at_L12 HR0.out x5_1 p135 q135
                have hw135_0 := hx135_0
                cases e135
                replace hx135_0 := (HB.out.cell (World.block_lt_of_cell? w _ hx135_0)).trans hx135_0
                have HR135_0 := Aside0.mk hi135_0
                have HC135_0 := Aside0.mk hl135_0
                clear hi135_0 hl135_0
                replace p135 := eq_true p135
                replace q135 := eq_true q135
                have p136 : 0 ≤ (x5_1 : Int) := of_decide_eq_true (by first | (with_reducible assumption) | assumption)
                have q136 : x5_1 < (l1.length : Int) := of_decide_eq_true (by first | (with_reducible assumption) | assumption)
                obtain ⟨ad136, A136_0, c136_0, e136, hx136_0, hl136_0, hi136_0⟩ := at_L12 HR1.out x5_1 p136 q136
                have hw136_0 := hx136_0
                cases e136
                replace hx136_0 := (HB.out.cell (World.block_lt_of_cell? w _ hx136_0)).trans hx136_0
                have HR136_0 := Aside0.mk hi136_0
                have HC136_0 := Aside0.mk hl136_0
                clear hi136_0 hl136_0
                replace p136 := eq_true p136
                replace q136 := eq_true q136
                refine start_ (n := 10) (S := fun w' => w'.cell? (ad135.add (x5_1).toNat) = some (.slice A135_0 (rd_L12 l0 x5_1).length c135_0) ∧ w'.cell? (ad136.add (x5_1).toNat) = some (.slice A136_0 (rd_L12 l1 x5_1).length c136_0)) (ds := []) #[false, false, false, false, false, false, false, false, false, false] (by kernel_rfl) rfl rfl ⟨((HB.out.cell (World.block_lt_of_cell? w _ hw135_0)).trans hw135_0), ((HB.out.cell (World.block_lt_of_cell? w _ hw136_0)).trans hw136_0)⟩ (fun hHeld => ?_); refine with_tabW headgateref03_Rows.tab6 headgateref03_Rows.bits6 (fun HT_ HW_ => ?_)
                generalize wr.drew = w9 at HB HR135_0 HR136_0 hx135_0 hx136_0 hHeld ⊢
                refine pure_ (i := 0) (N := some 17) (v := ?_) (a' := ?_) #[true, false, false, false, false, false, false, false, false, false] rfl rfl (any_of HT_.out (by kernel_rfl)) (fun _ _ _ h => h) (Or.inl ⟨by rfl, ?_⟩) ?_ ?_
                rotate_left
                · intro w'
                  go_simp
                  with_reducible rfl
                rotate_left
                · simp only [Act.put, List.setIfInBounds_toArray, List.set_cons_zero, List.set_cons_succ, i64_w, i32_w]
                  rfl
                refine pure_ (i := 1) (N := some 18) (v := ?_) (a' := ?_) #[true, true, false, false, false, false, false, false, false, false] rfl rfl (any_of HT_.out (by kernel_rfl)) (fun _ _ _ h => h) (Or.inl ⟨by rfl, ?_⟩) ?_ ?_
                rotate_left
                · intro w'
                  go_simp
                  with_reducible rfl
                rotate_left
                · simp only [Act.put, List.setIfInBounds_toArray, List.set_cons_zero, List.set_cons_succ, i64_w, i32_w]
                  rfl
                refine pure_ (i := 2) (N := some 19) (v := ?_) (a' := ?_) #[true, true, true, false, false, false, false, false, false, false] rfl rfl (any_of HT_.out (by kernel_rfl)) (fun _ _ _ h => h) (Or.inl ⟨by rfl, ?_⟩) ?_ ?_
                rotate_left
                · intro w'
                  go_simp
                  with_reducible rfl
                rotate_left
                · simp only [Act.put, List.setIfInBounds_toArray, List.set_cons_zero, List.set_cons_succ, i64_w, i32_w]
                  rfl
                refine pure_ (i := 4) (N := some 21) (v := ?_) (a' := ?_) #[true, true, true, false, true, false, false, false, false, false] rfl rfl (any_of HT_.out (by kernel_rfl)) (fun _ _ _ h => h) (Or.inl ⟨by rfl, ?_⟩) ?_ ?_
                rotate_left
                · intro w'
                  go_simp
                  with_reducible rfl
                rotate_left
                · simp only [Act.put, List.setIfInBounds_toArray, List.set_cons_zero, List.set_cons_succ, i64_w, i32_w]
                  rfl
                refine pure_ (i := 5) (N := some 22) (v := ?_) (a' := ?_) #[true, true, true, false, true, true, false, false, false, false] rfl rfl (any_of HT_.out (by kernel_rfl)) (fun _ _ _ h => h) (Or.inl ⟨by rfl, ?_⟩) ?_ ?_
                rotate_left
                · intro w'
                  go_simp
                  with_reducible rfl
                rotate_left
                · simp only [Act.put, List.setIfInBounds_toArray, List.set_cons_zero, List.set_cons_succ, i64_w, i32_w]
                  rfl
                refine pure_ (i := 6) (N := some 23) (v := ?_) (a' := ?_) #[true, true, true, false, true, true, true, false, false, false] rfl rfl (any_of HT_.out (by kernel_rfl)) (fun _ _ _ h => h) (Or.inl ⟨by rfl, ?_⟩) ?_ ?_
                rotate_left
                · intro w'
                  go_simp
                  with_reducible rfl
                rotate_left
                · simp only [Act.put, List.setIfInBounds_toArray, List.set_cons_zero, List.set_cons_succ, i64_w, i32_w]
                  rfl
                refine take_ (i := 3) (N := some 20) (v := ?_) (a' := ?_) #[true, true, true, true, true, true, true, false, false, false] rfl rfl (take_ofW HT_.out HW_.out (by kernel_rfl)) (fun _ _ _ h => h) (Or.inl ⟨by rfl, ?_⟩) hHeld ?_ ?_
                rotate_left
                · rintro w' ⟨s0, s1⟩
                  go_simp
                  with_reducible rfl
                rotate_left
                · simp only [Act.put, List.setIfInBounds_toArray, List.set_cons_zero, List.set_cons_succ, i64_w, i32_w]
                  rfl
                refine take_ (i := 7) (N := some 24) (v := ?_) (a' := ?_) #[true, true, true, true, true, true, true, true, false, false] rfl rfl (take_ofW HT_.out HW_.out (by kernel_rfl)) (fun _ _ _ h => h) (Or.inl ⟨by rfl, ?_⟩) hHeld ?_ ?_
                rotate_left
                · rintro w' ⟨s0, s1⟩
                  go_simp
                  with_reducible rfl
                rotate_left
                · simp only [Act.put, List.setIfInBounds_toArray, List.set_cons_zero, List.set_cons_succ, i64_w, i32_w]
                  rfl
                refine one_ (i := 8) (N := some 25) #[true, true, true, true, true, true, true, true, true, false] rfl rfl (one_of HT_.out (by kernel_rfl)) (by decide) (fun K hK => ?_)
                refine goes_ Try.func97 (by kernel_rfl) rfl #[.slice A135_0 (rd_L12 l0 x5_1).length c135_0, .slice A136_0 (rd_L12 l1 x5_1).length c136_0] (by rfl) rfl rfl (by (try simp only [List.map_toArray, List.map_cons, List.map_nil]); first | done | rfl | (simp only [List.length_drop, List.length_take]; rfl) | exact congrArg (fun x_ : Int => #[Value.int .u64 x_]) (show _ = _ % (18446744073709551616 : Int) by omega)) ?_
                with_reducible refine (headgateref03_Same.calls k1 _ _ (rd_L12 l0 x5_1) _ _ (rd_L12 l1 x5_1) true _ ?side1 ?side2 ?side3 ?side4 A7.out).mono ?_
                (case side1 => repeat (first | exact (Kd.C_below HR135_0.out HB.out) | (with_reducible refine Kd.C_alloc ?_ _) | (with_reducible refine Kd.C_drewN ?_ _) | (with_reducible refine Kd.C_drew ?_)))
                (case side2 => exact HC135_0.out)
                (case side3 => repeat (first | exact (Kd.C_below HR136_0.out HB.out) | (with_reducible refine Kd.C_alloc ?_ _) | (with_reducible refine Kd.C_drewN ?_ _) | (with_reducible refine Kd.C_drew ?_)))
                (case side4 => exact HC136_0.out)
                rintro e w10 ⟨rfl, hb⟩
                refine ⟨_, rfl, ?_⟩
                have n0_ := Aside0.mk (below_step (by repeat (first | (with_reducible first | exact HB.out | apply below_alloc | apply pw_below_drewN | apply below_drew1) | exact HB.out)) hb)
                clear HB
                have HB := n0_
                clear n0_
                (try clear hb)
                (try clear hb2)
                (try clear hk)
                (try clear hi)
                refine hK.out _ _ ⟨((HB.out.cell (World.block_lt_of_cell? w _ hw135_0)).trans hw135_0), ((HB.out.cell (World.block_lt_of_cell? w _ hw136_0)).trans hw136_0)⟩ (fun hHeld => ?_)
                clear hK K
                refine norm_ (a' := ?_) ?_ ?_
                rotate_left
                · show Act.put _ (some 25) _ = _
                  simp only [Act.put, List.setIfInBounds_toArray, List.set_cons_zero, List.set_cons_succ, i64_w, i32_w]
                  rfl
                refine pure_ (i := 9) (N := some 26) (v := ?_) (a' := ?_) #[true, true, true, true, true, true, true, true, true, true] rfl rfl (any_of HT_.out (by kernel_rfl)) (fun _ _ _ h => h) (Or.inl ⟨by rfl, ?_⟩) ?_ ?_
                rotate_left
                · intro w'
                  go_simp
                  with_reducible rfl
                rotate_left
                · simp only [Act.put, List.setIfInBounds_toArray, List.set_cons_zero, List.set_cons_succ, i64_w, i32_w]
                  rfl
                refine done_ (done_of HT_.out (by kernel_rfl)) ?_
                try go_wp2
                go_roundg k1
                case measure => have := HK1.out; omega
                case rel => exact ⟨(wrap64 (x5_1 + 1)), (by first | rfl | (simp; done) | (simp [*]; done) | (simp; rw [Bool.eq_iff_iff]; simp; done)), H', ⟨by have := HK1.out; omega⟩, ⟨by repeat (first | (with_reducible first | exact HB.out | apply below_alloc | apply pw_below_drewN | apply below_drew1) | exact HB.out)⟩⟩
              · replace c8 := Bool.eq_false_iff.mpr c8
                subst c8
                have H1 : (some false) = some r := by rw [if_neg (show ¬ (false = true) by decide)] at H; exact H
                clear H
                have H := H1
                clear H1
                obtain rfl := Option.some.inj H
                try go_wp2
                have n0_ := Aside0.mk (below_drew1 HB.out)
                clear HB
                have HB := n0_
                clear n0_
                have p135 : 0 ≤ (x5_1 : Int) := of_decide_eq_true (by first | (with_reducible assumption) | assumption)
                have q135 : x5_1 < (l0.length : Int) := of_decide_eq_true (by first | (with_reducible assumption) | assumption)
                obtain ⟨ad135, A135_0, c135_0, e135, hx135_0, hl135_0, hi135_0⟩ := at_L12 HR0.out x5_1 p135 q135
                have hw135_0 := hx135_0
                cases e135
                replace hx135_0 := (HB.out.cell (World.block_lt_of_cell? w _ hx135_0)).trans hx135_0
                have HR135_0 := Aside0.mk hi135_0
                have HC135_0 := Aside0.mk hl135_0
                clear hi135_0 hl135_0
                replace p135 := eq_true p135
                replace q135 := eq_true q135
                have p136 : 0 ≤ (x5_1 : Int) := of_decide_eq_true (by first | (with_reducible assumption) | assumption)
                have q136 : x5_1 < (l1.length : Int) := of_decide_eq_true (by first | (with_reducible assumption) | assumption)
                obtain ⟨ad136, A136_0, c136_0, e136, hx136_0, hl136_0, hi136_0⟩ := at_L12 HR1.out x5_1 p136 q136
                have hw136_0 := hx136_0
                cases e136
                replace hx136_0 := (HB.out.cell (World.block_lt_of_cell? w _ hx136_0)).trans hx136_0
                have HR136_0 := Aside0.mk hi136_0
                have HC136_0 := Aside0.mk hl136_0
                clear hi136_0 hl136_0
                replace p136 := eq_true p136
                replace q136 := eq_true q136
                refine start_ (n := 10) (S := fun w' => w'.cell? (ad135.add (x5_1).toNat) = some (.slice A135_0 (rd_L12 l0 x5_1).length c135_0) ∧ w'.cell? (ad136.add (x5_1).toNat) = some (.slice A136_0 (rd_L12 l1 x5_1).length c136_0)) (ds := []) #[false, false, false, false, false, false, false, false, false, false] (by kernel_rfl) rfl rfl ⟨((HB.out.cell (World.block_lt_of_cell? w _ hw135_0)).trans hw135_0), ((HB.out.cell (World.block_lt_of_cell? w _ hw136_0)).trans hw136_0)⟩ (fun hHeld => ?_); refine with_tabW headgateref03_Rows.tab6 headgateref03_Rows.bits6 (fun HT_ HW_ => ?_)
                generalize wr.drew = w11 at HB HR135_0 HR136_0 hx135_0 hx136_0 hHeld ⊢
                refine pure_ (i := 0) (N := some 17) (v := ?_) (a' := ?_) #[true, false, false, false, false, false, false, false, false, false] rfl rfl (any_of HT_.out (by kernel_rfl)) (fun _ _ _ h => h) (Or.inl ⟨by rfl, ?_⟩) ?_ ?_
                rotate_left
                · intro w'
                  go_simp
                  with_reducible rfl
                rotate_left
                · simp only [Act.put, List.setIfInBounds_toArray, List.set_cons_zero, List.set_cons_succ, i64_w, i32_w]
                  rfl
                refine pure_ (i := 1) (N := some 18) (v := ?_) (a' := ?_) #[true, true, false, false, false, false, false, false, false, false] rfl rfl (any_of HT_.out (by kernel_rfl)) (fun _ _ _ h => h) (Or.inl ⟨by rfl, ?_⟩) ?_ ?_
                rotate_left
                · intro w'
                  go_simp
                  with_reducible rfl
                rotate_left
                · simp only [Act.put, List.setIfInBounds_toArray, List.set_cons_zero, List.set_cons_succ, i64_w, i32_w]
                  rfl
                refine pure_ (i := 2) (N := some 19) (v := ?_) (a' := ?_) #[true, true, true, false, false, false, false, false, false, false] rfl rfl (any_of HT_.out (by kernel_rfl)) (fun _ _ _ h => h) (Or.inl ⟨by rfl, ?_⟩) ?_ ?_
                rotate_left
                · intro w'
                  go_simp
                  with_reducible rfl
                rotate_left
                · simp only [Act.put, List.setIfInBounds_toArray, List.set_cons_zero, List.set_cons_succ, i64_w, i32_w]
                  rfl
                refine pure_ (i := 4) (N := some 21) (v := ?_) (a' := ?_) #[true, true, true, false, true, false, false, false, false, false] rfl rfl (any_of HT_.out (by kernel_rfl)) (fun _ _ _ h => h) (Or.inl ⟨by rfl, ?_⟩) ?_ ?_
                rotate_left
                · intro w'
                  go_simp
                  with_reducible rfl
                rotate_left
                · simp only [Act.put, List.setIfInBounds_toArray, List.set_cons_zero, List.set_cons_succ, i64_w, i32_w]
                  rfl
                refine pure_ (i := 5) (N := some 22) (v := ?_) (a' := ?_) #[true, true, true, false, true, true, false, false, false, false] rfl rfl (any_of HT_.out (by kernel_rfl)) (fun _ _ _ h => h) (Or.inl ⟨by rfl, ?_⟩) ?_ ?_
                rotate_left
                · intro w'
                  go_simp
                  with_reducible rfl
                rotate_left
                · simp only [Act.put, List.setIfInBounds_toArray, List.set_cons_zero, List.set_cons_succ, i64_w, i32_w]
                  rfl
                refine pure_ (i := 6) (N := some 23) (v := ?_) (a' := ?_) #[true, true, true, false, true, true, true, false, false, false] rfl rfl (any_of HT_.out (by kernel_rfl)) (fun _ _ _ h => h) (Or.inl ⟨by rfl, ?_⟩) ?_ ?_
                rotate_left
                · intro w'
                  go_simp
                  with_reducible rfl
                rotate_left
                · simp only [Act.put, List.setIfInBounds_toArray, List.set_cons_zero, List.set_cons_succ, i64_w, i32_w]
                  rfl
                refine take_ (i := 3) (N := some 20) (v := ?_) (a' := ?_) #[true, true, true, true, true, true, true, false, false, false] rfl rfl (take_ofW HT_.out HW_.out (by kernel_rfl)) (fun _ _ _ h => h) (Or.inl ⟨by rfl, ?_⟩) hHeld ?_ ?_
                rotate_left
                · rintro w' ⟨s0, s1⟩
                  go_simp
                  with_reducible rfl
                rotate_left
                · simp only [Act.put, List.setIfInBounds_toArray, List.set_cons_zero, List.set_cons_succ, i64_w, i32_w]
                  rfl
                refine take_ (i := 7) (N := some 24) (v := ?_) (a' := ?_) #[true, true, true, true, true, true, true, true, false, false] rfl rfl (take_ofW HT_.out HW_.out (by kernel_rfl)) (fun _ _ _ h => h) (Or.inl ⟨by rfl, ?_⟩) hHeld ?_ ?_
                rotate_left
                · rintro w' ⟨s0, s1⟩
                  go_simp
                  with_reducible rfl
                rotate_left
                · simp only [Act.put, List.setIfInBounds_toArray, List.set_cons_zero, List.set_cons_succ, i64_w, i32_w]
                  rfl
                refine one_ (i := 8) (N := some 25) #[true, true, true, true, true, true, true, true, true, false] rfl rfl (one_of HT_.out (by kernel_rfl)) (by decide) (fun K hK => ?_)
                refine goes_ Try.func97 (by kernel_rfl) rfl #[.slice A135_0 (rd_L12 l0 x5_1).length c135_0, .slice A136_0 (rd_L12 l1 x5_1).length c136_0] (by rfl) rfl rfl (by (try simp only [List.map_toArray, List.map_cons, List.map_nil]); first | done | rfl | (simp only [List.length_drop, List.length_take]; rfl) | exact congrArg (fun x_ : Int => #[Value.int .u64 x_]) (show _ = _ % (18446744073709551616 : Int) by omega)) ?_
                with_reducible refine (headgateref03_Same.calls k1 _ _ (rd_L12 l0 x5_1) _ _ (rd_L12 l1 x5_1) false _ ?side1 ?side2 ?side3 ?side4 A7.out).mono ?_
                (case side1 => repeat (first | exact (Kd.C_below HR135_0.out HB.out) | (with_reducible refine Kd.C_alloc ?_ _) | (with_reducible refine Kd.C_drewN ?_ _) | (with_reducible refine Kd.C_drew ?_)))
                (case side2 => exact HC135_0.out)
                (case side3 => repeat (first | exact (Kd.C_below HR136_0.out HB.out) | (with_reducible refine Kd.C_alloc ?_ _) | (with_reducible refine Kd.C_drewN ?_ _) | (with_reducible refine Kd.C_drew ?_)))
                (case side4 => exact HC136_0.out)
                rintro e w12 ⟨rfl, hb⟩
                refine ⟨_, rfl, ?_⟩
                have n0_ := Aside0.mk (below_step (by repeat (first | (with_reducible first | exact HB.out | apply below_alloc | apply pw_below_drewN | apply below_drew1) | exact HB.out)) hb)
                clear HB
                have HB := n0_
                clear n0_
                (try clear hb)
                (try clear hb2)
                (try clear hk)
                (try clear hi)
                refine hK.out _ _ ⟨((HB.out.cell (World.block_lt_of_cell? w _ hw135_0)).trans hw135_0), ((HB.out.cell (World.block_lt_of_cell? w _ hw136_0)).trans hw136_0)⟩ (fun hHeld => ?_)
                clear hK K
                refine norm_ (a' := ?_) ?_ ?_
                rotate_left
                · show Act.put _ (some 25) _ = _
                  simp only [Act.put, List.setIfInBounds_toArray, List.set_cons_zero, List.set_cons_succ, i64_w, i32_w]
                  rfl
                refine pure_ (i := 9) (N := some 26) (v := ?_) (a' := ?_) #[true, true, true, true, true, true, true, true, true, true] rfl rfl (any_of HT_.out (by kernel_rfl)) (fun _ _ _ h => h) (Or.inl ⟨by rfl, ?_⟩) ?_ ?_
                rotate_left
                · intro w'
                  go_simp
                  with_reducible rfl
                rotate_left
                · simp only [Act.put, List.setIfInBounds_toArray, List.set_cons_zero, List.set_cons_succ, i64_w, i32_w]
                  rfl
                refine done_ (done_of HT_.out (by kernel_rfl)) ?_
                try go_wp2
                go_ret
                exact ⟨by first | rfl | (simp [errW_none, errW_some] <;> rfl) | (simp [*, errW_none, errW_some] <;> rfl), by repeat (first | (with_reducible first | exact HB.out | apply below_alloc | apply pw_below_drewN | apply below_drew1) | exact HB.out)⟩
            · rw [if_neg c6] at H
              exact absurd H (by simp)
          · rw [if_neg c5] at H
            exact absurd H (by simp)
        · rw [if_neg c4] at H
          have c4b0 : decide (x5_1 < (l0.length : Int)) = false := decide_eq_false c4
          clear c4
          obtain rfl := Option.some.inj H
          go_wp2
          go_ret
          exact ⟨by first | rfl | (simp [errW_none, errW_some] <;> rfl) | (simp [*, errW_none, errW_some] <;> rfl), by repeat (first | (with_reducible first | exact HB.out | apply below_alloc | apply pw_below_drewN | apply below_drew1) | exact HB.out)⟩
  · rw [if_neg c3] at H
    have c3b0 : ((l0.length : Int) == (l1.length : Int)) = false := beq_eq_false_iff_ne.mpr c3
    have c3b1 : ((l0.length : Int) != (l1.length : Int)) = true := bne_iff_ne.mpr c3
    have c3b2 : (l0.length == l1.length) = false := by first | simpa using c3 | (simp at c3 ⊢; omega)
    obtain rfl := Option.some.inj H
    go_enter Try.func37, Try.ntmps37
    go_wp2
    go_ret
    exact ⟨by first | rfl | (simp [errW_none, errW_some] <;> rfl) | (simp [*, errW_none, errW_some] <;> rfl), by repeat (first | (with_reducible first | exact HB.out | apply below_alloc | apply pw_below_drewN | apply below_drew1) | exact HB.out)⟩

/-! ### headgateref03_Big: function 55 -/
end Go.Proofs.Ytgihecpobichbaa.Q
-- Written by a program of the session over the translation's print: functions as plain Lean, and that the machine's call comes to them.
namespace Go.Proofs.Ytgihecpobichbaa.Q
open Go.RowKit Go.Proofs.YtgihecpobichbaaW.PrintWords Go.Proofs.YtgihecpobichbaaW.PrintLast Go.Proofs.YtgihecpobichbaaW.PrintMore
attribute [local go_sem] max2_int min2_int max_two min_two max_three min_three max_four min_four   -- for this text's walks alone
set_option linter.unusedVariables false
set_option linter.unusedSimpArgs false

/-! ### headgatelaw04_long: function 19 -/
/-! ### headgatelaw04_told: function 22 -/
/-! ### headgatelaw04_wrong: function 38 -/
def headgatelaw04_wrong.f (a0 : Int) (a1 : Bool) : Option (Bool) := if a1 = true then (some (a0 == 0)) else (some (a0 == 41))
set_option maxHeartbeats 8000000 in
set_option maxRecDepth 100000 in
theorem headgatelaw04_wrong.calls (a0 : Int) (a1 : Bool) (r : Bool) (w : World) (h : headgatelaw04_wrong.f a0 a1 = some r) :
    Calls Try.prog 38 #[.int .i64 a0, .bool a1] w fun e w' => e = .returned (.bool r) ∧ Drawn0 w w' := by
  have H : (if a1 = true then (some (a0 == 0)) else (some (a0 == 41))) = some r := h
  clear h
  by_cases c3 : a1 = true
  · subst c3
    have H1 : (some (a0 == 0)) = some r := by rw [if_pos rfl] at H; exact H
    clear H
    have H := H1
    clear H1
    obtain rfl := Option.some.inj H
    go_enter Try.func38, Try.ntmps38
    go_wp2
    go_ret
    exact ⟨by first | rfl | (simp; done) | (simp [*]; done), by repeat (first | exact Drawn0.refl _ | apply Drawn0.step)⟩
  · replace c3 := Bool.eq_false_iff.mpr c3
    subst c3
    have H1 : (some (a0 == 41)) = some r := by rw [if_neg (show ¬ (false = true) by decide)] at H; exact H
    clear H
    have H := H1
    clear H1
    obtain rfl := Option.some.inj H
    go_enter Try.func38, Try.ntmps38
    go_wp2
    go_ret
    exact ⟨by first | rfl | (simp; done) | (simp [*]; done), by repeat (first | exact Drawn0.refl _ | apply Drawn0.step)⟩

/-! ### headgateref04_Word: function 67 -/
/-! ### headgateref04_Value: function 63 -/
end Go.Proofs.Ytgihecpobichbaa.Q
/- What the laws of package code share: lists read of a text's bytes; rows that are the same as themselves. -/
namespace Go.Proofs.Ytgihecpobichbaa.Q
open Go.RowKit Go.Proofs.YtgihecpobichbaaW.PrintWords Go.Proofs.YtgihecpobichbaaW.PrintLast Go.Proofs.YtgihecpobichbaaW.PrintMore
set_option linter.unusedVariables false
set_option linter.unusedSimpArgs false
theorem alive04 : headgatelaw04_alive.f 30 = some true := by kernel_rfl
theorem eqPair (d : Nat) (w : World) (a b : ByteArray) :
    (Op.equalIn (d + 2) 74 (.agg #[.string a, .string b]) (.agg #[.string a, .string b])).run Try.prog w = .ok true w := by
  refine eqA_of Try.underlying74 (by kernel_rfl) ?_
  refine eqf_cons (r := true) (s := true) (by rfl) (by go_simp; rfl) (by go_simp; rfl) (by go_simp) ?_
  exact eqf_last (by rfl) (by go_simp; rfl) (by go_simp; rfl) (by go_simp)
/-- code.Unrows of a text's bytes, wherever they were laid. -/
theorem unR_text (s : ByteArray) (hs : s.size ≤ 4000) (W : World) : Calls Try.prog 29 #[.slice (some ⟨W.heap.size, 0, none⟩) s.size (grownCap W s.size 0 5)] (Lib.bytesWorld W 5 s) fun e w' =>
    ∃ v0_ : Value, e = .returned (.tuple #[v0_, .int .i64 (readR (bytesOf s)).2]) ∧ Kd.R (Kd.slice 116 k116) 111 w' (Lib.bytesWorld W 5 s).heap.size (fun _ => True) v0_ (readR (bytesOf s)).1 ∧ Below (Lib.bytesWorld W 5 s).heap.size (Lib.bytesWorld W 5 s) w' := by
  have hlen := bytesOf_length s
  have hC : Kd.C (Kd.int .u8) (Lib.bytesWorld W 5 s) (some ⟨W.heap.size, 0, none⟩) s.size (bytesOf s) := Kd.C_of_reads (bytes_reads W 5 s (by omega))
  have hcap : s.size ≤ grownCap W s.size 0 5 := grownCap_ge _ _ _ _
  have hcall := code_Unrows.calls 0 (some ⟨W.heap.size, 0, none⟩) (grownCap W s.size 0 5) (bytesOf s) (readR (bytesOf s)).1 (readR (bytesOf s)).2 (Lib.bytesWorld W 5 s) (by rw [hlen]; exact hC) (by rw [hlen]; exact hcap) (if_pos (by omega))
  rw [hlen] at hcall
  exact hcall
/-- code.Uncols of a text's bytes, wherever they were laid. -/
theorem unC_text (s : ByteArray) (hs : s.size ≤ 4000) (W : World) : Calls Try.prog 30 #[.slice (some ⟨W.heap.size, 0, none⟩) s.size (grownCap W s.size 0 5)] (Lib.bytesWorld W 5 s) fun e w' =>
    ∃ v0_ : Value, e = .returned (.tuple #[v0_, .int .i64 (readC (bytesOf s)).2]) ∧ Kd.R k43 43 w' (Lib.bytesWorld W 5 s).heap.size (fun _ => True) v0_ (readC (bytesOf s)).1 ∧ Below (Lib.bytesWorld W 5 s).heap.size (Lib.bytesWorld W 5 s) w' := by
  have hlen := bytesOf_length s
  have hC : Kd.C (Kd.int .u8) (Lib.bytesWorld W 5 s) (some ⟨W.heap.size, 0, none⟩) s.size (bytesOf s) := Kd.C_of_reads (bytes_reads W 5 s (by omega))
  have hcap : s.size ≤ grownCap W s.size 0 5 := grownCap_ge _ _ _ _
  have hcall := code_Uncols.calls 0 (some ⟨W.heap.size, 0, none⟩) (grownCap W s.size 0 5) (bytesOf s) (readC (bytesOf s)).1 (readC (bytesOf s)).2 (Lib.bytesWorld W 5 s) (by rw [hlen]; exact hC) (by rw [hlen]; exact hcap) (if_pos (by omega))
  rw [hlen] at hcall
  exact hcall
/-- code.Unpairs of a text's bytes, wherever they were laid. -/
theorem unP_text (s : ByteArray) (hs : s.size ≤ 4000) (W : World) : Calls Try.prog 31 #[.slice (some ⟨W.heap.size, 0, none⟩) s.size (grownCap W s.size 0 5)] (Lib.bytesWorld W 5 s) fun e w' =>
    ∃ v0_ : Value, e = .returned (.tuple #[v0_, .int .i64 (readP (bytesOf s)).2]) ∧ Kd.R k74 74 w' (Lib.bytesWorld W 5 s).heap.size (fun _ => True) v0_ (readP (bytesOf s)).1 ∧ Below (Lib.bytesWorld W 5 s).heap.size (Lib.bytesWorld W 5 s) w' := by
  have hlen := bytesOf_length s
  have hC : Kd.C (Kd.int .u8) (Lib.bytesWorld W 5 s) (some ⟨W.heap.size, 0, none⟩) s.size (bytesOf s) := Kd.C_of_reads (bytes_reads W 5 s (by omega))
  have hcap : s.size ≤ grownCap W s.size 0 5 := grownCap_ge _ _ _ _
  have hcall := code_Unpairs.calls 0 (some ⟨W.heap.size, 0, none⟩) (grownCap W s.size 0 5) (bytesOf s) (readP (bytesOf s)).1 (readP (bytesOf s)).2 (Lib.bytesWorld W 5 s) (by rw [hlen]; exact hC) (by rw [hlen]; exact hcap) (if_pos (by omega))
  rw [hlen] at hcall
  exact hcall
/-- code.Unnums of a text's bytes, wherever they were laid. -/
theorem unI_text (s : ByteArray) (hs : s.size ≤ 4000) (W : World) : Calls Try.prog 32 #[.slice (some ⟨W.heap.size, 0, none⟩) s.size (grownCap W s.size 0 5)] (Lib.bytesWorld W 5 s) fun e w' =>
    ∃ v0_ : Value, e = .returned (.tuple #[v0_, .int .i64 (readI (bytesOf s)).2]) ∧ Kd.R (Kd.int .i64) 2 w' (Lib.bytesWorld W 5 s).heap.size (fun _ => True) v0_ (readI (bytesOf s)).1 ∧ Below (Lib.bytesWorld W 5 s).heap.size (Lib.bytesWorld W 5 s) w' := by
  have hlen := bytesOf_length s
  have hC : Kd.C (Kd.int .u8) (Lib.bytesWorld W 5 s) (some ⟨W.heap.size, 0, none⟩) s.size (bytesOf s) := Kd.C_of_reads (bytes_reads W 5 s (by omega))
  have hcap : s.size ≤ grownCap W s.size 0 5 := grownCap_ge _ _ _ _
  have hcall := code_Unnums.calls 0 (some ⟨W.heap.size, 0, none⟩) (grownCap W s.size 0 5) (bytesOf s) (readI (bytesOf s)).1 (readI (bytesOf s)).2 (Lib.bytesWorld W 5 s) (by rw [hlen]; exact hC) (by rw [hlen]; exact hcap) (if_pos (by omega))
  rw [hlen] at hcall
  exact hcall
theorem bl_self : ∀ l : List UInt8, Op.bytesLess l l = false
  | [] => rfl
  | x :: l => by
    have := bl_self l
    simp [Op.bytesLess, this]
theorem cmp_self (v : Va) : Ev (fun k => headgateref03_Cmp.f k v.f0 v.f1 v.f2 v.f0 v.f1 v.f2) 0 := by
  unfold headgateref03_Cmp.f
  refine Ev.congr (fun k => if_neg (by omega)) (Ev.congr (fun k => if_pos rfl) (Ev.congr (fun k => if_neg (by omega)) (Ev.congr (fun k => if_pos rfl) ?_)))
  rw [bl_self]
  refine Ev.step (f := fun _ => some 0) (fun k => ?_) (Ev.now _)
  simp only [headgateref03_Cmp.j0]
  rw [if_neg (by simp), if_pos (by simp)]
theorem cmpRow_self (r : List Va) (hr : r.length ≤ 9223372036854775806) : Ev (fun k => headgateref03_CmpRow.f k r r) 0 := by
  have loop : ∀ (d : Nat) (i : Int), 0 ≤ i → i + d = r.length → Ev (fun k => headgateref03_CmpRow.l0 k r r i) 0 := by
    intro d
    induction d with
    | zero =>
      intro i h0 hi
      exact Ev.step (f := fun _ => some 0) (fun k => by simp only [headgateref03_CmpRow.l0]; rw [if_neg (by omega), if_neg (by omega)]) (Ev.now _)
    | succ d ih =>
      intro i h0 hi
      have e2 : wrap64 (i + 1) = i + 1 := wrap_in (by unfold in64; omega)
      refine Ev.step (fun k => ?_) (Ev.bind (f := fun k t151 => (if t151 = 0 then (headgateref03_CmpRow.l0 k r r (wrap64 (i + 1))) else (some t151))) (cmp_self (rd_T116 r i)) (Ev.congr (fun k => if_pos rfl) (by rw [e2]; exact ih (i + 1) (by omega) (by omega))))
      simp only [headgateref03_CmpRow.l0]
      rw [if_pos (by omega), if_neg (by omega), if_pos h0, if_pos (by omega)]
  exact loop r.length 0 (by omega) (by omega)
theorem same_self (r : List Va) (hr : r.length ≤ 9223372036854775806) : Ev (fun k => headgateref03_Same.f k r r) true := by
  unfold headgateref03_Same.f
  exact Ev.congr (fun k => if_pos rfl) (Ev.bind (cmpRow_self r hr) (Ev.now _))
theorem rows_self (l : List (List Va)) (hl : l.length ≤ 9223372036854775806) (hr : ∀ r ∈ l, r.length ≤ 9223372036854775806) : Ev (fun k => headgateref03_Rows.f k l l) true := by
  have loop : ∀ (d : Nat) (i : Int), 0 ≤ i → i + d = l.length → Ev (fun k => headgateref03_Rows.l0 k l l i) true := by
    intro d
    induction d with
    | zero =>
      intro i h0 hi
      exact Ev.step (f := fun _ => some true) (fun k => by simp only [headgateref03_Rows.l0]; rw [if_neg (by omega)]) (Ev.now _)
    | succ d ih =>
      intro i h0 hi
      have e2 : wrap64 (i + 1) = i + 1 := wrap_in (by unfold in64; omega)
      have hd := rdR_drop l i h0 (by omega)
      have hm : rd_L12 l i ∈ l := by
        have : rd_L12 l i ∈ l.drop i.toNat := by rw [hd]; simp
        exact List.mem_of_mem_drop this
      refine Ev.step (fun k => ?_) (Ev.bind (f := fun k t155 => (if t155 = true then (headgateref03_Rows.l0 k l l (wrap64 (i + 1))) else (some false))) (same_self (rd_L12 l i) (hr _ hm)) (Ev.congr (fun k => if_pos rfl) (by rw [e2]; exact ih (i + 1) (by omega) (by omega))))
      simp only [headgateref03_Rows.l0]
      rw [if_pos (by omega), if_pos h0, if_pos (by omega)]
  unfold headgateref03_Rows.f
  exact Ev.congr (fun k => if_pos rfl) (loop l.length 0 (by omega) (by omega))
end Go.Proofs.Ytgihecpobichbaa.Q
