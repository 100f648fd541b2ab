/- package code's rows, one by one: walked. Printed by wip/gen/readx.py. -/
import Derived.Test.YtgihecpobichbaaZCodeBack1
import Derived.Test.YtgihecpobichbaaWMore
import Derived.Below
import Derived.Lib.FrozenHead
import Derived.Laws.BytesArg
import Derived.Lib.Bytealg
import Derived.Test.YtgihecpobichbaaK
namespace Go.Proofs.Ytgihecpobichbaa.Q
open Go.RowKit Go.Proofs.YtgihecpobichbaaW.PrintWords Go.Proofs.YtgihecpobichbaaW.PrintLast Go.Proofs.YtgihecpobichbaaW.PrintMore
set_option linter.unusedVariables false
set_option linter.unusedSimpArgs false
theorem itemI_less1 (l : List Int) (a : Int) (r : List Int) (h : itemI l = some (a, r)) : r.length ≤ l.length := Nat.le_of_lt (itemI_less l a r h)
theorem itemV_less (l : List Int) (a : S116) (r : List Int) (h : itemV l = some (a, r)) : r.length < l.length := by
  unfold itemV at h
  obtain ⟨⟨b, l1⟩, h1, h2⟩ := Option.bind_eq_some_iff.1 h
  obtain ⟨⟨x, l2⟩, h3, h4⟩ := Option.bind_eq_some_iff.1 h2
  have e1 := itemB_lt l b l1 h1
  have e2 : l2.length ≤ l1.length := by
    unfold preV at h3
    split at h3
    · obtain ⟨⟨y, r1⟩, h5, h6⟩ := Option.map_eq_some_iff.1 h3
      simp only [Prod.mk.injEq] at h6
      rw [← h6.2]
      exact itemI_less1 _ _ _ h5
    · split at h3
      · obtain ⟨⟨y, r1⟩, h5, h6⟩ := Option.map_eq_some_iff.1 h3
        simp only [Prod.mk.injEq] at h6
        rw [← h6.2]
        exact Nat.le_of_lt (itemB_lt _ _ _ h5)
      · split at h3
        · obtain ⟨⟨y, r1⟩, h5, h6⟩ := Option.map_eq_some_iff.1 h3
          simp only [Prod.mk.injEq] at h6
          rw [← h6.2]
          exact Nat.le_of_lt (itemW_lt _ _ _ h5)
        · simp only [Option.some.injEq, Prod.mk.injEq] at h3
          rw [h3.2]
          exact Nat.le_refl _
  simp only at h4
  split at h4
  · simp only [Option.some.injEq, Prod.mk.injEq] at h4
    rw [← h4.2]
    omega
  · cases h4
/-- Is a row right? -/
def rowOk (xs : List S116) : Bool := decide (xs.length ≤ 12) && xs.all (fun v => chkV v == 0)
theorem rdV_drop (l : List S116) (j : Int) (h0 : 0 ≤ j) (h1 : j < (l.length : Int)) : l.drop j.toNat = rd_T116 l j :: l.drop (j + 1).toNat := by
  have e : (j + 1).toNat = j.toNat + 1 := by omega
  have hl : j.toNat < l.length := by omega
  rw [e, List.drop_eq_getElem_cons hl]
  unfold rd_T116
  rw [List.getD_eq_getElem?_getD, List.getElem?_eq_getElem hl]
  rfl
theorem row_loop (l : List S116) (hl : l.length ≤ 9223372036854775806) : ∀ (d : Nat) (i : Int), 0 ≤ i → i ≤ 12 → i + d = l.length → Ev (fun k => value_Row.l0 k l (l.length : Int) i) (decide (l.length ≤ 12) && (l.drop i.toNat).all (fun v => chkV v == 0)) := by
  intro d
  induction d with
  | zero =>
    intro i h0 h12 h1
    rw [List.drop_of_length_le (by omega), decide_eq_true (by omega)]
    exact Ev.step (f := fun _ => some true) (fun k => by simp only [value_Row.l0]; rw [if_neg (by omega)]) (Ev.now _)
  | succ d ih =>
    intro i h0 h12 h1
    have e2 : wrap64 (i + 1) = i + 1 := wrap_in (by unfold in64; omega)
    rw [rdV_drop l i h0 (by omega), List.all_cons]
    obtain ⟨y, hy⟩ : ∃ y, rd_T116 l i = y := ⟨_, rfl⟩
    by_cases h : i = 12
    · rw [decide_eq_false (by omega), Bool.false_and]
      refine Ev.step (f := fun _ => some false) (fun k => ?_) (Ev.now _)
      simp only [value_Row.l0]
      rw [if_pos (by omega), if_pos h0, if_pos (by omega), if_pos h]
    · rw [hy]
      by_cases hc : chkV y = 0
      · have hb : (chkV y == 0) = true := by simp [hc]
        rw [hb, Bool.true_and]
        refine Ev.step (fun k => ?_) (Ev.bind (f := fun k t168 => (if t168 = 0 then (value_Row.l0 k l (l.length : Int) (wrap64 (i + 1))) else (some false))) (chk_ev y) (Ev.congr (fun k => if_pos hc) (by rw [e2]; exact ih (i + 1) (by omega) (by omega) (by omega))))
        simp only [value_Row.l0]
        rw [if_pos (by omega), if_pos h0, if_pos (by omega), if_neg h, hy]
      · have hb : (chkV y == 0) = false := by simpa using hc
        rw [hb, Bool.false_and, Bool.and_false]
        refine Ev.step (fun k => ?_) (Ev.bind (f := fun k t168 => (if t168 = 0 then (value_Row.l0 k l (l.length : Int) (wrap64 (i + 1))) else (some false))) (chk_ev y) (Ev.congr (fun k => if_neg hc) (Ev.now _)))
        simp only [value_Row.l0]
        rw [if_pos (by omega), if_pos h0, if_pos (by omega), if_neg h, hy]
theorem row_ev (l : List S116) (hl : l.length ≤ 9223372036854775806) : Ev (fun k => value_Row.f k l) (rowOk l) := row_loop l hl l.length 0 (by omega) (by omega) (by omega)
theorem readN_count {α : Type} (item : List Int → Option (α × List Int)) (hi : ∀ l a r, item l = some (a, r) → r.length < l.length) : ∀ (n : Nat) (l : List Int) (xs : List α) (r : List Int), readN item n l = some (xs, r) → xs.length + r.length ≤ l.length
  | 0, l, xs, r, h => by
    simp only [readN, Option.some.injEq, Prod.mk.injEq] at h
    rw [← h.1, h.2]
    simp
  | n + 1, l, xs, r, h => by
    simp only [readN] at h
    obtain ⟨⟨a, l1⟩, h1, h2⟩ := Option.bind_eq_some_iff.1 h
    obtain ⟨⟨ys, r1⟩, h3, h4⟩ := Option.map_eq_some_iff.1 h2
    simp only [Prod.mk.injEq] at h4 h3
    obtain ⟨rfl, rfl⟩ := h4
    have := hi l a l1 h1
    have := readN_count item hi n l1 ys r1 h3
    simp only [List.length_cons]
    omega
theorem readItems_count {α : Type} (item : List Int → Option (α × List Int)) (hi : ∀ l a r, item l = some (a, r) → r.length < l.length) (l : List Int) (xs : List α) (r : List Int) (h : readItems item l = some (xs, r)) : xs.length ≤ l.length := by
  unfold readItems at h
  split at h
  · split at h
    · cases h
    · have := readN_count item hi _ _ _ _ h
      rw [List.length_drop] at this
      omega
  · cases h
def itemR (l : List Int) : Option (List S116 × List Int) := (readItems itemV l).bind fun p => if rowOk p.1 = true then some p else none
theorem readItems_less {α : Type} (item : List Int → Option (α × List Int)) (hi : ∀ l a r, item l = some (a, r) → r.length < l.length) (l : List Int) (xs : List α) (r : List Int) (h : readItems item l = some (xs, r)) : r.length < l.length := by
  unfold readItems at h
  split at h
  · rename_i h0
    have hp := un_pos h0
    split at h
    · cases h
    · have := readN_less item hi _ _ _ _ h
      rw [List.length_drop] at this
      omega
  · cases h
theorem itemR_less (l : List Int) (a : List S116) (r : List Int) (h : itemR l = some (a, r)) : r.length < l.length := by
  unfold itemR at h
  obtain ⟨⟨x, l1⟩, h1, h2⟩ := Option.bind_eq_some_iff.1 h
  have := readItems_less itemV itemV_less l x l1 h1
  simp only at h2
  split at h2
  · simp only [Option.some.injEq, Prod.mk.injEq] at h2
    rw [← h2.2]
    exact this
  · cases h2
set_option maxHeartbeats 4000000 in
set_option maxRecDepth 100000 in
theorem itemsV_calls (G : Nat) (l : List Int) (hl : l.length ≤ 1000000000) (w0 w : World) (hs : RdS w0 w G l) (RR : Option (List S116 × List Int)) (hRR : readItems itemV l = RR) :
    Calls Try.prog 78 #[.pointer (some ⟨G, 0, none⟩), .func (.func 79) #[.pointer (some ⟨G, 0, none⟩)] #[]] w fun E w' =>
      (∀ xs l', RR = some (xs, l') → ∃ v, E = .returned v ∧ Kd.R k116 116 w' w.heap.size (fun _ => True) v xs ∧ RdS w0 w' G l') ∧ (RR = none → E = .panicked badP) ∧ w.grownBy w' (some G) := by
  have hG := hs.lt
  have hnum := num_un G l (by omega) w0 w hs
  obtain ⟨Q, hQ⟩ : ∃ Q : Ending → World → Prop, Q = fun E w' => (∀ xs l', RR = some (xs, l') → ∃ v, E = .returned v ∧ Kd.R k116 116 w' w.heap.size (fun _ => True) v xs ∧ RdS w0 w' G l') ∧ (RR = none → E = .panicked badP) ∧ w.grownBy w' (some G) := ⟨_, rfl⟩
  rw [← hQ]
  have hno : ∀ w', RR = none → w.grownBy w' (some G) → Q (.panicked badP) w' := by
    intro w' h1 h2
    rw [hQ]
    exact ⟨fun xs l' h => (by rw [h1] at h; cases h), fun _ => rfl, h2⟩
  have hyes : ∀ w' v xs l', RR = some (xs, l') → Kd.R k116 116 w' w.heap.size (fun _ => True) v xs → RdS w0 w' G l' → w.grownBy w' (some G) → Q (.returned v) w' := by
    intro w' v xs l' h1 h2 h3 h4
    rw [hQ]
    refine ⟨fun xs' l'' h => ?_, fun h => (by rw [h1] at h; cases h), h4⟩
    rw [h1] at h
    simp only [Option.some.injEq, Prod.mk.injEq] at h
    obtain ⟨rfl, rfl⟩ := h
    exact ⟨v, rfl, h2, h3⟩
  clear hQ
  unfold readItems at hRR
  have hun := unS_le l 0 0
  have hj : 0 ≤ (un l).2.1 ∧ (un l).2.1 ≤ (l.length : Int) := ⟨hun.1, by simpa [un] using hun.2⟩
  obtain ⟨n, hn⟩ : ∃ n, (un l).1 = n := ⟨_, rfl⟩
  have hn0 : 0 ≤ n := hn ▸ un_range l (by omega)
  obtain ⟨l1, hl1⟩ : ∃ l1, l.drop (un l).2.1.toNat = l1 := ⟨_, rfl⟩
  have hl1' : l1.length ≤ 1000000000 := by rw [← hl1, List.length_drop]; omega
  by_cases he : (un l).2.2 = 0
  · rw [if_pos he, hn, hl1] at hRR
    rw [hn, hl1] at hnum
    have hc : Calls Try.prog 111 #[.pointer (some ⟨G, 0, none⟩)] w fun E w' => E = .returned (.int .u64 n) ∧ RdS w0 w' G l1 ∧ w.grownBy w' (some G) := hnum.mono fun E w' ⟨h1, _, h3⟩ => ⟨(h1 he).1, (h1 he).2, h3⟩
    clear hnum hn hl1 hun hj he hs
    go_enter Try.func78, Try.ntmps78
    go_wp2_with fail
    refine hc.mono ?_
    rintro E w1 ⟨rfl, hs1, hg1⟩
    have hG1 := hs1.lt
    obtain ⟨A1, c1, h1⟩ := hs1
    have hcell := h1.box.cell
    have hfz := h1.box.frozen
    have hlen : (l1.length : Int) ≤ 18446744073709551615 := by omega
    by_cases hbig : n > (l1.length : Int)
    · rw [if_pos hbig] at hRR
      have HR := Aside0.mk hRR
      clear hRR hc
      go_wp2
      exact ⟨rfl, hno _ HR.out.symm hg1⟩
    · rw [if_neg hbig] at hRR
      have HR := Aside0.mk hRR
      have HS1 := Aside0.mk (⟨A1, c1, h1⟩ : RdS w0 w1 G l1)
      have HG1 := Aside0.mk hg1
      clear hRR hc h1 hg1
      go_wp2_with fail
      have hnle : n ≤ 1000000000 := by omega
      have HB := Aside0.mk hbig
      clear hbig hcell hfz
      go_loopg [6, 20] (n.toNat) (fun kq v6 v20 wr => ∃ (i : Nat) (xs : List S116) (l2 : List Int), v20 = .int .u64 i ∧ Aside0 ((i : Int) + kq = n) ∧ Aside0 (((readN itemV kq l2).map fun q => (xs ++ q.1, q.2)) = RR) ∧ Aside0 (xs.length = i) ∧ Aside0 (Kd.R k116 116 wr w.heap.size (fun _ => True) v6 xs) ∧ Aside0 (RdS w0 wr G l2) ∧ Aside0 (w.grownBy wr (some G)) ∧ Aside0 (l2.length ≤ 1000000000))
      case atStart => exact ⟨0, [], l1, rfl, ⟨by omega⟩, ⟨by rw [← HR.out]; cases readN itemV n.toNat l1 <;> rfl⟩, ⟨rfl⟩, ⟨Kd.R_nil _ _ _ _ _⟩, HS1, HG1, ⟨hl1'⟩⟩
      case round =>
        clear HR HS1 HG1
        obtain ⟨i, xs, l2, rfl, HI, HF, HX, HO, HS, HG, HL⟩ := hrel
        cases gk with
        | zero =>
          have hlb : decide ((i : Int) < n) = false := decide_eq_false (by have := HI.out; omega)
          have hF := HF.out
          simp only [readN, Option.map_some, List.append_nil] at hF
          have HF2 := Aside0.mk hF
          clear hF HF
          go_wp2
          first
            | exact hyes _ _ _ _ HF2.out.symm HO.out HS.out HG.out
            | (go_ret; exact hyes _ _ _ _ HF2.out.symm HO.out HS.out HG.out)
        | succ k1 =>
          have hlb : decide ((i : Int) < n) = true := decide_eq_true (by have := HI.out; omega)
          have hi1 : (i : Int) + 1 ≤ 1000000001 := by have := HI.out; omega
          have hcw := value_item G l2 (by have := HL.out; omega) w0 wr HS.out
          cases hit : itemV l2 with
          | none =>
            have hcn : Calls Try.prog 79 #[.pointer (some ⟨G, 0, none⟩)] wr fun E w' => E = .panicked badP ∧ wr.grownBy w' (some G) := hcw.mono fun E w' ⟨_, h2, h3⟩ => ⟨h2 hit, h3⟩
            have hRn : RR = none := by rw [← HF.out, readN, hit]; rfl
            have HRn := Aside0.mk hRn
            clear hcw hit hRn
            go_wp2_with fail
            refine hcn.mono ?_
            rintro E w2 ⟨rfl, hg2⟩
            go_wp2
            exact ⟨rfl, hno _ HRn.out (gb_trans HG.out hg2)⟩
          | some p =>
            obtain ⟨x, l3⟩ := p
            have hcs : Calls Try.prog 79 #[.pointer (some ⟨G, 0, none⟩)] wr fun E w' => E = .returned (.agg #[.int .i64 x.f0, .int .i64 x.f1, .string x.f2]) ∧ RdS w0 w' G l3 ∧ wr.grownBy w' (some G) := hcw.mono fun E w' ⟨h1, _, h3⟩ => ⟨(h1 x l3 hit).1, (h1 x l3 hit).2, h3⟩
            have hF2 : ((readN itemV k1 l3).map fun q => ((xs ++ [x]) ++ q.1, q.2)) = RR := by
              rw [← HF.out, readN, hit]
              simp only [Option.bind_some]
              cases readN itemV k1 l3 with
              | none => rfl
              | some q => simp
            have hl3 : l3.length ≤ l2.length := Nat.le_of_lt (itemV_less l2 x l3 hit)
            have HF3 := Aside0.mk hF2
            have HL3 := Aside0.mk (show l3.length ≤ 1000000000 by have := HL.out; omega)
            clear hcw hit hF2 hl3 HF HL
            go_wp2_with fail
            refine hcs.mono ?_
            rintro E w2 ⟨rfl, hs2, hg2⟩
            have HG2 := Aside0.mk (gb_trans HG.out hg2)
            have HO2 := Aside0.mk (R_past HO.out hg2 hG.1)
            have HS2 := Aside0.mk hs2
            have HZ := Aside0.mk (show w.heap.size ≤ w2.heap.size from HG2.out.4)
            clear hg2 hs2 HO HS HG
            go_wp2_with (first | ((with_reducible refine gate_builtin (b := .append) (xs := #[.tmp 22, .tmp 25]) rfl ?_); (try (refine gate_guard (by rfl) ?_; dsimp only)); at_builtin; refine Kd.R_append k116 (w0 := w2) w.heap.size rfl (.tmp 22) (.tmp 25) 111 116 (.agg #[.int .i64 0, .int .i64 0, .string ⟨#[]⟩]) 32 rfl Try.underlying111 info116 rfl (by decide) (by omega) u6 xs x [.int .i64 x.f0, .int .i64 x.f1, .string x.f2] (fun _ => True) (fun _ => False) rfl rfl ?aP (fun _ hk => hk.elim) ?aF ?aO ?aB ?aS ?aL ?_; (case aP => exact k116_mkM _ _ _ x); (case aB => exact Below.refl _ _); (case aF => exact (fun _ _ => trivial)); (case aO => exact HO2.out); (case aS => exact HZ.out); (case aL => have := HX.out; omega); intro v1 w3 ho hb hg hat; have HO3 := Aside0.mk ho; have HGr := Aside0.mk hg; clear ho hb hg hat))
            have hne : ∀ k, u6.ownBlock = some k → w.heap.size ≤ k := Kd.R_base HO2.out
            have HS3 := Aside0.mk (HS2.out.step HGr.out (fun e => by have := hne G e.symm; omega) (fun k e => by have := hne k e; omega))
            have HG3 := Aside0.mk (gb_new HG2.out HGr.out hne)
            clear hne
            go_roundg k1
            case measure => omega
            case rel => exact ⟨i + 1, xs ++ [x], l3, by congr 1, ⟨by have := HI.out; omega⟩, HF3, ⟨by rw [List.length_append, HX.out]; rfl⟩, HO3, HS3, HG3, HL3⟩
  · rw [if_neg he] at hRR
    have hc : Calls Try.prog 111 #[.pointer (some ⟨G, 0, none⟩)] w fun E w' => E = .panicked badP ∧ w.grownBy w' (some G) := hnum.mono fun E w' ⟨_, h2, h3⟩ => ⟨h2 he, h3⟩
    have HR := Aside0.mk hRR
    clear hnum hn hl1 hun hj he hs hRR
    go_enter Try.func78, Try.ntmps78
    go_wp2_with fail
    refine hc.mono ?_
    rintro E w1 ⟨rfl, hg1⟩
    go_wp2
    exact ⟨rfl, hno _ HR.out.symm hg1⟩
set_option maxHeartbeats 4000000 in
set_option maxRecDepth 100000 in
theorem nextR_item (p G : Nat) (l : List Int) (hl : l.length ≤ 1000000000) (w0 w : World) (hs : RdS w0 w G l) (hp : PBox w p G) (hne : p ≠ G) :
    Calls Try.prog 77 #[.pointer (some ⟨p, 0, none⟩)] w fun E w' =>
      (∀ xs l', itemR l = some (xs, l') → (∃ v, E = .returned v ∧ Kd.R k116 116 w' w.heap.size (fun _ => True) v xs) ∧ RdS w0 w' G l') ∧ (itemR l = none → E = .panicked badP) ∧ w.grownBy w' (some G) := by
  have mf := mkf
  have cp := hp.cell
  obtain ⟨RR, hRR⟩ : ∃ RR, itemR l = RR := ⟨_, rfl⟩
  rw [hRR]
  obtain ⟨R1, hR1⟩ : ∃ R1, readItems itemV l = R1 := ⟨_, rfl⟩
  have hc := itemsV_calls G l hl w0 w hs R1 hR1
  unfold itemR at hRR
  rw [hR1] at hRR
  obtain ⟨Q, hQ⟩ : ∃ Q : Ending → World → Prop, Q = fun E w' =>
      (∀ xs l', RR = some (xs, l') → (∃ v, E = .returned v ∧ Kd.R k116 116 w' w.heap.size (fun _ => True) v xs) ∧ RdS w0 w' G l') ∧ (RR = none → E = .panicked badP) ∧ w.grownBy w' (some G) := ⟨_, rfl⟩
  rw [← hQ]
  have hno : Aside0 (∀ w', RR = none → w.grownBy w' (some G) → Q (.panicked badP) w') := ⟨by
    intro w' h1 h2
    rw [hQ]
    exact ⟨fun xs l' h => (by rw [h1] at h; cases h), fun _ => rfl, h2⟩⟩
  have hyes : Aside0 (∀ w' v xs l', RR = some (xs, l') → Kd.R k116 116 w' w.heap.size (fun _ => True) v xs → RdS w0 w' G l' → w.grownBy w' (some G) → Q (.returned v) w') := ⟨by
    intro w' v xs l' h1 h2 h3 h4
    rw [hQ]
    refine ⟨fun xs' l'' h => ?_, fun h => (by rw [h1] at h; cases h), h4⟩
    rw [h1] at h
    simp only [Option.some.injEq, Prod.mk.injEq] at h
    obtain ⟨rfl, rfl⟩ := h
    exact ⟨⟨v, rfl, h2⟩, h3⟩⟩
  replace hR1 := Aside0.mk hR1
  clear hQ hs hp hne
  cases hR : R1 with
  | none =>
    rw [hR] at hRR
    have HR := Aside0.mk hRR
    have hcn : Calls Try.prog 78 #[.pointer (some ⟨G, 0, none⟩), .func (.func 79) #[.pointer (some ⟨G, 0, none⟩)] #[]] w fun E w' => E = .panicked badP ∧ w.grownBy w' (some G) := hc.mono fun E w' h => ⟨h.2.1 hR, h.2.2⟩
    clear hc hR hRR
    go_enter Try.func77, Try.ntmps77
    go_wp2_with fail
    refine hcn.mono ?_
    rintro E w1 ⟨rfl, hg1⟩
    go_wp2
    exact ⟨rfl, hno.out _ HR.out.symm hg1⟩
  | some q =>
    obtain ⟨xs, l'⟩ := q
    rw [hR] at hRR
    simp only [Option.bind_some] at hRR
    have hcs : Calls Try.prog 78 #[.pointer (some ⟨G, 0, none⟩), .func (.func 79) #[.pointer (some ⟨G, 0, none⟩)] #[]] w fun E w' => (∃ v, E = .returned v ∧ Kd.R k116 116 w' w.heap.size (fun _ => True) v xs) ∧ RdS w0 w' G l' ∧ w.grownBy w' (some G) := hc.mono fun E w' h => by
      obtain ⟨v, e, hv, hr⟩ := h.1 xs l' hR
      exact ⟨⟨v, e, hv⟩, hr, h.2.2⟩
    have HR := Aside0.mk hRR
    have HXL := Aside0.mk (show xs.length ≤ 9223372036854775806 by have := readItems_count itemV itemV_less l xs l' (hR1.out.trans hR); omega)
    clear hc hR hRR
    go_enter Try.func77, Try.ntmps77
    go_wp2_with fail
    refine hcs.mono ?_
    rintro E w1 ⟨⟨v, rfl, hv⟩, hs1, hg1⟩
    obtain ⟨Av, cv, rfl⟩ := Kd.R_slice hv
    have HV := Aside0.mk hv
    have HS1 := Aside0.mk hs1
    have HG1 := Aside0.mk hg1
    have hrd := Kd.R_reads' hv
    have hmax := Kd.C_max hrd.2.2
    obtain ⟨K, hK⟩ := (row_ev xs HXL.out).rounds
    have HK := Aside0.mk hK
    have HRD := Aside0.mk hrd
    clear hv hs1 hg1 hcs cp hrd hmax hK
    go_wp2_with fail
    refine (value_Row.calls K Av cv xs (rowOk xs) _ HRD.out.2.2 HRD.out.2.1 HK.out).mono ?_
    rintro E w2 ⟨rfl, hb2⟩
    have hg2 := grown_of_below hb2 none
    have HV2 := Aside0.mk (Kd.R_below HV.out hb2)
    have HS2 := Aside0.mk (HS1.out.step hg2 (by simp) (by simp))
    have HG2 := Aside0.mk (gb_new HG1.out hg2 (fun k e => by cases e))
    clear hb2 hg2 HV HS1 HG1 HRD HK
    cases hr : rowOk xs with
    | true =>
      have hR := HR.out
      rw [if_pos hr] at hR
      have HRy := Aside0.mk hR
      clear HR hR hr
      go_wp2
      first | exact hyes.out _ _ _ _ HRy.out.symm HV2.out HS2.out HG2.out | (go_ret; exact hyes.out _ _ _ _ HRy.out.symm HV2.out HS2.out HG2.out)
    | false =>
      have hR := HR.out
      rw [if_neg (by rw [hr]; simp)] at hR
      have HRy := Aside0.mk hR
      clear HR hR hr
      go_wp2
      exact ⟨rfl, hno.out _ HRy.out.symm HG2.out⟩
end Go.Proofs.Ytgihecpobichbaa.Q
/- package code's Unrows: walked. Printed by wip/gen/readx.py. -/
namespace Go.Proofs.Ytgihecpobichbaa.Q
open Go.RowKit Go.Proofs.YtgihecpobichbaaW.PrintWords Go.Proofs.YtgihecpobichbaaW.PrintLast Go.Proofs.YtgihecpobichbaaW.PrintMore
set_option linter.unusedVariables false
set_option linter.unusedSimpArgs false
set_option maxHeartbeats 4000000 in
set_option maxRecDepth 100000 in
theorem itemsR_calls (p G : Nat) (l : List Int) (hl : l.length ≤ 1000000000) (w0 w : World) (hs : RdS w0 w G l) (hp : PBox w p G) (hne : p ≠ G) (RR : Option (List (List S116) × List Int)) (hRR : readItems itemR l = RR) :
    Calls Try.prog 76 #[.pointer (some ⟨G, 0, none⟩), .func (.func 77) #[] #[.pointer (some ⟨p, 0, none⟩)]] w fun E w' =>
      (∀ xs l', RR = some (xs, l') → ∃ v, E = .returned v ∧ Kd.R (Kd.slice 116 k116) 111 w' w.heap.size (fun _ => True) v xs ∧ RdS w0 w' G l') ∧ (RR = none → E = .panicked badP) ∧ w.grownBy w' (some G) := by
  have hG := hs.lt
  have hplt := blk_lt hp
  have HP0 := Aside0.mk hp
  have hnum := num_un G l (by omega) w0 w hs
  obtain ⟨Q, hQ⟩ : ∃ Q : Ending → World → Prop, Q = fun E w' => (∀ xs l', RR = some (xs, l') → ∃ v, E = .returned v ∧ Kd.R (Kd.slice 116 k116) 111 w' w.heap.size (fun _ => True) v xs ∧ RdS w0 w' G l') ∧ (RR = none → E = .panicked badP) ∧ w.grownBy w' (some G) := ⟨_, rfl⟩
  rw [← hQ]
  have hno : ∀ w', RR = none → w.grownBy w' (some G) → Q (.panicked badP) w' := by
    intro w' h1 h2
    rw [hQ]
    exact ⟨fun xs l' h => (by rw [h1] at h; cases h), fun _ => rfl, h2⟩
  have hyes : ∀ w' v xs l', RR = some (xs, l') → Kd.R (Kd.slice 116 k116) 111 w' w.heap.size (fun _ => True) v xs → RdS w0 w' G l' → w.grownBy w' (some G) → Q (.returned v) w' := by
    intro w' v xs l' h1 h2 h3 h4
    rw [hQ]
    refine ⟨fun xs' l'' h => ?_, fun h => (by rw [h1] at h; cases h), h4⟩
    rw [h1] at h
    simp only [Option.some.injEq, Prod.mk.injEq] at h
    obtain ⟨rfl, rfl⟩ := h
    exact ⟨v, rfl, h2, h3⟩
  clear hQ
  unfold readItems at hRR
  have hun := unS_le l 0 0
  have hj : 0 ≤ (un l).2.1 ∧ (un l).2.1 ≤ (l.length : Int) := ⟨hun.1, by simpa [un] using hun.2⟩
  obtain ⟨n, hn⟩ : ∃ n, (un l).1 = n := ⟨_, rfl⟩
  have hn0 : 0 ≤ n := hn ▸ un_range l (by omega)
  obtain ⟨l1, hl1⟩ : ∃ l1, l.drop (un l).2.1.toNat = l1 := ⟨_, rfl⟩
  have hl1' : l1.length ≤ 1000000000 := by rw [← hl1, List.length_drop]; omega
  by_cases he : (un l).2.2 = 0
  · rw [if_pos he, hn, hl1] at hRR
    rw [hn, hl1] at hnum
    have hc : Calls Try.prog 111 #[.pointer (some ⟨G, 0, none⟩)] w fun E w' => E = .returned (.int .u64 n) ∧ RdS w0 w' G l1 ∧ w.grownBy w' (some G) := hnum.mono fun E w' ⟨h1, _, h3⟩ => ⟨(h1 he).1, (h1 he).2, h3⟩
    clear hnum hn hl1 hun hj he hs hp
    go_enter Try.func76, Try.ntmps76
    go_wp2_with fail
    refine hc.mono ?_
    rintro E w1 ⟨rfl, hs1, hg1⟩
    have hG1 := hs1.lt
    obtain ⟨A1, c1, h1⟩ := hs1
    have hcell := h1.box.cell
    have hfz := h1.box.frozen
    have hlen : (l1.length : Int) ≤ 18446744073709551615 := by omega
    by_cases hbig : n > (l1.length : Int)
    · rw [if_pos hbig] at hRR
      have HR := Aside0.mk hRR
      clear hRR hc
      go_wp2
      exact ⟨rfl, hno _ HR.out.symm hg1⟩
    · rw [if_neg hbig] at hRR
      have HR := Aside0.mk hRR
      have HS1 := Aside0.mk (⟨A1, c1, h1⟩ : RdS w0 w1 G l1)
      have HG1 := Aside0.mk hg1
      have HPB1 := Aside0.mk (HP0.out.grown hg1 hne)
      clear hRR hc h1 hg1
      go_wp2_with fail
      have hnle : n ≤ 1000000000 := by omega
      have HB := Aside0.mk hbig
      clear hbig hcell hfz
      go_loopg [6, 20] (n.toNat) (fun kq v6 v20 wr => ∃ (i : Nat) (xs : List (List S116)) (l2 : List Int), v20 = .int .u64 i ∧ Aside0 ((i : Int) + kq = n) ∧ Aside0 (((readN itemR kq l2).map fun q => (xs ++ q.1, q.2)) = RR) ∧ Aside0 (xs.length = i) ∧ Aside0 (Kd.R (Kd.slice 116 k116) 111 wr w.heap.size (fun _ => True) v6 xs) ∧ Aside0 (RdS w0 wr G l2) ∧ Aside0 (w.grownBy wr (some G)) ∧ Aside0 (l2.length ≤ 1000000000) ∧ Aside0 (PBox wr p G))
      case atStart => exact ⟨0, [], l1, rfl, ⟨by omega⟩, ⟨by rw [← HR.out]; cases readN itemR n.toNat l1 <;> rfl⟩, ⟨rfl⟩, ⟨Kd.R_nil _ _ _ _ _⟩, HS1, HG1, ⟨hl1'⟩, HPB1⟩
      case round =>
        clear HR HS1 HG1 HPB1
        obtain ⟨i, xs, l2, rfl, HI, HF, HX, HO, HS, HG, HL, HPB⟩ := hrel
        cases gk with
        | zero =>
          have hlb : decide ((i : Int) < n) = false := decide_eq_false (by have := HI.out; omega)
          have hF := HF.out
          simp only [readN, Option.map_some, List.append_nil] at hF
          have HF2 := Aside0.mk hF
          clear hF HF
          go_wp2
          first
            | exact hyes _ _ _ _ HF2.out.symm HO.out HS.out HG.out
            | (go_ret; exact hyes _ _ _ _ HF2.out.symm HO.out HS.out HG.out)
        | succ k1 =>
          have hlb : decide ((i : Int) < n) = true := decide_eq_true (by have := HI.out; omega)
          have hi1 : (i : Int) + 1 ≤ 1000000001 := by have := HI.out; omega
          have hcw := nextR_item p G l2 HL.out w0 wr HS.out HPB.out hne
          cases hit : itemR l2 with
          | none =>
            have hcn : Calls Try.prog 77 #[.pointer (some ⟨p, 0, none⟩)] wr fun E w' => E = .panicked badP ∧ wr.grownBy w' (some G) := hcw.mono fun E w' ⟨_, h2, h3⟩ => ⟨h2 hit, h3⟩
            have hRn : RR = none := by rw [← HF.out, readN, hit]; rfl
            have HRn := Aside0.mk hRn
            clear hcw hit hRn
            go_wp2_with fail
            refine hcn.mono ?_
            rintro E w2 ⟨rfl, hg2⟩
            go_wp2
            exact ⟨rfl, hno _ HRn.out (gb_trans HG.out hg2)⟩
          | some p =>
            obtain ⟨x, l3⟩ := p
            have hcs : Calls Try.prog 77 #[.pointer (some ⟨p, 0, none⟩)] wr fun E w' => (∃ vx, E = .returned vx ∧ Kd.R k116 116 w' wr.heap.size (fun _ => True) vx x) ∧ RdS w0 w' G l3 ∧ wr.grownBy w' (some G) := hcw.mono fun E w' ⟨h1, _, h3⟩ => ⟨(h1 x l3 hit).1, (h1 x l3 hit).2, h3⟩
            have hF2 : ((readN itemR k1 l3).map fun q => ((xs ++ [x]) ++ q.1, q.2)) = RR := by
              rw [← HF.out, readN, hit]
              simp only [Option.bind_some]
              cases readN itemR k1 l3 with
              | none => rfl
              | some q => simp
            have hl3 : l3.length ≤ l2.length := Nat.le_of_lt (itemR_less l2 x l3 hit)
            have HF3 := Aside0.mk hF2
            have HL3 := Aside0.mk (show l3.length ≤ 1000000000 by have := HL.out; omega)
            clear hcw hit hF2 hl3 HF HL
            go_wp2_with fail
            refine hcs.mono ?_
            rintro E w2 ⟨⟨vx, rfl, hvx⟩, hs2, hg2⟩
            obtain ⟨Ax, cx, rfl⟩ := Kd.R_slice hvx
            have HVX := Aside0.mk (Kd.R_lower (Kd.R_bound hvx) (base' := w.heap.size) HG.out.size)
            have HUL := Aside0.mk (Kd.R_lt HO.out)
            clear hvx
            have HG2 := Aside0.mk (gb_trans HG.out hg2)
            have HO2 := Aside0.mk (R_past HO.out hg2 hG.1)
            have HS2 := Aside0.mk hs2
            have HPB2 := Aside0.mk (HPB.out.grown hg2 hne)
            have HZ := Aside0.mk (show w.heap.size ≤ w2.heap.size from HG2.out.4)
            clear hg2 hs2 HO HS HG HPB
            go_wp2_with (first | ((with_reducible refine gate_builtin (b := .append) (xs := #[.tmp 22, .tmp 25]) rfl ?_); (try (refine gate_guard (by rfl) ?_; dsimp only)); at_builtin; refine Kd.R_append (Kd.slice 116 k116) (w0 := w2) w.heap.size rfl (.tmp 22) (.tmp 25) 37 111 (.slice none 0 0) 24 rfl Try.underlying37 info111 rfl (by decide) (by omega) u6 xs x [.slice Ax x.length cx] (fun _ => True) (fun k => True ∧ wr.heap.size ≤ k ∧ k < w2.heap.size ∧ ∃ q, q ∈ 116 :: (k116).E ∧ ∃ cells, w2.heap[k]? = some (.cells cells q (0, 0))) rfl rfl ?aP (fun k hk => ⟨trivial, fun e => by have := HUL.out k e.symm; have := hk.2.1; omega⟩) ?aF ?aO ?aB ?aS ?aL ?_; (case aP => exact ⟨_, rfl, HVX.out⟩); (case aB => exact Below.refl _ _); (case aF => exact (fun _ _ => trivial)); (case aO => exact HO2.out); (case aS => exact HZ.out); (case aL => have := HX.out; omega); intro v1 w3 ho hb hg hat; have HO3 := Aside0.mk ho; have HGr := Aside0.mk hg; clear ho hb hg hat))
            have hnb : ∀ k, u6.ownBlock = some k → w.heap.size ≤ k := Kd.R_base HO2.out
            have HS3 := Aside0.mk (HS2.out.step HGr.out (fun e => by have := hnb G e.symm; omega) (fun k e => by have := hnb k e; omega))
            have HG3 := Aside0.mk (gb_new HG2.out HGr.out hnb)
            have HPB3 := Aside0.mk (blk_grown HPB2.out HGr.out (fun e => by have := hnb p e.symm; omega))
            clear hnb
            go_roundg k1
            case measure => omega
            case rel => exact ⟨i + 1, xs ++ [x], l3, by congr 1, ⟨by have := HI.out; omega⟩, HF3, ⟨by rw [List.length_append, HX.out]; rfl⟩, HO3, HS3, HG3, HL3, HPB3⟩
  · rw [if_neg he] at hRR
    have hc : Calls Try.prog 111 #[.pointer (some ⟨G, 0, none⟩)] w fun E w' => E = .panicked badP ∧ w.grownBy w' (some G) := hnum.mono fun E w' ⟨_, h2, h3⟩ => ⟨h2 he, h3⟩
    have HR := Aside0.mk hRR
    clear hnum hn hl1 hun hj he hs hRR hp
    go_enter Try.func76, Try.ntmps76
    go_wp2_with fail
    refine hc.mono ?_
    rintro E w1 ⟨rfl, hg1⟩
    go_wp2
    exact ⟨rfl, hno _ HR.out.symm hg1⟩
def ItemsROut (w0 w : World) (G : Nat) (RR : Option (List (List S116) × List Int)) (E : Ending) (w' : World) : Prop :=
  (∀ xs l', RR = some (xs, l') → ∃ v, E = .returned v ∧ Kd.R (Kd.slice 116 k116) 111 w' w.heap.size (fun _ => True) v xs ∧ RdS w0 w' G l') ∧ (RR = none → E = .panicked badP) ∧ w.grownBy w' (some G)
set_option maxHeartbeats 1000000 in
theorem un1R_calls (G : Nat) (l : List Int) (hl : l.length ≤ 1000000000) (w0 w : World) (hs : RdS w0 w G l) :
    Calls Try.prog 75 #[.pointer (some ⟨G, 0, none⟩)] w (ItemsROut w0 w G (readItems itemR l)) := by
  have mf := mkf
  have hG := hs.lt2
  obtain ⟨RR, hRR⟩ : ∃ RR, readItems itemR l = RR := ⟨_, rfl⟩
  have hpb : PBox (w.alloc (.cells #[.pointer (some ⟨G, 0, none⟩)] 129)) w.heap.size G := blk_new w _
  have hc := itemsR_calls w.heap.size G l hl w0 _ (hs.step (World.grownBy_alloc w (.cells #[.pointer (some ⟨G, 0, none⟩)] 129) none) (by simp) (by simp)) hpb (by omega) RR hRR
  have c0 := hpb.cell
  rw [hRR]
  obtain ⟨Q, hQ⟩ : ∃ Q : Ending → World → Prop, Q = ItemsROut w0 w G RR := ⟨_, rfl⟩
  rw [← hQ]
  have hQ' : ∀ E w', ItemsROut w0 w G RR E w' → Q E w' := fun E w' h => by rw [hQ]; exact h
  clear hQ hs hRR hpb hG
  go_enter Try.func75, Try.ntmps75
  go_wp2_with fail
  refine hc.mono ?_
  rintro E w1 ⟨h1, h2, h3⟩
  have h3' : w.grownBy w1 (some G) := World.grownBy.trans (World.grownBy_alloc w _ _) h3
  have h1' : ∀ xs l', RR = some (xs, l') → ∃ v, E = .returned v ∧ Kd.R (Kd.slice 116 k116) 111 w1 w.heap.size (fun _ => True) v xs ∧ RdS w0 w1 G l' := by
    intro xs l' hx
    obtain ⟨v, e, hv, hr⟩ := h1 xs l' hx
    exact ⟨v, e, Kd.R_lower hv (by rw [World.size_alloc]; omega), hr⟩
  clear h1 h3 c0
  cases hR : RR with
  | none =>
    obtain rfl := h2 hR
    have H := hQ' (.panicked badP) w1 ⟨h1', h2, h3'⟩
    clear h1' h2 hQ' hc h3'
    go_wp2
    exact ⟨rfl, H⟩
  | some p =>
    obtain ⟨xs, l'⟩ := p
    obtain ⟨v, rfl, h4, h5⟩ := h1' xs l' hR
    have H := hQ' (.returned v) w1 ⟨h1', h2, h3'⟩
    clear h1' h2 hQ' hc h4 h5 h3'
    go_wp2
    first | exact H | (go_ret; exact H)
set_option maxHeartbeats 1000000 in
theorem catch_bad_R (bl be : Nat) (hne : bl ≠ be) (v0 : Value) (e0 : Int) (w : World) (hl : Boxed w bl 37 v0) (he : Boxed w be 24 (.int .i64 e0)) :
    CallsD Try.prog 110 #[.pointer (some ⟨bl, 0, none⟩), .pointer (some ⟨be, 0, none⟩)] (.panicking badP) w fun e u' w' =>
      e = .returned (.tuple #[]) ∧ u' = .panicking [{ v := .iface 134 (.agg #[]), recovered := true }] ∧ w' = ((w.setCell ⟨bl, 0, none⟩ (.slice none 0 0)).setCell ⟨be, 0, none⟩ (.int .i64 41)).alloc (.cells #[] 134) := by
  have l1 := hl.lt
  have l2 := he.lt
  have m1 := hl.cell
  have f1 := hl.frozen
  have m2 := he.cell
  have f2 := he.frozen
  have m3 := (he.other (Ne.symm hne) (.slice none 0 0)).cell
  have f3 := (he.other (Ne.symm hne) (.slice none 0 0)).frozen
  refine callsD_of_wpS Try.func110 rfl fun c₀ cs hu => ?_
  unfold badP at hu
  apply wpS_seq
  apply wpS_region
  simp [wpOpsS, go_sem, recoverD, hu, Try.ntmps110, Exit.thenS]
  have k1 := bad_ne
  have k2 := assert_bad
  refine wpS_of_wp ?_
  simp only [Array.replicate_succ, Array.replicate_zero, List.push_toArray, List.append_toArray, List.nil_append, List.cons_append, List.setIfInBounds_toArray, List.set_cons_succ, List.set_cons_zero]
  go_wp2
  simp [bodyPostS, results, Try.results110]
theorem catch_idle_R (p q : Addr) (w : World) :
    CallsD Try.prog 110 #[.pointer (some p), .pointer (some q)] .returning w fun e u' w' => e = .returned (.tuple #[]) ∧ u' = .returning ∧ w = w' := by
  have k3 : ∀ w : World, (binOp .neq 20 .nilIface .nilIface).run Try.prog w = .ok (.bool false) w := fun _ => by kernel_rfl
  refine callsD_of_wpS Try.func110 rfl fun c₀ cs hu => ?_
  apply wpS_seq
  apply wpS_region
  simp [wpOpsS, go_sem, recoverD, hu, Try.ntmps110, Exit.thenS]
  refine wpS_of_wp ?_
  simp only [Array.replicate_succ, Array.replicate_zero, List.push_toArray, List.append_toArray, List.nil_append, List.cons_append, List.setIfInBounds_toArray, List.set_cons_succ, List.set_cons_zero]
  go_wp2
  cases c₀
  simp_all [bodyPostS, results, Try.results110]
/-- What code.Unrows comes to. -/
def readR (l : List Int) : List (List S116) × Int :=
  match readItems itemR l with
  | some (xs, l') => if l'.length > 0 ∨ l.length > 16777216 then ([], 41) else (xs, 0)
  | none => ([], 41)
set_option maxHeartbeats 4000000 in
set_option maxRecDepth 100000 in
theorem readR_calls (A : Option Addr) (c : Nat) (l : List Int) (hl : l.length ≤ 1000000000) (w : World) (hr : Kd.C (Kd.int .u8) w A l.length l) (hc : l.length ≤ c) (r1 : List (List S116)) (r2 : Int) (hrr : readR l = (r1, r2)) :
    Calls Try.prog 74 #[.slice A l.length c, .func (.func 75) #[] #[]] w fun e w' => ∃ v0_ : Value, e = .returned (.tuple #[v0_, .int .i64 r2]) ∧ Kd.R (Kd.slice 116 k116) 111 w' w.heap.size (fun _ => True) v0_ r1 ∧ Below w.heap.size w w' := by
  have mf := mkf
  have HR := Aside0.mk hr
  clear hr
  go_enter_defers Try.func74, Try.ntmps74
  go_wp2_with fail
  have bg := Boxed.new ((w.alloc (.cells #[.slice none 0 0] 37)).alloc (.cells #[.int .i64 0] 24)) 168 (.slice A l.length c)
  rw [World.size_alloc, World.size_alloc] at bg
  have bl := ((Boxed.new w 37 (.slice none 0 0)).alloc (.cells #[.int .i64 0] 24)).alloc (.cells #[.slice A l.length c] 168)
  have be := (Boxed.new (w.alloc (.cells #[.slice none 0 0] 37)) 24 (.int .i64 0)).alloc (.cells #[.slice A l.length c] 168)
  rw [World.size_alloc] at be
  have hb3 : Below w.heap.size w (((w.alloc (.cells #[.slice none 0 0] 37)).alloc (.cells #[.int .i64 0] 24)).alloc (.cells #[.slice A l.length c] 168)) := below_alloc (below_alloc (below_alloc (Below.refl _ _) _) _) _
  have hs3 : (((w.alloc (.cells #[.slice none 0 0] 37)).alloc (.cells #[.int .i64 0] 24)).alloc (.cells #[.slice A l.length c] 168)).heap.size = w.heap.size + 1 + 1 + 1 := by rw [World.size_alloc, World.size_alloc, World.size_alloc]
  generalize ((w.alloc (.cells #[.slice none 0 0] 37)).alloc (.cells #[.int .i64 0] 24)).alloc (.cells #[.slice A l.length c] 168) = W3 at bg bl be hb3 hs3 ⊢
  refine (un1R_calls (w.heap.size + 1 + 1) l hl w W3 ⟨A, c, ⟨bg, HR.out, hb3, by omega, hc⟩⟩).mono ?_
  rintro E w1 ⟨h1, h2, h3⟩
  have bl1 := bl.kept h3 (fun e => by injection e with e; omega)
  have be1 := be.kept h3 (fun e => by injection e with e; omega)
  have hb1 : Below w.heap.size w w1 := hb3.grown h3 (by omega) (fun k hk => by injection hk with hk; omega)
  have HB1 := Aside0.mk hb1
  have BL := Aside0.mk bl1
  have BE := Aside0.mk be1
  have hlt := h3.size
  rw [hs3] at hlt
  cases hR : readItems itemR l with
  | none =>
    obtain rfl := h2 hR
    have hI : readR l = ([], 41) := by unfold readR; rw [hR]
    rw [hI] at hrr
    simp only [Prod.mk.injEq] at hrr
    obtain ⟨rfl, rfl⟩ := hrr
    clear h1 h2 h3 bg bl be hb3 bl1 be1 hb1 hR hI
    unfold badP
    go_wp2
    refine leaves_cons (f := 110) (args := #[.pointer (some ⟨w.heap.size, 0, none⟩), .pointer (some ⟨w.heap.size + 1, 0, none⟩)]) (by simp) (by simp [go_sem]) ?_
    refine (catch_bad_R w.heap.size (w.heap.size + 1) (by omega) (.slice none 0 0) 0 w1 BL.out BE.out).mono ?_
    rintro e u' w'' ⟨rfl, rfl, rfl⟩
    have xl := ((BL.out.set (.slice none 0 0)).other (show w.heap.size ≠ w.heap.size + 1 by omega) (.int .i64 41)).alloc (.cells #[] 134)
    have xe := ((BE.out.other (show w.heap.size + 1 ≠ w.heap.size by omega) (.slice none 0 0)).set (.int .i64 41)).alloc (.cells #[] 134)
    have yl := xl.cell
    have ye := xe.cell
    have hB : Below w.heap.size w (((w1.setCell ⟨w.heap.size, 0, none⟩ (.slice none 0 0)).setCell ⟨w.heap.size + 1, 0, none⟩ (.int .i64 41)).alloc (.cells #[] 134)) := below_alloc (below_set (below_set HB1.out (by omega)) (by omega)) _
    generalize ((w1.setCell ⟨w.heap.size, 0, none⟩ (.slice none 0 0)).setCell ⟨w.heap.size + 1, 0, none⟩ (.int .i64 41)).alloc (.cells #[] 134) = W4 at xl xe yl ye hB ⊢
    simp [Leaves, settle, results, Try.results74, go_sem]
    refine ⟨.tuple #[.slice none 0 0, .int .i64 41], by simp [yl, ye, go_sem], _, rfl, Kd.R_nil _ _ _ _ _, hB⟩
  | some p =>
    obtain ⟨xs, l'⟩ := p
    obtain ⟨v, rfl, h4, h5⟩ := h1 xs l' hR
    obtain ⟨A', c', hd⟩ := h5
    obtain ⟨A2, c2, rfl⟩ := Kd.R_slice h4
    have bx := hd.box
    have H4 := Aside0.mk h4
    have hI : readR l = (if l'.length > 0 ∨ l.length > 16777216 then ([], 41) else (xs, 0)) := by unfold readR; rw [hR]
    rw [hI] at hrr
    have cg : (w1.setCell ⟨w.heap.size, 0, none⟩ (.slice A2 xs.length c2)).cell? ⟨w.heap.size + 1 + 1, 0, none⟩ = some (.slice A' l'.length c') := (bx.other (by omega) (.slice A2 xs.length c2)).cell
    have BL2 : Aside0 (Boxed (w1.setCell ⟨w.heap.size, 0, none⟩ (.slice A2 xs.length c2)) w.heap.size 37 (.slice A2 xs.length c2)) := ⟨BL.out.set _⟩
    have BE2 : Aside0 (Boxed (w1.setCell ⟨w.heap.size, 0, none⟩ (.slice A2 xs.length c2)) (w.heap.size + 1) 24 (.int .i64 0)) := ⟨BE.out.other (by omega) _⟩
    have HB2 : Aside0 (Below w.heap.size w (w1.setCell ⟨w.heap.size, 0, none⟩ (.slice A2 xs.length c2))) := ⟨below_set HB1.out (by omega)⟩
    have cl1 : w1.cell? ⟨w.heap.size, 0, none⟩ = some (.slice none 0 0) := bl1.cell
    have fl1 : w1.frozen? ⟨w.heap.size, 0, none⟩ = false := bl1.frozen
    have ce1 : w1.cell? ⟨w.heap.size + 1, 0, none⟩ = some (.int .i64 0) := be1.cell
    have fe1 : w1.frozen? ⟨w.heap.size + 1, 0, none⟩ = false := be1.frozen
    clear h1 h2 h3 bg bl be hb3 bl1 be1 hb1 hR hI h4 hd bx
    by_cases hx : l'.length > 0
    · rw [if_pos (.inl hx)] at hrr
      simp only [Prod.mk.injEq] at hrr
      obtain ⟨rfl, rfl⟩ := hrr
      have d1 : decide (0 < (l'.length : Int)) = true := decide_eq_true (by omega)
      have d2 : decide (0 < l'.length) = true := decide_eq_true hx
      clear hx
      go_wp2
      refine leaves_cons (f := 110) (args := #[.pointer (some ⟨w.heap.size, 0, none⟩), .pointer (some ⟨w.heap.size + 1, 0, none⟩)]) (by simp) (by simp [go_sem]) ?_
      refine (catch_bad_R w.heap.size (w.heap.size + 1) (by omega) (.slice A2 xs.length c2) 0 (w1.setCell ⟨w.heap.size, 0, none⟩ (.slice A2 xs.length c2)) BL2.out BE2.out).mono ?_
      rintro e u' w'' ⟨rfl, rfl, rfl⟩
      have xl := ((BL2.out.set (.slice none 0 0)).other (show w.heap.size ≠ w.heap.size + 1 by omega) (.int .i64 41)).alloc (.cells #[] 134)
      have xe := ((BE2.out.other (show w.heap.size + 1 ≠ w.heap.size by omega) (.slice none 0 0)).set (.int .i64 41)).alloc (.cells #[] 134)
      have yl := xl.cell
      have ye := xe.cell
      have hB : Below w.heap.size w ((((w1.setCell ⟨w.heap.size, 0, none⟩ (.slice A2 xs.length c2)).setCell ⟨w.heap.size, 0, none⟩ (.slice none 0 0)).setCell ⟨w.heap.size + 1, 0, none⟩ (.int .i64 41)).alloc (.cells #[] 134)) := below_alloc (below_set (below_set HB2.out (by omega)) (by omega)) _
      generalize (((w1.setCell ⟨w.heap.size, 0, none⟩ (.slice A2 xs.length c2)).setCell ⟨w.heap.size, 0, none⟩ (.slice none 0 0)).setCell ⟨w.heap.size + 1, 0, none⟩ (.int .i64 41)).alloc (.cells #[] 134) = W4 at xl xe yl ye hB ⊢
      simp [Leaves, settle, results, Try.results74, go_sem]
      refine ⟨.tuple #[.slice none 0 0, .int .i64 41], by simp [yl, ye, go_sem], _, rfl, Kd.R_nil _ _ _ _ _, hB⟩
    · have d1 : decide (0 < (l'.length : Int)) = false := decide_eq_false (by omega)
      have d2 : decide (0 < l'.length) = false := decide_eq_false hx
      by_cases hy : l.length > 16777216
      · rw [if_pos (.inr hy)] at hrr
        simp only [Prod.mk.injEq] at hrr
        obtain ⟨rfl, rfl⟩ := hrr
        have e1 : decide (16777216 < (l.length : Int)) = true := decide_eq_true (by omega)
        have e2 : decide (16777216 < l.length) = true := decide_eq_true hy
        clear hx hy
        go_wp2
        refine leaves_cons (f := 110) (args := #[.pointer (some ⟨w.heap.size, 0, none⟩), .pointer (some ⟨w.heap.size + 1, 0, none⟩)]) (by simp) (by simp [go_sem]) ?_
        refine (catch_bad_R w.heap.size (w.heap.size + 1) (by omega) (.slice A2 xs.length c2) 0 (w1.setCell ⟨w.heap.size, 0, none⟩ (.slice A2 xs.length c2)) BL2.out BE2.out).mono ?_
        rintro e u' w'' ⟨rfl, rfl, rfl⟩
        have xl := ((BL2.out.set (.slice none 0 0)).other (show w.heap.size ≠ w.heap.size + 1 by omega) (.int .i64 41)).alloc (.cells #[] 134)
        have xe := ((BE2.out.other (show w.heap.size + 1 ≠ w.heap.size by omega) (.slice none 0 0)).set (.int .i64 41)).alloc (.cells #[] 134)
        have yl := xl.cell
        have ye := xe.cell
        have hB : Below w.heap.size w ((((w1.setCell ⟨w.heap.size, 0, none⟩ (.slice A2 xs.length c2)).setCell ⟨w.heap.size, 0, none⟩ (.slice none 0 0)).setCell ⟨w.heap.size + 1, 0, none⟩ (.int .i64 41)).alloc (.cells #[] 134)) := below_alloc (below_set (below_set HB2.out (by omega)) (by omega)) _
        generalize (((w1.setCell ⟨w.heap.size, 0, none⟩ (.slice A2 xs.length c2)).setCell ⟨w.heap.size, 0, none⟩ (.slice none 0 0)).setCell ⟨w.heap.size + 1, 0, none⟩ (.int .i64 41)).alloc (.cells #[] 134) = W4 at xl xe yl ye hB ⊢
        simp [Leaves, settle, results, Try.results74, go_sem]
        refine ⟨.tuple #[.slice none 0 0, .int .i64 41], by simp [yl, ye, go_sem], _, rfl, Kd.R_nil _ _ _ _ _, hB⟩
      · rw [if_neg (by omega)] at hrr
        simp only [Prod.mk.injEq] at hrr
        obtain ⟨rfl, rfl⟩ := hrr
        have e1 : decide (16777216 < (l.length : Int)) = false := decide_eq_false (by omega)
        have e2 : decide (16777216 < l.length) = false := decide_eq_false hy
        clear hx hy
        go_wp2
        refine leaves_cons (f := 110) (args := #[.pointer (some ⟨w.heap.size, 0, none⟩), .pointer (some ⟨w.heap.size + 1, 0, none⟩)]) (by simp) (by simp [go_sem]) ?_
        refine (catch_idle_R ⟨w.heap.size, 0, none⟩ ⟨w.heap.size + 1, 0, none⟩ _).mono ?_
        rintro e u' w'' ⟨rfl, rfl, rfl⟩
        have VV : ∃ v : Value, v = .slice A2 xs.length c2 := ⟨_, rfl⟩
        have x1 := (BL2.out.set (.slice A2 xs.length c2)).other (show w.heap.size ≠ w.heap.size + 1 by omega) (.int .i64 0)
        have x2 := (BE2.out.other (show w.heap.size + 1 ≠ w.heap.size by omega) (.slice A2 xs.length c2)).set (.int .i64 0)
        have yl := x1.cell
        have ye := x2.cell
        have hB : Below w.heap.size w (((w1.setCell ⟨w.heap.size, 0, none⟩ (.slice A2 xs.length c2)).setCell ⟨w.heap.size, 0, none⟩ (.slice A2 xs.length c2)).setCell ⟨w.heap.size + 1, 0, none⟩ (.int .i64 0)) := below_set (below_set HB2.out (by omega)) (by omega)
        have q1 := R_past H4.out (grownBy_setCell' w1 w.heap.size (.slice A2 xs.length c2)) (by omega)
        have q2 := R_past q1 (grownBy_setCell' _ w.heap.size (.slice A2 xs.length c2)) (by omega)
        have q3 := Kd.R_lower (base' := w.heap.size) (R_past q2 (grownBy_setCell' _ (w.heap.size + 1) (.int .i64 0)) (by omega)) (by omega)
        generalize ((w1.setCell ⟨w.heap.size, 0, none⟩ (.slice A2 xs.length c2)).setCell ⟨w.heap.size, 0, none⟩ (.slice A2 xs.length c2)).setCell ⟨w.heap.size + 1, 0, none⟩ (.int .i64 0) = W4 at x1 x2 yl ye hB q3 ⊢
        simp [Leaves, settle, results, Try.results74, go_sem]
        refine ⟨.tuple #[.slice A2 xs.length c2, .int .i64 0], by simp [yl, ye, go_sem], _, rfl, q3, hB⟩
def code_Unrows.f (k : Nat) (l0 : List Int) : Option (List (List S116) × Int) := if l0.length ≤ 1000000000 then some (readR l0) else none
set_option maxHeartbeats 1000000 in
theorem code_Unrows.calls (k : Nat) (A0 : Option Addr) (c0 : Nat) (l0 : List Int) (r1 : List (List S116)) (r2 : Int) (w : World) (hr0 : Kd.C (Kd.int .u8) w A0 l0.length l0) (hc0 : l0.length ≤ c0) (h : code_Unrows.f k l0 = some (r1, r2)) :
    Calls Try.prog 29 #[.slice A0 l0.length c0] w fun e w' => ∃ v0_ : Value, e = .returned (.tuple #[v0_, .int .i64 r2]) ∧ Kd.R (Kd.slice 116 k116) 111 w' w.heap.size (fun _ => True) v0_ r1 ∧ Below w.heap.size w w' := by
  unfold code_Unrows.f at h
  split at h
  · rename_i hl
    have hrr := Option.some.inj h
    have hc := readR_calls A0 c0 l0 hl w hr0 hc0 r1 r2 hrr
    clear hr0 h hrr
    go_enter Try.func29, Try.ntmps29
    go_wp2_with fail
    refine hc.mono ?_
    rintro e w1 ⟨v, rfl, hR, hb⟩
    go_wp2
    go_ret2
    exact ⟨v, rfl, hR, hb⟩
  · cases h
end Go.Proofs.Ytgihecpobichbaa.Q
/- package code's Unpairs: walked. Printed by wip/gen/readx.py. -/
namespace Go.Proofs.Ytgihecpobichbaa.Q
open Go.RowKit Go.Proofs.YtgihecpobichbaaW.PrintWords Go.Proofs.YtgihecpobichbaaW.PrintLast Go.Proofs.YtgihecpobichbaaW.PrintMore
set_option linter.unusedVariables false
set_option linter.unusedSimpArgs false
theorem nextP_item (p G : Nat) (l : List Int) (hl : l.length ≤ 1000000000) (w0 w : World) (hs : RdS w0 w G l) (hp : PBox w p G) (hne : p ≠ G) :
    Calls Try.prog 89 #[.pointer (some ⟨p, 0, none⟩)] w (RdOut w0 w G (itemP l) (fun x : S74 => .agg #[.string x.f0, .string x.f1])) := by
  unfold RdOut itemP
  cases h1 : itemW l with
  | none =>
    refine (nextP_1 p G l hl w0 w hs hp hne h1).mono ?_
    rintro E w' ⟨rfl, hg⟩
    exact ⟨fun x l' h => (by simp at h), fun _ => rfl, hg⟩
  | some q =>
    obtain ⟨x, l1⟩ := q
    cases h2 : itemW l1 with
    | none =>
      refine (nextP_2 p G l hl w0 w hs hp hne x l1 h1 h2).mono ?_
      rintro E w' ⟨rfl, hg⟩
      exact ⟨fun x l' h => (by simp [h2] at h), fun _ => rfl, hg⟩
    | some q =>
      obtain ⟨y, l2⟩ := q
      refine (nextP_0 p G l hl w0 w hs hp hne x l1 h1 y l2 h2).mono ?_
      rintro E w' ⟨rfl, hs2, hg⟩
      refine ⟨fun x' l' h => ?_, fun h => (by simp [h2] at h), hg⟩
      simp only [Option.bind_some, h2, Option.map_some, Option.some.injEq, Prod.mk.injEq] at h
      obtain ⟨rfl, rfl⟩ := h
      exact ⟨rfl, hs2⟩
theorem itemP_less (l : List Int) (a : S74) (r : List Int) (h : itemP l = some (a, r)) : r.length < l.length := by
  unfold itemP at h
  obtain ⟨⟨x, l1⟩, h1, h2⟩ := Option.bind_eq_some_iff.1 h
  obtain ⟨⟨y, l2⟩, h3, h4⟩ := Option.map_eq_some_iff.1 h2
  simp only [Prod.mk.injEq] at h4 h3
  obtain ⟨_, rfl⟩ := h4
  have e1 := itemW_lt l x l1 h1
  have e2 := itemW_lt l1 y l2 h3
  omega
set_option maxHeartbeats 4000000 in
set_option maxRecDepth 100000 in
theorem itemsP_calls (p G : Nat) (l : List Int) (hl : l.length ≤ 1000000000) (w0 w : World) (hs : RdS w0 w G l) (hp : PBox w p G) (hne : p ≠ G) (RR : Option (List S74 × List Int)) (hRR : readItems itemP l = RR) :
    Calls Try.prog 88 #[.pointer (some ⟨G, 0, none⟩), .func (.func 89) #[] #[.pointer (some ⟨p, 0, none⟩)]] w fun E w' =>
      (∀ xs l', RR = some (xs, l') → ∃ v, E = .returned v ∧ Kd.R k74 74 w' w.heap.size (fun _ => True) v xs ∧ RdS w0 w' G l') ∧ (RR = none → E = .panicked badP) ∧ w.grownBy w' (some G) := by
  have hG := hs.lt
  have hplt := blk_lt hp
  have HP0 := Aside0.mk hp
  have hnum := num_un G l (by omega) w0 w hs
  obtain ⟨Q, hQ⟩ : ∃ Q : Ending → World → Prop, Q = fun E w' => (∀ xs l', RR = some (xs, l') → ∃ v, E = .returned v ∧ Kd.R k74 74 w' w.heap.size (fun _ => True) v xs ∧ RdS w0 w' G l') ∧ (RR = none → E = .panicked badP) ∧ w.grownBy w' (some G) := ⟨_, rfl⟩
  rw [← hQ]
  have hno : ∀ w', RR = none → w.grownBy w' (some G) → Q (.panicked badP) w' := by
    intro w' h1 h2
    rw [hQ]
    exact ⟨fun xs l' h => (by rw [h1] at h; cases h), fun _ => rfl, h2⟩
  have hyes : ∀ w' v xs l', RR = some (xs, l') → Kd.R k74 74 w' w.heap.size (fun _ => True) v xs → RdS w0 w' G l' → w.grownBy w' (some G) → Q (.returned v) w' := by
    intro w' v xs l' h1 h2 h3 h4
    rw [hQ]
    refine ⟨fun xs' l'' h => ?_, fun h => (by rw [h1] at h; cases h), h4⟩
    rw [h1] at h
    simp only [Option.some.injEq, Prod.mk.injEq] at h
    obtain ⟨rfl, rfl⟩ := h
    exact ⟨v, rfl, h2, h3⟩
  clear hQ
  unfold readItems at hRR
  have hun := unS_le l 0 0
  have hj : 0 ≤ (un l).2.1 ∧ (un l).2.1 ≤ (l.length : Int) := ⟨hun.1, by simpa [un] using hun.2⟩
  obtain ⟨n, hn⟩ : ∃ n, (un l).1 = n := ⟨_, rfl⟩
  have hn0 : 0 ≤ n := hn ▸ un_range l (by omega)
  obtain ⟨l1, hl1⟩ : ∃ l1, l.drop (un l).2.1.toNat = l1 := ⟨_, rfl⟩
  have hl1' : l1.length ≤ 1000000000 := by rw [← hl1, List.length_drop]; omega
  by_cases he : (un l).2.2 = 0
  · rw [if_pos he, hn, hl1] at hRR
    rw [hn, hl1] at hnum
    have hc : Calls Try.prog 111 #[.pointer (some ⟨G, 0, none⟩)] w fun E w' => E = .returned (.int .u64 n) ∧ RdS w0 w' G l1 ∧ w.grownBy w' (some G) := hnum.mono fun E w' ⟨h1, _, h3⟩ => ⟨(h1 he).1, (h1 he).2, h3⟩
    clear hnum hn hl1 hun hj he hs hp
    go_enter Try.func88, Try.ntmps88
    go_wp2_with fail
    refine hc.mono ?_
    rintro E w1 ⟨rfl, hs1, hg1⟩
    have hG1 := hs1.lt
    obtain ⟨A1, c1, h1⟩ := hs1
    have hcell := h1.box.cell
    have hfz := h1.box.frozen
    have hlen : (l1.length : Int) ≤ 18446744073709551615 := by omega
    by_cases hbig : n > (l1.length : Int)
    · rw [if_pos hbig] at hRR
      have HR := Aside0.mk hRR
      clear hRR hc
      go_wp2
      exact ⟨rfl, hno _ HR.out.symm hg1⟩
    · rw [if_neg hbig] at hRR
      have HR := Aside0.mk hRR
      have HS1 := Aside0.mk (⟨A1, c1, h1⟩ : RdS w0 w1 G l1)
      have HG1 := Aside0.mk hg1
      have HPB1 := Aside0.mk (HP0.out.grown hg1 hne)
      clear hRR hc h1 hg1
      go_wp2_with fail
      have hnle : n ≤ 1000000000 := by omega
      have HB := Aside0.mk hbig
      clear hbig hcell hfz
      go_loopg [6, 20] (n.toNat) (fun kq v6 v20 wr => ∃ (i : Nat) (xs : List S74) (l2 : List Int), v20 = .int .u64 i ∧ Aside0 ((i : Int) + kq = n) ∧ Aside0 (((readN itemP kq l2).map fun q => (xs ++ q.1, q.2)) = RR) ∧ Aside0 (xs.length = i) ∧ Aside0 (Kd.R k74 74 wr w.heap.size (fun _ => True) v6 xs) ∧ Aside0 (RdS w0 wr G l2) ∧ Aside0 (w.grownBy wr (some G)) ∧ Aside0 (l2.length ≤ 1000000000) ∧ Aside0 (PBox wr p G))
      case atStart => exact ⟨0, [], l1, rfl, ⟨by omega⟩, ⟨by rw [← HR.out]; cases readN itemP n.toNat l1 <;> rfl⟩, ⟨rfl⟩, ⟨Kd.R_nil _ _ _ _ _⟩, HS1, HG1, ⟨hl1'⟩, HPB1⟩
      case round =>
        clear HR HS1 HG1 HPB1
        obtain ⟨i, xs, l2, rfl, HI, HF, HX, HO, HS, HG, HL, HPB⟩ := hrel
        cases gk with
        | zero =>
          have hlb : decide ((i : Int) < n) = false := decide_eq_false (by have := HI.out; omega)
          have hF := HF.out
          simp only [readN, Option.map_some, List.append_nil] at hF
          have HF2 := Aside0.mk hF
          clear hF HF
          go_wp2
          first
            | exact hyes _ _ _ _ HF2.out.symm HO.out HS.out HG.out
            | (go_ret; exact hyes _ _ _ _ HF2.out.symm HO.out HS.out HG.out)
        | succ k1 =>
          have hlb : decide ((i : Int) < n) = true := decide_eq_true (by have := HI.out; omega)
          have hi1 : (i : Int) + 1 ≤ 1000000001 := by have := HI.out; omega
          have hcw := nextP_item p G l2 (by have := HL.out; omega) w0 wr HS.out HPB.out hne
          cases hit : itemP l2 with
          | none =>
            have hcn : Calls Try.prog 89 #[.pointer (some ⟨p, 0, none⟩)] wr fun E w' => E = .panicked badP ∧ wr.grownBy w' (some G) := hcw.mono fun E w' ⟨_, h2, h3⟩ => ⟨h2 hit, h3⟩
            have hRn : RR = none := by rw [← HF.out, readN, hit]; rfl
            have HRn := Aside0.mk hRn
            clear hcw hit hRn
            go_wp2_with fail
            refine hcn.mono ?_
            rintro E w2 ⟨rfl, hg2⟩
            go_wp2
            exact ⟨rfl, hno _ HRn.out (gb_trans HG.out hg2)⟩
          | some p =>
            obtain ⟨x, l3⟩ := p
            have hcs : Calls Try.prog 89 #[.pointer (some ⟨p, 0, none⟩)] wr fun E w' => E = .returned (.agg #[.string x.f0, .string x.f1]) ∧ RdS w0 w' G l3 ∧ wr.grownBy w' (some G) := hcw.mono fun E w' ⟨h1, _, h3⟩ => ⟨(h1 x l3 hit).1, (h1 x l3 hit).2, h3⟩
            have hF2 : ((readN itemP k1 l3).map fun q => ((xs ++ [x]) ++ q.1, q.2)) = RR := by
              rw [← HF.out, readN, hit]
              simp only [Option.bind_some]
              cases readN itemP k1 l3 with
              | none => rfl
              | some q => simp
            have hl3 : l3.length ≤ l2.length := Nat.le_of_lt (itemP_less l2 x l3 hit)
            have HF3 := Aside0.mk hF2
            have HL3 := Aside0.mk (show l3.length ≤ 1000000000 by have := HL.out; omega)
            clear hcw hit hF2 hl3 HF HL
            go_wp2_with fail
            refine hcs.mono ?_
            rintro E w2 ⟨rfl, hs2, hg2⟩
            have HG2 := Aside0.mk (gb_trans HG.out hg2)
            have HO2 := Aside0.mk (R_past HO.out hg2 hG.1)
            have HS2 := Aside0.mk hs2
            have HPB2 := Aside0.mk (HPB.out.grown hg2 hne)
            have HZ := Aside0.mk (show w.heap.size ≤ w2.heap.size from HG2.out.4)
            clear hg2 hs2 HO HS HG HPB
            go_wp2_with (first | ((with_reducible refine gate_builtin (b := .append) (xs := #[.tmp 22, .tmp 25]) rfl ?_); (try (refine gate_guard (by rfl) ?_; dsimp only)); at_builtin; refine Kd.R_append k74 (w0 := w2) w.heap.size rfl (.tmp 22) (.tmp 25) 39 74 (.agg #[.string ⟨#[]⟩, .string ⟨#[]⟩]) 32 rfl Try.underlying39 info74 rfl (by decide) (by omega) u6 xs x [.string x.f0, .string x.f1] (fun _ => True) (fun _ => False) rfl rfl ?aP (fun _ hk => hk.elim) ?aF ?aO ?aB ?aS ?aL ?_; (case aP => exact k74_mkM _ _ _ x); (case aB => exact Below.refl _ _); (case aF => exact (fun _ _ => trivial)); (case aO => exact HO2.out); (case aS => exact HZ.out); (case aL => have := HX.out; omega); intro v1 w3 ho hb hg hat; have HO3 := Aside0.mk ho; have HGr := Aside0.mk hg; clear ho hb hg hat))
            have hnb : ∀ k, u6.ownBlock = some k → w.heap.size ≤ k := Kd.R_base HO2.out
            have HS3 := Aside0.mk (HS2.out.step HGr.out (fun e => by have := hnb G e.symm; omega) (fun k e => by have := hnb k e; omega))
            have HG3 := Aside0.mk (gb_new HG2.out HGr.out hnb)
            have HPB3 := Aside0.mk (blk_grown HPB2.out HGr.out (fun e => by have := hnb p e.symm; omega))
            clear hnb
            go_roundg k1
            case measure => omega
            case rel => exact ⟨i + 1, xs ++ [x], l3, by congr 1, ⟨by have := HI.out; omega⟩, HF3, ⟨by rw [List.length_append, HX.out]; rfl⟩, HO3, HS3, HG3, HL3, HPB3⟩
  · rw [if_neg he] at hRR
    have hc : Calls Try.prog 111 #[.pointer (some ⟨G, 0, none⟩)] w fun E w' => E = .panicked badP ∧ w.grownBy w' (some G) := hnum.mono fun E w' ⟨_, h2, h3⟩ => ⟨h2 he, h3⟩
    have HR := Aside0.mk hRR
    clear hnum hn hl1 hun hj he hs hRR hp
    go_enter Try.func88, Try.ntmps88
    go_wp2_with fail
    refine hc.mono ?_
    rintro E w1 ⟨rfl, hg1⟩
    go_wp2
    exact ⟨rfl, hno _ HR.out.symm hg1⟩
def ItemsPOut (w0 w : World) (G : Nat) (RR : Option (List S74 × List Int)) (E : Ending) (w' : World) : Prop :=
  (∀ xs l', RR = some (xs, l') → ∃ v, E = .returned v ∧ Kd.R k74 74 w' w.heap.size (fun _ => True) v xs ∧ RdS w0 w' G l') ∧ (RR = none → E = .panicked badP) ∧ w.grownBy w' (some G)
set_option maxHeartbeats 1000000 in
theorem un1P_calls (G : Nat) (l : List Int) (hl : l.length ≤ 1000000000) (w0 w : World) (hs : RdS w0 w G l) :
    Calls Try.prog 87 #[.pointer (some ⟨G, 0, none⟩)] w (ItemsPOut w0 w G (readItems itemP l)) := by
  have mf := mkf
  have hG := hs.lt2
  obtain ⟨RR, hRR⟩ : ∃ RR, readItems itemP l = RR := ⟨_, rfl⟩
  have hpb : PBox (w.alloc (.cells #[.pointer (some ⟨G, 0, none⟩)] 129)) w.heap.size G := blk_new w _
  have hc := itemsP_calls w.heap.size G l hl w0 _ (hs.step (World.grownBy_alloc w (.cells #[.pointer (some ⟨G, 0, none⟩)] 129) none) (by simp) (by simp)) hpb (by omega) RR hRR
  have c0 := hpb.cell
  rw [hRR]
  obtain ⟨Q, hQ⟩ : ∃ Q : Ending → World → Prop, Q = ItemsPOut w0 w G RR := ⟨_, rfl⟩
  rw [← hQ]
  have hQ' : ∀ E w', ItemsPOut w0 w G RR E w' → Q E w' := fun E w' h => by rw [hQ]; exact h
  clear hQ hs hRR hpb hG
  go_enter Try.func87, Try.ntmps87
  go_wp2_with fail
  refine hc.mono ?_
  rintro E w1 ⟨h1, h2, h3⟩
  have h3' : w.grownBy w1 (some G) := World.grownBy.trans (World.grownBy_alloc w _ _) h3
  have h1' : ∀ xs l', RR = some (xs, l') → ∃ v, E = .returned v ∧ Kd.R k74 74 w1 w.heap.size (fun _ => True) v xs ∧ RdS w0 w1 G l' := by
    intro xs l' hx
    obtain ⟨v, e, hv, hr⟩ := h1 xs l' hx
    exact ⟨v, e, Kd.R_lower hv (by rw [World.size_alloc]; omega), hr⟩
  clear h1 h3 c0
  cases hR : RR with
  | none =>
    obtain rfl := h2 hR
    have H := hQ' (.panicked badP) w1 ⟨h1', h2, h3'⟩
    clear h1' h2 hQ' hc h3'
    go_wp2
    exact ⟨rfl, H⟩
  | some p =>
    obtain ⟨xs, l'⟩ := p
    obtain ⟨v, rfl, h4, h5⟩ := h1' xs l' hR
    have H := hQ' (.returned v) w1 ⟨h1', h2, h3'⟩
    clear h1' h2 hQ' hc h4 h5 h3'
    go_wp2
    first | exact H | (go_ret; exact H)
set_option maxHeartbeats 1000000 in
theorem catch_bad_P (bl be : Nat) (hne : bl ≠ be) (v0 : Value) (e0 : Int) (w : World) (hl : Boxed w bl 39 v0) (he : Boxed w be 24 (.int .i64 e0)) :
    CallsD Try.prog 114 #[.pointer (some ⟨bl, 0, none⟩), .pointer (some ⟨be, 0, none⟩)] (.panicking badP) w fun e u' w' =>
      e = .returned (.tuple #[]) ∧ u' = .panicking [{ v := .iface 134 (.agg #[]), recovered := true }] ∧ w' = ((w.setCell ⟨bl, 0, none⟩ (.slice none 0 0)).setCell ⟨be, 0, none⟩ (.int .i64 41)).alloc (.cells #[] 134) := by
  have l1 := hl.lt
  have l2 := he.lt
  have m1 := hl.cell
  have f1 := hl.frozen
  have m2 := he.cell
  have f2 := he.frozen
  have m3 := (he.other (Ne.symm hne) (.slice none 0 0)).cell
  have f3 := (he.other (Ne.symm hne) (.slice none 0 0)).frozen
  refine callsD_of_wpS Try.func114 rfl fun c₀ cs hu => ?_
  unfold badP at hu
  apply wpS_seq
  apply wpS_region
  simp [wpOpsS, go_sem, recoverD, hu, Try.ntmps114, Exit.thenS]
  have k1 := bad_ne
  have k2 := assert_bad
  refine wpS_of_wp ?_
  simp only [Array.replicate_succ, Array.replicate_zero, List.push_toArray, List.append_toArray, List.nil_append, List.cons_append, List.setIfInBounds_toArray, List.set_cons_succ, List.set_cons_zero]
  go_wp2
  simp [bodyPostS, results, Try.results114]
theorem catch_idle_P (p q : Addr) (w : World) :
    CallsD Try.prog 114 #[.pointer (some p), .pointer (some q)] .returning w fun e u' w' => e = .returned (.tuple #[]) ∧ u' = .returning ∧ w = w' := by
  have k3 : ∀ w : World, (binOp .neq 20 .nilIface .nilIface).run Try.prog w = .ok (.bool false) w := fun _ => by kernel_rfl
  refine callsD_of_wpS Try.func114 rfl fun c₀ cs hu => ?_
  apply wpS_seq
  apply wpS_region
  simp [wpOpsS, go_sem, recoverD, hu, Try.ntmps114, Exit.thenS]
  refine wpS_of_wp ?_
  simp only [Array.replicate_succ, Array.replicate_zero, List.push_toArray, List.append_toArray, List.nil_append, List.cons_append, List.setIfInBounds_toArray, List.set_cons_succ, List.set_cons_zero]
  go_wp2
  cases c₀
  simp_all [bodyPostS, results, Try.results114]
/-- What code.Unpairs comes to. -/
def readP (l : List Int) : List S74 × Int :=
  match readItems itemP l with
  | some (xs, l') => if l'.length > 0 ∨ l.length > 16777216 then ([], 41) else (xs, 0)
  | none => ([], 41)
set_option maxHeartbeats 4000000 in
set_option maxRecDepth 100000 in
theorem readP_calls (A : Option Addr) (c : Nat) (l : List Int) (hl : l.length ≤ 1000000000) (w : World) (hr : Kd.C (Kd.int .u8) w A l.length l) (hc : l.length ≤ c) (r1 : List S74) (r2 : Int) (hrr : readP l = (r1, r2)) :
    Calls Try.prog 86 #[.slice A l.length c, .func (.func 87) #[] #[]] w fun e w' => ∃ v0_ : Value, e = .returned (.tuple #[v0_, .int .i64 r2]) ∧ Kd.R k74 74 w' w.heap.size (fun _ => True) v0_ r1 ∧ Below w.heap.size w w' := by
  have mf := mkf
  have HR := Aside0.mk hr
  clear hr
  go_enter_defers Try.func86, Try.ntmps86
  go_wp2_with fail
  have bg := Boxed.new ((w.alloc (.cells #[.slice none 0 0] 39)).alloc (.cells #[.int .i64 0] 24)) 168 (.slice A l.length c)
  rw [World.size_alloc, World.size_alloc] at bg
  have bl := ((Boxed.new w 39 (.slice none 0 0)).alloc (.cells #[.int .i64 0] 24)).alloc (.cells #[.slice A l.length c] 168)
  have be := (Boxed.new (w.alloc (.cells #[.slice none 0 0] 39)) 24 (.int .i64 0)).alloc (.cells #[.slice A l.length c] 168)
  rw [World.size_alloc] at be
  have hb3 : Below w.heap.size w (((w.alloc (.cells #[.slice none 0 0] 39)).alloc (.cells #[.int .i64 0] 24)).alloc (.cells #[.slice A l.length c] 168)) := below_alloc (below_alloc (below_alloc (Below.refl _ _) _) _) _
  have hs3 : (((w.alloc (.cells #[.slice none 0 0] 39)).alloc (.cells #[.int .i64 0] 24)).alloc (.cells #[.slice A l.length c] 168)).heap.size = w.heap.size + 1 + 1 + 1 := by rw [World.size_alloc, World.size_alloc, World.size_alloc]
  generalize ((w.alloc (.cells #[.slice none 0 0] 39)).alloc (.cells #[.int .i64 0] 24)).alloc (.cells #[.slice A l.length c] 168) = W3 at bg bl be hb3 hs3 ⊢
  refine (un1P_calls (w.heap.size + 1 + 1) l hl w W3 ⟨A, c, ⟨bg, HR.out, hb3, by omega, hc⟩⟩).mono ?_
  rintro E w1 ⟨h1, h2, h3⟩
  have bl1 := bl.kept h3 (fun e => by injection e with e; omega)
  have be1 := be.kept h3 (fun e => by injection e with e; omega)
  have hb1 : Below w.heap.size w w1 := hb3.grown h3 (by omega) (fun k hk => by injection hk with hk; omega)
  have HB1 := Aside0.mk hb1
  have BL := Aside0.mk bl1
  have BE := Aside0.mk be1
  have hlt := h3.size
  rw [hs3] at hlt
  cases hR : readItems itemP l with
  | none =>
    obtain rfl := h2 hR
    have hI : readP l = ([], 41) := by unfold readP; rw [hR]
    rw [hI] at hrr
    simp only [Prod.mk.injEq] at hrr
    obtain ⟨rfl, rfl⟩ := hrr
    clear h1 h2 h3 bg bl be hb3 bl1 be1 hb1 hR hI
    unfold badP
    go_wp2
    refine leaves_cons (f := 114) (args := #[.pointer (some ⟨w.heap.size, 0, none⟩), .pointer (some ⟨w.heap.size + 1, 0, none⟩)]) (by simp) (by simp [go_sem]) ?_
    refine (catch_bad_P w.heap.size (w.heap.size + 1) (by omega) (.slice none 0 0) 0 w1 BL.out BE.out).mono ?_
    rintro e u' w'' ⟨rfl, rfl, rfl⟩
    have xl := ((BL.out.set (.slice none 0 0)).other (show w.heap.size ≠ w.heap.size + 1 by omega) (.int .i64 41)).alloc (.cells #[] 134)
    have xe := ((BE.out.other (show w.heap.size + 1 ≠ w.heap.size by omega) (.slice none 0 0)).set (.int .i64 41)).alloc (.cells #[] 134)
    have yl := xl.cell
    have ye := xe.cell
    have hB : Below w.heap.size w (((w1.setCell ⟨w.heap.size, 0, none⟩ (.slice none 0 0)).setCell ⟨w.heap.size + 1, 0, none⟩ (.int .i64 41)).alloc (.cells #[] 134)) := below_alloc (below_set (below_set HB1.out (by omega)) (by omega)) _
    generalize ((w1.setCell ⟨w.heap.size, 0, none⟩ (.slice none 0 0)).setCell ⟨w.heap.size + 1, 0, none⟩ (.int .i64 41)).alloc (.cells #[] 134) = W4 at xl xe yl ye hB ⊢
    simp [Leaves, settle, results, Try.results86, go_sem]
    refine ⟨.tuple #[.slice none 0 0, .int .i64 41], by simp [yl, ye, go_sem], _, rfl, Kd.R_nil _ _ _ _ _, hB⟩
  | some p =>
    obtain ⟨xs, l'⟩ := p
    obtain ⟨v, rfl, h4, h5⟩ := h1 xs l' hR
    obtain ⟨A', c', hd⟩ := h5
    obtain ⟨A2, c2, rfl⟩ := Kd.R_slice h4
    have bx := hd.box
    have H4 := Aside0.mk h4
    have hI : readP l = (if l'.length > 0 ∨ l.length > 16777216 then ([], 41) else (xs, 0)) := by unfold readP; rw [hR]
    rw [hI] at hrr
    have cg : (w1.setCell ⟨w.heap.size, 0, none⟩ (.slice A2 xs.length c2)).cell? ⟨w.heap.size + 1 + 1, 0, none⟩ = some (.slice A' l'.length c') := (bx.other (by omega) (.slice A2 xs.length c2)).cell
    have BL2 : Aside0 (Boxed (w1.setCell ⟨w.heap.size, 0, none⟩ (.slice A2 xs.length c2)) w.heap.size 39 (.slice A2 xs.length c2)) := ⟨BL.out.set _⟩
    have BE2 : Aside0 (Boxed (w1.setCell ⟨w.heap.size, 0, none⟩ (.slice A2 xs.length c2)) (w.heap.size + 1) 24 (.int .i64 0)) := ⟨BE.out.other (by omega) _⟩
    have HB2 : Aside0 (Below w.heap.size w (w1.setCell ⟨w.heap.size, 0, none⟩ (.slice A2 xs.length c2))) := ⟨below_set HB1.out (by omega)⟩
    have cl1 : w1.cell? ⟨w.heap.size, 0, none⟩ = some (.slice none 0 0) := bl1.cell
    have fl1 : w1.frozen? ⟨w.heap.size, 0, none⟩ = false := bl1.frozen
    have ce1 : w1.cell? ⟨w.heap.size + 1, 0, none⟩ = some (.int .i64 0) := be1.cell
    have fe1 : w1.frozen? ⟨w.heap.size + 1, 0, none⟩ = false := be1.frozen
    clear h1 h2 h3 bg bl be hb3 bl1 be1 hb1 hR hI h4 hd bx
    by_cases hx : l'.length > 0
    · rw [if_pos (.inl hx)] at hrr
      simp only [Prod.mk.injEq] at hrr
      obtain ⟨rfl, rfl⟩ := hrr
      have d1 : decide (0 < (l'.length : Int)) = true := decide_eq_true (by omega)
      have d2 : decide (0 < l'.length) = true := decide_eq_true hx
      clear hx
      go_wp2
      refine leaves_cons (f := 114) (args := #[.pointer (some ⟨w.heap.size, 0, none⟩), .pointer (some ⟨w.heap.size + 1, 0, none⟩)]) (by simp) (by simp [go_sem]) ?_
      refine (catch_bad_P w.heap.size (w.heap.size + 1) (by omega) (.slice A2 xs.length c2) 0 (w1.setCell ⟨w.heap.size, 0, none⟩ (.slice A2 xs.length c2)) BL2.out BE2.out).mono ?_
      rintro e u' w'' ⟨rfl, rfl, rfl⟩
      have xl := ((BL2.out.set (.slice none 0 0)).other (show w.heap.size ≠ w.heap.size + 1 by omega) (.int .i64 41)).alloc (.cells #[] 134)
      have xe := ((BE2.out.other (show w.heap.size + 1 ≠ w.heap.size by omega) (.slice none 0 0)).set (.int .i64 41)).alloc (.cells #[] 134)
      have yl := xl.cell
      have ye := xe.cell
      have hB : Below w.heap.size w ((((w1.setCell ⟨w.heap.size, 0, none⟩ (.slice A2 xs.length c2)).setCell ⟨w.heap.size, 0, none⟩ (.slice none 0 0)).setCell ⟨w.heap.size + 1, 0, none⟩ (.int .i64 41)).alloc (.cells #[] 134)) := below_alloc (below_set (below_set HB2.out (by omega)) (by omega)) _
      generalize (((w1.setCell ⟨w.heap.size, 0, none⟩ (.slice A2 xs.length c2)).setCell ⟨w.heap.size, 0, none⟩ (.slice none 0 0)).setCell ⟨w.heap.size + 1, 0, none⟩ (.int .i64 41)).alloc (.cells #[] 134) = W4 at xl xe yl ye hB ⊢
      simp [Leaves, settle, results, Try.results86, go_sem]
      refine ⟨.tuple #[.slice none 0 0, .int .i64 41], by simp [yl, ye, go_sem], _, rfl, Kd.R_nil _ _ _ _ _, hB⟩
    · have d1 : decide (0 < (l'.length : Int)) = false := decide_eq_false (by omega)
      have d2 : decide (0 < l'.length) = false := decide_eq_false hx
      by_cases hy : l.length > 16777216
      · rw [if_pos (.inr hy)] at hrr
        simp only [Prod.mk.injEq] at hrr
        obtain ⟨rfl, rfl⟩ := hrr
        have e1 : decide (16777216 < (l.length : Int)) = true := decide_eq_true (by omega)
        have e2 : decide (16777216 < l.length) = true := decide_eq_true hy
        clear hx hy
        go_wp2
        refine leaves_cons (f := 114) (args := #[.pointer (some ⟨w.heap.size, 0, none⟩), .pointer (some ⟨w.heap.size + 1, 0, none⟩)]) (by simp) (by simp [go_sem]) ?_
        refine (catch_bad_P w.heap.size (w.heap.size + 1) (by omega) (.slice A2 xs.length c2) 0 (w1.setCell ⟨w.heap.size, 0, none⟩ (.slice A2 xs.length c2)) BL2.out BE2.out).mono ?_
        rintro e u' w'' ⟨rfl, rfl, rfl⟩
        have xl := ((BL2.out.set (.slice none 0 0)).other (show w.heap.size ≠ w.heap.size + 1 by omega) (.int .i64 41)).alloc (.cells #[] 134)
        have xe := ((BE2.out.other (show w.heap.size + 1 ≠ w.heap.size by omega) (.slice none 0 0)).set (.int .i64 41)).alloc (.cells #[] 134)
        have yl := xl.cell
        have ye := xe.cell
        have hB : Below w.heap.size w ((((w1.setCell ⟨w.heap.size, 0, none⟩ (.slice A2 xs.length c2)).setCell ⟨w.heap.size, 0, none⟩ (.slice none 0 0)).setCell ⟨w.heap.size + 1, 0, none⟩ (.int .i64 41)).alloc (.cells #[] 134)) := below_alloc (below_set (below_set HB2.out (by omega)) (by omega)) _
        generalize (((w1.setCell ⟨w.heap.size, 0, none⟩ (.slice A2 xs.length c2)).setCell ⟨w.heap.size, 0, none⟩ (.slice none 0 0)).setCell ⟨w.heap.size + 1, 0, none⟩ (.int .i64 41)).alloc (.cells #[] 134) = W4 at xl xe yl ye hB ⊢
        simp [Leaves, settle, results, Try.results86, go_sem]
        refine ⟨.tuple #[.slice none 0 0, .int .i64 41], by simp [yl, ye, go_sem], _, rfl, Kd.R_nil _ _ _ _ _, hB⟩
      · rw [if_neg (by omega)] at hrr
        simp only [Prod.mk.injEq] at hrr
        obtain ⟨rfl, rfl⟩ := hrr
        have e1 : decide (16777216 < (l.length : Int)) = false := decide_eq_false (by omega)
        have e2 : decide (16777216 < l.length) = false := decide_eq_false hy
        clear hx hy
        go_wp2
        refine leaves_cons (f := 114) (args := #[.pointer (some ⟨w.heap.size, 0, none⟩), .pointer (some ⟨w.heap.size + 1, 0, none⟩)]) (by simp) (by simp [go_sem]) ?_
        refine (catch_idle_P ⟨w.heap.size, 0, none⟩ ⟨w.heap.size + 1, 0, none⟩ _).mono ?_
        rintro e u' w'' ⟨rfl, rfl, rfl⟩
        have VV : ∃ v : Value, v = .slice A2 xs.length c2 := ⟨_, rfl⟩
        have x1 := (BL2.out.set (.slice A2 xs.length c2)).other (show w.heap.size ≠ w.heap.size + 1 by omega) (.int .i64 0)
        have x2 := (BE2.out.other (show w.heap.size + 1 ≠ w.heap.size by omega) (.slice A2 xs.length c2)).set (.int .i64 0)
        have yl := x1.cell
        have ye := x2.cell
        have hB : Below w.heap.size w (((w1.setCell ⟨w.heap.size, 0, none⟩ (.slice A2 xs.length c2)).setCell ⟨w.heap.size, 0, none⟩ (.slice A2 xs.length c2)).setCell ⟨w.heap.size + 1, 0, none⟩ (.int .i64 0)) := below_set (below_set HB2.out (by omega)) (by omega)
        have q1 := R_past H4.out (grownBy_setCell' w1 w.heap.size (.slice A2 xs.length c2)) (by omega)
        have q2 := R_past q1 (grownBy_setCell' _ w.heap.size (.slice A2 xs.length c2)) (by omega)
        have q3 := Kd.R_lower (base' := w.heap.size) (R_past q2 (grownBy_setCell' _ (w.heap.size + 1) (.int .i64 0)) (by omega)) (by omega)
        generalize ((w1.setCell ⟨w.heap.size, 0, none⟩ (.slice A2 xs.length c2)).setCell ⟨w.heap.size, 0, none⟩ (.slice A2 xs.length c2)).setCell ⟨w.heap.size + 1, 0, none⟩ (.int .i64 0) = W4 at x1 x2 yl ye hB q3 ⊢
        simp [Leaves, settle, results, Try.results86, go_sem]
        refine ⟨.tuple #[.slice A2 xs.length c2, .int .i64 0], by simp [yl, ye, go_sem], _, rfl, q3, hB⟩
def code_Unpairs.f (k : Nat) (l0 : List Int) : Option (List S74 × Int) := if l0.length ≤ 1000000000 then some (readP l0) else none
set_option maxHeartbeats 1000000 in
theorem code_Unpairs.calls (k : Nat) (A0 : Option Addr) (c0 : Nat) (l0 : List Int) (r1 : List S74) (r2 : Int) (w : World) (hr0 : Kd.C (Kd.int .u8) w A0 l0.length l0) (hc0 : l0.length ≤ c0) (h : code_Unpairs.f k l0 = some (r1, r2)) :
    Calls Try.prog 31 #[.slice A0 l0.length c0] w fun e w' => ∃ v0_ : Value, e = .returned (.tuple #[v0_, .int .i64 r2]) ∧ Kd.R k74 74 w' w.heap.size (fun _ => True) v0_ r1 ∧ Below w.heap.size w w' := by
  unfold code_Unpairs.f at h
  split at h
  · rename_i hl
    have hrr := Option.some.inj h
    have hc := readP_calls A0 c0 l0 hl w hr0 hc0 r1 r2 hrr
    clear hr0 h hrr
    go_enter Try.func31, Try.ntmps31
    go_wp2_with fail
    refine hc.mono ?_
    rintro e w1 ⟨v, rfl, hR, hb⟩
    go_wp2
    go_ret2
    exact ⟨v, rfl, hR, hb⟩
  · cases h
end Go.Proofs.Ytgihecpobichbaa.Q
/- package code's Uncols: walked. Printed by wip/gen/readx.py. -/
namespace Go.Proofs.Ytgihecpobichbaa.Q
open Go.RowKit Go.Proofs.YtgihecpobichbaaW.PrintWords Go.Proofs.YtgihecpobichbaaW.PrintLast Go.Proofs.YtgihecpobichbaaW.PrintMore
set_option linter.unusedVariables false
set_option linter.unusedSimpArgs false
end Go.Proofs.Ytgihecpobichbaa.Q
/- A row of bytes that a conversion of a string lays, and what is appended to it: the row's mark stands where nothing is written. -/
namespace Go.Proofs.Ytgihecpobichbaa.Q
open Go.RowKit Go.Proofs.YtgihecpobichbaaW.PrintWords Go.Proofs.YtgihecpobichbaaW.PrintLast Go.Proofs.YtgihecpobichbaaW.PrintMore
set_option linter.unusedVariables false
set_option linter.unusedSimpArgs false

/-- v owns the bytes xs, in a block from base on. -/
def OwnB (w : World) (base : Nat) (e : TypeId) (v : Value) (xs : List Int) : Prop :=
  ∃ g cap cur fz, v = .slice (some ⟨g, 0, none⟩) xs.length cap ∧ base ≤ g ∧ w.heap[g]? = some (.cells cur e fz) ∧ (fz.2 ≤ xs.length ∨ cap ≤ fz.1) ∧ xs.length ≤ cap ∧ cap ≤ maxLen ∧ cur.size = cap ∧ cur.toList.take xs.length = nums .u8 xs
theorem OwnB.slice {w : World} {base : Nat} {e : TypeId} {v : Value} {xs : List Int} (h : OwnB w base e v xs) : ∃ A c, v = .slice A xs.length c := by
  obtain ⟨g, cap, cur, fz, h, _⟩ := h
  exact ⟨_, _, h⟩
theorem OwnB.lt {w : World} {base : Nat} {e : TypeId} {v : Value} {xs : List Int} (h : OwnB w base e v xs) : ∀ k, v.ownBlock = some k → base ≤ k ∧ k < w.heap.size := by
  intro k hk
  obtain ⟨g, cap, cur, fz, rfl, hb, hg, _⟩ := h
  simp [Value.ownBlock] at hk
  subst hk
  exact ⟨hb, (Array.getElem?_eq_some_iff.1 hg).1⟩
theorem OwnB.kept {w w' : World} {base : Nat} {e : TypeId} {v : Value} {xs : List Int} (h : OwnB w base e v xs) (hb : Below w.heap.size w w') : OwnB w' base e v xs := by
  obtain ⟨g, cap, cur, fz, rfl, h1, hg, rest⟩ := h
  refine ⟨g, cap, cur, fz, rfl, h1, ?_, rest⟩
  rw [hb.block g (Array.getElem?_eq_some_iff.1 hg).1]
  exact hg
theorem OwnB.cells {w : World} {base : Nat} {e : TypeId} {v : Value} {xs : List Int} (h : OwnB w base e v xs) {g : Nat} (hg : v.ownBlock = some g) : ∀ j u, (nums .u8 xs)[j]? = some u → w.cell? ((⟨g, 0, none⟩ : Addr).add j) = some u := by
  intro j u hu
  obtain ⟨g', cap, cur, fz, rfl, _, hgg, _, _, _, _, htake⟩ := h
  simp [Value.ownBlock] at hg
  subst hg
  have hadd : (⟨g', 0, none⟩ : Addr).add j = ⟨g', j, none⟩ := by unfold Addr.add; split <;> simp_all
  rw [hadd, cell_of_row w g' j cur e fz hgg]
  rw [← htake, List.getElem?_take] at hu
  split at hu
  · simpa using hu
  · cases hu
theorem OwnB.string {P : Program} {w : World} {base : Nat} {e' src dst e : TypeId} {v : Value} {xs : List Int} (hs : P.underlying src = some (.slice e)) (he : P.underlying e = some (.int .u8)) (hd : P.underlying dst = some .string)
    (h : OwnB w base e' v xs) : (convert src dst v).run P w = .ok (.string (strOfNums xs)) w := by
  have hc := fun g => h.cells (g := g)
  obtain ⟨g, cap, cur, fz, rfl, _⟩ := h
  refine run_convert_bytes_arg w src e hs he g 0 xs.length cap xs rfl (fun i hi => ?_) dst hd
  have hc := hc g rfl i (.int .u8 (xs.getD i 0)) (by simp [nums, List.getElem?_eq_getElem (show i < xs.length by omega), List.getD_eq_getElem?_getD])
  have ha : (⟨g, 0, none⟩ : Addr).add i = ⟨g, 0 + i, none⟩ := by unfold Addr.add; split <;> simp_all
  rwa [ha] at hc
section
variable {P : Program} {ops : Array Oper} {rest : List Oper} {o : Oper} {a : Act} {Q : Exit → Act → World → Prop}
end
theorem strNums_bytesOf (s : ByteArray) : strOfNums (bytesOf s) = s := by
  apply ByteArray.ext
  apply Array.ext'
  unfold strOfNums bytesOf
  simp [List.map_map]
  conv => rhs; rw [← List.map_id s.data.toList]
  apply List.map_congr_left
  intro b _
  have := b.toNat_lt
  apply UInt8.toNat_inj.1
  simp
end Go.Proofs.Ytgihecpobichbaa.Q
/- headgateref04.Nums: walked: the bytes of so many ints. -/
namespace Go.Proofs.Ytgihecpobichbaa.Q
open Go.RowKit Go.Proofs.YtgihecpobichbaaW.PrintWords Go.Proofs.YtgihecpobichbaaW.PrintLast Go.Proofs.YtgihecpobichbaaW.PrintMore
set_option linter.unusedVariables false
set_option linter.unusedSimpArgs false

/-- The numbers' bytes, one behind the other. -/
def numsB : List Int → List Int
  | [] => []
  | n :: l => numR 9 (zig n) ++ numsB l
theorem numsB_len : ∀ (l : List Int), (numsB l).length ≤ 10 * l.length
  | [] => by simp [numsB]
  | n :: l => by
    have h1 := numR_len 9 (zig n)
    have h2 := numsB_len l
    simp only [numsB, List.length_append, List.length_cons]
    omega
def numsAll (l : List Int) : List Int := numR 9 (l.length : Int) ++ numsB l
end Go.Proofs.Ytgihecpobichbaa.Q
/- Ints as bytes and back: the package's and the document's, in plain words: no program in it. -/
namespace Go.Proofs.Ytgihecpobichbaa.Q
open Go.RowKit Go.Proofs.YtgihecpobichbaaW.PrintWords Go.Proofs.YtgihecpobichbaaW.PrintLast Go.Proofs.YtgihecpobichbaaW.PrintMore
set_option linter.unusedVariables false
set_option linter.unusedSimpArgs false

theorem numsB_flat : ∀ (l : List Int), numsB l = flat encI l
  | [] => rfl
  | n :: l => by
    show numR 9 (zig n) ++ numsB l = encI n ++ flat encI l
    rw [numsB_flat l]
    rfl
theorem encI_pos (a : Int) : 0 < (encI a).length := numR_pos _ _
theorem readI_X (l : List Int) : readI l = readX itemI l := by
  unfold readI readX
  cases readItems itemI l <;> rfl
theorem readI_back (l : List Int) (hin : ∀ x ∈ l, in64 x) (hl : (numsAll l).length ≤ 16777216) : readI (numsAll l) = (l, 0) := by
  unfold numsAll at hl ⊢
  rw [numsB_flat] at hl ⊢
  rw [readI_X]
  exact readX_back itemI encI encI_pos l hl (fun a ha r => itemI_back (hin a ha) r)
/-- What the package tells of ints. -/
def codeNums (l : List Int) : List Int × Int := if (numsAll l).length > 16777216 then ([], 42) else (numsAll l, 0)
theorem codeNums_loop (l : List Int) (hl : l.length ≤ 1000000) (hin : ∀ x ∈ l, in64 x) : ∀ (d i : Nat) (xs : List Int), i + d = l.length → xs.length ≤ 10 * (i + 1) →
    Ev (fun k => code_List_int64.l0 k xs l (l.length : Int) (i : Int)) (xs ++ numsB (l.drop i)) := by
  intro d
  induction d with
  | zero =>
    intro i xs hi hx
    rw [List.drop_of_length_le (by omega)]
    refine Ev.step (f := fun _ => some (xs ++ [])) (fun k => ?_) (Ev.now _)
    simp only [code_List_int64.l0, List.append_nil]
    rw [if_neg (by omega)]
  | succ d ih =>
    intro i xs hi hx
    have hlt : i < l.length := by omega
    have hd := rd_drop l (i : Int) (by omega) (by omega)
    rw [show ((i : Int) + 1).toNat = i + 1 by omega, Int.toNat_natCast] at hd
    have hm := rd_mem l (i : Int) (by omega) (by omega)
    obtain ⟨n, hn⟩ : ∃ n, rd l (i : Int) = n := ⟨_, rfl⟩
    rw [hn] at hd hm
    have h64 := hin n hm
    have hz := zig_range h64
    have hlen := numR_len 9 (zig n)
    have h1 : Ev (fun k => code_Nums_1.f k n) (numR 9 (zig n)) := by
      unfold code_Nums_1.f
      rw [whole_zig h64]
      simp only [Option.bind_some]
      refine Ev.congr (f := fun k => code_Num.f k (zig n)) (fun k => ?_) (Ev.of (fun k => code_Num.mono _ k) (code_Num_eq (zig n) hz.1 hz.2 0))
      cases code_Num.f k (zig n) <;> rfl
    have hw : wrap64 ((i : Int) + 1) = ((i + 1 : Nat) : Int) := by
      have h : wrap64 ((i : Int) + 1) = (i : Int) + 1 := wrap_in (by unfold in64; omega)
      rw [h]
      omega
    have h2 := ih (i + 1) (xs ++ numR 9 (zig n)) (by omega) (by rw [List.length_append]; omega)
    rw [hd]
    have hfin : xs ++ numR 9 (zig n) ++ numsB (l.drop (i + 1)) = xs ++ numsB (n :: l.drop (i + 1)) := by
      rw [List.append_assoc]
      rfl
    rw [hfin] at h2
    refine Ev.step (fun k => ?_) (Ev.bind h1 (f := fun k y => if xs.length + y.length < 140737488355328 then code_List_int64.l0 k (xs ++ y) l (l.length : Int) (wrap64 ((i : Int) + 1)) else none) (by rw [hw]; exact Ev.congr (fun k => if_pos (by omega)) h2))
    simp only [code_List_int64.l0]
    rw [if_pos (by omega), if_pos (by omega), if_pos (by omega), hn]
theorem codeNums_ev (l : List Int) (hl : l.length ≤ 1000000) (hin : ∀ x ∈ l, in64 x) : Ev (fun k => code_Nums.f k l) (codeNums l) := by
  unfold code_Nums.f
  refine Ev.bind (a := numsAll l) ?_ ?_
  · unfold code_List_int64.f
    have hw : IntKind.u64.wrap (l.length : Int) = (l.length : Int) := wrap_u _ (by omega) (by omega)
    rw [hw]
    refine Ev.bind (Ev.of (fun k => code_Num.mono _ k) (code_Num_eq (l.length : Int) (by omega) (by omega) 0)) ?_
    have hlen := numR_len 9 (l.length : Int)
    have := codeNums_loop l hl hin l.length 0 (numR 9 (l.length : Int)) (by omega) (by omega)
    rw [List.drop_zero] at this
    exact this
  · unfold code_told.f codeNums
    by_cases h : (numsAll l).length > 16777216
    · rw [if_pos h, if_pos (by omega)]
      exact Ev.now _
    · rw [if_neg h, if_neg (by omega)]
      exact Ev.now _
theorem numsAll_len (l : List Int) : (numsAll l).length ≤ 10 * l.length + 10 := by
  unfold numsAll
  have h1 := numR_len 9 (l.length : Int)
  have h2 := numsB_len l
  rw [List.length_append]
  omega
end Go.Proofs.Ytgihecpobichbaa.Q
/- Texts, values, rows, columns and pairs as bytes and back, in plain words: no program in it. -/
namespace Go.Proofs.Ytgihecpobichbaa.Q
open Go.RowKit Go.Proofs.YtgihecpobichbaaW.PrintWords Go.Proofs.YtgihecpobichbaaW.PrintLast Go.Proofs.YtgihecpobichbaaW.PrintMore
set_option linter.unusedVariables false
set_option linter.unusedSimpArgs false

abbrev Va := S116
abbrev Pa := S74
def encW (s : ByteArray) : List Int := numR 9 (s.size : Int) ++ bytesOf s
def encV (v : Va) : List Int := [v.f0 % 256] ++ (if v.f0 = 1 then encI v.f1 else if v.f0 = 2 then [v.f1 % 256] else if v.f0 = 3 then encW v.f2 else [])
def encR (r : List Va) : List Int := numR 9 (r.length : Int) ++ flat encV r
def encP (p : Pa) : List Int := encW p.f0 ++ encW p.f1
theorem encW_pos (s : ByteArray) : 0 < (encW s).length := by
  have := numR_pos 9 (s.size : Int)
  unfold encW
  rw [List.length_append]
  omega
theorem encV_pos (v : Va) : 0 < (encV v).length := by
  unfold encV
  simp
theorem encR_pos (v : List Va) : 0 < (encR v).length := by
  have := numR_pos 9 (v.length : Int)
  unfold encR
  rw [List.length_append]
  omega
theorem encP_pos (c : Pa) : 0 < (encP c).length := by
  have := encW_pos c.f0
  unfold encP
  rw [List.length_append]
  omega
/-- Is a value one that may be told? -/
def goodV (v : Va) : Prop := chkV v = 0 ∧ in64 v.f1
theorem chk_parts {v : Va} (h : chkV v = 0) : (v.f0 = 0 ∧ v.f1 = 0 ∧ v.f2.toList = []) ∨ (v.f0 = 1 ∧ v.f2.toList = []) ∨ (v.f0 = 2 ∧ (v.f1 = 0 ∨ v.f1 = 1) ∧ v.f2.toList = []) ∨ (v.f0 = 3 ∧ v.f1 = 0 ∧ v.f2.size ≤ 200) := by
  unfold chkV at h
  by_cases h0 : v.f0 = 0
  · rw [if_pos h0] at h
    split at h
    · rename_i hc
      exact .inl ⟨h0, hc.1, hc.2⟩
    · omega
  · rw [if_neg h0] at h
    by_cases h1 : v.f0 = 1
    · rw [if_pos h1] at h
      split at h
      · rename_i hc
        exact .inr (.inl ⟨h1, hc⟩)
      · omega
    · rw [if_neg h1] at h
      by_cases h2 : v.f0 = 2
      · rw [if_pos h2] at h
        split at h
        · rename_i hc
          exact .inr (.inr (.inl ⟨h2, hc.1, hc.2⟩))
        · omega
      · rw [if_neg h2] at h
        by_cases h3 : v.f0 = 3
        · rw [if_pos h3] at h
          split at h
          · rename_i hc
            exact .inr (.inr (.inr ⟨h3, hc.1, hc.2⟩))
          · omega
        · rw [if_neg h3] at h
          omega
theorem toList_nil {s : ByteArray} (h : s.toList = []) : s = ⟨#[]⟩ := by
  apply ByteArray.ext
  have h2 : s.data.toList = [] := by
    rw [← Lib.toList_data]
    exact h
  apply Array.ext'
  rw [h2]
theorem itemB_back (x : Int) (r : List Int) : itemB ([x] ++ r) = some (x, r) := rfl
theorem itemW_back (s : ByteArray) (hs : s.size < 18446744073709551616) (r : List Int) : itemW (encW s ++ r) = some (s, r) := by
  unfold itemW encW
  have hl := bytesOf_length s
  have hu := un_numR (n := (s.size : Int)) (by omega) (by omega) (bytesOf s ++ r)
  rw [List.append_assoc, hu, if_pos rfl]
  simp only [drop_at]
  rw [if_neg (by rw [List.length_append]; omega), Int.toNat_natCast]
  have e1 : (bytesOf s ++ r).take s.size = bytesOf s := by rw [← hl]; exact List.take_left
  have e2 : (bytesOf s ++ r).drop s.size = r := by rw [← hl]; exact List.drop_left
  rw [e1, e2, strNums_bytesOf]
theorem wrap_byte {x : Int} (h : 0 ≤ x ∧ x ≤ 255) : wrap64 x = x := wrap_in (by unfold in64; omega)
theorem preV_back {v : Va} (h : goodV v) (r : List Int) : preV (wrap64 (v.f0 % 256)) ((if v.f0 = 1 then encI v.f1 else if v.f0 = 2 then [v.f1 % 256] else if v.f0 = 3 then encW v.f2 else []) ++ r) = some (v, r) := by
  obtain ⟨k, n, s⟩ := v
  obtain ⟨hc, h64⟩ := h
  have hp := chk_parts hc
  simp only at hp h64 ⊢
  rcases hp with ⟨rfl, rfl, hs⟩ | ⟨rfl, hs⟩ | ⟨rfl, hn, hs⟩ | ⟨rfl, rfl, hs⟩
  · rw [toList_nil hs]
    have e : wrap64 (0 % 256) = 0 := wrap_byte (by omega)
    rw [e]
    simp [preV]
  · rw [toList_nil hs]
    have e : wrap64 (1 % 256) = 1 := wrap_byte (by omega)
    rw [e, if_pos rfl]
    unfold preV
    rw [if_pos rfl, itemI_back h64]
    rfl
  · rw [toList_nil hs]
    have e : wrap64 (2 % 256) = 2 := wrap_byte (by omega)
    rw [e]
    have e0 : wrap64 (0 % 256) = 0 := wrap_byte (by omega)
    have e1 : wrap64 (1 % 256) = 1 := wrap_byte (by omega)
    have e2 : wrap64 0 = 0 := wrap_byte (by omega)
    have e3 : wrap64 1 = 1 := wrap_byte (by omega)
    rcases hn with rfl | rfl <;> simp [preV, itemB, e0, e1, e2, e3]
  · have e : wrap64 (3 % 256) = 3 := wrap_byte (by omega)
    rw [e]
    unfold preV
    rw [if_neg (by omega), if_neg (by omega), if_pos rfl, if_neg (by omega), if_neg (by omega), if_pos rfl, itemW_back s (by omega)]
    rfl
theorem itemV_back {v : Va} (h : goodV v) (r : List Int) : itemV (encV v ++ r) = some (v, r) := by
  unfold itemV encV
  rw [List.append_assoc, itemB_back]
  simp only [Option.bind_some]
  rw [preV_back h]
  simp only [Option.bind_some]
  rw [if_pos h.1]
def goodR (r : List Va) : Prop := rowOk r = true ∧ ∀ v ∈ r, in64 v.f1
theorem goodR_parts {r : List Va} (h : goodR r) : r.length ≤ 12 ∧ ∀ v ∈ r, goodV v := by
  obtain ⟨h1, h2⟩ := h
  unfold rowOk at h1
  rw [Bool.and_eq_true] at h1
  refine ⟨of_decide_eq_true h1.1, fun v hv => ⟨?_, h2 v hv⟩⟩
  have := List.all_eq_true.1 h1.2 v hv
  simpa using this
theorem itemR_back {x : List Va} (h : goodR x) (r : List Int) : itemR (encR x ++ r) = some (x, r) := by
  unfold itemR encR
  have hp := goodR_parts h
  rw [readItems_back itemV encV encV_pos x r (by omega) (fun a ha r => itemV_back (hp.2 a ha) r)]
  simp only [Option.bind_some]
  rw [if_pos h.1]
theorem itemP_back (p : Pa) (h0 : p.f0.size < 18446744073709551616) (h1 : p.f1.size < 18446744073709551616) (r : List Int) : itemP (encP p ++ r) = some (p, r) := by
  unfold itemP encP
  rw [List.append_assoc, itemW_back _ h0]
  simp only [Option.bind_some]
  rw [itemW_back _ h1]
  rfl
theorem readR_X (l : List Int) : readR l = readX itemR l := by
  unfold readR readX
  cases readItems itemR l <;> rfl
theorem readP_X (l : List Int) : readP l = readX itemP l := by
  unfold readP readX
  cases readItems itemP l <;> rfl
end Go.Proofs.Ytgihecpobichbaa.Q
-- Written by a program of the session over the translation's print: functions as plain Lean, and that the machine's call comes to them.
namespace Go.Proofs.Ytgihecpobichbaa.Q
open Go.RowKit Go.Proofs.YtgihecpobichbaaW.PrintWords Go.Proofs.YtgihecpobichbaaW.PrintLast Go.Proofs.YtgihecpobichbaaW.PrintMore
attribute [local go_sem] max2_int min2_int max_two min_two max_three min_three max_four min_four   -- for this text's walks alone
set_option linter.unusedVariables false
set_option linter.unusedSimpArgs false

/-! ### api_Value_60: function 60 -/
def api_Value_60.l0 : Nat → List Int → List (S116) → Int → Int → Option (List Int)
  | 0, _, _, _, _ => none
  | k + 1, x5, x12, x13, x14 => if x14 < x13 then (if 0 ≤ x14 then (if x14 < (x12.length : Int) then ((code_one.f k ((rd_T116 x12 x14).f0) ((rd_T116 x12 x14).f1) ((rd_T116 x12 x14).f2)).bind fun t194 => (if x5.length + t194.length < 140737488355328 then (api_Value_60.l0 k (x5 ++ t194) x12 x13 (wrap64 (x14 + 1))) else (none))) else (none)) else (none)) else (some x5)
def api_Value_60.f (k : Nat) (l0 : List (S116)) (a1 : Unit) : Option (List Int) := (code_Num.f k (IntKind.u64.wrap ((l0.length : Int)))).bind fun t189 => (api_Value_60.l0 k t189 l0 (l0.length : Int) 0)
set_option maxHeartbeats 8000000 in
set_option maxRecDepth 100000 in
theorem api_Value_60.calls (k : Nat) (A0 : Option Addr) (c0 : Nat) (l0 : List (S116)) (a1 : Unit) (r : List Int) (w : World) (hr0 : Kd.C k116 w A0 l0.length l0) (hc0 : l0.length ≤ c0) (h : api_Value_60.f k l0 a1 = some r) :
    Calls Try.prog 60 #[.slice A0 l0.length c0, .func (.func 61) #[] #[]] w fun e w' => ∃ v0_ : Value, e = .returned (v0_) ∧ Kd.R (Kd.int .u8) 5 w' w.heap.size (fun _ => True) v0_ r ∧ Below w.heap.size w w' := by
  have hu116 := Try.underlying116
  have HR0 := Aside0.mk hr0
  have HC0 := Aside0.mk hc0
  clear hr0 hc0
  have HB := Aside0.mk (Below.refl w.heap.size w)
  have H : ((code_Num.f k (IntKind.u64.wrap ((l0.length : Int)))).bind fun t189 => (api_Value_60.l0 k t189 l0 (l0.length : Int) 0)) = some r := h
  clear h
  replace H := Option.bind_eq_some_iff.mp H
  obtain ⟨t189, A30, H⟩ := H
  replace H : (api_Value_60.l0 k t189 l0 (l0.length : Int) 0) = some r := H
  have A3 := Aside0.mk A30
  clear A30
  have H' := Aside0.mk H
  clear H
  go_enter Try.func60, Try.ntmps60
  go_wp2_with (first | ((with_reducible refine gate_callee (f := 15) rfl ?_); refine goesL_ (some 11) rfl rfl Try.func15 (by kernel_rfl) rfl #[.int .u64 (IntKind.u64.wrap ((l0.length : Int)))] rfl (by (try simp only [List.map_toArray, List.map_cons, List.map_nil]); first | done | rfl | (simp only [List.length_drop, List.length_take]; rfl) | exact congrArg (fun x_ : Int => #[Value.int .u64 x_]) (show _ = _ % (18446744073709551616 : Int) by omega)) ?_; (with_reducible refine (code_Num.calls k (IntKind.u64.wrap ((l0.length : Int))) t189 _ A3.out).mono ?_); rintro e w4 ⟨v190, rfl, ho0, hb⟩; refine ⟨_, rfl, ?_⟩; have n0_ := Aside0.mk (Kd.R_lower ho0 (below_size (by repeat (first | (with_reducible first | exact HB.out | apply below_alloc | apply pw_below_drewN | apply below_drew1) | exact HB.out)))); have n1_ := Aside0.mk (below_step (by repeat (first | (with_reducible first | exact HB.out | apply below_alloc | apply pw_below_drewN | apply below_drew1) | exact HB.out)) hb); clear HB; have HO191 := n0_; have HB := n1_; clear n0_ n1_; (try clear hb); (try clear hb2); (try clear hk); (try clear hi); (try clear ho0)))
  go_loopg [5, 14] k (fun kq v5 v14 w' => ∃ (x5_1 : List Int) (x14_1 : Int), v14 = .int .i64 x14_1 ∧ Aside0 (api_Value_60.l0 kq x5_1 l0 (l0.length : Int) x14_1 = some r) ∧ Aside0 (kq ≤ k) ∧ Aside0 (Kd.R (Kd.int .u8) 5 w' w.heap.size (fun _ => True) v5 x5_1) ∧ Aside0 (Below w.heap.size w w'))
  case atStart => exact ⟨(t189), (0), (by first | rfl | (simp; done) | (simp [*]; done) | (simp; rw [Bool.eq_iff_iff]; simp; done)), H', ⟨Nat.le_refl _⟩, ⟨by (with_reducible repeat (first | apply Kd.R_alloc | apply Kd.R_drewN | apply Kd.R_drew)); exact HO191.out⟩, ⟨by repeat (first | (with_reducible first | exact HB.out | apply below_alloc | apply pw_below_drewN | apply below_drew1) | exact HB.out)⟩⟩
  case round =>
    clear H'
    try clear c1
    try clear p2
    obtain ⟨x5_1, x14_1, rfl, HA, HK1, HO_5, HB⟩ := hrel
    cases gk with
    | zero => exact absurd HA.out (by simp [api_Value_60.l0])
    | succ k1 =>
      have H := HA.out
      clear HA
      simp only [api_Value_60.l0] at H
      by_cases c5 : x14_1 < (l0.length : Int)
      · rw [if_pos c5] at H
        have c5b0 : decide (x14_1 < (l0.length : Int)) = true := decide_eq_true c5
        clear c5
        by_cases c6 : 0 ≤ x14_1
        · rw [if_pos c6] at H
          have c6b0 : decide (0 ≤ x14_1) = true := decide_eq_true c6
          clear c6
          by_cases c7 : x14_1 < (l0.length : Int)
          · rw [if_pos c7] at H
            have c7b0 : decide (x14_1 < (l0.length : Int)) = true := decide_eq_true c7
            clear c7
            replace H := Option.bind_eq_some_iff.mp H
            obtain ⟨t194, A80, H⟩ := H
            replace H : (if x5_1.length + t194.length < 140737488355328 then (api_Value_60.l0 k1 (x5_1 ++ t194) l0 (l0.length : Int) (wrap64 (x14_1 + 1))) else (none)) = some r := H
            have A8 := Aside0.mk A80
            clear A80
            by_cases c9 : x5_1.length + t194.length < 140737488355328
            · rw [if_pos c9] at H
              have LMc9 := Aside0.mk c9
              clear c9
              obtain ⟨y197, hy197⟩ : ∃ y_ : List Int, y_ = (x5_1 ++ t194) := ⟨_, rfl⟩
              replace H : (api_Value_60.l0 k1 y197 l0 (l0.length : Int) (wrap64 (x14_1 + 1))) = some r := by first | (rw [hy197]; with_reducible exact H) | (have H2_ := (Option.bind_some _ _).symm.trans H; rw [hy197]; with_reducible exact H2_) | (have H2_ := (Option.bind_some _ _).symm.trans H; with_reducible exact H2_) | with_reducible exact H | (rw [hy197]; exact H) | exact H
              have Ny197 := Aside0.mk hy197
              clear hy197
              have H' := Aside0.mk H
              clear H
              have p192 : 0 ≤ (x14_1 : Int) := of_decide_eq_true (by first | (with_reducible assumption) | assumption)
              have q192 : x14_1 < (l0.length : Int) := of_decide_eq_true (by first | (with_reducible assumption) | assumption)
              obtain ⟨ad192, e192, hx192_0, hx192_1, hx192_2⟩ := at_T116 HR0.out x14_1 p192 q192
              cases e192
              replace hx192_0 := (HB.out.cell (World.block_lt_of_cell? w _ hx192_0)).trans hx192_0
              replace hx192_1 := (HB.out.cell (World.block_lt_of_cell? w _ hx192_1)).trans hx192_1
              replace hx192_2 := (HB.out.cell (World.block_lt_of_cell? w _ hx192_2)).trans hx192_2
              replace p192 := eq_true p192
              replace q192 := eq_true q192
              go_wp2_with (first | ((with_reducible refine gate_dst (N := 7) rfl ?_); refine box_event ?hg (N := 7) ?hd (cs := #[.int .i64 0, .int .i64 0, .string (⟨#[]⟩ : ByteArray)]) (t := 116) ?hr ?_; (case hd => rfl); (case hg => rfl); (case hr => first | (go_simp; done) | (go_simp; rfl)); intro gb193 hg w10 hbox hb; have n0_ := Aside0.mk (Kd.R_below (by (with_reducible repeat (first | apply Kd.R_alloc | apply Kd.R_drewN | apply Kd.R_drew)); exact HO_5.out) hb); have n1_ := Aside0.mk (below_step (by repeat (first | (with_reducible first | exact HB.out | apply below_alloc | apply pw_below_drewN | apply below_drew1) | exact HB.out)) hb); have n2_ := Aside0.mk (hbox); have n3_ := Aside0.mk ((by rw [hg]; exact (below_size (by repeat (first | (with_reducible first | exact HB.out | apply below_alloc | apply pw_below_drewN | apply below_drew1) | exact HB.out))) : w.heap.size ≤ gb193)); have n4_ := Aside0.mk ((by rw [hg]; exact (below_size (by repeat (first | (with_reducible first | exact HB.out | apply below_alloc | apply pw_below_drewN | apply below_drew1) | exact HB.out))) : w.heap.size ≤ gb193)); clear HO_5; clear HB; have HO_5 := n0_; have HB := n1_; have BK193 := n2_; have GW193 := n3_; have GE193 := n4_; clear n0_ n1_ n2_ n3_ n4_; clear hb hbox hg; obtain ⟨hcz11_0, hcz11_1, hcz11_2, hfz11_0, hfz11_1, hfz11_2⟩ := bf3 BK193.out) | (go_at_call 61; (with_reducible refine (code_one.calls k1 ((rd_T116 l0 x14_1).f0) ((rd_T116 l0 x14_1).f1) ((rd_T116 l0 x14_1).f2) t194 _ A8.out).mono ?_); rintro e w12 ⟨v195, rfl, ho0, hb⟩; have n0_ := Aside0.mk (Kd.R_elder' (by (with_reducible repeat (first | apply Kd.R_alloc | apply Kd.R_drewN | apply Kd.R_drew)); exact (Kd.R_mono (Kd.R_far (p := ⟨gb193, 2, none⟩) (Kd.R_far (p := ⟨gb193, 1, none⟩) (Kd.R_far (p := ⟨gb193, 0, none⟩) (Kd.R_types HO_5.out BK193.out (by decide)) (fun _ hk => hk.2) (.int .i64 ((rd_T116 l0 x14_1).f0))) (fun _ hk => hk.2) (.int .i64 ((rd_T116 l0 x14_1).f1))) (fun _ hk => hk.2) (.string ((rd_T116 l0 x14_1).f2))) (fun _ h_ => h_.1))) (Kd.R_base ho0) hb); have n1_ := Aside0.mk (Kd.R_lower (Kd.R_new' ho0 (Kd.R_lt (by (with_reducible repeat (first | apply Kd.R_alloc | apply Kd.R_drewN | apply Kd.R_drew)); exact (Kd.R_mono (Kd.R_far (p := ⟨gb193, 2, none⟩) (Kd.R_far (p := ⟨gb193, 1, none⟩) (Kd.R_far (p := ⟨gb193, 0, none⟩) (Kd.R_types HO_5.out BK193.out (by decide)) (fun _ hk => hk.2) (.int .i64 ((rd_T116 l0 x14_1).f0))) (fun _ hk => hk.2) (.int .i64 ((rd_T116 l0 x14_1).f1))) (fun _ hk => hk.2) (.string ((rd_T116 l0 x14_1).f2))) (fun _ h_ => h_.1))))) (below_size (by repeat (first | (with_reducible first | exact HB.out | apply below_alloc | apply pw_below_drewN | apply below_drew1 | refine below_set ?_ GE193.out) | exact HB.out)))); have n2_ := Aside0.mk (blk_below (g := gb193) (o := .cells #[.int .i64 ((rd_T116 l0 x14_1).f0), .int .i64 ((rd_T116 l0 x14_1).f1), .string ((rd_T116 l0 x14_1).f2)] 116 (0, 0)) (by (with_reducible repeat (first | refine blk_drewN ?_ _ | refine blk_drew ?_ | refine blk_alloc ?_ _)); refine blk_put (cs := #[.int .i64 ((rd_T116 l0 x14_1).f0), .int .i64 ((rd_T116 l0 x14_1).f1), .string (⟨#[]⟩ : ByteArray)]) ?_ 2 _ rfl; (with_reducible repeat (first | refine blk_drewN ?_ _ | refine blk_drew ?_ | refine blk_alloc ?_ _)); refine blk_put (cs := #[.int .i64 ((rd_T116 l0 x14_1).f0), .int .i64 0, .string (⟨#[]⟩ : ByteArray)]) ?_ 1 _ rfl; (with_reducible repeat (first | refine blk_drewN ?_ _ | refine blk_drew ?_ | refine blk_alloc ?_ _)); refine blk_put (cs := #[.int .i64 0, .int .i64 0, .string (⟨#[]⟩ : ByteArray)]) ?_ 0 _ rfl; (with_reducible repeat (first | refine blk_drewN ?_ _ | refine blk_drew ?_ | refine blk_alloc ?_ _)); exact BK193.out) hb); have n3_ := Aside0.mk (below_step (by repeat (first | (with_reducible first | exact HB.out | apply below_alloc | apply pw_below_drewN | apply below_drew1 | refine below_set ?_ GE193.out) | exact HB.out)) hb); clear HO_5; clear BK193; clear HB; have HO_5 := n0_; have HO196 := n1_; have BK193 := n2_; have HB := n3_; clear n0_ n1_ n2_ n3_; (try clear hb); (try clear hb2); (try clear hk); (try clear hi); (try clear ho0); obtain ⟨Ao14, co14, eo14⟩ := Kd.R_slice HO196.out; subst eo14) | ((with_reducible refine gate_builtin (b := .append) (xs := #[.tmp 18, .tmp 21]) rfl ?_); at_builtin; refine Kd.R_append_rows (Kd.int .u8) (w0 := w) w.heap.size rfl (.tmp 18) (.tmp 21) 27 5 (.int .u8 0) 1 rfl Try.underlying27 info5 rfl (by decide) (by omega) u5 x5_1 t194 _ _ _ (fun k_ => some k_ ≠ (.slice Ao14 t194.length co14 : Value).ownBlock) (fun _ => False) rfl rfl ?aO ?aR (fun _ _ h => h) (fun _ h => h.elim) ?aF ?aB ?aS ?aL ?_; (case aR => repeat (first | exact (Kd.R_reads' HO196.out).2.2 | (with_reducible refine Kd.C_alloc ?_ _) | (with_reducible refine Kd.C_drewN ?_ _) | (with_reducible refine Kd.C_drew ?_))); (case aB => exact (by repeat (first | (with_reducible first | exact HB.out | apply below_alloc | apply pw_below_drewN | apply below_drew1 | refine below_set ?_ GE193.out) | exact HB.out))); (case aF => exact (fun k_ hk => Kd.fresh' (Kd.R_lt (by (with_reducible repeat (first | apply Kd.R_alloc | apply Kd.R_drewN | apply Kd.R_drew)); exact HO196.out)) k_ hk)); (case aO => exact (by (with_reducible repeat (first | apply Kd.R_alloc | apply Kd.R_drewN | apply Kd.R_drew)); exact Kd.R_mono HO_5.out (fun _ hk => hk.2))); (case aS => exact (below_size (by repeat (first | (with_reducible first | exact HB.out | apply below_alloc | apply pw_below_drewN | apply below_drew1 | refine below_set ?_ GE193.out) | exact HB.out)))); (case aL => have := LMc9.out; omega); intro v198 w13 ho hb hg hat; rw [← Ny197.out] at ho; have n0_ := Aside0.mk (blk_grown (g := gb193) (o := .cells #[.int .i64 ((rd_T116 l0 x14_1).f0), .int .i64 ((rd_T116 l0 x14_1).f1), .string ((rd_T116 l0 x14_1).f2)] 116 (0, 0)) (by (with_reducible repeat (first | refine blk_drewN ?_ _ | refine blk_drew ?_ | refine blk_alloc ?_ _)); exact BK193.out) hg (Kd.R_ne HO_5.out BK193.out (by decide))); have n1_ := Aside0.mk (Kd.R_after (ok := (fun _ => True)) (by (with_reducible repeat (first | apply Kd.R_alloc | apply Kd.R_drewN | apply Kd.R_drew)); exact HO196.out) hg hat); have n2_ := Aside0.mk (hb); have n3_ := Aside0.mk (ho); clear BK193; clear HO196; clear HB; clear HO_5; have BK193 := n0_; have HO196 := n1_; have HB := n2_; have HO199 := n3_; clear n0_ n1_ n2_ n3_; clear ho hb hg hat))
              go_roundg k1
              case measure => have := HK1.out; omega
              case rel => exact ⟨(y197), (wrap64 (x14_1 + 1)), (by first | rfl | (simp; done) | (simp [*]; done) | (simp; rw [Bool.eq_iff_iff]; simp; done)), H', ⟨by have := HK1.out; omega⟩, ⟨by (with_reducible repeat (first | apply Kd.R_alloc | apply Kd.R_drewN | apply Kd.R_drew)); exact Kd.R_mono HO199.out (fun _ hk => trivial)⟩, ⟨by repeat (first | (with_reducible first | exact HB.out | apply below_alloc | apply pw_below_drewN | apply below_drew1 | refine below_set ?_ GE193.out) | exact HB.out)⟩⟩
            · rw [if_neg c9] at H
              exact absurd H (by simp)
          · rw [if_neg c7] at H
            exact absurd H (by simp)
        · rw [if_neg c6] at H
          exact absurd H (by simp)
      · rw [if_neg c5] at H
        have c5b0 : decide (x14_1 < (l0.length : Int)) = false := decide_eq_false c5
        clear c5
        obtain rfl := Option.some.inj H
        go_wp2
        go_ret
        exact ⟨_, by first | rfl | (simp [errW_none, errW_some] <;> rfl) | (simp [*, errW_none, errW_some] <;> rfl), by (with_reducible repeat (first | apply Kd.R_alloc | apply Kd.R_drewN | apply Kd.R_drew)); exact HO_5.out, by repeat (first | (with_reducible first | exact HB.out | apply below_alloc | apply pw_below_drewN | apply below_drew1) | exact HB.out)⟩

/-! ### code_Rows_1: function 59 -/
def code_Rows_1.f (k : Nat) (l0 : List (S116)) : Option (List Int) := (api_Value_60.f k l0 ()).bind fun t200 => (some t200)
set_option maxHeartbeats 8000000 in
set_option maxRecDepth 100000 in
theorem code_Rows_1.calls (k : Nat) (A0 : Option Addr) (c0 : Nat) (l0 : List (S116)) (r : List Int) (w : World) (hr0 : Kd.C k116 w A0 l0.length l0) (hc0 : l0.length ≤ c0) (h : code_Rows_1.f k l0 = some r) :
    Calls Try.prog 59 #[.slice A0 l0.length c0] w fun e w' => ∃ v0_ : Value, e = .returned (v0_) ∧ Kd.R (Kd.int .u8) 5 w' w.heap.size (fun _ => True) v0_ r ∧ Below w.heap.size w w' := by
  have HR0 := Aside0.mk hr0
  have HC0 := Aside0.mk hc0
  clear hr0 hc0
  have HB := Aside0.mk (Below.refl w.heap.size w)
  have H : ((api_Value_60.f k l0 ()).bind fun t200 => (some t200)) = some r := h
  clear h
  replace H := Option.bind_eq_some_iff.mp H
  obtain ⟨t200, A20, H⟩ := H
  replace H : (some t200) = some r := H
  have A2 := Aside0.mk A20
  clear A20
  obtain rfl := Option.some.inj H
  go_enter Try.func59, Try.ntmps59
  go_wp2_with (first | ((with_reducible refine gate_callee (f := 60) rfl ?_); refine goesL_ (some 4) rfl rfl Try.func60 (by kernel_rfl) rfl #[.slice A0 l0.length c0, .func (.func 61) #[] #[]] rfl (by (try simp only [List.map_toArray, List.map_cons, List.map_nil]); first | done | rfl | (simp only [List.length_drop, List.length_take]; rfl) | exact congrArg (fun x_ : Int => #[Value.int .u64 x_]) (show _ = _ % (18446744073709551616 : Int) by omega)) ?_; (with_reducible refine (api_Value_60.calls k _ _ l0 () t200 _ ?side1 ?side2 A2.out).mono ?_); (case side1 => repeat (first | exact HR0.out | (with_reducible refine Kd.C_alloc ?_ _) | (with_reducible refine Kd.C_drewN ?_ _) | (with_reducible refine Kd.C_drew ?_))); (case side2 => exact HC0.out); rintro e w3 ⟨v201, rfl, ho0, hb⟩; refine ⟨_, rfl, ?_⟩; have n0_ := Aside0.mk (Kd.R_lower ho0 (below_size (by repeat (first | (with_reducible first | exact HB.out | apply below_alloc | apply pw_below_drewN | apply below_drew1) | exact HB.out)))); have n1_ := Aside0.mk (below_step (by repeat (first | (with_reducible first | exact HB.out | apply below_alloc | apply pw_below_drewN | apply below_drew1) | exact HB.out)) hb); clear HB; have HO202 := n0_; have HB := n1_; clear n0_ n1_; (try clear hb); (try clear hb2); (try clear hk); (try clear hi); (try clear ho0)))
  go_ret
  exact ⟨_, by first | rfl | (simp [errW_none, errW_some] <;> rfl) | (simp [*, errW_none, errW_some] <;> rfl), by (with_reducible repeat (first | apply Kd.R_alloc | apply Kd.R_drewN | apply Kd.R_drew)); exact HO202.out, by repeat (first | (with_reducible first | exact HB.out | apply below_alloc | apply pw_below_drewN | apply below_drew1) | exact HB.out)⟩

/-! ### api_Value_58: function 58 -/
def api_Value_58.l0 : Nat → List Int → List (List (S116)) → Int → Int → Option (List Int)
  | 0, _, _, _, _ => none
  | k + 1, x5, x12, x13, x14 => if x14 < x13 then (if 0 ≤ x14 then (if x14 < (x12.length : Int) then ((code_Rows_1.f k (rd_L12 x12 x14)).bind fun t207 => (if x5.length + t207.length < 140737488355328 then (api_Value_58.l0 k (x5 ++ t207) x12 x13 (wrap64 (x14 + 1))) else (none))) else (none)) else (none)) else (some x5)
def api_Value_58.f (k : Nat) (l0 : List (List (S116))) (a1 : Unit) : Option (List Int) := (code_Num.f k (IntKind.u64.wrap ((l0.length : Int)))).bind fun t203 => (api_Value_58.l0 k t203 l0 (l0.length : Int) 0)
set_option maxHeartbeats 8000000 in
set_option maxRecDepth 100000 in
theorem api_Value_58.calls (k : Nat) (A0 : Option Addr) (c0 : Nat) (l0 : List (List (S116))) (a1 : Unit) (r : List Int) (w : World) (hr0 : Kd.C (Kd.slice 116 k116) w A0 l0.length l0) (hc0 : l0.length ≤ c0) (h : api_Value_58.f k l0 a1 = some r) :
    Calls Try.prog 58 #[.slice A0 l0.length c0, .func (.func 59) #[] #[]] w fun e w' => ∃ v0_ : Value, e = .returned (v0_) ∧ Kd.R (Kd.int .u8) 5 w' w.heap.size (fun _ => True) v0_ r ∧ Below w.heap.size w w' := by
  have HR0 := Aside0.mk hr0
  have HC0 := Aside0.mk hc0
  clear hr0 hc0
  have HB := Aside0.mk (Below.refl w.heap.size w)
  have H : ((code_Num.f k (IntKind.u64.wrap ((l0.length : Int)))).bind fun t203 => (api_Value_58.l0 k t203 l0 (l0.length : Int) 0)) = some r := h
  clear h
  replace H := Option.bind_eq_some_iff.mp H
  obtain ⟨t203, A30, H⟩ := H
  replace H : (api_Value_58.l0 k t203 l0 (l0.length : Int) 0) = some r := H
  have A3 := Aside0.mk A30
  clear A30
  have H' := Aside0.mk H
  clear H
  go_enter Try.func58, Try.ntmps58
  go_wp2_with (first | ((with_reducible refine gate_callee (f := 15) rfl ?_); refine goesL_ (some 11) rfl rfl Try.func15 (by kernel_rfl) rfl #[.int .u64 (IntKind.u64.wrap ((l0.length : Int)))] rfl (by (try simp only [List.map_toArray, List.map_cons, List.map_nil]); first | done | rfl | (simp only [List.length_drop, List.length_take]; rfl) | exact congrArg (fun x_ : Int => #[Value.int .u64 x_]) (show _ = _ % (18446744073709551616 : Int) by omega)) ?_; (with_reducible refine (code_Num.calls k (IntKind.u64.wrap ((l0.length : Int))) t203 _ A3.out).mono ?_); rintro e w4 ⟨v204, rfl, ho0, hb⟩; refine ⟨_, rfl, ?_⟩; have n0_ := Aside0.mk (Kd.R_lower ho0 (below_size (by repeat (first | (with_reducible first | exact HB.out | apply below_alloc | apply pw_below_drewN | apply below_drew1) | exact HB.out)))); have n1_ := Aside0.mk (below_step (by repeat (first | (with_reducible first | exact HB.out | apply below_alloc | apply pw_below_drewN | apply below_drew1) | exact HB.out)) hb); clear HB; have HO205 := n0_; have HB := n1_; clear n0_ n1_; (try clear hb); (try clear hb2); (try clear hk); (try clear hi); (try clear ho0)))
  go_loopg [5, 14] k (fun kq v5 v14 w' => ∃ (x5_1 : List Int) (x14_1 : Int), v14 = .int .i64 x14_1 ∧ Aside0 (api_Value_58.l0 kq x5_1 l0 (l0.length : Int) x14_1 = some r) ∧ Aside0 (kq ≤ k) ∧ Aside0 (Kd.R (Kd.int .u8) 5 w' w.heap.size (fun _ => True) v5 x5_1) ∧ Aside0 (Below w.heap.size w w'))
  case atStart => exact ⟨(t203), (0), (by first | rfl | (simp; done) | (simp [*]; done) | (simp; rw [Bool.eq_iff_iff]; simp; done)), H', ⟨Nat.le_refl _⟩, ⟨by (with_reducible repeat (first | apply Kd.R_alloc | apply Kd.R_drewN | apply Kd.R_drew)); exact HO205.out⟩, ⟨by repeat (first | (with_reducible first | exact HB.out | apply below_alloc | apply pw_below_drewN | apply below_drew1) | exact HB.out)⟩⟩
  case round =>
    clear H'
    try clear c1
    try clear p2
    obtain ⟨x5_1, x14_1, rfl, HA, HK1, HO_5, HB⟩ := hrel
    cases gk with
    | zero => exact absurd HA.out (by simp [api_Value_58.l0])
    | succ k1 =>
      have H := HA.out
      clear HA
      simp only [api_Value_58.l0] at H
      by_cases c5 : x14_1 < (l0.length : Int)
      · rw [if_pos c5] at H
        have c5b0 : decide (x14_1 < (l0.length : Int)) = true := decide_eq_true c5
        clear c5
        by_cases c6 : 0 ≤ x14_1
        · rw [if_pos c6] at H
          have c6b0 : decide (0 ≤ x14_1) = true := decide_eq_true c6
          clear c6
          by_cases c7 : x14_1 < (l0.length : Int)
          · rw [if_pos c7] at H
            have c7b0 : decide (x14_1 < (l0.length : Int)) = true := decide_eq_true c7
            clear c7
            replace H := Option.bind_eq_some_iff.mp H
            obtain ⟨t207, A80, H⟩ := H
            replace H : (if x5_1.length + t207.length < 140737488355328 then (api_Value_58.l0 k1 (x5_1 ++ t207) l0 (l0.length : Int) (wrap64 (x14_1 + 1))) else (none)) = some r := H
            have A8 := Aside0.mk A80
            clear A80
            by_cases c9 : x5_1.length + t207.length < 140737488355328
            · rw [if_pos c9] at H
              have LMc9 := Aside0.mk c9
              clear c9
              obtain ⟨y210, hy210⟩ : ∃ y_ : List Int, y_ = (x5_1 ++ t207) := ⟨_, rfl⟩
              replace H : (api_Value_58.l0 k1 y210 l0 (l0.length : Int) (wrap64 (x14_1 + 1))) = some r := by first | (rw [hy210]; with_reducible exact H) | (have H2_ := (Option.bind_some _ _).symm.trans H; rw [hy210]; with_reducible exact H2_) | (have H2_ := (Option.bind_some _ _).symm.trans H; with_reducible exact H2_) | with_reducible exact H | (rw [hy210]; exact H) | exact H
              have Ny210 := Aside0.mk hy210
              clear hy210
              have H' := Aside0.mk H
              clear H
              have p206 : 0 ≤ (x14_1 : Int) := of_decide_eq_true (by first | (with_reducible assumption) | assumption)
              have q206 : x14_1 < (l0.length : Int) := of_decide_eq_true (by first | (with_reducible assumption) | assumption)
              obtain ⟨ad206, A206_0, c206_0, e206, hx206_0, hl206_0, hi206_0⟩ := at_L12 HR0.out x14_1 p206 q206
              cases e206
              replace hx206_0 := (HB.out.cell (World.block_lt_of_cell? w _ hx206_0)).trans hx206_0
              have HR206_0 := Aside0.mk hi206_0
              have HC206_0 := Aside0.mk hl206_0
              clear hi206_0 hl206_0
              replace p206 := eq_true p206
              replace q206 := eq_true q206
              go_wp2_with (first | (go_at_call 59; (with_reducible refine (code_Rows_1.calls k1 _ _ (rd_L12 l0 x14_1) t207 _ ?side1 ?side2 A8.out).mono ?_); (case side1 => repeat (first | exact (Kd.C_below HR206_0.out HB.out) | (with_reducible refine Kd.C_alloc ?_ _) | (with_reducible refine Kd.C_drewN ?_ _) | (with_reducible refine Kd.C_drew ?_))); (case side2 => exact HC206_0.out); rintro e w10 ⟨v208, rfl, ho0, hb⟩; have n0_ := Aside0.mk (Kd.R_elder' (by (with_reducible repeat (first | apply Kd.R_alloc | apply Kd.R_drewN | apply Kd.R_drew)); exact HO_5.out) (Kd.R_base ho0) hb); have n1_ := Aside0.mk (Kd.R_lower (Kd.R_new' ho0 (Kd.R_lt (by (with_reducible repeat (first | apply Kd.R_alloc | apply Kd.R_drewN | apply Kd.R_drew)); exact HO_5.out))) (below_size (by repeat (first | (with_reducible first | exact HB.out | apply below_alloc | apply pw_below_drewN | apply below_drew1) | exact HB.out)))); have n2_ := Aside0.mk (below_step (by repeat (first | (with_reducible first | exact HB.out | apply below_alloc | apply pw_below_drewN | apply below_drew1) | exact HB.out)) hb); clear HO_5; clear HB; have HO_5 := n0_; have HO209 := n1_; have HB := n2_; clear n0_ n1_ n2_; (try clear hb); (try clear hb2); (try clear hk); (try clear hi); (try clear ho0); obtain ⟨Ao12, co12, eo12⟩ := Kd.R_slice HO209.out; subst eo12) | ((with_reducible refine gate_builtin (b := .append) (xs := #[.tmp 18, .tmp 21]) rfl ?_); at_builtin; refine Kd.R_append_rows (Kd.int .u8) (w0 := w) w.heap.size rfl (.tmp 18) (.tmp 21) 27 5 (.int .u8 0) 1 rfl Try.underlying27 info5 rfl (by decide) (by omega) u5 x5_1 t207 _ _ _ (fun k_ => some k_ ≠ (.slice Ao12 t207.length co12 : Value).ownBlock) (fun _ => False) rfl rfl ?aO ?aR (fun _ _ h => h) (fun _ h => h.elim) ?aF ?aB ?aS ?aL ?_; (case aR => repeat (first | exact (Kd.R_reads' HO209.out).2.2 | (with_reducible refine Kd.C_alloc ?_ _) | (with_reducible refine Kd.C_drewN ?_ _) | (with_reducible refine Kd.C_drew ?_))); (case aB => exact (by repeat (first | (with_reducible first | exact HB.out | apply below_alloc | apply pw_below_drewN | apply below_drew1) | exact HB.out))); (case aF => exact (fun k_ hk => Kd.fresh' (Kd.R_lt (by (with_reducible repeat (first | apply Kd.R_alloc | apply Kd.R_drewN | apply Kd.R_drew)); exact HO209.out)) k_ hk)); (case aO => exact (by (with_reducible repeat (first | apply Kd.R_alloc | apply Kd.R_drewN | apply Kd.R_drew)); exact Kd.R_mono HO_5.out (fun _ hk => hk.2))); (case aS => exact (below_size (by repeat (first | (with_reducible first | exact HB.out | apply below_alloc | apply pw_below_drewN | apply below_drew1) | exact HB.out)))); (case aL => have := LMc9.out; omega); intro v211 w11 ho hb hg hat; rw [← Ny210.out] at ho; have n0_ := Aside0.mk (Kd.R_after (ok := (fun _ => True)) (by (with_reducible repeat (first | apply Kd.R_alloc | apply Kd.R_drewN | apply Kd.R_drew)); exact HO209.out) hg hat); have n1_ := Aside0.mk (hb); have n2_ := Aside0.mk (ho); clear HO209; clear HB; clear HO_5; have HO209 := n0_; have HB := n1_; have HO212 := n2_; clear n0_ n1_ n2_; clear ho hb hg hat))
              go_roundg k1
              case measure => have := HK1.out; omega
              case rel => exact ⟨(y210), (wrap64 (x14_1 + 1)), (by first | rfl | (simp; done) | (simp [*]; done) | (simp; rw [Bool.eq_iff_iff]; simp; done)), H', ⟨by have := HK1.out; omega⟩, ⟨by (with_reducible repeat (first | apply Kd.R_alloc | apply Kd.R_drewN | apply Kd.R_drew)); exact Kd.R_mono HO212.out (fun _ hk => trivial)⟩, ⟨by repeat (first | (with_reducible first | exact HB.out | apply below_alloc | apply pw_below_drewN | apply below_drew1) | exact HB.out)⟩⟩
            · rw [if_neg c9] at H
              exact absurd H (by simp)
          · rw [if_neg c7] at H
            exact absurd H (by simp)
        · rw [if_neg c6] at H
          exact absurd H (by simp)
      · rw [if_neg c5] at H
        have c5b0 : decide (x14_1 < (l0.length : Int)) = false := decide_eq_false c5
        clear c5
        obtain rfl := Option.some.inj H
        go_wp2
        go_ret
        exact ⟨_, by first | rfl | (simp [errW_none, errW_some] <;> rfl) | (simp [*, errW_none, errW_some] <;> rfl), by (with_reducible repeat (first | apply Kd.R_alloc | apply Kd.R_drewN | apply Kd.R_drew)); exact HO_5.out, by repeat (first | (with_reducible first | exact HB.out | apply below_alloc | apply pw_below_drewN | apply below_drew1) | exact HB.out)⟩

/-! ### code_Rows: function 20 -/
def code_Rows.l0 : Nat → List (List (S116)) → List (List (S116)) → Int → Int → Option (List Int × Int)
  | 0, _, _, _, _ => none
  | k + 1, x0, x6, x7, x8 => if x8 < x7 then (if 0 ≤ x8 then (if x8 < (x6.length : Int) then ((value_Row.f k (rd_L12 x6 x8)).bind fun t214 => (if t214 = true then (code_Rows.l0 k x0 x6 x7 (wrap64 (x8 + 1))) else (some (([] : List Int), 41)))) else (none)) else (none)) else ((api_Value_58.f k x0 ()).bind fun t215 => ((code_told.f t215).bind fun bt218 => (some (bt218.1, bt218.2))))
def code_Rows.f (k : Nat) (l0 : List (List (S116))) : Option (List Int × Int) := code_Rows.l0 k l0 l0 (l0.length : Int) 0
set_option maxHeartbeats 8000000 in
set_option maxRecDepth 100000 in
theorem code_Rows.calls (k : Nat) (A0 : Option Addr) (c0 : Nat) (l0 : List (List (S116))) (r1 : List Int) (r2 : Int) (w : World) (hr0 : Kd.C (Kd.slice 116 k116) w A0 l0.length l0) (hc0 : l0.length ≤ c0) (h : code_Rows.f k l0 = some (r1, r2)) :
    Calls Try.prog 20 #[.slice A0 l0.length c0] w fun e w' => ∃ v0_ : Value, e = .returned (.tuple #[v0_, .int .i64 r2]) ∧ Kd.R (Kd.int .u8) 5 w' w.heap.size (fun _ => True) v0_ r1 ∧ Below w.heap.size w w' := by
  have HR0 := Aside0.mk hr0
  have HC0 := Aside0.mk hc0
  clear hr0 hc0
  have HB := Aside0.mk (Below.refl w.heap.size w)
  have H : (code_Rows.l0 k l0 l0 (l0.length : Int) 0) = some (r1, r2) := h
  clear h
  have H' := Aside0.mk H
  clear H
  go_enter Try.func20, Try.ntmps20
  go_wp2
  go_loopg [8] k (fun kq v8 w' => ∃ (x8_1 : Int), v8 = .int .i64 x8_1 ∧ Aside0 (code_Rows.l0 kq l0 l0 (l0.length : Int) x8_1 = some (r1, r2)) ∧ Aside0 (kq ≤ k) ∧ Aside0 (Below w.heap.size w w'))
  case atStart => exact ⟨(0), (by first | rfl | (simp; done) | (simp [*]; done) | (simp; rw [Bool.eq_iff_iff]; simp; done)), H', ⟨Nat.le_refl _⟩, ⟨by repeat (first | (with_reducible first | exact HB.out | apply below_alloc | apply pw_below_drewN | apply below_drew1) | exact HB.out)⟩⟩
  case round =>
    clear H'
    obtain ⟨x8_1, rfl, HA, HK1, HB⟩ := hrel
    cases gk with
    | zero => exact absurd HA.out (by simp [code_Rows.l0])
    | succ k1 =>
      have H := HA.out
      clear HA
      simp only [code_Rows.l0] at H
      by_cases c2 : x8_1 < (l0.length : Int)
      · rw [if_pos c2] at H
        have c2b0 : decide (x8_1 < (l0.length : Int)) = true := decide_eq_true c2
        clear c2
        by_cases c3 : 0 ≤ x8_1
        · rw [if_pos c3] at H
          have c3b0 : decide (0 ≤ x8_1) = true := decide_eq_true c3
          clear c3
          by_cases c4 : x8_1 < (l0.length : Int)
          · rw [if_pos c4] at H
            have c4b0 : decide (x8_1 < (l0.length : Int)) = true := decide_eq_true c4
            clear c4
            replace H := Option.bind_eq_some_iff.mp H
            obtain ⟨t214, A50, H⟩ := H
            replace H : (if t214 = true then (code_Rows.l0 k1 l0 l0 (l0.length : Int) (wrap64 (x8_1 + 1))) else (some (([] : List Int), 41))) = some (r1, r2) := H
            have A5 := Aside0.mk A50
            clear A50
            by_cases c6 : t214 = true
            · subst c6
              have H1 : (code_Rows.l0 k1 l0 l0 (l0.length : Int) (wrap64 (x8_1 + 1))) = some (r1, r2) := by rw [if_pos rfl] at H; exact H
              clear H
              have H := H1
              clear H1
              have H' := Aside0.mk H
              clear H
              have p213 : 0 ≤ (x8_1 : Int) := of_decide_eq_true (by first | (with_reducible assumption) | assumption)
              have q213 : x8_1 < (l0.length : Int) := of_decide_eq_true (by first | (with_reducible assumption) | assumption)
              obtain ⟨ad213, A213_0, c213_0, e213, hx213_0, hl213_0, hi213_0⟩ := at_L12 HR0.out x8_1 p213 q213
              cases e213
              replace hx213_0 := (HB.out.cell (World.block_lt_of_cell? w _ hx213_0)).trans hx213_0
              have HR213_0 := Aside0.mk hi213_0
              have HC213_0 := Aside0.mk hl213_0
              clear hi213_0 hl213_0
              replace p213 := eq_true p213
              replace q213 := eq_true q213
              go_wp2_with (first | ((with_reducible refine gate_callee (f := 56) rfl ?_); refine goesL_ (some 13) rfl rfl Try.func56 (by kernel_rfl) rfl #[.slice A213_0 (rd_L12 l0 x8_1).length c213_0] rfl (by (try simp only [List.map_toArray, List.map_cons, List.map_nil]); first | done | rfl | (simp only [List.length_drop, List.length_take]; rfl) | exact congrArg (fun x_ : Int => #[Value.int .u64 x_]) (show _ = _ % (18446744073709551616 : Int) by omega)) ?_; (with_reducible refine (value_Row.calls k1 _ _ (rd_L12 l0 x8_1) true _ ?side1 ?side2 A5.out).mono ?_); (case side1 => repeat (first | exact (Kd.C_below HR213_0.out HB.out) | (with_reducible refine Kd.C_alloc ?_ _) | (with_reducible refine Kd.C_drewN ?_ _) | (with_reducible refine Kd.C_drew ?_))); (case side2 => exact HC213_0.out); rintro e w7 ⟨rfl, hb⟩; refine ⟨_, rfl, ?_⟩; have n0_ := Aside0.mk (below_step (by repeat (first | (with_reducible first | exact HB.out | apply below_alloc | apply pw_below_drewN | apply below_drew1) | exact HB.out)) hb); clear HB; have HB := n0_; clear n0_; (try clear hb); (try clear hb2); (try clear hk); (try clear hi)))
              go_roundg k1
              case measure => have := HK1.out; omega
              case rel => exact ⟨(wrap64 (x8_1 + 1)), (by first | rfl | (simp; done) | (simp [*]; done) | (simp; rw [Bool.eq_iff_iff]; simp; done)), H', ⟨by have := HK1.out; omega⟩, ⟨by repeat (first | (with_reducible first | exact HB.out | apply below_alloc | apply pw_below_drewN | apply below_drew1) | exact HB.out)⟩⟩
            · replace c6 := Bool.eq_false_iff.mpr c6
              subst c6
              have H1 : (some (([] : List Int), 41)) = some (r1, r2) := by rw [if_neg (show ¬ (false = true) by decide)] at H; exact H
              clear H
              have H := H1
              clear H1
              simp only [Option.some.injEq, Prod.mk.injEq] at H
              obtain ⟨rfl, rfl⟩ := H
              have p213 : 0 ≤ (x8_1 : Int) := of_decide_eq_true (by first | (with_reducible assumption) | assumption)
              have q213 : x8_1 < (l0.length : Int) := of_decide_eq_true (by first | (with_reducible assumption) | assumption)
              obtain ⟨ad213, A213_0, c213_0, e213, hx213_0, hl213_0, hi213_0⟩ := at_L12 HR0.out x8_1 p213 q213
              cases e213
              replace hx213_0 := (HB.out.cell (World.block_lt_of_cell? w _ hx213_0)).trans hx213_0
              have HR213_0 := Aside0.mk hi213_0
              have HC213_0 := Aside0.mk hl213_0
              clear hi213_0 hl213_0
              replace p213 := eq_true p213
              replace q213 := eq_true q213
              go_wp2_with (first | ((with_reducible refine gate_callee (f := 56) rfl ?_); refine goesL_ (some 13) rfl rfl Try.func56 (by kernel_rfl) rfl #[.slice A213_0 (rd_L12 l0 x8_1).length c213_0] rfl (by (try simp only [List.map_toArray, List.map_cons, List.map_nil]); first | done | rfl | (simp only [List.length_drop, List.length_take]; rfl) | exact congrArg (fun x_ : Int => #[Value.int .u64 x_]) (show _ = _ % (18446744073709551616 : Int) by omega)) ?_; (with_reducible refine (value_Row.calls k1 _ _ (rd_L12 l0 x8_1) false _ ?side1 ?side2 A5.out).mono ?_); (case side1 => repeat (first | exact (Kd.C_below HR213_0.out HB.out) | (with_reducible refine Kd.C_alloc ?_ _) | (with_reducible refine Kd.C_drewN ?_ _) | (with_reducible refine Kd.C_drew ?_))); (case side2 => exact HC213_0.out); rintro e w8 ⟨rfl, hb⟩; refine ⟨_, rfl, ?_⟩; have n0_ := Aside0.mk (below_step (by repeat (first | (with_reducible first | exact HB.out | apply below_alloc | apply pw_below_drewN | apply below_drew1) | exact HB.out)) hb); clear HB; have HB := n0_; clear n0_; (try clear hb); (try clear hb2); (try clear hk); (try clear hi)))
              go_ret2
              exact ⟨_, by first | rfl | (simp [errW_none, errW_some] <;> rfl) | (simp [*, errW_none, errW_some] <;> rfl), by first | exact Kd.R_nil _ _ _ _ _ | exact Kd.N_nil _ _ _ _ _ | exact Kd.V_nil _ _ _ _ _ | exact Kd.Q_nil _ _ _ _ _ | exact Kd.S_nil _ _ _ _ _, by repeat (first | (with_reducible first | exact HB.out | apply below_alloc | apply pw_below_drewN | apply below_drew1) | exact HB.out)⟩
          · rw [if_neg c4] at H
            exact absurd H (by simp)
        · rw [if_neg c3] at H
          exact absurd H (by simp)
      · rw [if_neg c2] at H
        have c2b0 : decide (x8_1 < (l0.length : Int)) = false := decide_eq_false c2
        clear c2
        replace H := Option.bind_eq_some_iff.mp H
        obtain ⟨t215, A90, H⟩ := H
        replace H : ((code_told.f t215).bind fun bt218 => (some (bt218.1, bt218.2))) = some (r1, r2) := H
        have A9 := Aside0.mk A90
        clear A90
        replace H := Option.bind_eq_some_iff.mp H
        obtain ⟨⟨t218, t221⟩, A100, H⟩ := H
        replace H : (some (t218, t221)) = some (r1, r2) := H
        have A10 := Aside0.mk A100
        clear A100
        simp only [Option.some.injEq, Prod.mk.injEq] at H
        obtain ⟨rfl, rfl⟩ := H
        go_wp2_with (first | ((with_reducible refine gate_callee (f := 58) rfl ?_); refine goesL_ (some 17) rfl rfl Try.func58 (by kernel_rfl) rfl #[.slice A0 l0.length c0, .func (.func 59) #[] #[]] rfl (by (try simp only [List.map_toArray, List.map_cons, List.map_nil]); first | done | rfl | (simp only [List.length_drop, List.length_take]; rfl) | exact congrArg (fun x_ : Int => #[Value.int .u64 x_]) (show _ = _ % (18446744073709551616 : Int) by omega)) ?_; (with_reducible refine (api_Value_58.calls k1 _ _ l0 () t215 _ ?side1 ?side2 A9.out).mono ?_); (case side1 => repeat (first | exact (Kd.C_below HR0.out HB.out) | (with_reducible refine Kd.C_alloc ?_ _) | (with_reducible refine Kd.C_drewN ?_ _) | (with_reducible refine Kd.C_drew ?_))); (case side2 => exact HC0.out); rintro e w11 ⟨v216, rfl, ho0, hb⟩; refine ⟨_, rfl, ?_⟩; have n0_ := Aside0.mk (Kd.R_lower ho0 (below_size (by repeat (first | (with_reducible first | exact HB.out | apply below_alloc | apply pw_below_drewN | apply below_drew1) | exact HB.out)))); have n1_ := Aside0.mk (below_step (by repeat (first | (with_reducible first | exact HB.out | apply below_alloc | apply pw_below_drewN | apply below_drew1) | exact HB.out)) hb); clear HB; have HO217 := n0_; have HB := n1_; clear n0_ n1_; (try clear hb); (try clear hb2); (try clear hk); (try clear hi); (try clear ho0); obtain ⟨Ao12, co12, eo12⟩ := Kd.R_slice HO217.out; subst eo12) | ((with_reducible refine gate_callee (f := 57) rfl ?_); refine goesL_ (some 18) rfl rfl Try.func57 (by kernel_rfl) rfl #[.slice Ao12 t215.length co12] rfl (by (try simp only [List.map_toArray, List.map_cons, List.map_nil]); first | done | rfl | (simp only [List.length_drop, List.length_take]; rfl) | exact congrArg (fun x_ : Int => #[Value.int .u64 x_]) (show _ = _ % (18446744073709551616 : Int) by omega)) ?_; (with_reducible refine (code_told.calls (fun k_ => some k_ = (.slice Ao12 t215.length co12 : Value).ownBlock) (.slice Ao12 t215.length co12) t215 t218 t221 w _ ?side1 ?side2 A10.out).mono ?_); (case side1 => repeat (first | (with_reducible first | exact HB.out | apply below_alloc | apply pw_below_drewN | apply below_drew1) | exact HB.out)); (case side2 => exact Kd.R_tight rfl HO217.out); rintro e w13 ⟨v219, rfl, ho0, hb, hkp⟩; refine ⟨_, rfl, ?_⟩; have n0_ := Aside0.mk (Kd.R_mono (ok' := fun k_ => True) ho0 (fun k_ hk_ => trivial)); have n1_ := Aside0.mk (hb); clear HB; clear HO217; have HO220 := n0_; have HB := n1_; clear n0_ n1_; (try clear hb); (try clear hkp); (try clear ho0)))
        go_ret2
        exact ⟨_, by first | rfl | (simp [errW_none, errW_some] <;> rfl) | (simp [*, errW_none, errW_some] <;> rfl), by (with_reducible repeat (first | apply Kd.R_alloc | apply Kd.R_drewN | apply Kd.R_drew)); exact HO220.out, by repeat (first | (with_reducible first | exact HB.out | apply below_alloc | apply pw_below_drewN | apply below_drew1) | exact HB.out)⟩

end Go.Proofs.Ytgihecpobichbaa.Q
-- Written by a program of the session over the translation's print: functions as plain Lean, and that the machine's call comes to them.
namespace Go.Proofs.Ytgihecpobichbaa.Q
open Go.RowKit Go.Proofs.YtgihecpobichbaaW.PrintWords Go.Proofs.YtgihecpobichbaaW.PrintLast Go.Proofs.YtgihecpobichbaaW.PrintMore
attribute [local go_sem] max2_int min2_int max_two min_two max_three min_three max_four min_four   -- for this text's walks alone
set_option linter.unusedVariables false
set_option linter.unusedSimpArgs false

end Go.Proofs.Ytgihecpobichbaa.Q
/- What package code tells of lists, in plain words: no program in it. -/
namespace Go.Proofs.Ytgihecpobichbaa.Q
open Go.RowKit Go.Proofs.YtgihecpobichbaaW.PrintWords Go.Proofs.YtgihecpobichbaaW.PrintLast Go.Proofs.YtgihecpobichbaaW.PrintMore
set_option linter.unusedVariables false
set_option linter.unusedSimpArgs false

theorem word_ev (s : ByteArray) (hs : s.size ≤ 1000000000) : Ev (fun k => code_word.f k s) (encW s) := by
  unfold code_word.f
  have hw : IntKind.u64.wrap (s.size : Int) = (s.size : Int) := wrap_u _ (by omega) (by omega)
  rw [hw]
  have hl := numR_len 9 (s.size : Int)
  exact Ev.bind (Ev.of (fun k => code_Num.mono _ k) (code_Num_eq (s.size : Int) (by omega) (by omega) 0)) (Ev.congr (fun k => if_pos (by omega)) (Ev.now _))
theorem encW_len (s : ByteArray) : (encW s).length ≤ s.size + 10 := by
  have h1 := numR_len 9 (s.size : Int)
  have h2 := bytesOf_length s
  unfold encW
  rw [List.length_append]
  omega
theorem one_ev (v : Va) (hs : v.f2.size ≤ 1000000000) (h : in64 v.f1) : Ev (fun k => code_one.f k v.f0 v.f1 v.f2) (encV v) := by
  unfold code_one.f encV
  simp only [Option.bind_some]
  by_cases h1 : v.f0 = 1
  · rw [if_pos h1]
    refine Ev.congr (fun k => if_pos h1) ?_
    have hz := zig_range h
    have hl := numR_len 9 (zig v.f1)
    rw [whole_zig h]
    simp only [Option.bind_some]
    exact Ev.bind (Ev.of (fun k => code_Num.mono _ k) (code_Num_eq (zig v.f1) hz.1 hz.2 0)) (Ev.congr (fun k => if_pos (by simp only [List.length_cons, List.length_nil]; omega)) (Ev.now _))
  · rw [if_neg h1]
    refine Ev.congr (fun k => if_neg h1) ?_
    by_cases h2 : v.f0 = 2
    · rw [if_pos h2]
      refine Ev.congr (fun k => if_pos h2) ?_
      exact Ev.congr (fun k => if_pos (by simp)) (Ev.now _)
    · rw [if_neg h2]
      refine Ev.congr (fun k => if_neg h2) ?_
      by_cases h3 : v.f0 = 3
      · rw [if_pos h3]
        refine Ev.congr (fun k => if_pos h3) ?_
        have := encW_len v.f2
        exact Ev.bind (word_ev v.f2 hs) (Ev.congr (fun k => if_pos (by simp only [List.length_cons, List.length_nil]; omega)) (Ev.now _))
      · rw [if_neg h3]
        refine Ev.congr (fun k => if_neg h3) ?_
        rw [List.append_nil]
        exact Ev.now _
theorem list_loop {α : Type} (enc : α → List Int) (rdf : List α → Int → α) (hrd : ∀ (l : List α) (j : Int), 0 ≤ j → j < (l.length : Int) → l.drop j.toNat = rdf l j :: l.drop (j + 1).toNat) (one : Nat → α → Option (List Int)) (L : Nat → List Int → List α → Int → Int → Option (List Int))
    (hL : ∀ k xs l n i, L (k + 1) xs l n i = if i < n then (if 0 ≤ i then (if i < (l.length : Int) then ((one k (rdf l i)).bind fun t => (if xs.length + t.length < 140737488355328 then L k (xs ++ t) l n (wrap64 (i + 1)) else none)) else none) else none) else some xs)
    (l : List α) (hlen : l.length ≤ 1000000000) (hone : ∀ x ∈ l, Ev (fun k => one k x) (enc x)) : ∀ (d : Nat) (i : Int) (xs : List Int), 0 ≤ i → i + d = l.length → (xs ++ flat enc (l.drop i.toNat)).length < 140737488355328 → Ev (fun k => L k xs l (l.length : Int) i) (xs ++ flat enc (l.drop i.toNat)) := by
  intro d
  induction d with
  | zero =>
    intro i xs h0 hi hb
    rw [List.drop_of_length_le (by omega)]
    refine Ev.step (f := fun _ => some (xs ++ [])) (fun k => ?_) (Ev.now _)
    rw [hL, if_neg (by omega), List.append_nil]
  | succ d ih =>
    intro i xs h0 hi hb
    have hd := hrd l i h0 (by omega)
    have e2 : wrap64 (i + 1) = i + 1 := wrap_in (by unfold in64; omega)
    obtain ⟨y, hy⟩ : ∃ y, rdf l i = y := ⟨_, rfl⟩
    rw [hy] at hd
    have hm : y ∈ l := by
      have : y ∈ l.drop i.toNat := by rw [hd]; simp
      exact List.mem_of_mem_drop this
    rw [hd] at hb ⊢
    have hfl : xs ++ flat enc (y :: l.drop (i + 1).toNat) = (xs ++ enc y) ++ flat enc (l.drop (i + 1).toNat) := by
      rw [List.append_assoc]
      rfl
    rw [hfl] at hb ⊢
    have h2 := ih (i + 1) (xs ++ enc y) (by omega) (by omega) hb
    rw [List.length_append, List.length_append] at hb
    refine Ev.step (fun k => ?_) (Ev.bind (f := fun k t => if xs.length + t.length < 140737488355328 then L k (xs ++ t) l (l.length : Int) (wrap64 (i + 1)) else none) (hone y hm) (Ev.congr (fun k => if_pos (by omega)) (by rw [e2]; exact h2)))
    rw [hL, if_pos (by omega), if_pos h0, if_pos (by omega), hy]
/-- What List makes of some items. -/
def listB {α : Type} (enc : α → List Int) (l : List α) : List Int := numR 9 (l.length : Int) ++ flat enc l
theorem list_ev {α : Type} (enc : α → List Int) (rdf : List α → Int → α) (hrd : ∀ (l : List α) (j : Int), 0 ≤ j → j < (l.length : Int) → l.drop j.toNat = rdf l j :: l.drop (j + 1).toNat) (one : Nat → α → Option (List Int)) (L : Nat → List Int → List α → Int → Int → Option (List Int))
    (hL : ∀ k xs l n i, L (k + 1) xs l n i = if i < n then (if 0 ≤ i then (if i < (l.length : Int) then ((one k (rdf l i)).bind fun t => (if xs.length + t.length < 140737488355328 then L k (xs ++ t) l n (wrap64 (i + 1)) else none)) else none) else none) else some xs)
    (l : List α) (hlen : l.length ≤ 1000000000) (hone : ∀ x ∈ l, Ev (fun k => one k x) (enc x)) (hb : (listB enc l).length < 140737488355328) :
    Ev (fun k => (code_Num.f k (IntKind.u64.wrap (l.length : Int))).bind fun t => L k t l (l.length : Int) 0) (listB enc l) := by
  have hw : IntKind.u64.wrap (l.length : Int) = (l.length : Int) := wrap_u _ (by omega) (by omega)
  rw [hw]
  refine Ev.bind (Ev.of (fun k => code_Num.mono _ k) (code_Num_eq (l.length : Int) (by omega) (by omega) 0)) ?_
  have := list_loop enc rdf hrd one L hL l hlen hone l.length 0 (numR 9 (l.length : Int)) (by omega) (by omega) hb
  exact this
def toldB (b : List Int) : List Int × Int := if b.length > 16777216 then ([], 42) else (b, 0)
theorem told_eq (b : List Int) : code_told.f b = some (toldB b) := by
  unfold code_told.f toldB
  by_cases h : b.length > 16777216
  · rw [if_pos h, if_pos (by omega)]
  · rw [if_neg h, if_neg (by omega)]
theorem rdP_drop (l : List Pa) (j : Int) (h0 : 0 ≤ j) (h1 : j < (l.length : Int)) : l.drop j.toNat = rd_T74 l j :: l.drop (j + 1).toNat := by
  have e : (j + 1).toNat = j.toNat + 1 := by omega
  have hl : j.toNat < l.length := by omega
  rw [e, List.drop_eq_getElem_cons hl]
  unfold rd_T74
  rw [List.getD_eq_getElem?_getD, List.getElem?_eq_getElem hl]
  rfl
theorem rdR_drop (l : List (List Va)) (j : Int) (h0 : 0 ≤ j) (h1 : j < (l.length : Int)) : l.drop j.toNat = rd_L12 l j :: l.drop (j + 1).toNat := by
  have e : (j + 1).toNat = j.toNat + 1 := by omega
  have hl : j.toNat < l.length := by omega
  rw [e, List.drop_eq_getElem_cons hl]
  unfold rd_L12
  rw [List.getD_eq_getElem?_getD, List.getElem?_eq_getElem hl]
  rfl
/-- Sizes: nothing that is told here is greater than this. -/
theorem flat_le {α : Type} (enc : α → List Int) (m : Nat) : ∀ (l : List α), (∀ x ∈ l, (enc x).length ≤ m) → (flat enc l).length ≤ m * l.length
  | [], _ => by simp [flat]
  | a :: l, h => by
    have h1 := h a (by simp)
    have h2 := flat_le enc m l (fun x hx => h x (by simp [hx]))
    simp only [flat, List.length_append, List.length_cons]
    rw [Nat.mul_add, Nat.mul_one]
    omega
theorem listB_le {α : Type} (enc : α → List Int) (m : Nat) (l : List α) (h : ∀ x ∈ l, (enc x).length ≤ m) : (listB enc l).length ≤ m * l.length + 10 := by
  have h1 := numR_len 9 (l.length : Int)
  have h2 := flat_le enc m l h
  unfold listB
  rw [List.length_append]
  omega
theorem encV_len (v : Va) : (encV v).length ≤ v.f2.size + 20 := by
  have h1 := numR_len 9 (zig v.f1)
  have h2 := encW_len v.f2
  unfold encV encI
  split
  · simp only [List.length_append, List.length_cons, List.length_nil]
    omega
  · split
    · simp
    · split
      · simp only [List.length_append, List.length_cons, List.length_nil]
        omega
      · simp
/-- Rows. -/
def codeRows (l : List (List Va)) : List Int × Int := if l.all rowOk = true then toldB (listB encR l) else ([], 41)
theorem rowB_ev (r : List Va) (hr : goodR r) : Ev (fun k => code_Rows_1.f k r) (encR r) := by
  have hp := goodR_parts hr
  have hlen : ∀ v ∈ r, (encV v).length ≤ 400 := by
    intro v hv
    have h1 := encV_len v
    have h2 := chk_parts (hp.2 v hv).1
    have h3 : v.f2.size ≤ 200 := by
      rcases h2 with ⟨_, _, h⟩ | ⟨_, h⟩ | ⟨_, _, h⟩ | ⟨_, _, h⟩
      · rw [toList_nil h]; exact Nat.zero_le _
      · rw [toList_nil h]; exact Nat.zero_le _
      · rw [toList_nil h]; exact Nat.zero_le _
      · exact h
    omega
  have hsz := listB_le encV 400 r hlen
  unfold code_Rows_1.f
  refine Ev.congr (f := fun k => api_Value_60.f k r ()) (fun k => by cases api_Value_60.f k r () <;> rfl) ?_
  unfold api_Value_60.f
  refine list_ev encV rd_T116 rdV_drop (fun k v => code_one.f k v.f0 v.f1 v.f2) api_Value_60.l0 (fun k xs l n i => by rw [api_Value_60.l0]) r (by omega) (fun v hv => ?_) (by omega)
  have h2 := hlen v hv
  have h3 := encV_len v
  refine one_ev v ?_ (hr.2 v hv)
  have h2 := chk_parts (hp.2 v hv).1
  rcases h2 with ⟨_, _, h⟩ | ⟨_, h⟩ | ⟨_, _, h⟩ | ⟨_, _, h⟩
  · rw [toList_nil h]; exact Nat.zero_le _
  · rw [toList_nil h]; exact Nat.zero_le _
  · rw [toList_nil h]; exact Nat.zero_le _
  · omega
theorem encR_len (r : List Va) (hr : goodR r) : (encR r).length ≤ 5000 := by
  have hp := goodR_parts hr
  have hlen : ∀ v ∈ r, (encV v).length ≤ 400 := by
    intro v hv
    have h1 := encV_len v
    have h2 := chk_parts (hp.2 v hv).1
    have h3 : v.f2.size ≤ 200 := by
      rcases h2 with ⟨_, _, h⟩ | ⟨_, h⟩ | ⟨_, _, h⟩ | ⟨_, _, h⟩
      · rw [toList_nil h]; exact Nat.zero_le _
      · rw [toList_nil h]; exact Nat.zero_le _
      · rw [toList_nil h]; exact Nat.zero_le _
      · exact h
    omega
  have hsz := listB_le encV 400 r hlen
  have : (encR r).length = (listB encV r).length := rfl
  omega
theorem codeRows_loop (l : List (List Va)) (hlen : l.length ≤ 1000000000) (hin : ∀ r ∈ l, r.length ≤ 9223372036854775806 ∧ ∀ v ∈ r, in64 v.f1) : ∀ (d : Nat) (i : Int), 0 ≤ i → i + d = l.length → (∀ r ∈ l.take i.toNat, rowOk r = true) →
    Ev (fun k => code_Rows.l0 k l l (l.length : Int) i) (codeRows l) := by
  intro d
  induction d with
  | zero =>
    intro i h0 hi hok
    rw [List.take_of_length_le (by omega)] at hok
    have hall : l.all rowOk = true := List.all_eq_true.2 hok
    unfold codeRows
    rw [if_pos hall]
    have hg : ∀ r ∈ l, goodR r := fun r hr => ⟨hok r hr, (hin r hr).2⟩
    have hsz := listB_le encR 5000 l (fun r hr => encR_len r (hg r hr))
    have hA : Ev (fun k => api_Value_58.f k l ()) (listB encR l) := by
      unfold api_Value_58.f
      exact list_ev encR rd_L12 rdR_drop (fun k r => code_Rows_1.f k r) api_Value_58.l0 (fun k xs l n i => by rw [api_Value_58.l0]) l hlen (fun r hr => rowB_ev r (hg r hr)) (by omega)
    refine Ev.step (f := fun k => (api_Value_58.f k l ()).bind fun t215 => ((code_told.f t215).bind fun bt218 => (some (bt218.1, bt218.2)))) (fun k => ?_) (Ev.bind hA ?_)
    · simp only [code_Rows.l0]
      rw [if_neg (by omega)]
    · rw [told_eq]
      exact Ev.now _
  | succ d ih =>
    intro i h0 hi hok
    have hd := rdR_drop l i h0 (by omega)
    have e2 : wrap64 (i + 1) = i + 1 := wrap_in (by unfold in64; omega)
    obtain ⟨y, hy⟩ : ∃ y, rd_L12 l i = y := ⟨_, rfl⟩
    rw [hy] at hd
    have hm : y ∈ l := by
      have : y ∈ l.drop i.toNat := by rw [hd]; simp
      exact List.mem_of_mem_drop this
    cases hr : rowOk y with
    | false =>
      have hall : ¬ l.all rowOk = true := fun h => by
        have := List.all_eq_true.1 h y hm
        rw [hr] at this
        cases this
      unfold codeRows
      rw [if_neg hall]
      refine Ev.step (fun k => ?_) (Ev.bind (f := fun k t214 => (if t214 = true then (code_Rows.l0 k l l (l.length : Int) (wrap64 (i + 1))) else (some (([] : List Int), 41)))) (row_ev y (hin y hm).1) (by rw [hr]; exact Ev.congr (fun k => if_neg (by simp)) (Ev.now _)))
      simp only [code_Rows.l0]
      rw [if_pos (by omega), if_pos h0, if_pos (by omega), hy]
    | true =>
      have h2 := ih (i + 1) (by omega) (by omega) (by
        have e : l.take (i + 1).toNat = l.take i.toNat ++ [y] := by
          have h1 : (i + 1).toNat = i.toNat + 1 := by omega
          have hl : i.toNat < l.length := by omega
          have h3 : l[i.toNat] = y := by
            rw [← hy]
            unfold rd_L12
            rw [List.getD_eq_getElem?_getD, List.getElem?_eq_getElem hl]
            rfl
          rw [h1, List.take_add_one, List.getElem?_eq_getElem hl, h3]
          rfl
        rw [e]
        intro r hr'
        rcases List.mem_append.1 hr' with h | h
        · exact hok r h
        · rw [List.mem_singleton.1 h]; exact hr)
      refine Ev.step (fun k => ?_) (Ev.bind (f := fun k t214 => (if t214 = true then (code_Rows.l0 k l l (l.length : Int) (wrap64 (i + 1))) else (some (([] : List Int), 41)))) (row_ev y (hin y hm).1) (by rw [hr]; exact Ev.congr (fun k => if_pos rfl) (by rw [e2]; exact h2)))
      simp only [code_Rows.l0]
      rw [if_pos (by omega), if_pos h0, if_pos (by omega), hy]
theorem codeRows_ev (l : List (List Va)) (hlen : l.length ≤ 1000000000) (hin : ∀ r ∈ l, r.length ≤ 9223372036854775806 ∧ ∀ v ∈ r, in64 v.f1) : Ev (fun k => code_Rows.f k l) (codeRows l) :=
  codeRows_loop l hlen hin l.length 0 (by omega) (by omega) (by simp)
/-- Pairs. -/
theorem encP_len (p : Pa) : (encP p).length ≤ p.f0.size + p.f1.size + 20 := by
  have h1 := encW_len p.f0
  have h2 := encW_len p.f1
  unfold encP
  rw [List.length_append]
  omega
theorem codePairs_ev (l : List Pa) (hlen : l.length ≤ 20000) (hs : ∀ p ∈ l, p.f0.size ≤ 1000000 ∧ p.f1.size ≤ 1000000) : Ev (fun k => code_Pairs.f k l) (toldB (listB encP l)) := by
  have hsz := listB_le encP 2000020 l (fun p hp => by have := encP_len p; have := hs p hp; omega)
  unfold code_Pairs.f
  refine Ev.bind (a := listB encP l) ?_ (by rw [told_eq]; exact Ev.now _)
  unfold api_Pair_68.f
  refine list_ev encP rd_T74 rdP_drop (fun k p => code_Pairs_1.f k p.f0 p.f1) api_Pair_68.l0 (fun k xs l n i => by rw [api_Pair_68.l0]) l (by omega) (fun p hp => ?_) (by omega)
  have h := hs p hp
  have e1 := encW_len p.f0
  have e2 := encW_len p.f1
  unfold code_Pairs_1.f
  exact Ev.bind (word_ev p.f0 (by omega)) (Ev.bind (word_ev p.f1 (by omega)) (Ev.congr (fun k => if_pos (by omega)) (Ev.now _)))
end Go.Proofs.Ytgihecpobichbaa.Q
-- Written by a program of the session over the translation's print: functions as plain Lean, and that the machine's call comes to them.
namespace Go.Proofs.Ytgihecpobichbaa.Q
open Go.RowKit Go.Proofs.YtgihecpobichbaaW.PrintWords Go.Proofs.YtgihecpobichbaaW.PrintLast Go.Proofs.YtgihecpobichbaaW.PrintMore
attribute [local go_sem] max2_int min2_int max_two min_two max_three min_three max_four min_four   -- for this text's walks alone
set_option linter.unusedVariables false
set_option linter.unusedSimpArgs false

-- NOT PRINTED: function 111 (code_reader_num)

-- NOT PRINTED: function 92 (code_items_int64)

-- NOT PRINTED: function 91 (code_Unnums_1)

-- NOT PRINTED: function 90 (code_read_int64)

/-! ### headgatelaw04_alive: function 12 -/
def headgatelaw04_alive.f (k : Nat)  : Option (Bool) := (code_Nums.f k (([(-1), 1] : List Int))).bind fun bt107 => ((code_Unnums.f k (([2, 1, 2] : List Int))).bind fun bt114 => ((code_Num.f k 300).bind fun t118 => (if (strOfNums t118).toList = ([172, 2] : List UInt8) then (if (strOfNums bt107.1).toList = ([2, 1, 2] : List UInt8) then (if bt107.2 = 0 then (if bt114.2 = 0 then (if (bt114.1.length : Int) = 2 then (if 0 < (bt114.1.length : Int) then (some ((rd bt114.1 0) == (-1))) else (none)) else (some false)) else (some false)) else (some false)) else (some false)) else (some false))))
set_option maxHeartbeats 8000000 in
set_option maxRecDepth 100000 in
theorem headgatelaw04_alive.calls (k : Nat)  (r : Bool) (w : World) (h : headgatelaw04_alive.f k  = some r) :
    Calls Try.prog 12 #[] w fun e w' => e = .returned (.bool r) ∧ Below w.heap.size w w' := by
  have HB := Aside0.mk (Below.refl w.heap.size w)
  have H : ((code_Nums.f k (([(-1), 1] : List Int))).bind fun bt107 => ((code_Unnums.f k (([2, 1, 2] : List Int))).bind fun bt114 => ((code_Num.f k 300).bind fun t118 => (if (strOfNums t118).toList = ([172, 2] : List UInt8) then (if (strOfNums bt107.1).toList = ([2, 1, 2] : List UInt8) then (if bt107.2 = 0 then (if bt114.2 = 0 then (if (bt114.1.length : Int) = 2 then (if 0 < (bt114.1.length : Int) then (some ((rd bt114.1 0) == (-1))) else (none)) else (some false)) else (some false)) else (some false)) else (some false)) else (some false))))) = some r := h
  clear h
  obtain ⟨y104, hy104⟩ : ∃ y_ : List Int, y_ = (([(-1), 1] : List Int)) := ⟨_, rfl⟩
  replace H : ((code_Nums.f k y104).bind fun bt107 => ((code_Unnums.f k (([2, 1, 2] : List Int))).bind fun bt114 => ((code_Num.f k 300).bind fun t118 => (if (strOfNums t118).toList = ([172, 2] : List UInt8) then (if (strOfNums bt107.1).toList = ([2, 1, 2] : List UInt8) then (if bt107.2 = 0 then (if bt114.2 = 0 then (if (bt114.1.length : Int) = 2 then (if 0 < (bt114.1.length : Int) then (some ((rd bt114.1 0) == (-1))) else (none)) else (some false)) else (some false)) else (some false)) else (some false)) else (some false))))) = some r := by first | (rw [hy104]; with_reducible exact H) | (have H2_ := (Option.bind_some _ _).symm.trans H; rw [hy104]; with_reducible exact H2_) | (have H2_ := (Option.bind_some _ _).symm.trans H; with_reducible exact H2_) | with_reducible exact H | (rw [hy104]; exact H) | exact H
  have Ny104 := Aside0.mk hy104
  clear hy104
  replace H := Option.bind_eq_some_iff.mp H
  obtain ⟨⟨t107, t108⟩, A10, H⟩ := H
  replace H : ((code_Unnums.f k (([2, 1, 2] : List Int))).bind fun bt114 => ((code_Num.f k 300).bind fun t118 => (if (strOfNums t118).toList = ([172, 2] : List UInt8) then (if (strOfNums t107).toList = ([2, 1, 2] : List UInt8) then (if t108 = 0 then (if bt114.2 = 0 then (if (bt114.1.length : Int) = 2 then (if 0 < (bt114.1.length : Int) then (some ((rd bt114.1 0) == (-1))) else (none)) else (some false)) else (some false)) else (some false)) else (some false)) else (some false)))) = some r := H
  have A1 := Aside0.mk A10
  clear A10
  obtain ⟨y111, hy111⟩ : ∃ y_ : List Int, y_ = (([2, 1, 2] : List Int)) := ⟨_, rfl⟩
  replace H : ((code_Unnums.f k y111).bind fun bt114 => ((code_Num.f k 300).bind fun t118 => (if (strOfNums t118).toList = ([172, 2] : List UInt8) then (if (strOfNums t107).toList = ([2, 1, 2] : List UInt8) then (if t108 = 0 then (if bt114.2 = 0 then (if (bt114.1.length : Int) = 2 then (if 0 < (bt114.1.length : Int) then (some ((rd bt114.1 0) == (-1))) else (none)) else (some false)) else (some false)) else (some false)) else (some false)) else (some false)))) = some r := by first | (rw [hy111]; with_reducible exact H) | (have H2_ := (Option.bind_some _ _).symm.trans H; rw [hy111]; with_reducible exact H2_) | (have H2_ := (Option.bind_some _ _).symm.trans H; with_reducible exact H2_) | with_reducible exact H | (rw [hy111]; exact H) | exact H
  have Ny111 := Aside0.mk hy111
  clear hy111
  replace H := Option.bind_eq_some_iff.mp H
  obtain ⟨⟨t114, t115⟩, A20, H⟩ := H
  replace H : ((code_Num.f k 300).bind fun t118 => (if (strOfNums t118).toList = ([172, 2] : List UInt8) then (if (strOfNums t107).toList = ([2, 1, 2] : List UInt8) then (if t108 = 0 then (if t115 = 0 then (if (t114.length : Int) = 2 then (if 0 < (t114.length : Int) then (some ((rd t114 0) == (-1))) else (none)) else (some false)) else (some false)) else (some false)) else (some false)) else (some false))) = some r := H
  have A2 := Aside0.mk A20
  clear A20
  replace H := Option.bind_eq_some_iff.mp H
  obtain ⟨t118, A30, H⟩ := H
  replace H : (if (strOfNums t118).toList = ([172, 2] : List UInt8) then (if (strOfNums t107).toList = ([2, 1, 2] : List UInt8) then (if t108 = 0 then (if t115 = 0 then (if (t114.length : Int) = 2 then (if 0 < (t114.length : Int) then (some ((rd t114 0) == (-1))) else (none)) else (some false)) else (some false)) else (some false)) else (some false)) else (some false)) = some r := H
  have A3 := Aside0.mk A30
  clear A30
  by_cases c4 : (strOfNums t118).toList = ([172, 2] : List UInt8)
  · rw [if_pos c4] at H
    have c4b0 : ((strOfNums t118).toList == ([172, 2] : List UInt8)) = true := beq_iff_eq.mpr c4
    have c4b1 : ((strOfNums t118).toList != ([172, 2] : List UInt8)) = false := bne_eq_false_iff_eq.mpr c4
    clear c4
    by_cases c5 : (strOfNums t107).toList = ([2, 1, 2] : List UInt8)
    · rw [if_pos c5] at H
      have c5b0 : ((strOfNums t107).toList == ([2, 1, 2] : List UInt8)) = true := beq_iff_eq.mpr c5
      have c5b1 : ((strOfNums t107).toList != ([2, 1, 2] : List UInt8)) = false := bne_eq_false_iff_eq.mpr c5
      clear c5
      by_cases c6 : t108 = 0
      · rw [if_pos c6] at H
        have c6b0 : (t108 == 0) = true := beq_iff_eq.mpr c6
        have c6b1 : (t108 != 0) = false := bne_eq_false_iff_eq.mpr c6
        clear c6
        by_cases c7 : t115 = 0
        · rw [if_pos c7] at H
          have c7b0 : (t115 == 0) = true := beq_iff_eq.mpr c7
          have c7b1 : (t115 != 0) = false := bne_eq_false_iff_eq.mpr c7
          clear c7
          by_cases c8 : (t114.length : Int) = 2
          · rw [if_pos c8] at H
            have c8b0 : ((t114.length : Int) == 2) = true := beq_iff_eq.mpr c8
            have c8b1 : ((t114.length : Int) != 2) = false := bne_eq_false_iff_eq.mpr c8
            clear c8
            by_cases c9 : 0 < (t114.length : Int)
            · rw [if_pos c9] at H
              have c9b0 : decide (0 < (t114.length : Int)) = true := decide_eq_true c9
              have c9b1 : decide (0 < t114.length) = true := decide_eq_true (by omega)
              clear c9
              obtain rfl := Option.some.inj H
              go_enter Try.func12, Try.ntmps12
              go_wp2_with (first | ((with_reducible refine gate_dst (N := 6) rfl ?_); (try (refine gate_guard (by rfl) ?_; dsimp only)); refine Kd.R_lit (Kd.int .i64) _ 2 ?hg (N := 6) ?hd (xs := ([(-1), 1] : List Int)) (inner := [.int .i64 (-1), .int .i64 1]) (ok := fun _ => True) (okp := fun _ => True) ?hr ?hp (fun _ hk => hk) trivial (Below.refl _ _) (Nat.le_refl _) (by simp) ?_; (case hd => rfl); (case hg => rfl); (case hr => first | (go_simp; done) | (go_simp; rfl)); (case hp => exact (Reps.one (show Kd.M (Kd.int .i64) _ _ _ (-1) [.int .i64 (-1)] from rfl) (Reps.one (show Kd.M (Kd.int .i64) _ _ _ 1 [.int .i64 1] from rfl) (Reps.none _ _)))); intro v105 w10 ho11 hb hg_ hnew_; clear hg_ hnew_; (first | rw [← Ny104.out] at ho11 | (simp only [Int.reduceToNat] at ho11; rw [← Ny104.out] at ho11)); have n0_ := Aside0.mk (Kd.R_lower ho11 (below_size (by repeat (first | (with_reducible first | exact HB.out | apply below_alloc | apply pw_below_drewN | apply below_drew1) | exact HB.out)))); have n1_ := Aside0.mk (below_step (by repeat (first | (with_reducible first | exact HB.out | apply below_alloc | apply pw_below_drewN | apply below_drew1) | exact HB.out)) hb); clear HB; have HO106 := n0_; have HB := n1_; clear n0_ n1_; clear hb ho11; obtain ⟨Ao12, co12, eo12⟩ := Kd.R_slice HO106.out; subst eo12) | ((with_reducible refine gate_callee (f := 27) rfl ?_); refine goesL_ (some 7) rfl rfl Try.func27 (by kernel_rfl) rfl #[.slice Ao12 y104.length co12] rfl (by (try simp only [List.map_toArray, List.map_cons, List.map_nil]); first | done | rfl | (simp only [List.length_drop, List.length_take]; rfl) | exact congrArg (fun x_ : Int => #[Value.int .u64 x_]) (show _ = _ % (18446744073709551616 : Int) by omega)) ?_; (with_reducible refine (code_Nums.calls k _ _ y104 t107 t108 _ ?side1 ?side2 A1.out).mono ?_); (case side1 => repeat (first | exact (Kd.R_reads' HO106.out).2.2 | (with_reducible refine Kd.C_alloc ?_ _) | (with_reducible refine Kd.C_drewN ?_ _) | (with_reducible refine Kd.C_drew ?_))); (case side2 => exact (Kd.R_reads' HO106.out).2.1); rintro e w13 ⟨v109, rfl, ho0, hb⟩; refine ⟨_, rfl, ?_⟩; have n0_ := Aside0.mk (Kd.R_below (by (with_reducible repeat (first | apply Kd.R_alloc | apply Kd.R_drewN | apply Kd.R_drew)); exact HO106.out) hb); have n1_ := Aside0.mk (Kd.R_lower ho0 (below_size (by repeat (first | (with_reducible first | exact HB.out | apply below_alloc | apply pw_below_drewN | apply below_drew1) | exact HB.out)))); have n2_ := Aside0.mk (below_step (by repeat (first | (with_reducible first | exact HB.out | apply below_alloc | apply pw_below_drewN | apply below_drew1) | exact HB.out)) hb); clear HO106; clear HB; have HO106 := n0_; have HO110 := n1_; have HB := n2_; clear n0_ n1_ n2_; (try clear hb); (try clear hb2); (try clear hk); (try clear hi); (try clear ho0)) | ((with_reducible refine gate_dst (N := 11) rfl ?_); (try (refine gate_guard (by rfl) ?_; dsimp only)); refine Kd.R_lit (Kd.int .u8) _ 5 ?hg (N := 11) ?hd (xs := ([2, 1, 2] : List Int)) (inner := [.int .u8 2, .int .u8 1, .int .u8 2]) (ok := fun _ => True) (okp := fun _ => True) ?hr ?hp (fun _ hk => hk) trivial (Below.refl _ _) (Nat.le_refl _) (by simp) ?_; (case hd => rfl); (case hg => rfl); (case hr => first | (go_simp; done) | (go_simp; rfl)); (case hp => exact (Reps.one (show Kd.M (Kd.int .u8) _ _ _ 2 [.int .u8 2] from rfl) (Reps.one (show Kd.M (Kd.int .u8) _ _ _ 1 [.int .u8 1] from rfl) (Reps.one (show Kd.M (Kd.int .u8) _ _ _ 2 [.int .u8 2] from rfl) (Reps.none _ _))))); intro v112 w14 ho15 hb hg_ hnew_; clear hg_ hnew_; (first | rw [← Ny111.out] at ho15 | (simp only [Int.reduceToNat] at ho15; rw [← Ny111.out] at ho15)); have n0_ := Aside0.mk (Kd.R_below (by (with_reducible repeat (first | apply Kd.R_alloc | apply Kd.R_drewN | apply Kd.R_drew)); exact HO106.out) hb); have n1_ := Aside0.mk (Kd.R_elder' (by (with_reducible repeat (first | apply Kd.R_alloc | apply Kd.R_drewN | apply Kd.R_drew)); exact HO110.out) (Kd.R_base ho15) hb); have n2_ := Aside0.mk (Kd.R_lower (Kd.R_new' ho15 (Kd.R_lt (by (with_reducible repeat (first | apply Kd.R_alloc | apply Kd.R_drewN | apply Kd.R_drew)); exact HO110.out))) (below_size (by repeat (first | (with_reducible first | exact HB.out | apply below_alloc | apply pw_below_drewN | apply below_drew1) | exact HB.out)))); have n3_ := Aside0.mk (below_step (by repeat (first | (with_reducible first | exact HB.out | apply below_alloc | apply pw_below_drewN | apply below_drew1) | exact HB.out)) hb); clear HO106; clear HO110; clear HB; have HO106 := n0_; have HO110 := n1_; have HO113 := n2_; have HB := n3_; clear n0_ n1_ n2_ n3_; clear hb ho15; obtain ⟨Ao16, co16, eo16⟩ := Kd.R_slice HO113.out; subst eo16) | ((with_reducible refine gate_callee (f := 32) rfl ?_); refine goesL_ (some 12) rfl rfl Try.func32 (by kernel_rfl) rfl #[.slice Ao16 y111.length co16] rfl (by (try simp only [List.map_toArray, List.map_cons, List.map_nil]); first | done | rfl | (simp only [List.length_drop, List.length_take]; rfl) | exact congrArg (fun x_ : Int => #[Value.int .u64 x_]) (show _ = _ % (18446744073709551616 : Int) by omega)) ?_; (with_reducible refine (code_Unnums.calls k _ _ y111 t114 t115 _ ?side1 ?side2 A2.out).mono ?_); (case side1 => repeat (first | exact (Kd.R_reads' HO113.out).2.2 | (with_reducible refine Kd.C_alloc ?_ _) | (with_reducible refine Kd.C_drewN ?_ _) | (with_reducible refine Kd.C_drew ?_))); (case side2 => exact (Kd.R_reads' HO113.out).2.1); rintro e w17 ⟨v116, rfl, ho0, hb⟩; refine ⟨_, rfl, ?_⟩; have n0_ := Aside0.mk (Kd.R_elder' (by (with_reducible repeat (first | apply Kd.R_alloc | apply Kd.R_drewN | apply Kd.R_drew)); exact HO106.out) (Kd.R_base ho0) hb); have n1_ := Aside0.mk (Kd.R_below (by (with_reducible repeat (first | apply Kd.R_alloc | apply Kd.R_drewN | apply Kd.R_drew)); exact HO110.out) hb); have n2_ := Aside0.mk (Kd.R_below (by (with_reducible repeat (first | apply Kd.R_alloc | apply Kd.R_drewN | apply Kd.R_drew)); exact HO113.out) hb); have n3_ := Aside0.mk (Kd.R_lower (Kd.R_new' ho0 (Kd.R_lt (by (with_reducible repeat (first | apply Kd.R_alloc | apply Kd.R_drewN | apply Kd.R_drew)); exact HO106.out))) (below_size (by repeat (first | (with_reducible first | exact HB.out | apply below_alloc | apply pw_below_drewN | apply below_drew1) | exact HB.out)))); have n4_ := Aside0.mk (below_step (by repeat (first | (with_reducible first | exact HB.out | apply below_alloc | apply pw_below_drewN | apply below_drew1) | exact HB.out)) hb); clear HO106; clear HO110; clear HO113; clear HB; have HO106 := n0_; have HO110 := n1_; have HO113 := n2_; have HO117 := n3_; have HB := n4_; clear n0_ n1_ n2_ n3_ n4_; (try clear hb); (try clear hb2); (try clear hk); (try clear hi); (try clear ho0)) | ((with_reducible refine gate_callee (f := 15) rfl ?_); refine goesL_ (some 15) rfl rfl Try.func15 (by kernel_rfl) rfl #[.int .u64 300] rfl (by (try simp only [List.map_toArray, List.map_cons, List.map_nil]); first | done | rfl | (simp only [List.length_drop, List.length_take]; rfl) | exact congrArg (fun x_ : Int => #[Value.int .u64 x_]) (show _ = _ % (18446744073709551616 : Int) by omega)) ?_; (with_reducible refine (code_Num.calls k 300 t118 _ A3.out).mono ?_); rintro e w18 ⟨v119, rfl, ho0, hb⟩; refine ⟨_, rfl, ?_⟩; have n0_ := Aside0.mk (Kd.R_below (by (with_reducible repeat (first | apply Kd.R_alloc | apply Kd.R_drewN | apply Kd.R_drew)); exact HO106.out) hb); have n1_ := Aside0.mk (Kd.R_elder' (by (with_reducible repeat (first | apply Kd.R_alloc | apply Kd.R_drewN | apply Kd.R_drew)); exact HO110.out) (Kd.R_base ho0) hb); have n2_ := Aside0.mk (Kd.R_elder' (by (with_reducible repeat (first | apply Kd.R_alloc | apply Kd.R_drewN | apply Kd.R_drew)); exact HO113.out) (Kd.R_base ho0) hb); have n3_ := Aside0.mk (Kd.R_below (by (with_reducible repeat (first | apply Kd.R_alloc | apply Kd.R_drewN | apply Kd.R_drew)); exact HO117.out) hb); have n4_ := Aside0.mk (Kd.R_lower (Kd.R_new' (Kd.R_new' ho0 (Kd.R_lt (by (with_reducible repeat (first | apply Kd.R_alloc | apply Kd.R_drewN | apply Kd.R_drew)); exact HO110.out))) (Kd.R_lt (by (with_reducible repeat (first | apply Kd.R_alloc | apply Kd.R_drewN | apply Kd.R_drew)); exact HO113.out))) (below_size (by repeat (first | (with_reducible first | exact HB.out | apply below_alloc | apply pw_below_drewN | apply below_drew1) | exact HB.out)))); have n5_ := Aside0.mk (below_step (by repeat (first | (with_reducible first | exact HB.out | apply below_alloc | apply pw_below_drewN | apply below_drew1) | exact HB.out)) hb); clear HO106; clear HO110; clear HO113; clear HO117; clear HB; have HO106 := n0_; have HO110 := n1_; have HO113 := n2_; have HO117 := n3_; have HO120 := n4_; have HB := n5_; clear n0_ n1_ n2_ n3_ n4_ n5_; (try clear hb); (try clear hb2); (try clear hk); (try clear hi); (try clear ho0); have hcv19 := own_string (P := Try.prog) Try.underlying27 Try.underlying5 Try.underlying9 (Kd.own_of_R HO120.out); have hcv20 := own_string (P := Try.prog) Try.underlying27 Try.underlying5 Try.underlying9 (Kd.own_of_R HO110.out); obtain ⟨Ao21, co21, eo21⟩ := Kd.R_slice HO117.out; subst eo21; have p121 : 0 ≤ (0 : Int) := (by omega); have q121 : 0 < (t114.length : Int) := of_decide_eq_true (by first | (with_reducible assumption) | assumption); obtain ⟨ad121, e121, hx121_0⟩ := Kd.at_int (Kd.R_reads' HO117.out).2.2 0 p121 q121; cases e121; have qi121 : (0 < t114.length) = True := eq_true (by omega); (try rw [show ((0 : Int)).toNat = 0 from rfl] at hx121_0); (try rw [Addr.add_zero'] at hx121_0); replace p121 := eq_true p121; replace q121 := eq_true q121))
              go_ret
              exact ⟨by first | rfl | (simp [errW_none, errW_some] <;> rfl) | (simp [*, errW_none, errW_some] <;> rfl), by repeat (first | (with_reducible first | exact HB.out | apply below_alloc | apply pw_below_drewN | apply below_drew1) | exact HB.out)⟩
            · rw [if_neg c9] at H
              exact absurd H (by simp)
          · rw [if_neg c8] at H
            have c8b0 : ((t114.length : Int) == 2) = false := beq_eq_false_iff_ne.mpr c8
            have c8b1 : ((t114.length : Int) != 2) = true := bne_iff_ne.mpr c8
            obtain rfl := Option.some.inj H
            go_enter Try.func12, Try.ntmps12
            go_wp2_with (first | ((with_reducible refine gate_dst (N := 6) rfl ?_); (try (refine gate_guard (by rfl) ?_; dsimp only)); refine Kd.R_lit (Kd.int .i64) _ 2 ?hg (N := 6) ?hd (xs := ([(-1), 1] : List Int)) (inner := [.int .i64 (-1), .int .i64 1]) (ok := fun _ => True) (okp := fun _ => True) ?hr ?hp (fun _ hk => hk) trivial (Below.refl _ _) (Nat.le_refl _) (by simp) ?_; (case hd => rfl); (case hg => rfl); (case hr => first | (go_simp; done) | (go_simp; rfl)); (case hp => exact (Reps.one (show Kd.M (Kd.int .i64) _ _ _ (-1) [.int .i64 (-1)] from rfl) (Reps.one (show Kd.M (Kd.int .i64) _ _ _ 1 [.int .i64 1] from rfl) (Reps.none _ _)))); intro v105 w22 ho23 hb hg_ hnew_; clear hg_ hnew_; (first | rw [← Ny104.out] at ho23 | (simp only [Int.reduceToNat] at ho23; rw [← Ny104.out] at ho23)); have n0_ := Aside0.mk (Kd.R_lower ho23 (below_size (by repeat (first | (with_reducible first | exact HB.out | apply below_alloc | apply pw_below_drewN | apply below_drew1) | exact HB.out)))); have n1_ := Aside0.mk (below_step (by repeat (first | (with_reducible first | exact HB.out | apply below_alloc | apply pw_below_drewN | apply below_drew1) | exact HB.out)) hb); clear HB; have HO106 := n0_; have HB := n1_; clear n0_ n1_; clear hb ho23; obtain ⟨Ao24, co24, eo24⟩ := Kd.R_slice HO106.out; subst eo24) | ((with_reducible refine gate_callee (f := 27) rfl ?_); refine goesL_ (some 7) rfl rfl Try.func27 (by kernel_rfl) rfl #[.slice Ao24 y104.length co24] rfl (by (try simp only [List.map_toArray, List.map_cons, List.map_nil]); first | done | rfl | (simp only [List.length_drop, List.length_take]; rfl) | exact congrArg (fun x_ : Int => #[Value.int .u64 x_]) (show _ = _ % (18446744073709551616 : Int) by omega)) ?_; (with_reducible refine (code_Nums.calls k _ _ y104 t107 t108 _ ?side1 ?side2 A1.out).mono ?_); (case side1 => repeat (first | exact (Kd.R_reads' HO106.out).2.2 | (with_reducible refine Kd.C_alloc ?_ _) | (with_reducible refine Kd.C_drewN ?_ _) | (with_reducible refine Kd.C_drew ?_))); (case side2 => exact (Kd.R_reads' HO106.out).2.1); rintro e w25 ⟨v109, rfl, ho0, hb⟩; refine ⟨_, rfl, ?_⟩; have n0_ := Aside0.mk (Kd.R_below (by (with_reducible repeat (first | apply Kd.R_alloc | apply Kd.R_drewN | apply Kd.R_drew)); exact HO106.out) hb); have n1_ := Aside0.mk (Kd.R_lower ho0 (below_size (by repeat (first | (with_reducible first | exact HB.out | apply below_alloc | apply pw_below_drewN | apply below_drew1) | exact HB.out)))); have n2_ := Aside0.mk (below_step (by repeat (first | (with_reducible first | exact HB.out | apply below_alloc | apply pw_below_drewN | apply below_drew1) | exact HB.out)) hb); clear HO106; clear HB; have HO106 := n0_; have HO110 := n1_; have HB := n2_; clear n0_ n1_ n2_; (try clear hb); (try clear hb2); (try clear hk); (try clear hi); (try clear ho0)) | ((with_reducible refine gate_dst (N := 11) rfl ?_); (try (refine gate_guard (by rfl) ?_; dsimp only)); refine Kd.R_lit (Kd.int .u8) _ 5 ?hg (N := 11) ?hd (xs := ([2, 1, 2] : List Int)) (inner := [.int .u8 2, .int .u8 1, .int .u8 2]) (ok := fun _ => True) (okp := fun _ => True) ?hr ?hp (fun _ hk => hk) trivial (Below.refl _ _) (Nat.le_refl _) (by simp) ?_; (case hd => rfl); (case hg => rfl); (case hr => first | (go_simp; done) | (go_simp; rfl)); (case hp => exact (Reps.one (show Kd.M (Kd.int .u8) _ _ _ 2 [.int .u8 2] from rfl) (Reps.one (show Kd.M (Kd.int .u8) _ _ _ 1 [.int .u8 1] from rfl) (Reps.one (show Kd.M (Kd.int .u8) _ _ _ 2 [.int .u8 2] from rfl) (Reps.none _ _))))); intro v112 w26 ho27 hb hg_ hnew_; clear hg_ hnew_; (first | rw [← Ny111.out] at ho27 | (simp only [Int.reduceToNat] at ho27; rw [← Ny111.out] at ho27)); have n0_ := Aside0.mk (Kd.R_below (by (with_reducible repeat (first | apply Kd.R_alloc | apply Kd.R_drewN | apply Kd.R_drew)); exact HO106.out) hb); have n1_ := Aside0.mk (Kd.R_elder' (by (with_reducible repeat (first | apply Kd.R_alloc | apply Kd.R_drewN | apply Kd.R_drew)); exact HO110.out) (Kd.R_base ho27) hb); have n2_ := Aside0.mk (Kd.R_lower (Kd.R_new' ho27 (Kd.R_lt (by (with_reducible repeat (first | apply Kd.R_alloc | apply Kd.R_drewN | apply Kd.R_drew)); exact HO110.out))) (below_size (by repeat (first | (with_reducible first | exact HB.out | apply below_alloc | apply pw_below_drewN | apply below_drew1) | exact HB.out)))); have n3_ := Aside0.mk (below_step (by repeat (first | (with_reducible first | exact HB.out | apply below_alloc | apply pw_below_drewN | apply below_drew1) | exact HB.out)) hb); clear HO106; clear HO110; clear HB; have HO106 := n0_; have HO110 := n1_; have HO113 := n2_; have HB := n3_; clear n0_ n1_ n2_ n3_; clear hb ho27; obtain ⟨Ao28, co28, eo28⟩ := Kd.R_slice HO113.out; subst eo28) | ((with_reducible refine gate_callee (f := 32) rfl ?_); refine goesL_ (some 12) rfl rfl Try.func32 (by kernel_rfl) rfl #[.slice Ao28 y111.length co28] rfl (by (try simp only [List.map_toArray, List.map_cons, List.map_nil]); first | done | rfl | (simp only [List.length_drop, List.length_take]; rfl) | exact congrArg (fun x_ : Int => #[Value.int .u64 x_]) (show _ = _ % (18446744073709551616 : Int) by omega)) ?_; (with_reducible refine (code_Unnums.calls k _ _ y111 t114 t115 _ ?side1 ?side2 A2.out).mono ?_); (case side1 => repeat (first | exact (Kd.R_reads' HO113.out).2.2 | (with_reducible refine Kd.C_alloc ?_ _) | (with_reducible refine Kd.C_drewN ?_ _) | (with_reducible refine Kd.C_drew ?_))); (case side2 => exact (Kd.R_reads' HO113.out).2.1); rintro e w29 ⟨v116, rfl, ho0, hb⟩; refine ⟨_, rfl, ?_⟩; have n0_ := Aside0.mk (Kd.R_elder' (by (with_reducible repeat (first | apply Kd.R_alloc | apply Kd.R_drewN | apply Kd.R_drew)); exact HO106.out) (Kd.R_base ho0) hb); have n1_ := Aside0.mk (Kd.R_below (by (with_reducible repeat (first | apply Kd.R_alloc | apply Kd.R_drewN | apply Kd.R_drew)); exact HO110.out) hb); have n2_ := Aside0.mk (Kd.R_below (by (with_reducible repeat (first | apply Kd.R_alloc | apply Kd.R_drewN | apply Kd.R_drew)); exact HO113.out) hb); have n3_ := Aside0.mk (Kd.R_lower (Kd.R_new' ho0 (Kd.R_lt (by (with_reducible repeat (first | apply Kd.R_alloc | apply Kd.R_drewN | apply Kd.R_drew)); exact HO106.out))) (below_size (by repeat (first | (with_reducible first | exact HB.out | apply below_alloc | apply pw_below_drewN | apply below_drew1) | exact HB.out)))); have n4_ := Aside0.mk (below_step (by repeat (first | (with_reducible first | exact HB.out | apply below_alloc | apply pw_below_drewN | apply below_drew1) | exact HB.out)) hb); clear HO106; clear HO110; clear HO113; clear HB; have HO106 := n0_; have HO110 := n1_; have HO113 := n2_; have HO117 := n3_; have HB := n4_; clear n0_ n1_ n2_ n3_ n4_; (try clear hb); (try clear hb2); (try clear hk); (try clear hi); (try clear ho0)) | ((with_reducible refine gate_callee (f := 15) rfl ?_); refine goesL_ (some 15) rfl rfl Try.func15 (by kernel_rfl) rfl #[.int .u64 300] rfl (by (try simp only [List.map_toArray, List.map_cons, List.map_nil]); first | done | rfl | (simp only [List.length_drop, List.length_take]; rfl) | exact congrArg (fun x_ : Int => #[Value.int .u64 x_]) (show _ = _ % (18446744073709551616 : Int) by omega)) ?_; (with_reducible refine (code_Num.calls k 300 t118 _ A3.out).mono ?_); rintro e w30 ⟨v119, rfl, ho0, hb⟩; refine ⟨_, rfl, ?_⟩; have n0_ := Aside0.mk (Kd.R_below (by (with_reducible repeat (first | apply Kd.R_alloc | apply Kd.R_drewN | apply Kd.R_drew)); exact HO106.out) hb); have n1_ := Aside0.mk (Kd.R_elder' (by (with_reducible repeat (first | apply Kd.R_alloc | apply Kd.R_drewN | apply Kd.R_drew)); exact HO110.out) (Kd.R_base ho0) hb); have n2_ := Aside0.mk (Kd.R_elder' (by (with_reducible repeat (first | apply Kd.R_alloc | apply Kd.R_drewN | apply Kd.R_drew)); exact HO113.out) (Kd.R_base ho0) hb); have n3_ := Aside0.mk (Kd.R_below (by (with_reducible repeat (first | apply Kd.R_alloc | apply Kd.R_drewN | apply Kd.R_drew)); exact HO117.out) hb); have n4_ := Aside0.mk (Kd.R_lower (Kd.R_new' (Kd.R_new' ho0 (Kd.R_lt (by (with_reducible repeat (first | apply Kd.R_alloc | apply Kd.R_drewN | apply Kd.R_drew)); exact HO110.out))) (Kd.R_lt (by (with_reducible repeat (first | apply Kd.R_alloc | apply Kd.R_drewN | apply Kd.R_drew)); exact HO113.out))) (below_size (by repeat (first | (with_reducible first | exact HB.out | apply below_alloc | apply pw_below_drewN | apply below_drew1) | exact HB.out)))); have n5_ := Aside0.mk (below_step (by repeat (first | (with_reducible first | exact HB.out | apply below_alloc | apply pw_below_drewN | apply below_drew1) | exact HB.out)) hb); clear HO106; clear HO110; clear HO113; clear HO117; clear HB; have HO106 := n0_; have HO110 := n1_; have HO113 := n2_; have HO117 := n3_; have HO120 := n4_; have HB := n5_; clear n0_ n1_ n2_ n3_ n4_ n5_; (try clear hb); (try clear hb2); (try clear hk); (try clear hi); (try clear ho0); have hcv31 := own_string (P := Try.prog) Try.underlying27 Try.underlying5 Try.underlying9 (Kd.own_of_R HO120.out); have hcv32 := own_string (P := Try.prog) Try.underlying27 Try.underlying5 Try.underlying9 (Kd.own_of_R HO110.out); obtain ⟨Ao33, co33, eo33⟩ := Kd.R_slice HO117.out; subst eo33))
            go_ret
            exact ⟨by first | rfl | (simp [errW_none, errW_some] <;> rfl) | (simp [*, errW_none, errW_some] <;> rfl), by repeat (first | (with_reducible first | exact HB.out | apply below_alloc | apply pw_below_drewN | apply below_drew1) | exact HB.out)⟩
        · rw [if_neg c7] at H
          have c7b0 : (t115 == 0) = false := beq_eq_false_iff_ne.mpr c7
          have c7b1 : (t115 != 0) = true := bne_iff_ne.mpr c7
          obtain rfl := Option.some.inj H
          go_enter Try.func12, Try.ntmps12
          go_wp2_with (first | ((with_reducible refine gate_dst (N := 6) rfl ?_); (try (refine gate_guard (by rfl) ?_; dsimp only)); refine Kd.R_lit (Kd.int .i64) _ 2 ?hg (N := 6) ?hd (xs := ([(-1), 1] : List Int)) (inner := [.int .i64 (-1), .int .i64 1]) (ok := fun _ => True) (okp := fun _ => True) ?hr ?hp (fun _ hk => hk) trivial (Below.refl _ _) (Nat.le_refl _) (by simp) ?_; (case hd => rfl); (case hg => rfl); (case hr => first | (go_simp; done) | (go_simp; rfl)); (case hp => exact (Reps.one (show Kd.M (Kd.int .i64) _ _ _ (-1) [.int .i64 (-1)] from rfl) (Reps.one (show Kd.M (Kd.int .i64) _ _ _ 1 [.int .i64 1] from rfl) (Reps.none _ _)))); intro v105 w34 ho35 hb hg_ hnew_; clear hg_ hnew_; (first | rw [← Ny104.out] at ho35 | (simp only [Int.reduceToNat] at ho35; rw [← Ny104.out] at ho35)); have n0_ := Aside0.mk (Kd.R_lower ho35 (below_size (by repeat (first | (with_reducible first | exact HB.out | apply below_alloc | apply pw_below_drewN | apply below_drew1) | exact HB.out)))); have n1_ := Aside0.mk (below_step (by repeat (first | (with_reducible first | exact HB.out | apply below_alloc | apply pw_below_drewN | apply below_drew1) | exact HB.out)) hb); clear HB; have HO106 := n0_; have HB := n1_; clear n0_ n1_; clear hb ho35; obtain ⟨Ao36, co36, eo36⟩ := Kd.R_slice HO106.out; subst eo36) | ((with_reducible refine gate_callee (f := 27) rfl ?_); refine goesL_ (some 7) rfl rfl Try.func27 (by kernel_rfl) rfl #[.slice Ao36 y104.length co36] rfl (by (try simp only [List.map_toArray, List.map_cons, List.map_nil]); first | done | rfl | (simp only [List.length_drop, List.length_take]; rfl) | exact congrArg (fun x_ : Int => #[Value.int .u64 x_]) (show _ = _ % (18446744073709551616 : Int) by omega)) ?_; (with_reducible refine (code_Nums.calls k _ _ y104 t107 t108 _ ?side1 ?side2 A1.out).mono ?_); (case side1 => repeat (first | exact (Kd.R_reads' HO106.out).2.2 | (with_reducible refine Kd.C_alloc ?_ _) | (with_reducible refine Kd.C_drewN ?_ _) | (with_reducible refine Kd.C_drew ?_))); (case side2 => exact (Kd.R_reads' HO106.out).2.1); rintro e w37 ⟨v109, rfl, ho0, hb⟩; refine ⟨_, rfl, ?_⟩; have n0_ := Aside0.mk (Kd.R_below (by (with_reducible repeat (first | apply Kd.R_alloc | apply Kd.R_drewN | apply Kd.R_drew)); exact HO106.out) hb); have n1_ := Aside0.mk (Kd.R_lower ho0 (below_size (by repeat (first | (with_reducible first | exact HB.out | apply below_alloc | apply pw_below_drewN | apply below_drew1) | exact HB.out)))); have n2_ := Aside0.mk (below_step (by repeat (first | (with_reducible first | exact HB.out | apply below_alloc | apply pw_below_drewN | apply below_drew1) | exact HB.out)) hb); clear HO106; clear HB; have HO106 := n0_; have HO110 := n1_; have HB := n2_; clear n0_ n1_ n2_; (try clear hb); (try clear hb2); (try clear hk); (try clear hi); (try clear ho0)) | ((with_reducible refine gate_dst (N := 11) rfl ?_); (try (refine gate_guard (by rfl) ?_; dsimp only)); refine Kd.R_lit (Kd.int .u8) _ 5 ?hg (N := 11) ?hd (xs := ([2, 1, 2] : List Int)) (inner := [.int .u8 2, .int .u8 1, .int .u8 2]) (ok := fun _ => True) (okp := fun _ => True) ?hr ?hp (fun _ hk => hk) trivial (Below.refl _ _) (Nat.le_refl _) (by simp) ?_; (case hd => rfl); (case hg => rfl); (case hr => first | (go_simp; done) | (go_simp; rfl)); (case hp => exact (Reps.one (show Kd.M (Kd.int .u8) _ _ _ 2 [.int .u8 2] from rfl) (Reps.one (show Kd.M (Kd.int .u8) _ _ _ 1 [.int .u8 1] from rfl) (Reps.one (show Kd.M (Kd.int .u8) _ _ _ 2 [.int .u8 2] from rfl) (Reps.none _ _))))); intro v112 w38 ho39 hb hg_ hnew_; clear hg_ hnew_; (first | rw [← Ny111.out] at ho39 | (simp only [Int.reduceToNat] at ho39; rw [← Ny111.out] at ho39)); have n0_ := Aside0.mk (Kd.R_below (by (with_reducible repeat (first | apply Kd.R_alloc | apply Kd.R_drewN | apply Kd.R_drew)); exact HO106.out) hb); have n1_ := Aside0.mk (Kd.R_elder' (by (with_reducible repeat (first | apply Kd.R_alloc | apply Kd.R_drewN | apply Kd.R_drew)); exact HO110.out) (Kd.R_base ho39) hb); have n2_ := Aside0.mk (Kd.R_lower (Kd.R_new' ho39 (Kd.R_lt (by (with_reducible repeat (first | apply Kd.R_alloc | apply Kd.R_drewN | apply Kd.R_drew)); exact HO110.out))) (below_size (by repeat (first | (with_reducible first | exact HB.out | apply below_alloc | apply pw_below_drewN | apply below_drew1) | exact HB.out)))); have n3_ := Aside0.mk (below_step (by repeat (first | (with_reducible first | exact HB.out | apply below_alloc | apply pw_below_drewN | apply below_drew1) | exact HB.out)) hb); clear HO106; clear HO110; clear HB; have HO106 := n0_; have HO110 := n1_; have HO113 := n2_; have HB := n3_; clear n0_ n1_ n2_ n3_; clear hb ho39; obtain ⟨Ao40, co40, eo40⟩ := Kd.R_slice HO113.out; subst eo40) | ((with_reducible refine gate_callee (f := 32) rfl ?_); refine goesL_ (some 12) rfl rfl Try.func32 (by kernel_rfl) rfl #[.slice Ao40 y111.length co40] rfl (by (try simp only [List.map_toArray, List.map_cons, List.map_nil]); first | done | rfl | (simp only [List.length_drop, List.length_take]; rfl) | exact congrArg (fun x_ : Int => #[Value.int .u64 x_]) (show _ = _ % (18446744073709551616 : Int) by omega)) ?_; (with_reducible refine (code_Unnums.calls k _ _ y111 t114 t115 _ ?side1 ?side2 A2.out).mono ?_); (case side1 => repeat (first | exact (Kd.R_reads' HO113.out).2.2 | (with_reducible refine Kd.C_alloc ?_ _) | (with_reducible refine Kd.C_drewN ?_ _) | (with_reducible refine Kd.C_drew ?_))); (case side2 => exact (Kd.R_reads' HO113.out).2.1); rintro e w41 ⟨v116, rfl, ho0, hb⟩; refine ⟨_, rfl, ?_⟩; have n0_ := Aside0.mk (Kd.R_elder' (by (with_reducible repeat (first | apply Kd.R_alloc | apply Kd.R_drewN | apply Kd.R_drew)); exact HO106.out) (Kd.R_base ho0) hb); have n1_ := Aside0.mk (Kd.R_below (by (with_reducible repeat (first | apply Kd.R_alloc | apply Kd.R_drewN | apply Kd.R_drew)); exact HO110.out) hb); have n2_ := Aside0.mk (Kd.R_below (by (with_reducible repeat (first | apply Kd.R_alloc | apply Kd.R_drewN | apply Kd.R_drew)); exact HO113.out) hb); have n3_ := Aside0.mk (Kd.R_lower (Kd.R_new' ho0 (Kd.R_lt (by (with_reducible repeat (first | apply Kd.R_alloc | apply Kd.R_drewN | apply Kd.R_drew)); exact HO106.out))) (below_size (by repeat (first | (with_reducible first | exact HB.out | apply below_alloc | apply pw_below_drewN | apply below_drew1) | exact HB.out)))); have n4_ := Aside0.mk (below_step (by repeat (first | (with_reducible first | exact HB.out | apply below_alloc | apply pw_below_drewN | apply below_drew1) | exact HB.out)) hb); clear HO106; clear HO110; clear HO113; clear HB; have HO106 := n0_; have HO110 := n1_; have HO113 := n2_; have HO117 := n3_; have HB := n4_; clear n0_ n1_ n2_ n3_ n4_; (try clear hb); (try clear hb2); (try clear hk); (try clear hi); (try clear ho0)) | ((with_reducible refine gate_callee (f := 15) rfl ?_); refine goesL_ (some 15) rfl rfl Try.func15 (by kernel_rfl) rfl #[.int .u64 300] rfl (by (try simp only [List.map_toArray, List.map_cons, List.map_nil]); first | done | rfl | (simp only [List.length_drop, List.length_take]; rfl) | exact congrArg (fun x_ : Int => #[Value.int .u64 x_]) (show _ = _ % (18446744073709551616 : Int) by omega)) ?_; (with_reducible refine (code_Num.calls k 300 t118 _ A3.out).mono ?_); rintro e w42 ⟨v119, rfl, ho0, hb⟩; refine ⟨_, rfl, ?_⟩; have n0_ := Aside0.mk (Kd.R_below (by (with_reducible repeat (first | apply Kd.R_alloc | apply Kd.R_drewN | apply Kd.R_drew)); exact HO106.out) hb); have n1_ := Aside0.mk (Kd.R_elder' (by (with_reducible repeat (first | apply Kd.R_alloc | apply Kd.R_drewN | apply Kd.R_drew)); exact HO110.out) (Kd.R_base ho0) hb); have n2_ := Aside0.mk (Kd.R_elder' (by (with_reducible repeat (first | apply Kd.R_alloc | apply Kd.R_drewN | apply Kd.R_drew)); exact HO113.out) (Kd.R_base ho0) hb); have n3_ := Aside0.mk (Kd.R_below (by (with_reducible repeat (first | apply Kd.R_alloc | apply Kd.R_drewN | apply Kd.R_drew)); exact HO117.out) hb); have n4_ := Aside0.mk (Kd.R_lower (Kd.R_new' (Kd.R_new' ho0 (Kd.R_lt (by (with_reducible repeat (first | apply Kd.R_alloc | apply Kd.R_drewN | apply Kd.R_drew)); exact HO110.out))) (Kd.R_lt (by (with_reducible repeat (first | apply Kd.R_alloc | apply Kd.R_drewN | apply Kd.R_drew)); exact HO113.out))) (below_size (by repeat (first | (with_reducible first | exact HB.out | apply below_alloc | apply pw_below_drewN | apply below_drew1) | exact HB.out)))); have n5_ := Aside0.mk (below_step (by repeat (first | (with_reducible first | exact HB.out | apply below_alloc | apply pw_below_drewN | apply below_drew1) | exact HB.out)) hb); clear HO106; clear HO110; clear HO113; clear HO117; clear HB; have HO106 := n0_; have HO110 := n1_; have HO113 := n2_; have HO117 := n3_; have HO120 := n4_; have HB := n5_; clear n0_ n1_ n2_ n3_ n4_ n5_; (try clear hb); (try clear hb2); (try clear hk); (try clear hi); (try clear ho0); have hcv43 := own_string (P := Try.prog) Try.underlying27 Try.underlying5 Try.underlying9 (Kd.own_of_R HO120.out); have hcv44 := own_string (P := Try.prog) Try.underlying27 Try.underlying5 Try.underlying9 (Kd.own_of_R HO110.out)))
          go_ret
          exact ⟨by first | rfl | (simp [errW_none, errW_some] <;> rfl) | (simp [*, errW_none, errW_some] <;> rfl), by repeat (first | (with_reducible first | exact HB.out | apply below_alloc | apply pw_below_drewN | apply below_drew1) | exact HB.out)⟩
      · rw [if_neg c6] at H
        have c6b0 : (t108 == 0) = false := beq_eq_false_iff_ne.mpr c6
        have c6b1 : (t108 != 0) = true := bne_iff_ne.mpr c6
        obtain rfl := Option.some.inj H
        go_enter Try.func12, Try.ntmps12
        go_wp2_with (first | ((with_reducible refine gate_dst (N := 6) rfl ?_); (try (refine gate_guard (by rfl) ?_; dsimp only)); refine Kd.R_lit (Kd.int .i64) _ 2 ?hg (N := 6) ?hd (xs := ([(-1), 1] : List Int)) (inner := [.int .i64 (-1), .int .i64 1]) (ok := fun _ => True) (okp := fun _ => True) ?hr ?hp (fun _ hk => hk) trivial (Below.refl _ _) (Nat.le_refl _) (by simp) ?_; (case hd => rfl); (case hg => rfl); (case hr => first | (go_simp; done) | (go_simp; rfl)); (case hp => exact (Reps.one (show Kd.M (Kd.int .i64) _ _ _ (-1) [.int .i64 (-1)] from rfl) (Reps.one (show Kd.M (Kd.int .i64) _ _ _ 1 [.int .i64 1] from rfl) (Reps.none _ _)))); intro v105 w45 ho46 hb hg_ hnew_; clear hg_ hnew_; (first | rw [← Ny104.out] at ho46 | (simp only [Int.reduceToNat] at ho46; rw [← Ny104.out] at ho46)); have n0_ := Aside0.mk (Kd.R_lower ho46 (below_size (by repeat (first | (with_reducible first | exact HB.out | apply below_alloc | apply pw_below_drewN | apply below_drew1) | exact HB.out)))); have n1_ := Aside0.mk (below_step (by repeat (first | (with_reducible first | exact HB.out | apply below_alloc | apply pw_below_drewN | apply below_drew1) | exact HB.out)) hb); clear HB; have HO106 := n0_; have HB := n1_; clear n0_ n1_; clear hb ho46; obtain ⟨Ao47, co47, eo47⟩ := Kd.R_slice HO106.out; subst eo47) | ((with_reducible refine gate_callee (f := 27) rfl ?_); refine goesL_ (some 7) rfl rfl Try.func27 (by kernel_rfl) rfl #[.slice Ao47 y104.length co47] rfl (by (try simp only [List.map_toArray, List.map_cons, List.map_nil]); first | done | rfl | (simp only [List.length_drop, List.length_take]; rfl) | exact congrArg (fun x_ : Int => #[Value.int .u64 x_]) (show _ = _ % (18446744073709551616 : Int) by omega)) ?_; (with_reducible refine (code_Nums.calls k _ _ y104 t107 t108 _ ?side1 ?side2 A1.out).mono ?_); (case side1 => repeat (first | exact (Kd.R_reads' HO106.out).2.2 | (with_reducible refine Kd.C_alloc ?_ _) | (with_reducible refine Kd.C_drewN ?_ _) | (with_reducible refine Kd.C_drew ?_))); (case side2 => exact (Kd.R_reads' HO106.out).2.1); rintro e w48 ⟨v109, rfl, ho0, hb⟩; refine ⟨_, rfl, ?_⟩; have n0_ := Aside0.mk (Kd.R_below (by (with_reducible repeat (first | apply Kd.R_alloc | apply Kd.R_drewN | apply Kd.R_drew)); exact HO106.out) hb); have n1_ := Aside0.mk (Kd.R_lower ho0 (below_size (by repeat (first | (with_reducible first | exact HB.out | apply below_alloc | apply pw_below_drewN | apply below_drew1) | exact HB.out)))); have n2_ := Aside0.mk (below_step (by repeat (first | (with_reducible first | exact HB.out | apply below_alloc | apply pw_below_drewN | apply below_drew1) | exact HB.out)) hb); clear HO106; clear HB; have HO106 := n0_; have HO110 := n1_; have HB := n2_; clear n0_ n1_ n2_; (try clear hb); (try clear hb2); (try clear hk); (try clear hi); (try clear ho0)) | ((with_reducible refine gate_dst (N := 11) rfl ?_); (try (refine gate_guard (by rfl) ?_; dsimp only)); refine Kd.R_lit (Kd.int .u8) _ 5 ?hg (N := 11) ?hd (xs := ([2, 1, 2] : List Int)) (inner := [.int .u8 2, .int .u8 1, .int .u8 2]) (ok := fun _ => True) (okp := fun _ => True) ?hr ?hp (fun _ hk => hk) trivial (Below.refl _ _) (Nat.le_refl _) (by simp) ?_; (case hd => rfl); (case hg => rfl); (case hr => first | (go_simp; done) | (go_simp; rfl)); (case hp => exact (Reps.one (show Kd.M (Kd.int .u8) _ _ _ 2 [.int .u8 2] from rfl) (Reps.one (show Kd.M (Kd.int .u8) _ _ _ 1 [.int .u8 1] from rfl) (Reps.one (show Kd.M (Kd.int .u8) _ _ _ 2 [.int .u8 2] from rfl) (Reps.none _ _))))); intro v112 w49 ho50 hb hg_ hnew_; clear hg_ hnew_; (first | rw [← Ny111.out] at ho50 | (simp only [Int.reduceToNat] at ho50; rw [← Ny111.out] at ho50)); have n0_ := Aside0.mk (Kd.R_below (by (with_reducible repeat (first | apply Kd.R_alloc | apply Kd.R_drewN | apply Kd.R_drew)); exact HO106.out) hb); have n1_ := Aside0.mk (Kd.R_elder' (by (with_reducible repeat (first | apply Kd.R_alloc | apply Kd.R_drewN | apply Kd.R_drew)); exact HO110.out) (Kd.R_base ho50) hb); have n2_ := Aside0.mk (Kd.R_lower (Kd.R_new' ho50 (Kd.R_lt (by (with_reducible repeat (first | apply Kd.R_alloc | apply Kd.R_drewN | apply Kd.R_drew)); exact HO110.out))) (below_size (by repeat (first | (with_reducible first | exact HB.out | apply below_alloc | apply pw_below_drewN | apply below_drew1) | exact HB.out)))); have n3_ := Aside0.mk (below_step (by repeat (first | (with_reducible first | exact HB.out | apply below_alloc | apply pw_below_drewN | apply below_drew1) | exact HB.out)) hb); clear HO106; clear HO110; clear HB; have HO106 := n0_; have HO110 := n1_; have HO113 := n2_; have HB := n3_; clear n0_ n1_ n2_ n3_; clear hb ho50; obtain ⟨Ao51, co51, eo51⟩ := Kd.R_slice HO113.out; subst eo51) | ((with_reducible refine gate_callee (f := 32) rfl ?_); refine goesL_ (some 12) rfl rfl Try.func32 (by kernel_rfl) rfl #[.slice Ao51 y111.length co51] rfl (by (try simp only [List.map_toArray, List.map_cons, List.map_nil]); first | done | rfl | (simp only [List.length_drop, List.length_take]; rfl) | exact congrArg (fun x_ : Int => #[Value.int .u64 x_]) (show _ = _ % (18446744073709551616 : Int) by omega)) ?_; (with_reducible refine (code_Unnums.calls k _ _ y111 t114 t115 _ ?side1 ?side2 A2.out).mono ?_); (case side1 => repeat (first | exact (Kd.R_reads' HO113.out).2.2 | (with_reducible refine Kd.C_alloc ?_ _) | (with_reducible refine Kd.C_drewN ?_ _) | (with_reducible refine Kd.C_drew ?_))); (case side2 => exact (Kd.R_reads' HO113.out).2.1); rintro e w52 ⟨v116, rfl, ho0, hb⟩; refine ⟨_, rfl, ?_⟩; have n0_ := Aside0.mk (Kd.R_elder' (by (with_reducible repeat (first | apply Kd.R_alloc | apply Kd.R_drewN | apply Kd.R_drew)); exact HO106.out) (Kd.R_base ho0) hb); have n1_ := Aside0.mk (Kd.R_below (by (with_reducible repeat (first | apply Kd.R_alloc | apply Kd.R_drewN | apply Kd.R_drew)); exact HO110.out) hb); have n2_ := Aside0.mk (Kd.R_below (by (with_reducible repeat (first | apply Kd.R_alloc | apply Kd.R_drewN | apply Kd.R_drew)); exact HO113.out) hb); have n3_ := Aside0.mk (Kd.R_lower (Kd.R_new' ho0 (Kd.R_lt (by (with_reducible repeat (first | apply Kd.R_alloc | apply Kd.R_drewN | apply Kd.R_drew)); exact HO106.out))) (below_size (by repeat (first | (with_reducible first | exact HB.out | apply below_alloc | apply pw_below_drewN | apply below_drew1) | exact HB.out)))); have n4_ := Aside0.mk (below_step (by repeat (first | (with_reducible first | exact HB.out | apply below_alloc | apply pw_below_drewN | apply below_drew1) | exact HB.out)) hb); clear HO106; clear HO110; clear HO113; clear HB; have HO106 := n0_; have HO110 := n1_; have HO113 := n2_; have HO117 := n3_; have HB := n4_; clear n0_ n1_ n2_ n3_ n4_; (try clear hb); (try clear hb2); (try clear hk); (try clear hi); (try clear ho0)) | ((with_reducible refine gate_callee (f := 15) rfl ?_); refine goesL_ (some 15) rfl rfl Try.func15 (by kernel_rfl) rfl #[.int .u64 300] rfl (by (try simp only [List.map_toArray, List.map_cons, List.map_nil]); first | done | rfl | (simp only [List.length_drop, List.length_take]; rfl) | exact congrArg (fun x_ : Int => #[Value.int .u64 x_]) (show _ = _ % (18446744073709551616 : Int) by omega)) ?_; (with_reducible refine (code_Num.calls k 300 t118 _ A3.out).mono ?_); rintro e w53 ⟨v119, rfl, ho0, hb⟩; refine ⟨_, rfl, ?_⟩; have n0_ := Aside0.mk (Kd.R_below (by (with_reducible repeat (first | apply Kd.R_alloc | apply Kd.R_drewN | apply Kd.R_drew)); exact HO106.out) hb); have n1_ := Aside0.mk (Kd.R_elder' (by (with_reducible repeat (first | apply Kd.R_alloc | apply Kd.R_drewN | apply Kd.R_drew)); exact HO110.out) (Kd.R_base ho0) hb); have n2_ := Aside0.mk (Kd.R_elder' (by (with_reducible repeat (first | apply Kd.R_alloc | apply Kd.R_drewN | apply Kd.R_drew)); exact HO113.out) (Kd.R_base ho0) hb); have n3_ := Aside0.mk (Kd.R_below (by (with_reducible repeat (first | apply Kd.R_alloc | apply Kd.R_drewN | apply Kd.R_drew)); exact HO117.out) hb); have n4_ := Aside0.mk (Kd.R_lower (Kd.R_new' (Kd.R_new' ho0 (Kd.R_lt (by (with_reducible repeat (first | apply Kd.R_alloc | apply Kd.R_drewN | apply Kd.R_drew)); exact HO110.out))) (Kd.R_lt (by (with_reducible repeat (first | apply Kd.R_alloc | apply Kd.R_drewN | apply Kd.R_drew)); exact HO113.out))) (below_size (by repeat (first | (with_reducible first | exact HB.out | apply below_alloc | apply pw_below_drewN | apply below_drew1) | exact HB.out)))); have n5_ := Aside0.mk (below_step (by repeat (first | (with_reducible first | exact HB.out | apply below_alloc | apply pw_below_drewN | apply below_drew1) | exact HB.out)) hb); clear HO106; clear HO110; clear HO113; clear HO117; clear HB; have HO106 := n0_; have HO110 := n1_; have HO113 := n2_; have HO117 := n3_; have HO120 := n4_; have HB := n5_; clear n0_ n1_ n2_ n3_ n4_ n5_; (try clear hb); (try clear hb2); (try clear hk); (try clear hi); (try clear ho0); have hcv54 := own_string (P := Try.prog) Try.underlying27 Try.underlying5 Try.underlying9 (Kd.own_of_R HO120.out); have hcv55 := own_string (P := Try.prog) Try.underlying27 Try.underlying5 Try.underlying9 (Kd.own_of_R HO110.out)))
        go_ret
        exact ⟨by first | rfl | (simp [errW_none, errW_some] <;> rfl) | (simp [*, errW_none, errW_some] <;> rfl), by repeat (first | (with_reducible first | exact HB.out | apply below_alloc | apply pw_below_drewN | apply below_drew1) | exact HB.out)⟩
    · rw [if_neg c5] at H
      have c5b0 : ((strOfNums t107).toList == ([2, 1, 2] : List UInt8)) = false := beq_eq_false_iff_ne.mpr c5
      have c5b1 : ((strOfNums t107).toList != ([2, 1, 2] : List UInt8)) = true := bne_iff_ne.mpr c5
      obtain rfl := Option.some.inj H
      go_enter Try.func12, Try.ntmps12
      go_wp2_with (first | ((with_reducible refine gate_dst (N := 6) rfl ?_); (try (refine gate_guard (by rfl) ?_; dsimp only)); refine Kd.R_lit (Kd.int .i64) _ 2 ?hg (N := 6) ?hd (xs := ([(-1), 1] : List Int)) (inner := [.int .i64 (-1), .int .i64 1]) (ok := fun _ => True) (okp := fun _ => True) ?hr ?hp (fun _ hk => hk) trivial (Below.refl _ _) (Nat.le_refl _) (by simp) ?_; (case hd => rfl); (case hg => rfl); (case hr => first | (go_simp; done) | (go_simp; rfl)); (case hp => exact (Reps.one (show Kd.M (Kd.int .i64) _ _ _ (-1) [.int .i64 (-1)] from rfl) (Reps.one (show Kd.M (Kd.int .i64) _ _ _ 1 [.int .i64 1] from rfl) (Reps.none _ _)))); intro v105 w56 ho57 hb hg_ hnew_; clear hg_ hnew_; (first | rw [← Ny104.out] at ho57 | (simp only [Int.reduceToNat] at ho57; rw [← Ny104.out] at ho57)); have n0_ := Aside0.mk (Kd.R_lower ho57 (below_size (by repeat (first | (with_reducible first | exact HB.out | apply below_alloc | apply pw_below_drewN | apply below_drew1) | exact HB.out)))); have n1_ := Aside0.mk (below_step (by repeat (first | (with_reducible first | exact HB.out | apply below_alloc | apply pw_below_drewN | apply below_drew1) | exact HB.out)) hb); clear HB; have HO106 := n0_; have HB := n1_; clear n0_ n1_; clear hb ho57; obtain ⟨Ao58, co58, eo58⟩ := Kd.R_slice HO106.out; subst eo58) | ((with_reducible refine gate_callee (f := 27) rfl ?_); refine goesL_ (some 7) rfl rfl Try.func27 (by kernel_rfl) rfl #[.slice Ao58 y104.length co58] rfl (by (try simp only [List.map_toArray, List.map_cons, List.map_nil]); first | done | rfl | (simp only [List.length_drop, List.length_take]; rfl) | exact congrArg (fun x_ : Int => #[Value.int .u64 x_]) (show _ = _ % (18446744073709551616 : Int) by omega)) ?_; (with_reducible refine (code_Nums.calls k _ _ y104 t107 t108 _ ?side1 ?side2 A1.out).mono ?_); (case side1 => repeat (first | exact (Kd.R_reads' HO106.out).2.2 | (with_reducible refine Kd.C_alloc ?_ _) | (with_reducible refine Kd.C_drewN ?_ _) | (with_reducible refine Kd.C_drew ?_))); (case side2 => exact (Kd.R_reads' HO106.out).2.1); rintro e w59 ⟨v109, rfl, ho0, hb⟩; refine ⟨_, rfl, ?_⟩; have n0_ := Aside0.mk (Kd.R_below (by (with_reducible repeat (first | apply Kd.R_alloc | apply Kd.R_drewN | apply Kd.R_drew)); exact HO106.out) hb); have n1_ := Aside0.mk (Kd.R_lower ho0 (below_size (by repeat (first | (with_reducible first | exact HB.out | apply below_alloc | apply pw_below_drewN | apply below_drew1) | exact HB.out)))); have n2_ := Aside0.mk (below_step (by repeat (first | (with_reducible first | exact HB.out | apply below_alloc | apply pw_below_drewN | apply below_drew1) | exact HB.out)) hb); clear HO106; clear HB; have HO106 := n0_; have HO110 := n1_; have HB := n2_; clear n0_ n1_ n2_; (try clear hb); (try clear hb2); (try clear hk); (try clear hi); (try clear ho0)) | ((with_reducible refine gate_dst (N := 11) rfl ?_); (try (refine gate_guard (by rfl) ?_; dsimp only)); refine Kd.R_lit (Kd.int .u8) _ 5 ?hg (N := 11) ?hd (xs := ([2, 1, 2] : List Int)) (inner := [.int .u8 2, .int .u8 1, .int .u8 2]) (ok := fun _ => True) (okp := fun _ => True) ?hr ?hp (fun _ hk => hk) trivial (Below.refl _ _) (Nat.le_refl _) (by simp) ?_; (case hd => rfl); (case hg => rfl); (case hr => first | (go_simp; done) | (go_simp; rfl)); (case hp => exact (Reps.one (show Kd.M (Kd.int .u8) _ _ _ 2 [.int .u8 2] from rfl) (Reps.one (show Kd.M (Kd.int .u8) _ _ _ 1 [.int .u8 1] from rfl) (Reps.one (show Kd.M (Kd.int .u8) _ _ _ 2 [.int .u8 2] from rfl) (Reps.none _ _))))); intro v112 w60 ho61 hb hg_ hnew_; clear hg_ hnew_; (first | rw [← Ny111.out] at ho61 | (simp only [Int.reduceToNat] at ho61; rw [← Ny111.out] at ho61)); have n0_ := Aside0.mk (Kd.R_below (by (with_reducible repeat (first | apply Kd.R_alloc | apply Kd.R_drewN | apply Kd.R_drew)); exact HO106.out) hb); have n1_ := Aside0.mk (Kd.R_elder' (by (with_reducible repeat (first | apply Kd.R_alloc | apply Kd.R_drewN | apply Kd.R_drew)); exact HO110.out) (Kd.R_base ho61) hb); have n2_ := Aside0.mk (Kd.R_lower (Kd.R_new' ho61 (Kd.R_lt (by (with_reducible repeat (first | apply Kd.R_alloc | apply Kd.R_drewN | apply Kd.R_drew)); exact HO110.out))) (below_size (by repeat (first | (with_reducible first | exact HB.out | apply below_alloc | apply pw_below_drewN | apply below_drew1) | exact HB.out)))); have n3_ := Aside0.mk (below_step (by repeat (first | (with_reducible first | exact HB.out | apply below_alloc | apply pw_below_drewN | apply below_drew1) | exact HB.out)) hb); clear HO106; clear HO110; clear HB; have HO106 := n0_; have HO110 := n1_; have HO113 := n2_; have HB := n3_; clear n0_ n1_ n2_ n3_; clear hb ho61; obtain ⟨Ao62, co62, eo62⟩ := Kd.R_slice HO113.out; subst eo62) | ((with_reducible refine gate_callee (f := 32) rfl ?_); refine goesL_ (some 12) rfl rfl Try.func32 (by kernel_rfl) rfl #[.slice Ao62 y111.length co62] rfl (by (try simp only [List.map_toArray, List.map_cons, List.map_nil]); first | done | rfl | (simp only [List.length_drop, List.length_take]; rfl) | exact congrArg (fun x_ : Int => #[Value.int .u64 x_]) (show _ = _ % (18446744073709551616 : Int) by omega)) ?_; (with_reducible refine (code_Unnums.calls k _ _ y111 t114 t115 _ ?side1 ?side2 A2.out).mono ?_); (case side1 => repeat (first | exact (Kd.R_reads' HO113.out).2.2 | (with_reducible refine Kd.C_alloc ?_ _) | (with_reducible refine Kd.C_drewN ?_ _) | (with_reducible refine Kd.C_drew ?_))); (case side2 => exact (Kd.R_reads' HO113.out).2.1); rintro e w63 ⟨v116, rfl, ho0, hb⟩; refine ⟨_, rfl, ?_⟩; have n0_ := Aside0.mk (Kd.R_elder' (by (with_reducible repeat (first | apply Kd.R_alloc | apply Kd.R_drewN | apply Kd.R_drew)); exact HO106.out) (Kd.R_base ho0) hb); have n1_ := Aside0.mk (Kd.R_below (by (with_reducible repeat (first | apply Kd.R_alloc | apply Kd.R_drewN | apply Kd.R_drew)); exact HO110.out) hb); have n2_ := Aside0.mk (Kd.R_below (by (with_reducible repeat (first | apply Kd.R_alloc | apply Kd.R_drewN | apply Kd.R_drew)); exact HO113.out) hb); have n3_ := Aside0.mk (Kd.R_lower (Kd.R_new' ho0 (Kd.R_lt (by (with_reducible repeat (first | apply Kd.R_alloc | apply Kd.R_drewN | apply Kd.R_drew)); exact HO106.out))) (below_size (by repeat (first | (with_reducible first | exact HB.out | apply below_alloc | apply pw_below_drewN | apply below_drew1) | exact HB.out)))); have n4_ := Aside0.mk (below_step (by repeat (first | (with_reducible first | exact HB.out | apply below_alloc | apply pw_below_drewN | apply below_drew1) | exact HB.out)) hb); clear HO106; clear HO110; clear HO113; clear HB; have HO106 := n0_; have HO110 := n1_; have HO113 := n2_; have HO117 := n3_; have HB := n4_; clear n0_ n1_ n2_ n3_ n4_; (try clear hb); (try clear hb2); (try clear hk); (try clear hi); (try clear ho0)) | ((with_reducible refine gate_callee (f := 15) rfl ?_); refine goesL_ (some 15) rfl rfl Try.func15 (by kernel_rfl) rfl #[.int .u64 300] rfl (by (try simp only [List.map_toArray, List.map_cons, List.map_nil]); first | done | rfl | (simp only [List.length_drop, List.length_take]; rfl) | exact congrArg (fun x_ : Int => #[Value.int .u64 x_]) (show _ = _ % (18446744073709551616 : Int) by omega)) ?_; (with_reducible refine (code_Num.calls k 300 t118 _ A3.out).mono ?_); rintro e w64 ⟨v119, rfl, ho0, hb⟩; refine ⟨_, rfl, ?_⟩; have n0_ := Aside0.mk (Kd.R_below (by (with_reducible repeat (first | apply Kd.R_alloc | apply Kd.R_drewN | apply Kd.R_drew)); exact HO106.out) hb); have n1_ := Aside0.mk (Kd.R_elder' (by (with_reducible repeat (first | apply Kd.R_alloc | apply Kd.R_drewN | apply Kd.R_drew)); exact HO110.out) (Kd.R_base ho0) hb); have n2_ := Aside0.mk (Kd.R_elder' (by (with_reducible repeat (first | apply Kd.R_alloc | apply Kd.R_drewN | apply Kd.R_drew)); exact HO113.out) (Kd.R_base ho0) hb); have n3_ := Aside0.mk (Kd.R_below (by (with_reducible repeat (first | apply Kd.R_alloc | apply Kd.R_drewN | apply Kd.R_drew)); exact HO117.out) hb); have n4_ := Aside0.mk (Kd.R_lower (Kd.R_new' (Kd.R_new' ho0 (Kd.R_lt (by (with_reducible repeat (first | apply Kd.R_alloc | apply Kd.R_drewN | apply Kd.R_drew)); exact HO110.out))) (Kd.R_lt (by (with_reducible repeat (first | apply Kd.R_alloc | apply Kd.R_drewN | apply Kd.R_drew)); exact HO113.out))) (below_size (by repeat (first | (with_reducible first | exact HB.out | apply below_alloc | apply pw_below_drewN | apply below_drew1) | exact HB.out)))); have n5_ := Aside0.mk (below_step (by repeat (first | (with_reducible first | exact HB.out | apply below_alloc | apply pw_below_drewN | apply below_drew1) | exact HB.out)) hb); clear HO106; clear HO110; clear HO113; clear HO117; clear HB; have HO106 := n0_; have HO110 := n1_; have HO113 := n2_; have HO117 := n3_; have HO120 := n4_; have HB := n5_; clear n0_ n1_ n2_ n3_ n4_ n5_; (try clear hb); (try clear hb2); (try clear hk); (try clear hi); (try clear ho0); have hcv65 := own_string (P := Try.prog) Try.underlying27 Try.underlying5 Try.underlying9 (Kd.own_of_R HO120.out); have hcv66 := own_string (P := Try.prog) Try.underlying27 Try.underlying5 Try.underlying9 (Kd.own_of_R HO110.out)))
      go_ret
      exact ⟨by first | rfl | (simp [errW_none, errW_some] <;> rfl) | (simp [*, errW_none, errW_some] <;> rfl), by repeat (first | (with_reducible first | exact HB.out | apply below_alloc | apply pw_below_drewN | apply below_drew1) | exact HB.out)⟩
  · rw [if_neg c4] at H
    have c4b0 : ((strOfNums t118).toList == ([172, 2] : List UInt8)) = false := beq_eq_false_iff_ne.mpr c4
    have c4b1 : ((strOfNums t118).toList != ([172, 2] : List UInt8)) = true := bne_iff_ne.mpr c4
    obtain rfl := Option.some.inj H
    go_enter Try.func12, Try.ntmps12
    go_wp2_with (first | ((with_reducible refine gate_dst (N := 6) rfl ?_); (try (refine gate_guard (by rfl) ?_; dsimp only)); refine Kd.R_lit (Kd.int .i64) _ 2 ?hg (N := 6) ?hd (xs := ([(-1), 1] : List Int)) (inner := [.int .i64 (-1), .int .i64 1]) (ok := fun _ => True) (okp := fun _ => True) ?hr ?hp (fun _ hk => hk) trivial (Below.refl _ _) (Nat.le_refl _) (by simp) ?_; (case hd => rfl); (case hg => rfl); (case hr => first | (go_simp; done) | (go_simp; rfl)); (case hp => exact (Reps.one (show Kd.M (Kd.int .i64) _ _ _ (-1) [.int .i64 (-1)] from rfl) (Reps.one (show Kd.M (Kd.int .i64) _ _ _ 1 [.int .i64 1] from rfl) (Reps.none _ _)))); intro v105 w67 ho68 hb hg_ hnew_; clear hg_ hnew_; (first | rw [← Ny104.out] at ho68 | (simp only [Int.reduceToNat] at ho68; rw [← Ny104.out] at ho68)); have n0_ := Aside0.mk (Kd.R_lower ho68 (below_size (by repeat (first | (with_reducible first | exact HB.out | apply below_alloc | apply pw_below_drewN | apply below_drew1) | exact HB.out)))); have n1_ := Aside0.mk (below_step (by repeat (first | (with_reducible first | exact HB.out | apply below_alloc | apply pw_below_drewN | apply below_drew1) | exact HB.out)) hb); clear HB; have HO106 := n0_; have HB := n1_; clear n0_ n1_; clear hb ho68; obtain ⟨Ao69, co69, eo69⟩ := Kd.R_slice HO106.out; subst eo69) | ((with_reducible refine gate_callee (f := 27) rfl ?_); refine goesL_ (some 7) rfl rfl Try.func27 (by kernel_rfl) rfl #[.slice Ao69 y104.length co69] rfl (by (try simp only [List.map_toArray, List.map_cons, List.map_nil]); first | done | rfl | (simp only [List.length_drop, List.length_take]; rfl) | exact congrArg (fun x_ : Int => #[Value.int .u64 x_]) (show _ = _ % (18446744073709551616 : Int) by omega)) ?_; (with_reducible refine (code_Nums.calls k _ _ y104 t107 t108 _ ?side1 ?side2 A1.out).mono ?_); (case side1 => repeat (first | exact (Kd.R_reads' HO106.out).2.2 | (with_reducible refine Kd.C_alloc ?_ _) | (with_reducible refine Kd.C_drewN ?_ _) | (with_reducible refine Kd.C_drew ?_))); (case side2 => exact (Kd.R_reads' HO106.out).2.1); rintro e w70 ⟨v109, rfl, ho0, hb⟩; refine ⟨_, rfl, ?_⟩; have n0_ := Aside0.mk (Kd.R_below (by (with_reducible repeat (first | apply Kd.R_alloc | apply Kd.R_drewN | apply Kd.R_drew)); exact HO106.out) hb); have n1_ := Aside0.mk (Kd.R_lower ho0 (below_size (by repeat (first | (with_reducible first | exact HB.out | apply below_alloc | apply pw_below_drewN | apply below_drew1) | exact HB.out)))); have n2_ := Aside0.mk (below_step (by repeat (first | (with_reducible first | exact HB.out | apply below_alloc | apply pw_below_drewN | apply below_drew1) | exact HB.out)) hb); clear HO106; clear HB; have HO106 := n0_; have HO110 := n1_; have HB := n2_; clear n0_ n1_ n2_; (try clear hb); (try clear hb2); (try clear hk); (try clear hi); (try clear ho0)) | ((with_reducible refine gate_dst (N := 11) rfl ?_); (try (refine gate_guard (by rfl) ?_; dsimp only)); refine Kd.R_lit (Kd.int .u8) _ 5 ?hg (N := 11) ?hd (xs := ([2, 1, 2] : List Int)) (inner := [.int .u8 2, .int .u8 1, .int .u8 2]) (ok := fun _ => True) (okp := fun _ => True) ?hr ?hp (fun _ hk => hk) trivial (Below.refl _ _) (Nat.le_refl _) (by simp) ?_; (case hd => rfl); (case hg => rfl); (case hr => first | (go_simp; done) | (go_simp; rfl)); (case hp => exact (Reps.one (show Kd.M (Kd.int .u8) _ _ _ 2 [.int .u8 2] from rfl) (Reps.one (show Kd.M (Kd.int .u8) _ _ _ 1 [.int .u8 1] from rfl) (Reps.one (show Kd.M (Kd.int .u8) _ _ _ 2 [.int .u8 2] from rfl) (Reps.none _ _))))); intro v112 w71 ho72 hb hg_ hnew_; clear hg_ hnew_; (first | rw [← Ny111.out] at ho72 | (simp only [Int.reduceToNat] at ho72; rw [← Ny111.out] at ho72)); have n0_ := Aside0.mk (Kd.R_below (by (with_reducible repeat (first | apply Kd.R_alloc | apply Kd.R_drewN | apply Kd.R_drew)); exact HO106.out) hb); have n1_ := Aside0.mk (Kd.R_elder' (by (with_reducible repeat (first | apply Kd.R_alloc | apply Kd.R_drewN | apply Kd.R_drew)); exact HO110.out) (Kd.R_base ho72) hb); have n2_ := Aside0.mk (Kd.R_lower (Kd.R_new' ho72 (Kd.R_lt (by (with_reducible repeat (first | apply Kd.R_alloc | apply Kd.R_drewN | apply Kd.R_drew)); exact HO110.out))) (below_size (by repeat (first | (with_reducible first | exact HB.out | apply below_alloc | apply pw_below_drewN | apply below_drew1) | exact HB.out)))); have n3_ := Aside0.mk (below_step (by repeat (first | (with_reducible first | exact HB.out | apply below_alloc | apply pw_below_drewN | apply below_drew1) | exact HB.out)) hb); clear HO106; clear HO110; clear HB; have HO106 := n0_; have HO110 := n1_; have HO113 := n2_; have HB := n3_; clear n0_ n1_ n2_ n3_; clear hb ho72; obtain ⟨Ao73, co73, eo73⟩ := Kd.R_slice HO113.out; subst eo73) | ((with_reducible refine gate_callee (f := 32) rfl ?_); refine goesL_ (some 12) rfl rfl Try.func32 (by kernel_rfl) rfl #[.slice Ao73 y111.length co73] rfl (by (try simp only [List.map_toArray, List.map_cons, List.map_nil]); first | done | rfl | (simp only [List.length_drop, List.length_take]; rfl) | exact congrArg (fun x_ : Int => #[Value.int .u64 x_]) (show _ = _ % (18446744073709551616 : Int) by omega)) ?_; (with_reducible refine (code_Unnums.calls k _ _ y111 t114 t115 _ ?side1 ?side2 A2.out).mono ?_); (case side1 => repeat (first | exact (Kd.R_reads' HO113.out).2.2 | (with_reducible refine Kd.C_alloc ?_ _) | (with_reducible refine Kd.C_drewN ?_ _) | (with_reducible refine Kd.C_drew ?_))); (case side2 => exact (Kd.R_reads' HO113.out).2.1); rintro e w74 ⟨v116, rfl, ho0, hb⟩; refine ⟨_, rfl, ?_⟩; have n0_ := Aside0.mk (Kd.R_elder' (by (with_reducible repeat (first | apply Kd.R_alloc | apply Kd.R_drewN | apply Kd.R_drew)); exact HO106.out) (Kd.R_base ho0) hb); have n1_ := Aside0.mk (Kd.R_below (by (with_reducible repeat (first | apply Kd.R_alloc | apply Kd.R_drewN | apply Kd.R_drew)); exact HO110.out) hb); have n2_ := Aside0.mk (Kd.R_below (by (with_reducible repeat (first | apply Kd.R_alloc | apply Kd.R_drewN | apply Kd.R_drew)); exact HO113.out) hb); have n3_ := Aside0.mk (Kd.R_lower (Kd.R_new' ho0 (Kd.R_lt (by (with_reducible repeat (first | apply Kd.R_alloc | apply Kd.R_drewN | apply Kd.R_drew)); exact HO106.out))) (below_size (by repeat (first | (with_reducible first | exact HB.out | apply below_alloc | apply pw_below_drewN | apply below_drew1) | exact HB.out)))); have n4_ := Aside0.mk (below_step (by repeat (first | (with_reducible first | exact HB.out | apply below_alloc | apply pw_below_drewN | apply below_drew1) | exact HB.out)) hb); clear HO106; clear HO110; clear HO113; clear HB; have HO106 := n0_; have HO110 := n1_; have HO113 := n2_; have HO117 := n3_; have HB := n4_; clear n0_ n1_ n2_ n3_ n4_; (try clear hb); (try clear hb2); (try clear hk); (try clear hi); (try clear ho0)) | ((with_reducible refine gate_callee (f := 15) rfl ?_); refine goesL_ (some 15) rfl rfl Try.func15 (by kernel_rfl) rfl #[.int .u64 300] rfl (by (try simp only [List.map_toArray, List.map_cons, List.map_nil]); first | done | rfl | (simp only [List.length_drop, List.length_take]; rfl) | exact congrArg (fun x_ : Int => #[Value.int .u64 x_]) (show _ = _ % (18446744073709551616 : Int) by omega)) ?_; (with_reducible refine (code_Num.calls k 300 t118 _ A3.out).mono ?_); rintro e w75 ⟨v119, rfl, ho0, hb⟩; refine ⟨_, rfl, ?_⟩; have n0_ := Aside0.mk (Kd.R_below (by (with_reducible repeat (first | apply Kd.R_alloc | apply Kd.R_drewN | apply Kd.R_drew)); exact HO106.out) hb); have n1_ := Aside0.mk (Kd.R_elder' (by (with_reducible repeat (first | apply Kd.R_alloc | apply Kd.R_drewN | apply Kd.R_drew)); exact HO110.out) (Kd.R_base ho0) hb); have n2_ := Aside0.mk (Kd.R_elder' (by (with_reducible repeat (first | apply Kd.R_alloc | apply Kd.R_drewN | apply Kd.R_drew)); exact HO113.out) (Kd.R_base ho0) hb); have n3_ := Aside0.mk (Kd.R_below (by (with_reducible repeat (first | apply Kd.R_alloc | apply Kd.R_drewN | apply Kd.R_drew)); exact HO117.out) hb); have n4_ := Aside0.mk (Kd.R_lower (Kd.R_new' (Kd.R_new' ho0 (Kd.R_lt (by (with_reducible repeat (first | apply Kd.R_alloc | apply Kd.R_drewN | apply Kd.R_drew)); exact HO110.out))) (Kd.R_lt (by (with_reducible repeat (first | apply Kd.R_alloc | apply Kd.R_drewN | apply Kd.R_drew)); exact HO113.out))) (below_size (by repeat (first | (with_reducible first | exact HB.out | apply below_alloc | apply pw_below_drewN | apply below_drew1) | exact HB.out)))); have n5_ := Aside0.mk (below_step (by repeat (first | (with_reducible first | exact HB.out | apply below_alloc | apply pw_below_drewN | apply below_drew1) | exact HB.out)) hb); clear HO106; clear HO110; clear HO113; clear HO117; clear HB; have HO106 := n0_; have HO110 := n1_; have HO113 := n2_; have HO117 := n3_; have HO120 := n4_; have HB := n5_; clear n0_ n1_ n2_ n3_ n4_ n5_; (try clear hb); (try clear hb2); (try clear hk); (try clear hi); (try clear ho0); have hcv76 := own_string (P := Try.prog) Try.underlying27 Try.underlying5 Try.underlying9 (Kd.own_of_R HO120.out)))
    go_ret
    exact ⟨by first | rfl | (simp [errW_none, errW_some] <;> rfl) | (simp [*, errW_none, errW_some] <;> rfl), by repeat (first | (with_reducible first | exact HB.out | apply below_alloc | apply pw_below_drewN | apply below_drew1) | exact HB.out)⟩

end Go.Proofs.Ytgihecpobichbaa.Q
-- Written by a program of the session over the translation's print: functions as plain Lean, and that the machine's call comes to them.
namespace Go.Proofs.Ytgihecpobichbaa.Q
open Go.RowKit Go.Proofs.YtgihecpobichbaaW.PrintWords Go.Proofs.YtgihecpobichbaaW.PrintLast Go.Proofs.YtgihecpobichbaaW.PrintMore
attribute [local go_sem] max2_int min2_int max_two min_two max_three min_three max_four min_four   -- for this text's walks alone
set_option linter.unusedVariables false
set_option linter.unusedSimpArgs false

/-! ### headgateref04_Unword: function 95 -/
/-! ### headgateref03_Check: function 109 -/
end Go.Proofs.Ytgihecpobichbaa.Q
-- Written by a program of the session over the translation's print: functions as plain Lean, and that the machine's call comes to them.
namespace Go.Proofs.Ytgihecpobichbaa.Q
open Go.RowKit Go.Proofs.YtgihecpobichbaaW.PrintWords Go.Proofs.YtgihecpobichbaaW.PrintLast Go.Proofs.YtgihecpobichbaaW.PrintMore
attribute [local go_sem] max2_int min2_int max_two min_two max_three min_three max_four min_four   -- for this text's walks alone
set_option linter.unusedVariables false
set_option linter.unusedSimpArgs false

/-! ### headgateref04_Unvalue: function 94 -/
/-! ### headgateref04_Unrows: function 33 -/
end Go.Proofs.Ytgihecpobichbaa.Q
-- Written by a program of the session over the translation's print: functions as plain Lean, and that the machine's call comes to them.
namespace Go.Proofs.Ytgihecpobichbaa.Q
open Go.RowKit Go.Proofs.YtgihecpobichbaaW.PrintWords Go.Proofs.YtgihecpobichbaaW.PrintLast Go.Proofs.YtgihecpobichbaaW.PrintMore
attribute [local go_sem] max2_int min2_int max_two min_two max_three min_three max_four min_four   -- for this text's walks alone
set_option linter.unusedVariables false
set_option linter.unusedSimpArgs false

attribute [local go_sem high] eqA116
/-! ### headgateref03_Cmp: function 119 -/
def headgateref03_Cmp.j0 : Nat → Bool → Int → Int → ByteArray → Int → Int → ByteArray → Option (Int)
  | 0, _, _, _, _, _, _, _ => none
  | k + 1, x37, x130000, x130001, x130002, x131000, x131001, x131002 => if x37 = true then (some (-1)) else (if (x130000 == x131000 && (x130001 == x131001 && (x130002.toList == x131002.toList))) = true then (some 0) else (some 1))
def headgateref03_Cmp.f (k : Nat) (a0_0 : Int) (a0_1 : Int) (a0_2 : ByteArray) (a1_0 : Int) (a1_1 : Int) (a1_2 : ByteArray) : Option (Int) := if a0_0 < a1_0 then (headgateref03_Cmp.j0 k true a0_0 a0_1 a0_2 a1_0 a1_1 a1_2) else (if a0_0 = a1_0 then (if a0_1 < a1_1 then (headgateref03_Cmp.j0 k true a0_0 a0_1 a0_2 a1_0 a1_1 a1_2) else (if a0_1 = a1_1 then (headgateref03_Cmp.j0 k (Op.bytesLess a0_2.toList a1_2.toList) a0_0 a0_1 a0_2 a1_0 a1_1 a1_2) else (headgateref03_Cmp.j0 k false a0_0 a0_1 a0_2 a1_0 a1_1 a1_2))) else (headgateref03_Cmp.j0 k false a0_0 a0_1 a0_2 a1_0 a1_1 a1_2))
set_option maxHeartbeats 8000000 in
set_option maxRecDepth 100000 in
theorem headgateref03_Cmp.calls (k : Nat) (a0_0 : Int) (a0_1 : Int) (a0_2 : ByteArray) (a1_0 : Int) (a1_1 : Int) (a1_2 : ByteArray) (r : Int) (w : World) (h : headgateref03_Cmp.f k a0_0 a0_1 a0_2 a1_0 a1_1 a1_2 = some r) :
    Calls Try.prog 119 #[.agg #[.int .i64 a0_0, .int .i64 a0_1, .string a0_2], .agg #[.int .i64 a1_0, .int .i64 a1_1, .string a1_2]] w fun e w' => e = .returned (.int .i64 r) ∧ Below w.heap.size w w' := by
  have hu116 := Try.underlying116
  have HB := Aside0.mk (Below.refl w.heap.size w)
  have H : (if a0_0 < a1_0 then (headgateref03_Cmp.j0 k true a0_0 a0_1 a0_2 a1_0 a1_1 a1_2) else (if a0_0 = a1_0 then (if a0_1 < a1_1 then (headgateref03_Cmp.j0 k true a0_0 a0_1 a0_2 a1_0 a1_1 a1_2) else (if a0_1 = a1_1 then (headgateref03_Cmp.j0 k (Op.bytesLess a0_2.toList a1_2.toList) a0_0 a0_1 a0_2 a1_0 a1_1 a1_2) else (headgateref03_Cmp.j0 k false a0_0 a0_1 a0_2 a1_0 a1_1 a1_2))) else (headgateref03_Cmp.j0 k false a0_0 a0_1 a0_2 a1_0 a1_1 a1_2))) = some r := h
  clear h
  have HC3 := Aside0.mk H
  clear H
  go_enter Try.func119, Try.ntmps119
  go_upto_region 1 with (first | ((with_reducible refine gate_dst (N := 2) rfl ?_); refine box_event ?hg (N := 2) ?hd (cs := #[.int .i64 a0_0, .int .i64 a0_1, .string a0_2]) (t := 116) ?hr ?_; (case hd => rfl); (case hg => rfl); (case hr => first | (go_simp; done) | (go_simp; rfl)); intro gb129 hg w4 hbox hb; have n0_ := Aside0.mk (below_step (by repeat (first | (with_reducible first | exact HB.out | apply below_alloc | apply pw_below_drewN | apply below_drew1) | exact HB.out)) hb); have n1_ := Aside0.mk (hbox); have n2_ := Aside0.mk ((by rw [hg]; exact (below_size (by repeat (first | (with_reducible first | exact HB.out | apply below_alloc | apply pw_below_drewN | apply below_drew1) | exact HB.out))) : w.heap.size ≤ gb129)); have n3_ := Aside0.mk ((by rw [hg]; exact (below_size (by repeat (first | (with_reducible first | exact HB.out | apply below_alloc | apply pw_below_drewN | apply below_drew1) | exact HB.out))) : w.heap.size ≤ gb129)); clear HB; have HB := n0_; have BK129 := n1_; have GW129 := n2_; have GE129 := n3_; clear n0_ n1_ n2_ n3_; clear hb hbox hg) | ((with_reducible refine gate_dst (N := 3) rfl ?_); refine box_event ?hg (N := 3) ?hd (cs := #[.int .i64 a1_0, .int .i64 a1_1, .string a1_2]) (t := 116) ?hr ?_; (case hd => rfl); (case hg => rfl); (case hr => first | (go_simp; done) | (go_simp; rfl)); intro gb130 hg w5 hbox hb; have n0_ := Aside0.mk (blk_below (g := gb129) (o := .cells #[.int .i64 a0_0, .int .i64 a0_1, .string a0_2] 116 (0, 0)) (by (with_reducible repeat (first | refine blk_drewN ?_ _ | refine blk_drew ?_ | refine blk_alloc ?_ _)); exact BK129.out) hb); have n1_ := Aside0.mk (below_step (by repeat (first | (with_reducible first | exact HB.out | apply below_alloc | apply pw_below_drewN | apply below_drew1 | refine below_set ?_ GE129.out) | exact HB.out)) hb); have n2_ := Aside0.mk (hbox); have n3_ := Aside0.mk ((by rw [hg]; exact (below_size (by repeat (first | (with_reducible first | exact HB.out | apply below_alloc | apply pw_below_drewN | apply below_drew1 | refine below_set ?_ GE129.out) | exact HB.out))) : w.heap.size ≤ gb130)); have n4_ := Aside0.mk ((by rw [hg]; exact (below_size (by repeat (first | (with_reducible first | exact HB.out | apply below_alloc | apply pw_below_drewN | apply below_drew1 | refine below_set ?_ GE129.out) | exact HB.out))) : w.heap.size ≤ gb130)); have n5_ := Aside0.mk ((by rw [hg]; exact Nat.ne_of_lt (blk_lt (g := gb129) (o := .cells #[.int .i64 a0_0, .int .i64 a0_1, .string a0_2] 116 (0, 0)) (by (with_reducible repeat (first | refine blk_drewN ?_ _ | refine blk_drew ?_ | refine blk_alloc ?_ _)); exact BK129.out)) : gb129 ≠ gb130)); have n6_ := Aside0.mk ((by rw [hg]; exact Nat.ne_of_gt (blk_lt (g := gb129) (o := .cells #[.int .i64 a0_0, .int .i64 a0_1, .string a0_2] 116 (0, 0)) (by (with_reducible repeat (first | refine blk_drewN ?_ _ | refine blk_drew ?_ | refine blk_alloc ?_ _)); exact BK129.out)) : gb130 ≠ gb129)); clear BK129; clear HB; have BK129 := n0_; have HB := n1_; have BK130 := n2_; have GW130 := n3_; have GE130 := n4_; have NB129_130 := n5_; have NB130_129 := n6_; clear n0_ n1_ n2_ n3_ n4_ n5_ n6_; clear hb hbox hg))
  (try simp only [Act.put, List.setIfInBounds_toArray, List.set_cons_zero, List.set_cons_succ])
  go_cut [37] (fun v37 wc => ∃ (kq : Nat) (x37_2 : Bool), v37 = .bool x37_2 ∧ Aside0 (headgateref03_Cmp.j0 kq x37_2 a0_0 a0_1 a0_2 a1_0 a1_1 a1_2 = some r) ∧ Aside0 (kq ≤ k) ∧ Aside0 (wc.heap[gb129]? = some (.cells #[.int .i64 a0_0, .int .i64 a0_1, .string a0_2] 116 (0, 0))) ∧ Aside0 (wc.heap[gb130]? = some (.cells #[.int .i64 a1_0, .int .i64 a1_1, .string a1_2] 116 (0, 0))) ∧ Aside0 (Below w.heap.size w wc))
  case first =>
    have H := HC3.out
    clear HC3
    by_cases c6 : a0_0 < a1_0
    · rw [if_pos c6] at H
      have c6b0 : decide (a0_0 < a1_0) = true := decide_eq_true c6
      clear c6
      (first | rw [c6b0] | (simp only [i64_w, i32_w]; rw [c6b0]) | skip)
      have H' := Aside0.mk H
      clear H
      have hnb7 := NB129_130.out
      have hnc7 := NB130_129.out
      obtain ⟨hcz8_0, hcz8_1, hcz8_2, hfz8_0, hfz8_1, hfz8_2⟩ := bf3 BK129.out
      obtain ⟨hcz9_0, hcz9_1, hcz9_2, hfz9_0, hfz9_1, hfz9_2⟩ := bf3 BK130.out
      go_wp2
      go_meet
      case rel => exact ⟨_, (true), (by first | rfl | (simp; done) | (simp [*]; done) | (simp; rw [Bool.eq_iff_iff]; simp; done)), H', ⟨by first | omega | exact Nat.le_refl _⟩, ⟨by (with_reducible repeat (first | refine blk_drewN ?_ _ | refine blk_drew ?_ | refine blk_alloc ?_ _)); exact BK129.out⟩, ⟨by (with_reducible repeat (first | refine blk_drewN ?_ _ | refine blk_drew ?_ | refine blk_alloc ?_ _)); exact BK130.out⟩, ⟨by repeat (first | (with_reducible first | exact HB.out | apply below_alloc | apply pw_below_drewN | apply below_drew1 | refine below_set ?_ GE129.out | refine below_set ?_ GE130.out) | exact HB.out)⟩⟩
    · rw [if_neg c6] at H
      have c6b0 : decide (a0_0 < a1_0) = false := decide_eq_false c6
      clear c6
      (first | rw [c6b0] | (simp only [i64_w, i32_w]; rw [c6b0]) | skip)
      by_cases c10 : a0_0 = a1_0
      · rw [if_pos c10] at H
        have c10b0 : (a0_0 == a1_0) = true := beq_iff_eq.mpr c10
        have c10b1 : (a0_0 != a1_0) = false := bne_eq_false_iff_eq.mpr c10
        clear c10
        by_cases c11 : a0_1 < a1_1
        · rw [if_pos c11] at H
          have c11b0 : decide (a0_1 < a1_1) = true := decide_eq_true c11
          clear c11
          have H' := Aside0.mk H
          clear H
          have hnb12 := NB129_130.out
          have hnc12 := NB130_129.out
          obtain ⟨hcz13_0, hcz13_1, hcz13_2, hfz13_0, hfz13_1, hfz13_2⟩ := bf3 BK129.out
          obtain ⟨hcz14_0, hcz14_1, hcz14_2, hfz14_0, hfz14_1, hfz14_2⟩ := bf3 BK130.out
          go_wp2
          go_meet
          case rel => exact ⟨_, (true), (by first | rfl | (simp; done) | (simp [*]; done) | (simp; rw [Bool.eq_iff_iff]; simp; done)), H', ⟨by first | omega | exact Nat.le_refl _⟩, ⟨by (with_reducible repeat (first | refine blk_drewN ?_ _ | refine blk_drew ?_ | refine blk_alloc ?_ _)); exact BK129.out⟩, ⟨by (with_reducible repeat (first | refine blk_drewN ?_ _ | refine blk_drew ?_ | refine blk_alloc ?_ _)); exact BK130.out⟩, ⟨by repeat (first | (with_reducible first | exact HB.out | apply below_alloc | apply pw_below_drewN | apply below_drew1 | refine below_set ?_ GE129.out | refine below_set ?_ GE130.out) | exact HB.out)⟩⟩
        · rw [if_neg c11] at H
          have c11b0 : decide (a0_1 < a1_1) = false := decide_eq_false c11
          clear c11
          by_cases c15 : a0_1 = a1_1
          · rw [if_pos c15] at H
            have c15b0 : (a0_1 == a1_1) = true := beq_iff_eq.mpr c15
            have c15b1 : (a0_1 != a1_1) = false := bne_eq_false_iff_eq.mpr c15
            clear c15
            have H' := Aside0.mk H
            clear H
            have hnb16 := NB129_130.out
            have hnc16 := NB130_129.out
            obtain ⟨hcz17_0, hcz17_1, hcz17_2, hfz17_0, hfz17_1, hfz17_2⟩ := bf3 BK129.out
            obtain ⟨hcz18_0, hcz18_1, hcz18_2, hfz18_0, hfz18_1, hfz18_2⟩ := bf3 BK130.out
            go_wp2
            go_meet
            case rel => exact ⟨_, ((Op.bytesLess a0_2.toList a1_2.toList)), (by first | rfl | (simp; done) | (simp [*]; done) | (simp; rw [Bool.eq_iff_iff]; simp; done)), H', ⟨by first | omega | exact Nat.le_refl _⟩, ⟨by (with_reducible repeat (first | refine blk_drewN ?_ _ | refine blk_drew ?_ | refine blk_alloc ?_ _)); exact BK129.out⟩, ⟨by (with_reducible repeat (first | refine blk_drewN ?_ _ | refine blk_drew ?_ | refine blk_alloc ?_ _)); exact BK130.out⟩, ⟨by repeat (first | (with_reducible first | exact HB.out | apply below_alloc | apply pw_below_drewN | apply below_drew1 | refine below_set ?_ GE129.out | refine below_set ?_ GE130.out) | exact HB.out)⟩⟩
          · rw [if_neg c15] at H
            have c15b0 : (a0_1 == a1_1) = false := beq_eq_false_iff_ne.mpr c15
            have c15b1 : (a0_1 != a1_1) = true := bne_iff_ne.mpr c15
            have H' := Aside0.mk H
            clear H
            have hnb19 := NB129_130.out
            have hnc19 := NB130_129.out
            obtain ⟨hcz20_0, hcz20_1, hcz20_2, hfz20_0, hfz20_1, hfz20_2⟩ := bf3 BK129.out
            obtain ⟨hcz21_0, hcz21_1, hcz21_2, hfz21_0, hfz21_1, hfz21_2⟩ := bf3 BK130.out
            go_wp2
            go_meet
            case rel => exact ⟨_, (false), (by first | rfl | (simp; done) | (simp [*]; done) | (simp; rw [Bool.eq_iff_iff]; simp; done)), H', ⟨by first | omega | exact Nat.le_refl _⟩, ⟨by (with_reducible repeat (first | refine blk_drewN ?_ _ | refine blk_drew ?_ | refine blk_alloc ?_ _)); exact BK129.out⟩, ⟨by (with_reducible repeat (first | refine blk_drewN ?_ _ | refine blk_drew ?_ | refine blk_alloc ?_ _)); exact BK130.out⟩, ⟨by repeat (first | (with_reducible first | exact HB.out | apply below_alloc | apply pw_below_drewN | apply below_drew1 | refine below_set ?_ GE129.out | refine below_set ?_ GE130.out) | exact HB.out)⟩⟩
      · rw [if_neg c10] at H
        have c10b0 : (a0_0 == a1_0) = false := beq_eq_false_iff_ne.mpr c10
        have c10b1 : (a0_0 != a1_0) = true := bne_iff_ne.mpr c10
        have H' := Aside0.mk H
        clear H
        have hnb22 := NB129_130.out
        have hnc22 := NB130_129.out
        obtain ⟨hcz23_0, hcz23_1, hcz23_2, hfz23_0, hfz23_1, hfz23_2⟩ := bf3 BK129.out
        obtain ⟨hcz24_0, hcz24_1, hcz24_2, hfz24_0, hfz24_1, hfz24_2⟩ := bf3 BK130.out
        go_wp2
        go_meet
        case rel => exact ⟨_, (false), (by first | rfl | (simp; done) | (simp [*]; done) | (simp; rw [Bool.eq_iff_iff]; simp; done)), H', ⟨by first | omega | exact Nat.le_refl _⟩, ⟨by (with_reducible repeat (first | refine blk_drewN ?_ _ | refine blk_drew ?_ | refine blk_alloc ?_ _)); exact BK129.out⟩, ⟨by (with_reducible repeat (first | refine blk_drewN ?_ _ | refine blk_drew ?_ | refine blk_alloc ?_ _)); exact BK130.out⟩, ⟨by repeat (first | (with_reducible first | exact HB.out | apply below_alloc | apply pw_below_drewN | apply below_drew1 | refine below_set ?_ GE129.out | refine below_set ?_ GE130.out) | exact HB.out)⟩⟩
  case rest =>
    clear HC3
    try clear c1
    try clear c2
    try clear p2
    try clear c6
    try clear c6b0
    try clear c7
    try clear c10
    try clear c10b0
    try clear c10b1
    try clear c11
    try clear c11b0
    try clear c12
    try clear c15
    try clear c15b0
    try clear c15b1
    try clear c16
    try clear c19
    try clear c22
    try clear hcz13_0
    try clear hcz13_1
    try clear hcz13_2
    try clear hcz14_0
    try clear hcz14_1
    try clear hcz14_2
    try clear hcz17_0
    try clear hcz17_1
    try clear hcz17_2
    try clear hcz18_0
    try clear hcz18_1
    try clear hcz18_2
    try clear hcz20_0
    try clear hcz20_1
    try clear hcz20_2
    try clear hcz21_0
    try clear hcz21_1
    try clear hcz21_2
    try clear hcz23_0
    try clear hcz23_1
    try clear hcz23_2
    try clear hcz24_0
    try clear hcz24_1
    try clear hcz24_2
    try clear hcz8_0
    try clear hcz8_1
    try clear hcz8_2
    try clear hcz9_0
    try clear hcz9_1
    try clear hcz9_2
    try clear hfz13_0
    try clear hfz13_1
    try clear hfz13_2
    try clear hfz14_0
    try clear hfz14_1
    try clear hfz14_2
    try clear hfz17_0
    try clear hfz17_1
    try clear hfz17_2
    try clear hfz18_0
    try clear hfz18_1
    try clear hfz18_2
    try clear hfz20_0
    try clear hfz20_1
    try clear hfz20_2
    try clear hfz21_0
    try clear hfz21_1
    try clear hfz21_2
    try clear hfz23_0
    try clear hfz23_1
    try clear hfz23_2
    try clear hfz24_0
    try clear hfz24_1
    try clear hfz24_2
    try clear hfz8_0
    try clear hfz8_1
    try clear hfz8_2
    try clear hfz9_0
    try clear hfz9_1
    try clear hfz9_2
    obtain ⟨kq, x37_2, rfl, HA, HJ2, BK129, BK130, HB⟩ := hcut
    cases kq with
    | zero => exact absurd HA.out (by simp [headgateref03_Cmp.j0])
    | succ kj2 =>
      have H := HA.out
      clear HA
      simp only [headgateref03_Cmp.j0] at H
      by_cases c25 : x37_2 = true
      · subst c25
        have H1 : (some (-1)) = some r := by rw [if_pos rfl] at H; exact H
        clear H
        have H := H1
        clear H1
        obtain rfl := Option.some.inj H
        go_wp2
        go_ret
        exact ⟨by first | rfl | (simp [errW_none, errW_some] <;> rfl) | (simp [*, errW_none, errW_some] <;> rfl), by repeat (first | (with_reducible first | exact HB.out | apply below_alloc | apply pw_below_drewN | apply below_drew1 | refine below_set ?_ GE129.out | refine below_set ?_ GE130.out) | exact HB.out)⟩
      · replace c25 := Bool.eq_false_iff.mpr c25
        subst c25
        have H1 : (if (a0_0 == a1_0 && (a0_1 == a1_1 && (a0_2.toList == a1_2.toList))) = true then (some 0) else (some 1)) = some r := by rw [if_neg (show ¬ (false = true) by decide)] at H; exact H
        clear H
        have H := H1
        clear H1
        by_cases c26 : (a0_0 == a1_0 && (a0_1 == a1_1 && (a0_2.toList == a1_2.toList))) = true
        · rw [if_pos c26] at H
          have c26b0 : (a0_0 == a1_0 && (a0_1 == a1_1 && (a0_2.toList == a1_2.toList))) = true := c26
          (try (have c26b1 : decide (a0_0 = a1_0 && (a0_1 == a1_1 && (a0_2.toList == a1_2.toList))) = true := by simpa using c26))
          (try (have c26b2 : (a0_0 == a1_0 && (a0_1 == a1_1 && (a0_2.toList == a1_2.toList))) = true := by simpa using c26))
          clear c26
          obtain rfl := Option.some.inj H
          have hnb27 := NB129_130.out
          have hnc27 := NB130_129.out
          obtain ⟨hcz28_0, hcz28_1, hcz28_2, hfz28_0, hfz28_1, hfz28_2⟩ := bf3 BK129.out
          obtain ⟨hcz29_0, hcz29_1, hcz29_2, hfz29_0, hfz29_1, hfz29_2⟩ := bf3 BK130.out
          go_wp2
          go_ret
          exact ⟨by first | rfl | (simp [errW_none, errW_some] <;> rfl) | (simp [*, errW_none, errW_some] <;> rfl), by repeat (first | (with_reducible first | exact HB.out | apply below_alloc | apply pw_below_drewN | apply below_drew1 | refine below_set ?_ GE129.out | refine below_set ?_ GE130.out) | exact HB.out)⟩
        · rw [if_neg c26] at H
          have c26b0 : (a0_0 == a1_0 && (a0_1 == a1_1 && (a0_2.toList == a1_2.toList))) = false := by simpa using c26
          (try (have c26b1 : decide (a0_0 = a1_0 && (a0_1 == a1_1 && (a0_2.toList == a1_2.toList))) = false := by simpa using c26))
          (try (have c26b2 : (a0_0 == a1_0 && (a0_1 == a1_1 && (a0_2.toList == a1_2.toList))) = false := by simpa using c26))
          (try (have c26b3 : ¬ (a0_0 = a1_0 && (a0_1 == a1_1 && (a0_2.toList == a1_2.toList))) := by simpa using c26))
          clear c26
          obtain rfl := Option.some.inj H
          have hnb30 := NB129_130.out
          have hnc30 := NB130_129.out
          obtain ⟨hcz31_0, hcz31_1, hcz31_2, hfz31_0, hfz31_1, hfz31_2⟩ := bf3 BK129.out
          obtain ⟨hcz32_0, hcz32_1, hcz32_2, hfz32_0, hfz32_1, hfz32_2⟩ := bf3 BK130.out
          go_wp2
          go_ret
          exact ⟨by first | rfl | (simp [errW_none, errW_some] <;> rfl) | (simp [*, errW_none, errW_some] <;> rfl), by repeat (first | (with_reducible first | exact HB.out | apply below_alloc | apply pw_below_drewN | apply below_drew1 | refine below_set ?_ GE129.out | refine below_set ?_ GE130.out) | exact HB.out)⟩

/-! ### headgateref03_CmpRow: function 116 -/
def headgateref03_CmpRow.l0 : Nat → List (S116) → List (S116) → Int → Option (Int)
  | 0, _, _, _ => none
  | k + 1, x0, x1, x5 => if x5 < (x0.length : Int) then (if x5 ≥ (x1.length : Int) then (some 1) else (if 0 ≤ x5 then (if x5 < (x1.length : Int) then ((headgateref03_Cmp.f k ((rd_T116 x0 x5).f0) ((rd_T116 x0 x5).f1) ((rd_T116 x0 x5).f2) ((rd_T116 x1 x5).f0) ((rd_T116 x1 x5).f1) ((rd_T116 x1 x5).f2)).bind fun t133 => (if t133 = 0 then (headgateref03_CmpRow.l0 k x0 x1 (wrap64 (x5 + 1))) else (some t133))) else (none)) else (none))) else (if (x0.length : Int) < (x1.length : Int) then (some (-1)) else (some 0))
def headgateref03_CmpRow.f (k : Nat) (l0 : List (S116)) (l1 : List (S116)) : Option (Int) := headgateref03_CmpRow.l0 k l0 l1 0
def headgateref03_CmpRow.T6 : Bool × List (List Nat × List Nat) := (true, [([], []), ([], []), ([0, 1], [0, 1]), ([2], [2]), ([], []), ([], []), ([4, 5], [4, 5]), ([6], [6]), ([3, 7], [3, 7]), ([8, 8, 0, 1, 2, 3, 4, 5, 6, 7, 8], [8])])
def headgateref03_CmpRow.B6 : List Nat := [0, 0, 3, 7, 0, 0, 48, 112, 255, 511]
theorem headgateref03_CmpRow.tab6 : rtab .any (opsOf Try.f116 6) = headgateref03_CmpRow.T6 := by kernel_rfl
theorem headgateref03_CmpRow.bits6 : waitsOk headgateref03_CmpRow.T6.2 headgateref03_CmpRow.B6 = true := by kernel_rfl
set_option maxHeartbeats 8000000 in
set_option maxRecDepth 100000 in
theorem headgateref03_CmpRow.calls (k : Nat) (A0 : Option Addr) (c0 : Nat) (l0 : List (S116)) (A1 : Option Addr) (c1 : Nat) (l1 : List (S116)) (r : Int) (w : World) (hr0 : Kd.C k116 w A0 l0.length l0) (hc0 : l0.length ≤ c0) (hr1 : Kd.C k116 w A1 l1.length l1) (hc1 : l1.length ≤ c1) (h : headgateref03_CmpRow.f k l0 l1 = some r) :
    Calls Try.prog 116 #[.slice A0 l0.length c0, .slice A1 l1.length c1] w fun e w' => e = .returned (.int .i64 r) ∧ Below w.heap.size w w' := by
  have hu116 := Try.underlying116
  have HR0 := Aside0.mk hr0
  have HC0 := Aside0.mk hc0
  clear hr0 hc0
  have HR1 := Aside0.mk hr1
  have HC1 := Aside0.mk hc1
  clear hr1 hc1
  have HB := Aside0.mk (Below.refl w.heap.size w)
  have H : (headgateref03_CmpRow.l0 k l0 l1 0) = some r := h
  clear h
  have H' := Aside0.mk H
  clear H
  go_enter Try.func116, Try.ntmps116
  go_wp2
  go_loopg [5] k (fun kq v5 w' => ∃ (x5_1 : Int), v5 = .int .i64 x5_1 ∧ Aside0 (headgateref03_CmpRow.l0 kq l0 l1 x5_1 = some r) ∧ Aside0 (kq ≤ k) ∧ Aside0 (Below w.heap.size w w'))
  case atStart => exact ⟨(0), (by first | rfl | (simp; done) | (simp [*]; done) | (simp; rw [Bool.eq_iff_iff]; simp; done)), H', ⟨Nat.le_refl _⟩, ⟨by repeat (first | (with_reducible first | exact HB.out | apply below_alloc | apply pw_below_drewN | apply below_drew1) | exact HB.out)⟩⟩
  case round =>
    clear H'
    try clear c1
    try clear p2
    obtain ⟨x5_1, rfl, HA, HK1, HB⟩ := hrel
    cases gk with
    | zero => exact absurd HA.out (by simp [headgateref03_CmpRow.l0])
    | succ k1 =>
      have H := HA.out
      clear HA
      simp only [headgateref03_CmpRow.l0] at H
      by_cases c3 : x5_1 < (l0.length : Int)
      · rw [if_pos c3] at H
        have c3b0 : decide (x5_1 < (l0.length : Int)) = true := decide_eq_true c3
        clear c3
        by_cases c4 : x5_1 ≥ (l1.length : Int)
        · rw [if_pos c4] at H
          have c4b0 : decide ((l1.length : Int) ≤ x5_1) = true := decide_eq_true c4
          clear c4
          obtain rfl := Option.some.inj H
          go_wp2
          go_ret
          exact ⟨by first | rfl | (simp [errW_none, errW_some] <;> rfl) | (simp [*, errW_none, errW_some] <;> rfl), by repeat (first | (with_reducible first | exact HB.out | apply below_alloc | apply pw_below_drewN | apply below_drew1) | exact HB.out)⟩
        · rw [if_neg c4] at H
          have c4b0 : decide ((l1.length : Int) ≤ x5_1) = false := decide_eq_false c4
          clear c4
          by_cases c5 : 0 ≤ x5_1
          · rw [if_pos c5] at H
            have c5b0 : decide (0 ≤ x5_1) = true := decide_eq_true c5
            clear c5
            by_cases c6 : x5_1 < (l1.length : Int)
            · rw [if_pos c6] at H
              have c6b0 : decide (x5_1 < (l1.length : Int)) = true := decide_eq_true c6
              clear c6
              replace H := Option.bind_eq_some_iff.mp H
              obtain ⟨t133, A70, H⟩ := H
              replace H : (if t133 = 0 then (headgateref03_CmpRow.l0 k1 l0 l1 (wrap64 (x5_1 + 1))) else (some t133)) = some r := H
              have A7 := Aside0.mk A70
              clear A70
              by_cases c8 : t133 = 0
              · rw [if_pos c8] at H
                have c8b0 : (t133 == 0) = true := beq_iff_eq.mpr c8
                have c8b1 : (t133 != 0) = false := bne_eq_false_iff_eq.mpr c8
                clear c8
                have H' := Aside0.mk H
                clear H
                try go_wp2
                have n0_ := Aside0.mk (below_drew1 HB.out)
                clear HB
                have HB := n0_
                clear n0_
                have p131 : 0 ≤ (x5_1 : Int) := of_decide_eq_true (by first | (with_reducible assumption) | assumption)
                have q131 : x5_1 < (l0.length : Int) := of_decide_eq_true (by first | (with_reducible assumption) | assumption)
                obtain ⟨ad131, e131, hx131_0, hx131_1, hx131_2⟩ := at_T116 HR0.out x5_1 p131 q131
                have hw131_2 := hx131_2
                have hw131_1 := hx131_1
                have hw131_0 := hx131_0
                cases e131
                replace hx131_0 := (HB.out.cell (World.block_lt_of_cell? w _ hx131_0)).trans hx131_0
                replace hx131_1 := (HB.out.cell (World.block_lt_of_cell? w _ hx131_1)).trans hx131_1
                replace hx131_2 := (HB.out.cell (World.block_lt_of_cell? w _ hx131_2)).trans hx131_2
                replace p131 := eq_true p131
                replace q131 := eq_true q131
                have p132 : 0 ≤ (x5_1 : Int) := of_decide_eq_true (by first | (with_reducible assumption) | assumption)
                have q132 : x5_1 < (l1.length : Int) := of_decide_eq_true (by first | (with_reducible assumption) | assumption)
                obtain ⟨ad132, e132, hx132_0, hx132_1, hx132_2⟩ := at_T116 HR1.out x5_1 p132 q132
                have hw132_2 := hx132_2
                have hw132_1 := hx132_1
                have hw132_0 := hx132_0
                cases e132
                replace hx132_0 := (HB.out.cell (World.block_lt_of_cell? w _ hx132_0)).trans hx132_0
                replace hx132_1 := (HB.out.cell (World.block_lt_of_cell? w _ hx132_1)).trans hx132_1
                replace hx132_2 := (HB.out.cell (World.block_lt_of_cell? w _ hx132_2)).trans hx132_2
                replace p132 := eq_true p132
                replace q132 := eq_true q132
                refine start_ (n := 10) (S := fun w' => w'.cell? (ad131.add ((x5_1).toNat * 3)) = some (.int .i64 ((rd_T116 l0 x5_1).f0)) ∧ w'.cell? ⟨(ad131.add ((x5_1).toNat * 3)).block, (ad131.add ((x5_1).toNat * 3)).off + 1, none⟩ = some (.int .i64 ((rd_T116 l0 x5_1).f1)) ∧ w'.cell? ⟨(ad131.add ((x5_1).toNat * 3)).block, (ad131.add ((x5_1).toNat * 3)).off + 2, none⟩ = some (.string ((rd_T116 l0 x5_1).f2)) ∧ w'.cell? (ad132.add ((x5_1).toNat * 3)) = some (.int .i64 ((rd_T116 l1 x5_1).f0)) ∧ w'.cell? ⟨(ad132.add ((x5_1).toNat * 3)).block, (ad132.add ((x5_1).toNat * 3)).off + 1, none⟩ = some (.int .i64 ((rd_T116 l1 x5_1).f1)) ∧ w'.cell? ⟨(ad132.add ((x5_1).toNat * 3)).block, (ad132.add ((x5_1).toNat * 3)).off + 2, none⟩ = some (.string ((rd_T116 l1 x5_1).f2))) (ds := []) #[false, false, false, false, false, false, false, false, false, false] (by kernel_rfl) rfl rfl ⟨((HB.out.cell (World.block_lt_of_cell? w _ hw131_0)).trans hw131_0), ((HB.out.cell (World.block_lt_of_cell? w _ hw131_1)).trans hw131_1), ((HB.out.cell (World.block_lt_of_cell? w _ hw131_2)).trans hw131_2), ((HB.out.cell (World.block_lt_of_cell? w _ hw132_0)).trans hw132_0), ((HB.out.cell (World.block_lt_of_cell? w _ hw132_1)).trans hw132_1), ((HB.out.cell (World.block_lt_of_cell? w _ hw132_2)).trans hw132_2)⟩ (fun hHeld => ?_); refine with_tabW headgateref03_CmpRow.tab6 headgateref03_CmpRow.bits6 (fun HT_ HW_ => ?_)
                generalize wr.drew = w9 at HB hx131_0 hx131_1 hx131_2 hx132_0 hx132_1 hx132_2 hHeld ⊢
                refine pure_ (i := 0) (N := some 17) (v := ?_) (a' := ?_) #[true, false, false, false, false, false, false, false, false, false] rfl rfl (any_of HT_.out (by kernel_rfl)) (fun _ _ _ h => h) (Or.inl ⟨by rfl, ?_⟩) ?_ ?_
                rotate_left
                · intro w'
                  go_simp
                  with_reducible rfl
                rotate_left
                · simp only [Act.put, List.setIfInBounds_toArray, List.set_cons_zero, List.set_cons_succ, i64_w, i32_w]
                  rfl
                refine pure_ (i := 1) (N := some 18) (v := ?_) (a' := ?_) #[true, true, false, false, false, false, false, false, false, false] rfl rfl (any_of HT_.out (by kernel_rfl)) (fun _ _ _ h => h) (Or.inl ⟨by rfl, ?_⟩) ?_ ?_
                rotate_left
                · intro w'
                  go_simp
                  with_reducible rfl
                rotate_left
                · simp only [Act.put, List.setIfInBounds_toArray, List.set_cons_zero, List.set_cons_succ, i64_w, i32_w]
                  rfl
                refine pure_ (i := 2) (N := some 19) (v := ?_) (a' := ?_) #[true, true, true, false, false, false, false, false, false, false] rfl rfl (any_of HT_.out (by kernel_rfl)) (fun _ _ _ h => h) (Or.inl ⟨by rfl, ?_⟩) ?_ ?_
                rotate_left
                · intro w'
                  go_simp
                  with_reducible rfl
                rotate_left
                · simp only [Act.put, List.setIfInBounds_toArray, List.set_cons_zero, List.set_cons_succ, i64_w, i32_w]
                  rfl
                refine pure_ (i := 4) (N := some 21) (v := ?_) (a' := ?_) #[true, true, true, false, true, false, false, false, false, false] rfl rfl (any_of HT_.out (by kernel_rfl)) (fun _ _ _ h => h) (Or.inl ⟨by rfl, ?_⟩) ?_ ?_
                rotate_left
                · intro w'
                  go_simp
                  with_reducible rfl
                rotate_left
                · simp only [Act.put, List.setIfInBounds_toArray, List.set_cons_zero, List.set_cons_succ, i64_w, i32_w]
                  rfl
                refine pure_ (i := 5) (N := some 22) (v := ?_) (a' := ?_) #[true, true, true, false, true, true, false, false, false, false] rfl rfl (any_of HT_.out (by kernel_rfl)) (fun _ _ _ h => h) (Or.inl ⟨by rfl, ?_⟩) ?_ ?_
                rotate_left
                · intro w'
                  go_simp
                  with_reducible rfl
                rotate_left
                · simp only [Act.put, List.setIfInBounds_toArray, List.set_cons_zero, List.set_cons_succ, i64_w, i32_w]
                  rfl
                refine pure_ (i := 6) (N := some 23) (v := ?_) (a' := ?_) #[true, true, true, false, true, true, true, false, false, false] rfl rfl (any_of HT_.out (by kernel_rfl)) (fun _ _ _ h => h) (Or.inl ⟨by rfl, ?_⟩) ?_ ?_
                rotate_left
                · intro w'
                  go_simp
                  with_reducible rfl
                rotate_left
                · simp only [Act.put, List.setIfInBounds_toArray, List.set_cons_zero, List.set_cons_succ, i64_w, i32_w]
                  rfl
                refine take_ (i := 3) (N := some 20) (v := ?_) (a' := ?_) #[true, true, true, true, true, true, true, false, false, false] rfl rfl (take_ofW HT_.out HW_.out (by kernel_rfl)) (fun _ _ _ h => h) (Or.inl ⟨by rfl, ?_⟩) hHeld ?_ ?_
                rotate_left
                · rintro w' ⟨s0, s1, s2, s3, s4, s5⟩
                  go_simp
                  with_reducible rfl
                rotate_left
                · simp only [Act.put, List.setIfInBounds_toArray, List.set_cons_zero, List.set_cons_succ, i64_w, i32_w]
                  rfl
                refine take_ (i := 7) (N := some 24) (v := ?_) (a' := ?_) #[true, true, true, true, true, true, true, true, false, false] rfl rfl (take_ofW HT_.out HW_.out (by kernel_rfl)) (fun _ _ _ h => h) (Or.inl ⟨by rfl, ?_⟩) hHeld ?_ ?_
                rotate_left
                · rintro w' ⟨s0, s1, s2, s3, s4, s5⟩
                  go_simp
                  with_reducible rfl
                rotate_left
                · simp only [Act.put, List.setIfInBounds_toArray, List.set_cons_zero, List.set_cons_succ, i64_w, i32_w]
                  rfl
                refine one_ (i := 8) (N := some 25) #[true, true, true, true, true, true, true, true, true, false] rfl rfl (one_of HT_.out (by kernel_rfl)) (by decide) (fun K hK => ?_)
                refine goes_ Try.func119 (by kernel_rfl) rfl #[.agg #[.int .i64 ((rd_T116 l0 x5_1).f0), .int .i64 ((rd_T116 l0 x5_1).f1), .string ((rd_T116 l0 x5_1).f2)], .agg #[.int .i64 ((rd_T116 l1 x5_1).f0), .int .i64 ((rd_T116 l1 x5_1).f1), .string ((rd_T116 l1 x5_1).f2)]] (by rfl) rfl rfl (by (try simp only [List.map_toArray, List.map_cons, List.map_nil]); first | done | rfl | (simp only [List.length_drop, List.length_take]; rfl) | exact congrArg (fun x_ : Int => #[Value.int .u64 x_]) (show _ = _ % (18446744073709551616 : Int) by omega)) ?_
                with_reducible refine (headgateref03_Cmp.calls k1 ((rd_T116 l0 x5_1).f0) ((rd_T116 l0 x5_1).f1) ((rd_T116 l0 x5_1).f2) ((rd_T116 l1 x5_1).f0) ((rd_T116 l1 x5_1).f1) ((rd_T116 l1 x5_1).f2) t133 _ A7.out).mono ?_
                rintro e w10 ⟨rfl, hb⟩
                refine ⟨_, rfl, ?_⟩
                have n0_ := Aside0.mk (below_step (by repeat (first | (with_reducible first | exact HB.out | apply below_alloc | apply pw_below_drewN | apply below_drew1) | exact HB.out)) hb)
                clear HB
                have HB := n0_
                clear n0_
                (try clear hb)
                (try clear hb2)
                (try clear hk)
                (try clear hi)
                refine hK.out _ _ ⟨((HB.out.cell (World.block_lt_of_cell? w _ hw131_0)).trans hw131_0), ((HB.out.cell (World.block_lt_of_cell? w _ hw131_1)).trans hw131_1), ((HB.out.cell (World.block_lt_of_cell? w _ hw131_2)).trans hw131_2), ((HB.out.cell (World.block_lt_of_cell? w _ hw132_0)).trans hw132_0), ((HB.out.cell (World.block_lt_of_cell? w _ hw132_1)).trans hw132_1), ((HB.out.cell (World.block_lt_of_cell? w _ hw132_2)).trans hw132_2)⟩ (fun hHeld => ?_)
                clear hK K
                refine norm_ (a' := ?_) ?_ ?_
                rotate_left
                · show Act.put _ (some 25) _ = _
                  simp only [Act.put, List.setIfInBounds_toArray, List.set_cons_zero, List.set_cons_succ, i64_w, i32_w]
                  rfl
                refine pure_ (i := 9) (N := some 6) (v := ?_) (a' := ?_) #[true, true, true, true, true, true, true, true, true, true] rfl rfl (any_of HT_.out (by kernel_rfl)) (fun _ _ _ h => h) (Or.inl ⟨by rfl, ?_⟩) ?_ ?_
                rotate_left
                · intro w'
                  go_simp
                  with_reducible rfl
                rotate_left
                · simp only [Act.put, List.setIfInBounds_toArray, List.set_cons_zero, List.set_cons_succ, i64_w, i32_w]
                  rfl
                refine done_ (done_of HT_.out (by kernel_rfl)) ?_
                try go_wp2
                go_roundg k1
                case measure => have := HK1.out; omega
                case rel => exact ⟨(wrap64 (x5_1 + 1)), (by first | rfl | (simp; done) | (simp [*]; done) | (simp; rw [Bool.eq_iff_iff]; simp; done)), H', ⟨by have := HK1.out; omega⟩, ⟨by repeat (first | (with_reducible first | exact HB.out | apply below_alloc | apply pw_below_drewN | apply below_drew1) | exact HB.out)⟩⟩
              · rw [if_neg c8] at H
                have c8b0 : (t133 == 0) = false := beq_eq_false_iff_ne.mpr c8
                have c8b1 : (t133 != 0) = true := bne_iff_ne.mpr c8
                obtain rfl := Option.some.inj H
                try go_wp2
                have n0_ := Aside0.mk (below_drew1 HB.out)
                clear HB
                have HB := n0_
                clear n0_
                have p131 : 0 ≤ (x5_1 : Int) := of_decide_eq_true (by first | (with_reducible assumption) | assumption)
                have q131 : x5_1 < (l0.length : Int) := of_decide_eq_true (by first | (with_reducible assumption) | assumption)
                obtain ⟨ad131, e131, hx131_0, hx131_1, hx131_2⟩ := at_T116 HR0.out x5_1 p131 q131
                have hw131_2 := hx131_2
                have hw131_1 := hx131_1
                have hw131_0 := hx131_0
                cases e131
                replace hx131_0 := (HB.out.cell (World.block_lt_of_cell? w _ hx131_0)).trans hx131_0
                replace hx131_1 := (HB.out.cell (World.block_lt_of_cell? w _ hx131_1)).trans hx131_1
                replace hx131_2 := (HB.out.cell (World.block_lt_of_cell? w _ hx131_2)).trans hx131_2
                replace p131 := eq_true p131
                replace q131 := eq_true q131
                have p132 : 0 ≤ (x5_1 : Int) := of_decide_eq_true (by first | (with_reducible assumption) | assumption)
                have q132 : x5_1 < (l1.length : Int) := of_decide_eq_true (by first | (with_reducible assumption) | assumption)
                obtain ⟨ad132, e132, hx132_0, hx132_1, hx132_2⟩ := at_T116 HR1.out x5_1 p132 q132
                have hw132_2 := hx132_2
                have hw132_1 := hx132_1
                have hw132_0 := hx132_0
                cases e132
                replace hx132_0 := (HB.out.cell (World.block_lt_of_cell? w _ hx132_0)).trans hx132_0
                replace hx132_1 := (HB.out.cell (World.block_lt_of_cell? w _ hx132_1)).trans hx132_1
                replace hx132_2 := (HB.out.cell (World.block_lt_of_cell? w _ hx132_2)).trans hx132_2
                replace p132 := eq_true p132
                replace q132 := eq_true q132
                refine start_ (n := 10) (S := fun w' => w'.cell? (ad131.add ((x5_1).toNat * 3)) = some (.int .i64 ((rd_T116 l0 x5_1).f0)) ∧ w'.cell? ⟨(ad131.add ((x5_1).toNat * 3)).block, (ad131.add ((x5_1).toNat * 3)).off + 1, none⟩ = some (.int .i64 ((rd_T116 l0 x5_1).f1)) ∧ w'.cell? ⟨(ad131.add ((x5_1).toNat * 3)).block, (ad131.add ((x5_1).toNat * 3)).off + 2, none⟩ = some (.string ((rd_T116 l0 x5_1).f2)) ∧ w'.cell? (ad132.add ((x5_1).toNat * 3)) = some (.int .i64 ((rd_T116 l1 x5_1).f0)) ∧ w'.cell? ⟨(ad132.add ((x5_1).toNat * 3)).block, (ad132.add ((x5_1).toNat * 3)).off + 1, none⟩ = some (.int .i64 ((rd_T116 l1 x5_1).f1)) ∧ w'.cell? ⟨(ad132.add ((x5_1).toNat * 3)).block, (ad132.add ((x5_1).toNat * 3)).off + 2, none⟩ = some (.string ((rd_T116 l1 x5_1).f2))) (ds := []) #[false, false, false, false, false, false, false, false, false, false] (by kernel_rfl) rfl rfl ⟨((HB.out.cell (World.block_lt_of_cell? w _ hw131_0)).trans hw131_0), ((HB.out.cell (World.block_lt_of_cell? w _ hw131_1)).trans hw131_1), ((HB.out.cell (World.block_lt_of_cell? w _ hw131_2)).trans hw131_2), ((HB.out.cell (World.block_lt_of_cell? w _ hw132_0)).trans hw132_0), ((HB.out.cell (World.block_lt_of_cell? w _ hw132_1)).trans hw132_1), ((HB.out.cell (World.block_lt_of_cell? w _ hw132_2)).trans hw132_2)⟩ (fun hHeld => ?_); refine with_tabW headgateref03_CmpRow.tab6 headgateref03_CmpRow.bits6 (fun HT_ HW_ => ?_)
                generalize wr.drew = w11 at HB hx131_0 hx131_1 hx131_2 hx132_0 hx132_1 hx132_2 hHeld ⊢
                refine pure_ (i := 0) (N := some 17) (v := ?_) (a' := ?_) #[true, false, false, false, false, false, false, false, false, false] rfl rfl (any_of HT_.out (by kernel_rfl)) (fun _ _ _ h => h) (Or.inl ⟨by rfl, ?_⟩) ?_ ?_
                rotate_left
                · intro w'
                  go_simp
                  with_reducible rfl
                rotate_left
                · simp only [Act.put, List.setIfInBounds_toArray, List.set_cons_zero, List.set_cons_succ, i64_w, i32_w]
                  rfl
                refine pure_ (i := 1) (N := some 18) (v := ?_) (a' := ?_) #[true, true, false, false, false, false, false, false, false, false] rfl rfl (any_of HT_.out (by kernel_rfl)) (fun _ _ _ h => h) (Or.inl ⟨by rfl, ?_⟩) ?_ ?_
                rotate_left
                · intro w'
                  go_simp
                  with_reducible rfl
                rotate_left
                · simp only [Act.put, List.setIfInBounds_toArray, List.set_cons_zero, List.set_cons_succ, i64_w, i32_w]
                  rfl
                refine pure_ (i := 2) (N := some 19) (v := ?_) (a' := ?_) #[true, true, true, false, false, false, false, false, false, false] rfl rfl (any_of HT_.out (by kernel_rfl)) (fun _ _ _ h => h) (Or.inl ⟨by rfl, ?_⟩) ?_ ?_
                rotate_left
                · intro w'
                  go_simp
                  with_reducible rfl
                rotate_left
                · simp only [Act.put, List.setIfInBounds_toArray, List.set_cons_zero, List.set_cons_succ, i64_w, i32_w]
                  rfl
                refine pure_ (i := 4) (N := some 21) (v := ?_) (a' := ?_) #[true, true, true, false, true, false, false, false, false, false] rfl rfl (any_of HT_.out (by kernel_rfl)) (fun _ _ _ h => h) (Or.inl ⟨by rfl, ?_⟩) ?_ ?_
                rotate_left
                · intro w'
                  go_simp
                  with_reducible rfl
                rotate_left
                · simp only [Act.put, List.setIfInBounds_toArray, List.set_cons_zero, List.set_cons_succ, i64_w, i32_w]
                  rfl
                refine pure_ (i := 5) (N := some 22) (v := ?_) (a' := ?_) #[true, true, true, false, true, true, false, false, false, false] rfl rfl (any_of HT_.out (by kernel_rfl)) (fun _ _ _ h => h) (Or.inl ⟨by rfl, ?_⟩) ?_ ?_
                rotate_left
                · intro w'
                  go_simp
                  with_reducible rfl
                rotate_left
                · simp only [Act.put, List.setIfInBounds_toArray, List.set_cons_zero, List.set_cons_succ, i64_w, i32_w]
                  rfl
                refine pure_ (i := 6) (N := some 23) (v := ?_) (a' := ?_) #[true, true, true, false, true, true, true, false, false, false] rfl rfl (any_of HT_.out (by kernel_rfl)) (fun _ _ _ h => h) (Or.inl ⟨by rfl, ?_⟩) ?_ ?_
                rotate_left
                · intro w'
                  go_simp
                  with_reducible rfl
                rotate_left
                · simp only [Act.put, List.setIfInBounds_toArray, List.set_cons_zero, List.set_cons_succ, i64_w, i32_w]
                  rfl
                refine take_ (i := 3) (N := some 20) (v := ?_) (a' := ?_) #[true, true, true, true, true, true, true, false, false, false] rfl rfl (take_ofW HT_.out HW_.out (by kernel_rfl)) (fun _ _ _ h => h) (Or.inl ⟨by rfl, ?_⟩) hHeld ?_ ?_
                rotate_left
                · rintro w' ⟨s0, s1, s2, s3, s4, s5⟩
                  go_simp
                  with_reducible rfl
                rotate_left
                · simp only [Act.put, List.setIfInBounds_toArray, List.set_cons_zero, List.set_cons_succ, i64_w, i32_w]
                  rfl
                refine take_ (i := 7) (N := some 24) (v := ?_) (a' := ?_) #[true, true, true, true, true, true, true, true, false, false] rfl rfl (take_ofW HT_.out HW_.out (by kernel_rfl)) (fun _ _ _ h => h) (Or.inl ⟨by rfl, ?_⟩) hHeld ?_ ?_
                rotate_left
                · rintro w' ⟨s0, s1, s2, s3, s4, s5⟩
                  go_simp
                  with_reducible rfl
                rotate_left
                · simp only [Act.put, List.setIfInBounds_toArray, List.set_cons_zero, List.set_cons_succ, i64_w, i32_w]
                  rfl
                refine one_ (i := 8) (N := some 25) #[true, true, true, true, true, true, true, true, true, false] rfl rfl (one_of HT_.out (by kernel_rfl)) (by decide) (fun K hK => ?_)
                refine goes_ Try.func119 (by kernel_rfl) rfl #[.agg #[.int .i64 ((rd_T116 l0 x5_1).f0), .int .i64 ((rd_T116 l0 x5_1).f1), .string ((rd_T116 l0 x5_1).f2)], .agg #[.int .i64 ((rd_T116 l1 x5_1).f0), .int .i64 ((rd_T116 l1 x5_1).f1), .string ((rd_T116 l1 x5_1).f2)]] (by rfl) rfl rfl (by (try simp only [List.map_toArray, List.map_cons, List.map_nil]); first | done | rfl | (simp only [List.length_drop, List.length_take]; rfl) | exact congrArg (fun x_ : Int => #[Value.int .u64 x_]) (show _ = _ % (18446744073709551616 : Int) by omega)) ?_
                with_reducible refine (headgateref03_Cmp.calls k1 ((rd_T116 l0 x5_1).f0) ((rd_T116 l0 x5_1).f1) ((rd_T116 l0 x5_1).f2) ((rd_T116 l1 x5_1).f0) ((rd_T116 l1 x5_1).f1) ((rd_T116 l1 x5_1).f2) t133 _ A7.out).mono ?_
                rintro e w12 ⟨rfl, hb⟩
                refine ⟨_, rfl, ?_⟩
                have n0_ := Aside0.mk (below_step (by repeat (first | (with_reducible first | exact HB.out | apply below_alloc | apply pw_below_drewN | apply below_drew1) | exact HB.out)) hb)
                clear HB
                have HB := n0_
                clear n0_
                (try clear hb)
                (try clear hb2)
                (try clear hk)
                (try clear hi)
                refine hK.out _ _ ⟨((HB.out.cell (World.block_lt_of_cell? w _ hw131_0)).trans hw131_0), ((HB.out.cell (World.block_lt_of_cell? w _ hw131_1)).trans hw131_1), ((HB.out.cell (World.block_lt_of_cell? w _ hw131_2)).trans hw131_2), ((HB.out.cell (World.block_lt_of_cell? w _ hw132_0)).trans hw132_0), ((HB.out.cell (World.block_lt_of_cell? w _ hw132_1)).trans hw132_1), ((HB.out.cell (World.block_lt_of_cell? w _ hw132_2)).trans hw132_2)⟩ (fun hHeld => ?_)
                clear hK K
                refine norm_ (a' := ?_) ?_ ?_
                rotate_left
                · show Act.put _ (some 25) _ = _
                  simp only [Act.put, List.setIfInBounds_toArray, List.set_cons_zero, List.set_cons_succ, i64_w, i32_w]
                  rfl
                refine pure_ (i := 9) (N := some 6) (v := ?_) (a' := ?_) #[true, true, true, true, true, true, true, true, true, true] rfl rfl (any_of HT_.out (by kernel_rfl)) (fun _ _ _ h => h) (Or.inl ⟨by rfl, ?_⟩) ?_ ?_
                rotate_left
                · intro w'
                  go_simp
                  with_reducible rfl
                rotate_left
                · simp only [Act.put, List.setIfInBounds_toArray, List.set_cons_zero, List.set_cons_succ, i64_w, i32_w]
                  rfl
                refine done_ (done_of HT_.out (by kernel_rfl)) ?_
                try go_wp2
                go_ret
                exact ⟨by first | rfl | (simp [errW_none, errW_some] <;> rfl) | (simp [*, errW_none, errW_some] <;> rfl), by repeat (first | (with_reducible first | exact HB.out | apply below_alloc | apply pw_below_drewN | apply below_drew1) | exact HB.out)⟩
            · rw [if_neg c6] at H
              exact absurd H (by simp)
          · rw [if_neg c5] at H
            exact absurd H (by simp)
      · rw [if_neg c3] at H
        have c3b0 : decide (x5_1 < (l0.length : Int)) = false := decide_eq_false c3
        clear c3
        by_cases c13 : (l0.length : Int) < (l1.length : Int)
        · rw [if_pos c13] at H
          have c13b0 : decide ((l0.length : Int) < (l1.length : Int)) = true := decide_eq_true c13
          have c13b1 : decide (l0.length < l1.length) = true := decide_eq_true (Int.ofNat_lt.mp c13)
          clear c13
          obtain rfl := Option.some.inj H
          go_wp2
          go_ret
          exact ⟨by first | rfl | (simp [errW_none, errW_some] <;> rfl) | (simp [*, errW_none, errW_some] <;> rfl), by repeat (first | (with_reducible first | exact HB.out | apply below_alloc | apply pw_below_drewN | apply below_drew1) | exact HB.out)⟩
        · rw [if_neg c13] at H
          have c13b0 : decide ((l0.length : Int) < (l1.length : Int)) = false := decide_eq_false c13
          have c13b1 : decide (l0.length < l1.length) = false := decide_eq_false (fun h => c13 (Int.ofNat_lt.mpr h))
          clear c13
          obtain rfl := Option.some.inj H
          go_wp2
          go_ret
          exact ⟨by first | rfl | (simp [errW_none, errW_some] <;> rfl) | (simp [*, errW_none, errW_some] <;> rfl), by repeat (first | (with_reducible first | exact HB.out | apply below_alloc | apply pw_below_drewN | apply below_drew1) | exact HB.out)⟩

/-! ### headgateref03_Same: function 97 -/
def headgateref03_Same.f (k : Nat) (l0 : List (S116)) (l1 : List (S116)) : Option (Bool) := if (l0.length : Int) = (l1.length : Int) then ((headgateref03_CmpRow.f k l0 l1).bind fun t134 => (some (t134 == 0))) else (some false)
set_option maxHeartbeats 8000000 in
set_option maxRecDepth 100000 in
theorem headgateref03_Same.calls (k : Nat) (A0 : Option Addr) (c0 : Nat) (l0 : List (S116)) (A1 : Option Addr) (c1 : Nat) (l1 : List (S116)) (r : Bool) (w : World) (hr0 : Kd.C k116 w A0 l0.length l0) (hc0 : l0.length ≤ c0) (hr1 : Kd.C k116 w A1 l1.length l1) (hc1 : l1.length ≤ c1) (h : headgateref03_Same.f k l0 l1 = some r) :
    Calls Try.prog 97 #[.slice A0 l0.length c0, .slice A1 l1.length c1] w fun e w' => e = .returned (.bool r) ∧ Below w.heap.size w w' := by
  have HR0 := Aside0.mk hr0
  have HC0 := Aside0.mk hc0
  clear hr0 hc0
  have HR1 := Aside0.mk hr1
  have HC1 := Aside0.mk hc1
  clear hr1 hc1
  have HB := Aside0.mk (Below.refl w.heap.size w)
  have H : (if (l0.length : Int) = (l1.length : Int) then ((headgateref03_CmpRow.f k l0 l1).bind fun t134 => (some (t134 == 0))) else (some false)) = some r := h
  clear h
  by_cases c3 : (l0.length : Int) = (l1.length : Int)
  · rw [if_pos c3] at H
    have c3b0 : ((l0.length : Int) == (l1.length : Int)) = true := beq_iff_eq.mpr c3
    have c3b1 : ((l0.length : Int) != (l1.length : Int)) = false := bne_eq_false_iff_eq.mpr c3
    have c3b2 : (l0.length == l1.length) = true := by first | simpa using c3 | (simp at c3 ⊢; omega)
    clear c3
    replace H := Option.bind_eq_some_iff.mp H
    obtain ⟨t134, A40, H⟩ := H
    replace H : (some (t134 == 0)) = some r := H
    have A4 := Aside0.mk A40
    clear A40
    obtain rfl := Option.some.inj H
    go_enter Try.func97, Try.ntmps97
    go_wp2_with (first | (go_at_call 116; (with_reducible refine (headgateref03_CmpRow.calls k _ _ l0 _ _ l1 t134 _ ?side1 ?side2 ?side3 ?side4 A4.out).mono ?_); (case side1 => repeat (first | exact HR0.out | (with_reducible refine Kd.C_alloc ?_ _) | (with_reducible refine Kd.C_drewN ?_ _) | (with_reducible refine Kd.C_drew ?_))); (case side2 => exact HC0.out); (case side3 => repeat (first | exact HR1.out | (with_reducible refine Kd.C_alloc ?_ _) | (with_reducible refine Kd.C_drewN ?_ _) | (with_reducible refine Kd.C_drew ?_))); (case side4 => exact HC1.out); rintro e w5 ⟨rfl, hb⟩; have n0_ := Aside0.mk (below_step (by repeat (first | (with_reducible first | exact HB.out | apply below_alloc | apply pw_below_drewN | apply below_drew1) | exact HB.out)) hb); clear HB; have HB := n0_; clear n0_; (try clear hb); (try clear hb2); (try clear hk); (try clear hi)))
    go_ret
    exact ⟨by first | rfl | (simp [errW_none, errW_some] <;> rfl) | (simp [*, errW_none, errW_some] <;> rfl), by repeat (first | (with_reducible first | exact HB.out | apply below_alloc | apply pw_below_drewN | apply below_drew1) | exact HB.out)⟩
  · rw [if_neg c3] at H
    have c3b0 : ((l0.length : Int) == (l1.length : Int)) = false := beq_eq_false_iff_ne.mpr c3
    have c3b1 : ((l0.length : Int) != (l1.length : Int)) = true := bne_iff_ne.mpr c3
    have c3b2 : (l0.length == l1.length) = false := by first | simpa using c3 | (simp at c3 ⊢; omega)
    obtain rfl := Option.some.inj H
    go_enter Try.func97, Try.ntmps97
    go_wp2
    go_ret
    exact ⟨by first | rfl | (simp [errW_none, errW_some] <;> rfl) | (simp [*, errW_none, errW_some] <;> rfl), by repeat (first | (with_reducible first | exact HB.out | apply below_alloc | apply pw_below_drewN | apply below_drew1) | exact HB.out)⟩

end Go.Proofs.Ytgihecpobichbaa.Q
