/- The list of ints of package code's reader: walked: items, read with its recover, Unnums. -/
import Derived.Test.YtgihecpobichbaaHCode
import Derived.Defers
import Derived.WalkSpells
namespace Go.Proofs.Ytgihecpobichbaa.Q
open Go.RowKit Go.Proofs.YtgihecpobichbaaW.PrintWords Go.Proofs.YtgihecpobichbaaW.PrintLast Go.Proofs.YtgihecpobichbaaW.PrintMore
set_option linter.unusedVariables false
set_option linter.unusedSimpArgs false

theorem mkf : ∀ (fn : Fn) (first cap : Array Value) (w : World), (Instr.makeFunc fn first cap).run Try.prog w = .ok (.func fn first cap) w := fun _ _ _ _ => rfl
/-- What a reader's method leaves: what it read, or its panic. -/
def RdOut {α : Type} (w0 w : World) (G : Nat) (r : Option (α × List Int)) (ret : α → Value) (E : Ending) (w' : World) : Prop :=
  (∀ x l', r = some (x, l') → E = .returned (ret x) ∧ RdS w0 w' G l') ∧ (r = none → E = .panicked badP) ∧ w.grownBy w' (some G)
theorem whole_item (G : Nat) (l : List Int) (hl : l.length ≤ 1000000000000000000) (w0 w : World) (hs : RdS w0 w G l) :
    Calls Try.prog 93 #[.pointer (some ⟨G, 0, none⟩)] w (RdOut w0 w G (itemI l) (Value.int .i64)) := by
  refine (whole_un G l hl w0 w hs).mono ?_
  rintro E w' ⟨h1, h2, h3⟩
  unfold RdOut itemI
  refine ⟨fun x l' h => ?_, fun h => ?_, h3⟩
  · split at h
    · rename_i h0
      simp only [Option.some.injEq, Prod.mk.injEq] at h
      obtain ⟨rfl, rfl⟩ := h
      exact h1 h0
    · cases h
  · split at h
    · cases h
    · rename_i h0
      exact h2 h0
/-- The reader's world, a step on. -/
theorem RdS.step {w0 w w' : World} {G : Nat} {l : List Int} (h : RdS w0 w G l) {row : Option Nat} (hg : w.grownBy w' row) (hne : some G ≠ row) (hr : ∀ k, row = some k → w0.heap.size ≤ k) : RdS w0 w' G l := by
  obtain ⟨A, c, h⟩ := h
  have hlt := h.box.lt
  have hy := h.young
  exact ⟨A, c, h.box.kept hg hne, h.has, h.below.grown hg (by omega) hr, h.young, h.room⟩
theorem RdS.lt {w0 w : World} {G : Nat} {l : List Int} (h : RdS w0 w G l) : G < w.heap.size ∧ w0.heap.size ≤ G := by
  obtain ⟨A, c, h⟩ := h
  exact ⟨h.box.lt, h.young⟩
theorem gb_new {w w1 w2 : World} {r row : Option Nat} (h1 : w.grownBy w1 r) (h2 : w1.grownBy w2 row) (hn : ∀ k, row = some k → w.heap.size ≤ k) : w.grownBy w2 r := by
  obtain ⟨a1, a2, a3, a4, a5⟩ := h1
  obtain ⟨b1, b2, b3, b4, b5⟩ := h2
  exact ⟨b1.trans a1, b2.trans a2, b3.trans a3, Nat.le_trans a4 b4, fun k hk hne => (b5 k (Nat.lt_of_lt_of_le hk a4) (fun e => by have := hn k e.symm; omega)).trans (a5 k hk hne)⟩
theorem R_past {α : Type} {d : Kd α} {e : Nat} {w w1 : World} {base : Nat} {v : Value} {xs : List α} {G : Nat} (h : d.R e w base (fun _ => True) v xs) (hg : w.grownBy w1 (some G)) (hG : G < base) : d.R e w1 base (fun _ => True) v xs :=
  Kd.R_mono (Kd.R_grown (Kd.R_bound h) hg (fun k hk e => by injection e with e; have := hk.2.1; omega)) (fun _ hk => hk.1)
theorem bits_u64 (op : BinOp) (a b : Int) : 0 ≤ bits op .u64 a b ∧ bits op .u64 a b < 18446744073709551616 := by
  unfold bits
  show 0 ≤ _ % (18446744073709551616 : Int) ∧ _ % (18446744073709551616 : Int) < 18446744073709551616
  omega
theorem unS_range : ∀ (l : List Int) (i : Nat) (n : Int), 0 ≤ (unS i n l).1 ∧ (unS i n l).1 < 18446744073709551616
  | [], i, n => by
    show 0 ≤ (0 : Int) ∧ (0 : Int) < 18446744073709551616
    omega
  | c :: l, i, n => by
    unfold unS
    split
    · show 0 ≤ (0 : Int) ∧ (0 : Int) < 18446744073709551616
      omega
    · split
      · show 0 ≤ unAdd i n c ∧ unAdd i n c < 18446744073709551616
        unfold unAdd
        exact bits_u64 _ _ _
      · exact unS_range l (i + 1) (unAdd i n c)
theorem un_range (l : List Int) (hl : l.length ≤ 1000000000000000000) : 0 ≤ (un l).1 := (unS_range l 0 0).1
set_option maxHeartbeats 4000000 in
set_option maxRecDepth 100000 in
theorem items_calls (G : Nat) (l : List Int) (hl : l.length ≤ 1000000000) (w0 w : World) (hs : RdS w0 w G l) (RR : Option (List Int × List Int)) (hRR : readItems itemI l = RR) :
    Calls Try.prog 92 #[.pointer (some ⟨G, 0, none⟩), .func (.func 93) #[.pointer (some ⟨G, 0, none⟩)] #[]] w fun E w' =>
      (∀ xs l', RR = some (xs, l') → ∃ v, E = .returned v ∧ Kd.R (Kd.int .i64) 2 w' w.heap.size (fun _ => True) v xs ∧ RdS w0 w' G l') ∧ (RR = none → E = .panicked badP) ∧ w.grownBy w' (some G) := by
  have hG := hs.lt
  have hnum := num_un G l (by omega) w0 w hs
  obtain ⟨Q, hQ⟩ : ∃ Q : Ending → World → Prop, Q = fun E w' => (∀ xs l', RR = some (xs, l') → ∃ v, E = .returned v ∧ Kd.R (Kd.int .i64) 2 w' w.heap.size (fun _ => True) v xs ∧ RdS w0 w' G l') ∧ (RR = none → E = .panicked badP) ∧ w.grownBy w' (some G) := ⟨_, rfl⟩
  rw [← hQ]
  have hno : ∀ w', RR = none → w.grownBy w' (some G) → Q (.panicked badP) w' := by
    intro w' h1 h2
    rw [hQ]
    exact ⟨fun xs l' h => (by rw [h1] at h; cases h), fun _ => rfl, h2⟩
  have hyes : ∀ w' v xs l', RR = some (xs, l') → Kd.R (Kd.int .i64) 2 w' w.heap.size (fun _ => True) v xs → RdS w0 w' G l' → w.grownBy w' (some G) → Q (.returned v) w' := by
    intro w' v xs l' h1 h2 h3 h4
    rw [hQ]
    refine ⟨fun xs' l'' h => ?_, fun h => (by rw [h1] at h; cases h), h4⟩
    rw [h1] at h
    simp only [Option.some.injEq, Prod.mk.injEq] at h
    obtain ⟨rfl, rfl⟩ := h
    exact ⟨v, rfl, h2, h3⟩
  clear hQ
  unfold readItems at hRR
  have hun := unS_le l 0 0
  have hj : 0 ≤ (un l).2.1 ∧ (un l).2.1 ≤ (l.length : Int) := ⟨hun.1, by simpa [un] using hun.2⟩
  obtain ⟨n, hn⟩ : ∃ n, (un l).1 = n := ⟨_, rfl⟩
  have hn0 : 0 ≤ n := hn ▸ un_range l (by omega)
  obtain ⟨l1, hl1⟩ : ∃ l1, l.drop (un l).2.1.toNat = l1 := ⟨_, rfl⟩
  have hl1' : l1.length ≤ 1000000000 := by rw [← hl1, List.length_drop]; omega
  by_cases he : (un l).2.2 = 0
  · rw [if_pos he, hn, hl1] at hRR
    rw [hn, hl1] at hnum
    have hc : Calls Try.prog 111 #[.pointer (some ⟨G, 0, none⟩)] w fun E w' => E = .returned (.int .u64 n) ∧ RdS w0 w' G l1 ∧ w.grownBy w' (some G) := hnum.mono fun E w' ⟨h1, _, h3⟩ => ⟨(h1 he).1, (h1 he).2, h3⟩
    clear hnum hn hl1 hun hj he hs
    go_enter Try.func92, Try.ntmps92
    go_wp2_with fail
    refine hc.mono ?_
    rintro E w1 ⟨rfl, hs1, hg1⟩
    have hG1 := hs1.lt
    obtain ⟨A1, c1, h1⟩ := hs1
    have hcell := h1.box.cell
    have hfz := h1.box.frozen
    have hlen : (l1.length : Int) ≤ 18446744073709551615 := by omega
    by_cases hbig : n > (l1.length : Int)
    · rw [if_pos hbig] at hRR
      have HR := Aside0.mk hRR
      clear hRR hc
      go_wp2
      exact ⟨rfl, hno _ HR.out.symm hg1⟩
    · rw [if_neg hbig] at hRR
      have HR := Aside0.mk hRR
      have HS1 := Aside0.mk (⟨A1, c1, h1⟩ : RdS w0 w1 G l1)
      have HG1 := Aside0.mk hg1
      clear hRR hc h1 hg1
      go_wp2_with fail
      have hnle : n ≤ 1000000000 := by omega
      have HB := Aside0.mk hbig
      clear hbig hcell hfz
      go_loopg [6, 20] (n.toNat) (fun kq v6 v20 wr => ∃ (i : Nat) (xs l2 : List Int), v20 = .int .u64 i ∧ Aside0 ((i : Int) + kq = n) ∧ Aside0 (((readN itemI kq l2).map fun q => (xs ++ q.1, q.2)) = RR) ∧ Aside0 (xs.length = i) ∧ Aside0 (Kd.R (Kd.int .i64) 2 wr w.heap.size (fun _ => True) v6 xs) ∧ Aside0 (RdS w0 wr G l2) ∧ Aside0 (w.grownBy wr (some G)) ∧ Aside0 (l2.length ≤ 1000000000))
      case atStart => exact ⟨0, [], l1, rfl, ⟨by omega⟩, ⟨by rw [← HR.out]; cases readN itemI n.toNat l1 <;> rfl⟩, ⟨rfl⟩, ⟨Kd.R_nil _ _ _ _ _⟩, HS1, HG1, ⟨hl1'⟩⟩
      case round =>
        clear HR HS1 HG1
        obtain ⟨i, xs, l2, rfl, HI, HF, HX, HO, HS, HG, HL⟩ := hrel
        cases gk with
        | zero =>
          have hlb : decide ((i : Int) < n) = false := decide_eq_false (by have := HI.out; omega)
          have hF := HF.out
          simp only [readN, Option.map_some, List.append_nil] at hF
          have HF2 := Aside0.mk hF
          clear hF HF
          go_wp2
          first
            | exact hyes _ _ _ _ HF2.out.symm HO.out HS.out HG.out
            | (go_ret; exact hyes _ _ _ _ HF2.out.symm HO.out HS.out HG.out)
        | succ k1 =>
          have hlb : decide ((i : Int) < n) = true := decide_eq_true (by have := HI.out; omega)
          have hi1 : (i : Int) + 1 ≤ 1000000001 := by have := HI.out; omega
          have hcw := whole_item G l2 (by have := HL.out; omega) w0 wr HS.out
          cases hit : itemI l2 with
          | none =>
            have hcn : Calls Try.prog 93 #[.pointer (some ⟨G, 0, none⟩)] wr fun E w' => E = .panicked badP ∧ wr.grownBy w' (some G) := hcw.mono fun E w' ⟨_, h2, h3⟩ => ⟨h2 hit, h3⟩
            have hRn : RR = none := by rw [← HF.out, readN, hit]; rfl
            have HRn := Aside0.mk hRn
            clear hcw hit hRn
            go_wp2_with fail
            refine hcn.mono ?_
            rintro E w2 ⟨rfl, hg2⟩
            go_wp2
            exact ⟨rfl, hno _ HRn.out (gb_trans HG.out hg2)⟩
          | some p =>
            obtain ⟨x, l3⟩ := p
            have hcs : Calls Try.prog 93 #[.pointer (some ⟨G, 0, none⟩)] wr fun E w' => E = .returned (.int .i64 x) ∧ RdS w0 w' G l3 ∧ wr.grownBy w' (some G) := hcw.mono fun E w' ⟨h1, _, h3⟩ => ⟨(h1 x l3 hit).1, (h1 x l3 hit).2, h3⟩
            have hF2 : ((readN itemI k1 l3).map fun q => ((xs ++ [x]) ++ q.1, q.2)) = RR := by
              rw [← HF.out, readN, hit]
              simp only [Option.bind_some]
              cases readN itemI k1 l3 with
              | none => rfl
              | some q => simp
            have hl3 : l3.length ≤ l2.length := by
              unfold itemI at hit
              split at hit
              · simp only [Option.some.injEq, Prod.mk.injEq] at hit
                rw [← hit.2, List.length_drop]
                omega
              · cases hit
            have HF3 := Aside0.mk hF2
            have HL3 := Aside0.mk (show l3.length ≤ 1000000000 by have := HL.out; omega)
            clear hcw hit hF2 hl3 HF HL
            go_wp2_with fail
            refine hcs.mono ?_
            rintro E w2 ⟨rfl, hs2, hg2⟩
            have HG2 := Aside0.mk (gb_trans HG.out hg2)
            have HO2 := Aside0.mk (R_past HO.out hg2 hG.1)
            have HS2 := Aside0.mk hs2
            have HZ := Aside0.mk (show w.heap.size ≤ w2.heap.size from HG2.out.4)
            clear hg2 hs2 HO HS HG
            go_wp2_with (first | ((with_reducible refine gate_builtin (b := .append) (xs := #[.tmp 22, .tmp 25]) rfl ?_); (try (refine gate_guard (by rfl) ?_; dsimp only)); at_builtin; refine Kd.R_append (Kd.int .i64) (w0 := w2) w.heap.size rfl (.tmp 22) (.tmp 25) 40 2 (.int .i64 0) 8 rfl Try.underlying40 info2 rfl (by decide) (by omega) u6 xs x [.int .i64 x] (fun _ => True) (fun _ => False) rfl rfl ?aP (fun _ hk => hk.elim) ?aF ?aO ?aB ?aS ?aL ?_; (case aP => exact rfl); (case aB => exact Below.refl _ _); (case aF => exact (fun _ _ => trivial)); (case aO => exact HO2.out); (case aS => exact HZ.out); (case aL => have := HX.out; omega); intro v1 w3 ho hb hg hat; have HO3 := Aside0.mk ho; have HGr := Aside0.mk hg; clear ho hb hg hat))
            have hne : ∀ k, u6.ownBlock = some k → w.heap.size ≤ k := Kd.R_base HO2.out
            have HS3 := Aside0.mk (HS2.out.step HGr.out (fun e => by have := hne G e.symm; omega) (fun k e => by have := hne k e; omega))
            have HG3 := Aside0.mk (gb_new HG2.out HGr.out hne)
            clear hne
            go_roundg k1
            case measure => omega
            case rel => exact ⟨i + 1, xs ++ [x], l3, by congr 1, ⟨by have := HI.out; omega⟩, HF3, ⟨by rw [List.length_append, HX.out]; rfl⟩, HO3, HS3, HG3, HL3⟩
  · rw [if_neg he] at hRR
    have hc : Calls Try.prog 111 #[.pointer (some ⟨G, 0, none⟩)] w fun E w' => E = .panicked badP ∧ w.grownBy w' (some G) := hnum.mono fun E w' ⟨_, h2, h3⟩ => ⟨h2 he, h3⟩
    have HR := Aside0.mk hRR
    clear hnum hn hl1 hun hj he hs hRR
    go_enter Try.func92, Try.ntmps92
    go_wp2_with fail
    refine hc.mono ?_
    rintro E w1 ⟨rfl, hg1⟩
    go_wp2
    exact ⟨rfl, hno _ HR.out.symm hg1⟩
end Go.Proofs.Ytgihecpobichbaa.Q
