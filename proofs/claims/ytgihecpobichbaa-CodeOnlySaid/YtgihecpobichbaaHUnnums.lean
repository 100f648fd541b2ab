/- code.Unnums: read with its deferred recover: walked. -/
import Derived.Test.YtgihecpobichbaaHRead
import Derived.Recover
import Derived.RangeFuncNested
namespace Go.Proofs.Ytgihecpobichbaa.Q
open Go.RowKit Go.Proofs.YtgihecpobichbaaW.PrintWords Go.Proofs.YtgihecpobichbaaW.PrintLast Go.Proofs.YtgihecpobichbaaW.PrintMore
set_option linter.unusedVariables false
set_option linter.unusedSimpArgs false

theorem bad_ne (w : World) : (binOp .neq 20 (.iface 134 (.agg #[])) .nilIface).run Try.prog w = .ok (.bool true) w := by kernel_rfl
theorem assert_bad (w : World) : (Instr.typeAssert (.iface 134 (.agg #[])) 20 134 true).run Try.prog w = .ok (.tuple #[.agg #[], .bool true]) w := by kernel_rfl
set_option maxHeartbeats 1000000 in
theorem catch_bad_I (bl be : Nat) (hne : bl ≠ be) (v0 : Value) (e0 : Int) (w : World) (hl : Boxed w bl 40 v0) (he : Boxed w be 24 (.int .i64 e0)) :
    CallsD Try.prog 115 #[.pointer (some ⟨bl, 0, none⟩), .pointer (some ⟨be, 0, none⟩)] (.panicking badP) w fun e u' w' =>
      e = .returned (.tuple #[]) ∧ u' = .panicking [{ v := .iface 134 (.agg #[]), recovered := true }] ∧ w' = ((w.setCell ⟨bl, 0, none⟩ (.slice none 0 0)).setCell ⟨be, 0, none⟩ (.int .i64 41)).alloc (.cells #[] 134) := by
  have l1 := hl.lt
  have l2 := he.lt
  have m1 := hl.cell
  have f1 := hl.frozen
  have m2 := he.cell
  have f2 := he.frozen
  have m3 := (he.other (Ne.symm hne) (.slice none 0 0)).cell
  have f3 := (he.other (Ne.symm hne) (.slice none 0 0)).frozen
  refine callsD_of_wpS Try.func115 rfl fun c₀ cs hu => ?_
  unfold badP at hu
  apply wpS_seq
  apply wpS_region
  simp [wpOpsS, go_sem, recoverD, hu, Try.ntmps115, Exit.thenS]
  have k1 := bad_ne
  have k2 := assert_bad
  refine wpS_of_wp ?_
  simp only [Array.replicate_succ, Array.replicate_zero, List.push_toArray, List.append_toArray, List.nil_append, List.cons_append, List.setIfInBounds_toArray, List.set_cons_succ, List.set_cons_zero]
  go_wp2
  simp [bodyPostS, results, Try.results115]
theorem catch_idle_I (p q : Addr) (w : World) :
    CallsD Try.prog 115 #[.pointer (some p), .pointer (some q)] .returning w fun e u' w' => e = .returned (.tuple #[]) ∧ u' = .returning ∧ w = w' := by
  have k3 : ∀ w : World, (binOp .neq 20 .nilIface .nilIface).run Try.prog w = .ok (.bool false) w := fun _ => by kernel_rfl
  refine callsD_of_wpS Try.func115 rfl fun c₀ cs hu => ?_
  apply wpS_seq
  apply wpS_region
  simp [wpOpsS, go_sem, recoverD, hu, Try.ntmps115, Exit.thenS]
  refine wpS_of_wp ?_
  simp only [Array.replicate_succ, Array.replicate_zero, List.push_toArray, List.append_toArray, List.nil_append, List.cons_append, List.setIfInBounds_toArray, List.set_cons_succ, List.set_cons_zero]
  go_wp2
  cases c₀
  simp_all [bodyPostS, results, Try.results115]
def ItemsOut (w0 w : World) (G : Nat) (RR : Option (List Int × List Int)) (E : Ending) (w' : World) : Prop :=
  (∀ xs l', RR = some (xs, l') → ∃ v, E = .returned v ∧ Kd.R (Kd.int .i64) 2 w' w.heap.size (fun _ => True) v xs ∧ RdS w0 w' G l') ∧ (RR = none → E = .panicked badP) ∧ w.grownBy w' (some G)
set_option maxHeartbeats 1000000 in
theorem unn1_calls (G : Nat) (l : List Int) (hl : l.length ≤ 1000000000) (w0 w : World) (hs : RdS w0 w G l) :
    Calls Try.prog 91 #[.pointer (some ⟨G, 0, none⟩)] w (ItemsOut w0 w G (readItems itemI l)) := by
  have mf := mkf
  obtain ⟨RR, hRR⟩ : ∃ RR, readItems itemI l = RR := ⟨_, rfl⟩
  have hc := items_calls G l hl w0 w hs RR hRR
  rw [hRR]
  obtain ⟨Q, hQ⟩ : ∃ Q : Ending → World → Prop, Q = ItemsOut w0 w G RR := ⟨_, rfl⟩
  rw [← hQ]
  have hQ' : ∀ E w', ItemsOut w0 w G RR E w' → Q E w' := fun E w' h => by rw [hQ]; exact h
  clear hQ hs hRR
  go_enter Try.func91, Try.ntmps91
  go_wp2_with fail
  refine hc.mono ?_
  rintro E w1 ⟨h1, h2, h3⟩
  cases hR : RR with
  | none =>
    obtain rfl := h2 hR
    have H := hQ' (.panicked badP) w1 ⟨h1, h2, h3⟩
    clear h1 h2 hQ' hc
    go_wp2
    exact ⟨rfl, H⟩
  | some p =>
    obtain ⟨xs, l'⟩ := p
    obtain ⟨v, rfl, h4, h5⟩ := h1 xs l' hR
    have H := hQ' (.returned v) w1 ⟨h1, h2, h3⟩
    clear h1 h2 hQ' hc h4 h5
    go_wp2
    first | exact H | (go_ret; exact H)
/-- What code.Unnums comes to. -/
def readI (l : List Int) : List Int × Int :=
  match readItems itemI l with
  | some (xs, l') => if l'.length > 0 ∨ l.length > 16777216 then ([], 41) else (xs, 0)
  | none => ([], 41)
set_option maxHeartbeats 4000000 in
set_option maxRecDepth 100000 in
theorem read_calls (A : Option Addr) (c : Nat) (l : List Int) (hl : l.length ≤ 1000000000) (w : World) (hr : Kd.C (Kd.int .u8) w A l.length l) (hc : l.length ≤ c) (r1 : List Int) (r2 : Int) (hrr : readI l = (r1, r2)) :
    Calls Try.prog 90 #[.slice A l.length c, .func (.func 91) #[] #[]] w fun e w' => ∃ v0_ : Value, e = .returned (.tuple #[v0_, .int .i64 r2]) ∧ Kd.R (Kd.int .i64) 2 w' w.heap.size (fun _ => True) v0_ r1 ∧ Below w.heap.size w w' := by
  have mf := mkf
  have HR := Aside0.mk hr
  clear hr
  go_enter_defers Try.func90, Try.ntmps90
  go_wp2_with fail
  have bg := Boxed.new ((w.alloc (.cells #[.slice none 0 0] 40)).alloc (.cells #[.int .i64 0] 24)) 168 (.slice A l.length c)
  rw [World.size_alloc, World.size_alloc] at bg
  have bl := ((Boxed.new w 40 (.slice none 0 0)).alloc (.cells #[.int .i64 0] 24)).alloc (.cells #[.slice A l.length c] 168)
  have be := (Boxed.new (w.alloc (.cells #[.slice none 0 0] 40)) 24 (.int .i64 0)).alloc (.cells #[.slice A l.length c] 168)
  rw [World.size_alloc] at be
  have hb3 : Below w.heap.size w (((w.alloc (.cells #[.slice none 0 0] 40)).alloc (.cells #[.int .i64 0] 24)).alloc (.cells #[.slice A l.length c] 168)) := below_alloc (below_alloc (below_alloc (Below.refl _ _) _) _) _
  have hs3 : (((w.alloc (.cells #[.slice none 0 0] 40)).alloc (.cells #[.int .i64 0] 24)).alloc (.cells #[.slice A l.length c] 168)).heap.size = w.heap.size + 1 + 1 + 1 := by rw [World.size_alloc, World.size_alloc, World.size_alloc]
  generalize ((w.alloc (.cells #[.slice none 0 0] 40)).alloc (.cells #[.int .i64 0] 24)).alloc (.cells #[.slice A l.length c] 168) = W3 at bg bl be hb3 hs3 ⊢
  refine (unn1_calls (w.heap.size + 1 + 1) l hl w W3 ⟨A, c, ⟨bg, HR.out, hb3, by omega, hc⟩⟩).mono ?_
  rintro E w1 ⟨h1, h2, h3⟩
  have bl1 := bl.kept h3 (fun e => by injection e with e; omega)
  have be1 := be.kept h3 (fun e => by injection e with e; omega)
  have hb1 : Below w.heap.size w w1 := hb3.grown h3 (by omega) (fun k hk => by injection hk with hk; omega)
  have HB1 := Aside0.mk hb1
  have BL := Aside0.mk bl1
  have BE := Aside0.mk be1
  have hlt := h3.size
  rw [hs3] at hlt
  cases hR : readItems itemI l with
  | none =>
    obtain rfl := h2 hR
    have hI : readI l = ([], 41) := by unfold readI; rw [hR]
    rw [hI] at hrr
    simp only [Prod.mk.injEq] at hrr
    obtain ⟨rfl, rfl⟩ := hrr
    clear h1 h2 h3 bg bl be hb3 bl1 be1 hb1 hR hI
    unfold badP
    go_wp2
    refine leaves_cons (f := 115) (args := #[.pointer (some ⟨w.heap.size, 0, none⟩), .pointer (some ⟨w.heap.size + 1, 0, none⟩)]) (by simp) (by simp [go_sem]) ?_
    refine (catch_bad_I w.heap.size (w.heap.size + 1) (by omega) (.slice none 0 0) 0 w1 BL.out BE.out).mono ?_
    rintro e u' w'' ⟨rfl, rfl, rfl⟩
    have xl := ((BL.out.set (.slice none 0 0)).other (show w.heap.size ≠ w.heap.size + 1 by omega) (.int .i64 41)).alloc (.cells #[] 134)
    have xe := ((BE.out.other (show w.heap.size + 1 ≠ w.heap.size by omega) (.slice none 0 0)).set (.int .i64 41)).alloc (.cells #[] 134)
    have yl := xl.cell
    have ye := xe.cell
    have hB : Below w.heap.size w (((w1.setCell ⟨w.heap.size, 0, none⟩ (.slice none 0 0)).setCell ⟨w.heap.size + 1, 0, none⟩ (.int .i64 41)).alloc (.cells #[] 134)) := below_alloc (below_set (below_set HB1.out (by omega)) (by omega)) _
    generalize ((w1.setCell ⟨w.heap.size, 0, none⟩ (.slice none 0 0)).setCell ⟨w.heap.size + 1, 0, none⟩ (.int .i64 41)).alloc (.cells #[] 134) = W4 at xl xe yl ye hB ⊢
    simp [Leaves, settle, results, Try.results90, go_sem]
    refine ⟨.tuple #[.slice none 0 0, .int .i64 41], by simp [yl, ye, go_sem], _, rfl, Kd.R_nil _ _ _ _ _, hB⟩
  | some p =>
    obtain ⟨xs, l'⟩ := p
    obtain ⟨v, rfl, h4, h5⟩ := h1 xs l' hR
    obtain ⟨A', c', hd⟩ := h5
    obtain ⟨A2, c2, rfl⟩ := Kd.R_slice h4
    have bx := hd.box
    have H4 := Aside0.mk h4
    have hI : readI l = (if l'.length > 0 ∨ l.length > 16777216 then ([], 41) else (xs, 0)) := by unfold readI; rw [hR]
    rw [hI] at hrr
    have cg : (w1.setCell ⟨w.heap.size, 0, none⟩ (.slice A2 xs.length c2)).cell? ⟨w.heap.size + 1 + 1, 0, none⟩ = some (.slice A' l'.length c') := (bx.other (by omega) (.slice A2 xs.length c2)).cell
    have BL2 : Aside0 (Boxed (w1.setCell ⟨w.heap.size, 0, none⟩ (.slice A2 xs.length c2)) w.heap.size 40 (.slice A2 xs.length c2)) := ⟨BL.out.set _⟩
    have BE2 : Aside0 (Boxed (w1.setCell ⟨w.heap.size, 0, none⟩ (.slice A2 xs.length c2)) (w.heap.size + 1) 24 (.int .i64 0)) := ⟨BE.out.other (by omega) _⟩
    have HB2 : Aside0 (Below w.heap.size w (w1.setCell ⟨w.heap.size, 0, none⟩ (.slice A2 xs.length c2))) := ⟨below_set HB1.out (by omega)⟩
    have cl1 : w1.cell? ⟨w.heap.size, 0, none⟩ = some (.slice none 0 0) := bl1.cell
    have fl1 : w1.frozen? ⟨w.heap.size, 0, none⟩ = false := bl1.frozen
    have ce1 : w1.cell? ⟨w.heap.size + 1, 0, none⟩ = some (.int .i64 0) := be1.cell
    have fe1 : w1.frozen? ⟨w.heap.size + 1, 0, none⟩ = false := be1.frozen
    clear h1 h2 h3 bg bl be hb3 bl1 be1 hb1 hR hI h4 hd bx
    by_cases hx : l'.length > 0
    · rw [if_pos (.inl hx)] at hrr
      simp only [Prod.mk.injEq] at hrr
      obtain ⟨rfl, rfl⟩ := hrr
      have d1 : decide (0 < (l'.length : Int)) = true := decide_eq_true (by omega)
      have d2 : decide (0 < l'.length) = true := decide_eq_true hx
      clear hx
      go_wp2
      refine leaves_cons (f := 115) (args := #[.pointer (some ⟨w.heap.size, 0, none⟩), .pointer (some ⟨w.heap.size + 1, 0, none⟩)]) (by simp) (by simp [go_sem]) ?_
      refine (catch_bad_I w.heap.size (w.heap.size + 1) (by omega) (.slice A2 xs.length c2) 0 (w1.setCell ⟨w.heap.size, 0, none⟩ (.slice A2 xs.length c2)) BL2.out BE2.out).mono ?_
      rintro e u' w'' ⟨rfl, rfl, rfl⟩
      have xl := ((BL2.out.set (.slice none 0 0)).other (show w.heap.size ≠ w.heap.size + 1 by omega) (.int .i64 41)).alloc (.cells #[] 134)
      have xe := ((BE2.out.other (show w.heap.size + 1 ≠ w.heap.size by omega) (.slice none 0 0)).set (.int .i64 41)).alloc (.cells #[] 134)
      have yl := xl.cell
      have ye := xe.cell
      have hB : Below w.heap.size w ((((w1.setCell ⟨w.heap.size, 0, none⟩ (.slice A2 xs.length c2)).setCell ⟨w.heap.size, 0, none⟩ (.slice none 0 0)).setCell ⟨w.heap.size + 1, 0, none⟩ (.int .i64 41)).alloc (.cells #[] 134)) := below_alloc (below_set (below_set HB2.out (by omega)) (by omega)) _
      generalize (((w1.setCell ⟨w.heap.size, 0, none⟩ (.slice A2 xs.length c2)).setCell ⟨w.heap.size, 0, none⟩ (.slice none 0 0)).setCell ⟨w.heap.size + 1, 0, none⟩ (.int .i64 41)).alloc (.cells #[] 134) = W4 at xl xe yl ye hB ⊢
      simp [Leaves, settle, results, Try.results90, go_sem]
      refine ⟨.tuple #[.slice none 0 0, .int .i64 41], by simp [yl, ye, go_sem], _, rfl, Kd.R_nil _ _ _ _ _, hB⟩
    · have d1 : decide (0 < (l'.length : Int)) = false := decide_eq_false (by omega)
      have d2 : decide (0 < l'.length) = false := decide_eq_false hx
      by_cases hy : l.length > 16777216
      · rw [if_pos (.inr hy)] at hrr
        simp only [Prod.mk.injEq] at hrr
        obtain ⟨rfl, rfl⟩ := hrr
        have e1 : decide (16777216 < (l.length : Int)) = true := decide_eq_true (by omega)
        have e2 : decide (16777216 < l.length) = true := decide_eq_true hy
        clear hx hy
        go_wp2
        refine leaves_cons (f := 115) (args := #[.pointer (some ⟨w.heap.size, 0, none⟩), .pointer (some ⟨w.heap.size + 1, 0, none⟩)]) (by simp) (by simp [go_sem]) ?_
        refine (catch_bad_I w.heap.size (w.heap.size + 1) (by omega) (.slice A2 xs.length c2) 0 (w1.setCell ⟨w.heap.size, 0, none⟩ (.slice A2 xs.length c2)) BL2.out BE2.out).mono ?_
        rintro e u' w'' ⟨rfl, rfl, rfl⟩
        have xl := ((BL2.out.set (.slice none 0 0)).other (show w.heap.size ≠ w.heap.size + 1 by omega) (.int .i64 41)).alloc (.cells #[] 134)
        have xe := ((BE2.out.other (show w.heap.size + 1 ≠ w.heap.size by omega) (.slice none 0 0)).set (.int .i64 41)).alloc (.cells #[] 134)
        have yl := xl.cell
        have ye := xe.cell
        have hB : Below w.heap.size w ((((w1.setCell ⟨w.heap.size, 0, none⟩ (.slice A2 xs.length c2)).setCell ⟨w.heap.size, 0, none⟩ (.slice none 0 0)).setCell ⟨w.heap.size + 1, 0, none⟩ (.int .i64 41)).alloc (.cells #[] 134)) := below_alloc (below_set (below_set HB2.out (by omega)) (by omega)) _
        generalize (((w1.setCell ⟨w.heap.size, 0, none⟩ (.slice A2 xs.length c2)).setCell ⟨w.heap.size, 0, none⟩ (.slice none 0 0)).setCell ⟨w.heap.size + 1, 0, none⟩ (.int .i64 41)).alloc (.cells #[] 134) = W4 at xl xe yl ye hB ⊢
        simp [Leaves, settle, results, Try.results90, go_sem]
        refine ⟨.tuple #[.slice none 0 0, .int .i64 41], by simp [yl, ye, go_sem], _, rfl, Kd.R_nil _ _ _ _ _, hB⟩
      · rw [if_neg (by omega)] at hrr
        simp only [Prod.mk.injEq] at hrr
        obtain ⟨rfl, rfl⟩ := hrr
        have e1 : decide (16777216 < (l.length : Int)) = false := decide_eq_false (by omega)
        have e2 : decide (16777216 < l.length) = false := decide_eq_false hy
        clear hx hy
        go_wp2
        refine leaves_cons (f := 115) (args := #[.pointer (some ⟨w.heap.size, 0, none⟩), .pointer (some ⟨w.heap.size + 1, 0, none⟩)]) (by simp) (by simp [go_sem]) ?_
        refine (catch_idle_I ⟨w.heap.size, 0, none⟩ ⟨w.heap.size + 1, 0, none⟩ _).mono ?_
        rintro e u' w'' ⟨rfl, rfl, rfl⟩
        have VV : ∃ v : Value, v = .slice A2 xs.length c2 := ⟨_, rfl⟩
        have x1 := (BL2.out.set (.slice A2 xs.length c2)).other (show w.heap.size ≠ w.heap.size + 1 by omega) (.int .i64 0)
        have x2 := (BE2.out.other (show w.heap.size + 1 ≠ w.heap.size by omega) (.slice A2 xs.length c2)).set (.int .i64 0)
        have yl := x1.cell
        have ye := x2.cell
        have hB : Below w.heap.size w (((w1.setCell ⟨w.heap.size, 0, none⟩ (.slice A2 xs.length c2)).setCell ⟨w.heap.size, 0, none⟩ (.slice A2 xs.length c2)).setCell ⟨w.heap.size + 1, 0, none⟩ (.int .i64 0)) := below_set (below_set HB2.out (by omega)) (by omega)
        have q1 := R_past H4.out (grownBy_setCell' w1 w.heap.size (.slice A2 xs.length c2)) (by omega)
        have q2 := R_past q1 (grownBy_setCell' _ w.heap.size (.slice A2 xs.length c2)) (by omega)
        have q3 := Kd.R_lower (base' := w.heap.size) (R_past q2 (grownBy_setCell' _ (w.heap.size + 1) (.int .i64 0)) (by omega)) (by omega)
        generalize ((w1.setCell ⟨w.heap.size, 0, none⟩ (.slice A2 xs.length c2)).setCell ⟨w.heap.size, 0, none⟩ (.slice A2 xs.length c2)).setCell ⟨w.heap.size + 1, 0, none⟩ (.int .i64 0) = W4 at x1 x2 yl ye hB q3 ⊢
        simp [Leaves, settle, results, Try.results90, go_sem]
        refine ⟨.tuple #[.slice A2 xs.length c2, .int .i64 0], by simp [yl, ye, go_sem], _, rfl, q3, hB⟩
def code_Unnums.f (k : Nat) (l0 : List Int) : Option (List Int × Int) := if l0.length ≤ 1000000000 then some (readI l0) else none
theorem code_Unnums.mono : ∀ a0 k, LeO (code_Unnums.f k a0) (code_Unnums.f (k + 1) a0) := fun a0 k => LeO.refl _
set_option maxHeartbeats 1000000 in
theorem code_Unnums.calls (k : Nat) (A0 : Option Addr) (c0 : Nat) (l0 : List Int) (r1 : List Int) (r2 : Int) (w : World) (hr0 : Kd.C (Kd.int .u8) w A0 l0.length l0) (hc0 : l0.length ≤ c0) (h : code_Unnums.f k l0 = some (r1, r2)) :
    Calls Try.prog 32 #[.slice A0 l0.length c0] w fun e w' => ∃ v0_ : Value, e = .returned (.tuple #[v0_, .int .i64 r2]) ∧ Kd.R (Kd.int .i64) 2 w' w.heap.size (fun _ => True) v0_ r1 ∧ Below w.heap.size w w' := by
  unfold code_Unnums.f at h
  split at h
  · rename_i hl
    have hrr := Option.some.inj h
    have hc := read_calls A0 c0 l0 hl w hr0 hc0 r1 r2 hrr
    clear hr0 h hrr
    go_enter Try.func32, Try.ntmps32
    go_wp2_with fail
    refine hc.mono ?_
    rintro e w1 ⟨v, rfl, hR, hb⟩
    go_wp2
    go_ret2
    exact ⟨v, rfl, hR, hb⟩
  · cases h
end Go.Proofs.Ytgihecpobichbaa.Q
