/- The reader of package code: a number, the next bytes: walked. -/
import Derived.Test.YtgihecpobichbaaCodeA
import Derived.LoopTactic
import Derived.Laws.AppendOwn
import Derived.RangeFuncBox
import Derived.Recover
import Derived.WalkLawsBesides
namespace Go.Proofs.Ytgihecpobichbaa.Q
open Go.RowKit Go.Proofs.YtgihecpobichbaaW.PrintWords Go.Proofs.YtgihecpobichbaaW.PrintLast Go.Proofs.YtgihecpobichbaaW.PrintMore
set_option linter.unusedVariables false
set_option linter.unusedSimpArgs false

theorem dr_cell {w w' : World} (h : Drawn0 w w') (a : Addr) : w'.cell? a = w.cell? a := by
  obtain ⟨n, rfl⟩ := h.out
  rfl
theorem dr_frozen {w w' : World} (h : Drawn0 w w') (a : Addr) : w'.frozen? a = w.frozen? a := by
  obtain ⟨n, rfl⟩ := h.out
  rfl
theorem dr_below {w w' : World} (h : Drawn0 w w') (B : Nat) : Below B w w' := by
  obtain ⟨n, rfl⟩ := h.out
  exact ⟨rfl, rfl, rfl, Nat.le_refl _, fun _ _ => rfl⟩
theorem dr_box {w w' : World} (h : Drawn0 w w') {G : Nat} {t : TypeId} {v : Value} (hb : Boxed w G t v) : Boxed w' G t v := by
  obtain ⟨n, rfl⟩ := h.out
  exact hb
/-- What the package throws. -/
def badP : List PanicEntry := [{ v := .iface 134 (.agg #[]), recovered := false }]
/-- A reader in block G, made since the world w0: what is left to read. -/
structure Rd (w0 w : World) (G : Nat) (l : List Int) (A : Option Addr) (c : Nat) : Prop where
  box : Boxed w G 168 (.slice A l.length c)
  has : Kd.C (Kd.int .u8) w0 A l.length l
  below : Below w0.heap.size w0 w
  young : w0.heap.size ≤ G
  room : l.length ≤ c
theorem Rd.now {w0 w : World} {G : Nat} {l : List Int} {A : Option Addr} {c : Nat} (h : Rd w0 w G l A c) : Kd.C (Kd.int .u8) w A l.length l := Kd.C_below h.has h.below
/-- Some reader of l in block G. -/
def RdS (w0 w : World) (G : Nat) (l : List Int) : Prop := ∃ A c, Rd w0 w G l A c
theorem dr_grown {w w' : World} (h : Drawn0 w w') (row : Option Nat) : w.grownBy w' row := by
  obtain ⟨n, rfl⟩ := h.out
  exact ⟨rfl, rfl, rfl, Nat.le_refl _, fun _ _ _ => rfl⟩
theorem gb_trans {w w1 w2 : World} {row : Option Nat} (h1 : w.grownBy w1 row) (h2 : w1.grownBy w2 row) : w.grownBy w2 row := by
  obtain ⟨a1, a2, a3, a4, a5⟩ := h1
  obtain ⟨b1, b2, b3, b4, b5⟩ := h2
  exact ⟨b1.trans a1, b2.trans a2, b3.trans a3, Nat.le_trans a4 b4, fun k hk hne => (b5 k (Nat.lt_of_lt_of_le hk a4) hne).trans (a5 k hk hne)⟩
theorem infoU8 : (Try.prog.info? 5).map (fun i => (i.zero, i.size, i.bytes)) = some (some (.int .u8 0), 1, 1) := by kernel_rfl

set_option maxHeartbeats 4000000 in
set_option maxRecDepth 100000 in
theorem num_calls (k : Nat) (G : Nat) (l : List Int) (n j e : Int) (w0 w : World) (hs : RdS w0 w G l) (hf : code_Unnum.f k l = some (n, j, e)) (hj : 0 ≤ j ∧ j ≤ (l.length : Int)) :
    Calls Try.prog 111 #[.pointer (some ⟨G, 0, none⟩)] w fun E w' => (e = 0 → E = .returned (.int .u64 n) ∧ RdS w0 w' G (l.drop j.toNat)) ∧ (¬ e = 0 → E = .panicked badP) ∧ w.grownBy w' (some G) := by
  obtain ⟨A, c, h⟩ := hs
  have hc := h.box.cell
  have hz := h.box.frozen
  have hlt := h.box.lt
  have hnow := h.now
  have hroom := h.room
  obtain ⟨i0, hi0, _, hsz, _⟩ := info_parts infoU8
  have hcut := cut_from (P := Try.prog) 27 5 .i64 (by kernel_rfl) hi0 1 hsz A l.length c j hj.1 hj.2
  have hdrop := Kd.C_drop (m := j.toNat) h.has (by omega) hroom
  obtain ⟨A', hA'⟩ : ∃ A', A' = (if c = j.toNat then A else A.map (·.add (j.toNat * 1))) := ⟨_, rfl⟩
  replace hdrop : Kd.C (Kd.int .u8) w0 A' (l.drop j.toNat).length (l.drop j.toNat) := by rw [hA']; exact hdrop
  obtain ⟨n', hn'⟩ : ∃ n', n' = l.length - j.toNat := ⟨_, rfl⟩
  obtain ⟨c', hc'⟩ : ∃ c', c' = c - j.toNat := ⟨_, rfl⟩
  rw [← hA', ← hn', ← hc'] at hcut
  have hlen : (l.drop j.toNat).length = n' := by rw [List.length_drop, hn']
  obtain ⟨R, hR⟩ : ∃ R : World → Prop, R = fun w' => RdS w0 w' G (l.drop j.toNat) := ⟨_, rfl⟩
  have hR' : ∀ w', Boxed w' G 168 (.slice A' n' c') → Below w0.heap.size w0 w' → R w' := by
    intro w' hb hbl
    rw [hR]
    exact ⟨A', c', by rw [hlen]; exact hb, hdrop, hbl, h.young, by omega⟩
  suffices hx : Calls Try.prog 111 #[.pointer (some ⟨G, 0, none⟩)] w fun E w' => (e = 0 → E = .returned (.int .u64 n) ∧ R w') ∧ (¬ e = 0 → E = .panicked badP) ∧ w.grownBy w' (some G) by
    rw [hR] at hx
    exact hx
  clear hA' hn' hc' hR hdrop hlen
  go_enter Try.func111, Try.ntmps111
  by_cases he : e = 0
  · subst he
    go_wp2_with (go_at_call 13; refine (code_Unnum.calls k A c l n j 0 _ hnow hroom hf).mono ?_; rintro E w1 ⟨rfl, hd1⟩; have hc1 := (dr_cell hd1 _).trans hc; have hz1 := (dr_frozen hd1 _).trans hz)
    have hg : Below G w1 (w1.setCell ⟨G, 0, none⟩ (.slice A' n' c')) := (Below.refl _ w1).grown (grownBy_setCell' _ _ _) (by have := (dr_below hd1 G).size; omega) (fun k e => by cases e; exact Nat.le_refl _)
    have hb1 := hR' _ ((dr_box hd1 h.box).set (.slice A' n' c')) (h.below.trans (((dr_below hd1 G).trans hg).mono h.young))
    have hb2 : w.grownBy (w1.setCell ⟨G, 0, none⟩ (.slice A' n' c')) (some G) := gb_trans (dr_grown hd1 _) (grownBy_setCell' _ _ _)
    go_ret
    first
      | exact ⟨fun _ => ⟨rfl, hb1⟩, fun z => absurd rfl z, hb2⟩
      | exact ⟨⟨rfl, hb1⟩, hb2⟩
      | exact ⟨hb1, hb2⟩
  · have hb : (e != 0) = true := by simpa using he
    go_wp2_with (go_at_call 13; refine (code_Unnum.calls k A c l n j e _ hnow hroom hf).mono ?_; rintro E w1 ⟨rfl, hd1⟩; have hc1 := (dr_cell hd1 _).trans hc; have hz1 := (dr_frozen hd1 _).trans hz)
    exact ⟨rfl, fun z => absurd z he, fun _ => rfl, dr_grown hd1 _⟩
set_option maxHeartbeats 4000000 in
set_option maxRecDepth 100000 in
theorem whole_calls (k : Nat) (G : Nat) (l : List Int) (n j e : Int) (w0 w : World) (hs : RdS w0 w G l) (hf : code_Unnum.f k l = some (n, j, e)) (hj : 0 ≤ j ∧ j ≤ (l.length : Int)) :
    Calls Try.prog 93 #[.pointer (some ⟨G, 0, none⟩)] w fun E w' => (e = 0 → E = .returned (.int .i64 (unz n)) ∧ RdS w0 w' G (l.drop j.toNat)) ∧ (¬ e = 0 → E = .panicked badP) ∧ w.grownBy w' (some G) := by
  have hn := num_calls k G l n j e w0 w hs hf hj
  obtain ⟨R, hR⟩ : ∃ R : World → Prop, R = fun w' => RdS w0 w' G (l.drop j.toNat) := ⟨_, rfl⟩
  replace hn : Calls Try.prog 111 #[.pointer (some ⟨G, 0, none⟩)] w fun E w' => (e = 0 → E = .returned (.int .u64 n) ∧ R w') ∧ (¬ e = 0 → E = .panicked badP) ∧ w.grownBy w' (some G) := by rw [hR]; exact hn
  suffices hx : Calls Try.prog 93 #[.pointer (some ⟨G, 0, none⟩)] w fun E w' => (e = 0 → E = .returned (.int .i64 (unz n)) ∧ R w') ∧ (¬ e = 0 → E = .panicked badP) ∧ w.grownBy w' (some G) by
    rw [hR] at hx
    exact hx
  clear hR hs hf
  go_enter Try.func93, Try.ntmps93
  by_cases he : e = 0
  · go_wp2_with (go_at_call 111; refine hn.mono ?_; rintro E w1 ⟨h1, h2, h3⟩; obtain ⟨rfl, h1'⟩ := h1 he)
    go_ret
    exact ⟨fun _ => ⟨rfl, h1'⟩, fun z => absurd he z, h3⟩
  · go_wp2_with (go_at_call 111; refine hn.mono ?_; rintro E w1 ⟨h1, h2, h3⟩; obtain rfl := h2 he)
    exact ⟨rfl, fun z => absurd z he, fun _ => rfl, h3⟩
theorem num_un (G : Nat) (l : List Int) (hl : l.length ≤ 1000000000000000000) (w0 w : World) (hs : RdS w0 w G l) :
    Calls Try.prog 111 #[.pointer (some ⟨G, 0, none⟩)] w fun E w' => ((un l).2.2 = 0 → E = .returned (.int .u64 (un l).1) ∧ RdS w0 w' G (l.drop (un l).2.1.toNat)) ∧ (¬ (un l).2.2 = 0 → E = .panicked badP) ∧ w.grownBy w' (some G) := by
  obtain ⟨k, hk⟩ := (un_ev l hl).rounds
  have := unS_le l 0 0
  exact num_calls k G l _ _ _ w0 w hs hk ⟨this.1, by have := this.2; simpa [un] using this⟩
theorem whole_un (G : Nat) (l : List Int) (hl : l.length ≤ 1000000000000000000) (w0 w : World) (hs : RdS w0 w G l) :
    Calls Try.prog 93 #[.pointer (some ⟨G, 0, none⟩)] w fun E w' => ((un l).2.2 = 0 → E = .returned (.int .i64 (unz (un l).1)) ∧ RdS w0 w' G (l.drop (un l).2.1.toNat)) ∧ (¬ (un l).2.2 = 0 → E = .panicked badP) ∧ w.grownBy w' (some G) := by
  obtain ⟨k, hk⟩ := (un_ev l hl).rounds
  have := unS_le l 0 0
  exact whole_calls k G l _ _ _ w0 w hs hk ⟨this.1, by have := this.2; simpa [un] using this⟩
end Go.Proofs.Ytgihecpobichbaa.Q
