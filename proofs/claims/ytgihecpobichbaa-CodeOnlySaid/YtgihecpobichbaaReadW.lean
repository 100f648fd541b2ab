/- The reader of package code: so many bytes, a byte, a text: walked. -/
import Derived.Test.YtgihecpobichbaaHRead
namespace Go.Proofs.Ytgihecpobichbaa.Q
open Go.RowKit Go.Proofs.YtgihecpobichbaaW.PrintWords Go.Proofs.YtgihecpobichbaaW.PrintLast Go.Proofs.YtgihecpobichbaaW.PrintMore
set_option linter.unusedVariables false
set_option linter.unusedSimpArgs false

/-- A byte; a text: what is read, and what is left. -/
def itemB : List Int → Option (Int × List Int)
  | [] => none
  | c :: r => some (c, r)
def itemW (l : List Int) : Option (ByteArray × List Int) :=
  if (un l).2.2 = 0 then (if (un l).1 > ((l.drop (un l).2.1.toNat).length : Int) then none else some (strOfNums ((l.drop (un l).2.1.toNat).take (un l).1.toNat), (l.drop (un l).2.1.toNat).drop (un l).1.toNat)) else none
set_option maxHeartbeats 4000000 in
set_option maxRecDepth 100000 in
theorem some_calls (G : Nat) (l : List Int) (hl : l.length ≤ 1000000000) (n : Int) (h0 : 0 ≤ n) (w0 w : World) (hs : RdS w0 w G l) :
    Calls Try.prog 113 #[.pointer (some ⟨G, 0, none⟩), .int .u64 n] w fun E w' =>
      (n ≤ (l.length : Int) → (∃ A c, E = .returned (.slice A n.toNat c) ∧ Kd.C (Kd.int .u8) w0 A (l.take n.toNat).length (l.take n.toNat) ∧ (l.take n.toNat).length = n.toNat) ∧ RdS w0 w' G (l.drop n.toNat)) ∧ (¬ n ≤ (l.length : Int) → E = .panicked badP) ∧ w.grownBy w' (some G) := by
  obtain ⟨A, c, h⟩ := hs
  have hcell := h.box.cell
  have hz := h.box.frozen
  have hlt := h.box.lt
  have hroom := h.room
  have hlen : (l.length : Int) ≤ 18446744073709551615 := by omega
  obtain ⟨Q, hQ⟩ : ∃ Q : Ending → World → Prop, Q = fun E w' =>
      (n ≤ (l.length : Int) → (∃ A c, E = .returned (.slice A n.toNat c) ∧ Kd.C (Kd.int .u8) w0 A (l.take n.toNat).length (l.take n.toNat) ∧ (l.take n.toNat).length = n.toNat) ∧ RdS w0 w' G (l.drop n.toNat)) ∧ (¬ n ≤ (l.length : Int) → E = .panicked badP) ∧ w.grownBy w' (some G) := ⟨_, rfl⟩
  rw [← hQ]
  by_cases hbig : n > (l.length : Int)
  · have hno : Q (.panicked badP) w := by
      rw [hQ]
      exact ⟨fun h => absurd h (by omega), fun _ => rfl, World.grownBy.refl w _⟩
    have HN := Aside0.mk hno
    clear hQ hno
    go_enter Try.func113, Try.ntmps113
    go_wp2
    exact ⟨rfl, HN.out⟩
  · obtain ⟨i0, hi0, _, hsz, _⟩ := info_parts infoU8
    have hto := cut_to (P := Try.prog) 27 5 .u64 (by kernel_rfl) hi0 A l.length c n h0 (by omega) hroom
    have hcut := cut_from (P := Try.prog) 27 5 .u64 (by kernel_rfl) hi0 1 hsz A l.length c n h0 (by omega)
    have hdrop := Kd.C_drop (m := n.toNat) h.has (by omega) hroom
    have htake := Kd.C_take (m := n.toNat) h.has (by omega)
    obtain ⟨A', hA'⟩ : ∃ A', A' = (if c = n.toNat then A else A.map (·.add (n.toNat * 1))) := ⟨_, rfl⟩
    replace hdrop : Kd.C (Kd.int .u8) w0 A' (l.drop n.toNat).length (l.drop n.toNat) := by rw [hA']; exact hdrop
    obtain ⟨n', hn'⟩ : ∃ n', n' = l.length - n.toNat := ⟨_, rfl⟩
    obtain ⟨c', hc'⟩ : ∃ c', c' = c - n.toNat := ⟨_, rfl⟩
    rw [← hA', ← hn', ← hc'] at hcut
    have hlen2 : (l.drop n.toNat).length = n' := by rw [List.length_drop, hn']
    have hyes : ∀ w', Boxed w' G 168 (.slice A' n' c') → Below w0.heap.size w0 w' → w.grownBy w' (some G) → Q (.returned (.slice A n.toNat c)) w' := by
      intro w' hb hbl hg
      rw [hQ]
      exact ⟨fun _ => ⟨⟨A, c, rfl, htake, by rw [List.length_take]; omega⟩, ⟨A', c', by rw [hlen2]; exact hb, hdrop, hbl, h.young, by omega⟩⟩, fun z => absurd z (by omega), hg⟩
    have hb1 := hyes (w.setCell ⟨G, 0, none⟩ (.slice A' n' c')) (h.box.set _) (h.below.trans (((Below.refl G w).grown (grownBy_setCell' _ _ _) (by omega) (fun k e => by cases e; exact Nat.le_refl _)).mono h.young)) (grownBy_setCell' _ _ _)
    have HY := Aside0.mk hb1
    clear hQ hyes hb1 hA' hn' hc' hdrop htake hlen2
    go_enter Try.func113, Try.ntmps113
    go_wp2
    first | exact HY.out | (go_ret; exact HY.out)
theorem RdS.below {w0 w : World} {G : Nat} {l : List Int} (h : RdS w0 w G l) : Below w0.heap.size w0 w := by
  obtain ⟨A, c, h⟩ := h
  exact h.below
set_option maxHeartbeats 4000000 in
set_option maxRecDepth 100000 in
theorem byte_item (G : Nat) (l : List Int) (hl : l.length ≤ 1000000000) (w0 w : World) (hs : RdS w0 w G l) :
    Calls Try.prog 85 #[.pointer (some ⟨G, 0, none⟩)] w (RdOut w0 w G (itemB l) (Value.int .u8)) := by
  have hc := some_calls G l hl 1 (by omega) w0 w hs
  obtain ⟨Q, hQ⟩ : ∃ Q : Ending → World → Prop, Q = RdOut w0 w G (itemB l) (Value.int .u8) := ⟨_, rfl⟩
  rw [← hQ]
  cases l with
  | nil =>
    have hno : ∀ w', w.grownBy w' (some G) → Q (.panicked badP) w' := by
      intro w' hg
      rw [hQ]
      exact ⟨fun x l' h => (by cases h), fun _ => rfl, hg⟩
    have hc2 : Calls Try.prog 113 #[.pointer (some ⟨G, 0, none⟩), .int .u64 1] w fun E w' => E = .panicked badP ∧ w.grownBy w' (some G) := hc.mono fun E w' h => ⟨h.2.1 (by simp), h.2.2⟩
    clear hQ hs hc
    go_enter Try.func85, Try.ntmps85
    go_wp2_with fail
    refine hc2.mono ?_
    rintro E w1 ⟨rfl, hg⟩
    go_wp2
    exact ⟨rfl, hno _ hg⟩
  | cons b r =>
    have hyes : ∀ w', RdS w0 w' G r → w.grownBy w' (some G) → Q (.returned (.int .u8 b)) w' := by
      intro w' hr hg
      rw [hQ]
      refine ⟨fun x l' h => ?_, fun h => (by cases h), hg⟩
      simp only [itemB, Option.some.injEq, Prod.mk.injEq] at h
      obtain ⟨rfl, rfl⟩ := h
      exact ⟨rfl, hr⟩
    have hc2 : Calls Try.prog 113 #[.pointer (some ⟨G, 0, none⟩), .int .u64 1] w fun E w' => (∃ ad c, E = .returned (.slice (some ad) 1 c) ∧ w'.cell? ad = some (.int .u8 b)) ∧ RdS w0 w' G r ∧ w.grownBy w' (some G) := by
      refine hc.mono ?_
      rintro E w' ⟨h1, _, h3⟩
      obtain ⟨⟨A, c, rfl, hC, _⟩, hr⟩ := h1 (by simp only [List.length_cons]; omega)
      obtain ⟨ad, rfl, hcell⟩ := Kd.at_int (Kd.C_below hC hr.below) 0 (by omega) (by simp)
      exact ⟨⟨ad, c, rfl, by simpa [Addr.add, rd] using hcell⟩, hr, h3⟩
    clear hQ hs hc
    go_enter Try.func85, Try.ntmps85
    go_wp2_with fail
    refine hc2.mono ?_
    rintro E w1 ⟨⟨ad, c, rfl, hcell⟩, hr, hg⟩
    have HR := Aside0.mk hr
    have HG := Aside0.mk hg
    clear hr hg hc2
    go_wp2
    first | exact hyes _ HR.out HG.out | (go_ret; exact hyes _ HR.out HG.out)
set_option maxHeartbeats 4000000 in
set_option maxRecDepth 100000 in
theorem word_item (G : Nat) (l : List Int) (hl : l.length ≤ 1000000000) (w0 w : World) (hs : RdS w0 w G l) :
    Calls Try.prog 84 #[.pointer (some ⟨G, 0, none⟩)] w (RdOut w0 w G (itemW l) Value.string) := by
  have hnum := num_un G l (by omega) w0 w hs
  have hun := unS_le l 0 0
  have hn0 := un_range l (by omega)
  obtain ⟨n, hn⟩ : ∃ n, (un l).1 = n := ⟨_, rfl⟩
  obtain ⟨l1, hl1⟩ : ∃ l1, l.drop (un l).2.1.toNat = l1 := ⟨_, rfl⟩
  have hl1' : l1.length ≤ 1000000000 := by rw [← hl1, List.length_drop]; omega
  obtain ⟨RR, hRR⟩ : ∃ RR, itemW l = RR := ⟨_, rfl⟩
  rw [hRR]
  obtain ⟨Q, hQ⟩ : ∃ Q : Ending → World → Prop, Q = RdOut w0 w G RR Value.string := ⟨_, rfl⟩
  rw [← hQ]
  have hno : ∀ w', RR = none → w.grownBy w' (some G) → Q (.panicked badP) w' := by
    intro w' h1 h2
    rw [hQ]
    exact ⟨fun xs l' h => (by rw [h1] at h; cases h), fun _ => rfl, h2⟩
  have hyes : ∀ w' x l', RR = some (x, l') → RdS w0 w' G l' → w.grownBy w' (some G) → Q (.returned (.string x)) w' := by
    intro w' x l' h1 h3 h4
    rw [hQ]
    refine ⟨fun xs' l'' h => ?_, fun h => (by rw [h1] at h; cases h), h4⟩
    rw [h1] at h
    simp only [Option.some.injEq, Prod.mk.injEq] at h
    obtain ⟨rfl, rfl⟩ := h
    exact ⟨rfl, h3⟩
  clear hQ
  unfold itemW at hRR
  rw [hn, hl1] at hRR
  rw [hn, hl1] at hnum
  rw [hn] at hn0
  by_cases he : (un l).2.2 = 0
  · rw [if_pos he] at hRR
    have hc : Calls Try.prog 111 #[.pointer (some ⟨G, 0, none⟩)] w fun E w' => E = .returned (.int .u64 n) ∧ RdS w0 w' G l1 ∧ w.grownBy w' (some G) := hnum.mono fun E w' ⟨h1, _, h3⟩ => ⟨(h1 he).1, (h1 he).2, h3⟩
    have hsome : ∀ w1, RdS w0 w1 G l1 → _ := fun w1 h => some_calls G l1 hl1' n hn0 w0 w1 h
    clear hnum hn hl1 hun he hs
    go_enter Try.func84, Try.ntmps84
    go_wp2_with fail
    refine hc.mono ?_
    rintro E w1 ⟨rfl, hs1, hg1⟩
    have HG1 := Aside0.mk hg1
    have hc2 := hsome w1 hs1
    clear hc hg1 hsome hs1
    go_wp2_with fail
    by_cases hbig : n > (l1.length : Int)
    · rw [if_pos hbig] at hRR
      refine hc2.mono ?_
      rintro E w2 ⟨_, h2, h3⟩
      obtain rfl := h2 (by omega)
      have HQ := Aside0.mk (hno w2 hRR.symm (gb_trans HG1.out h3))
      clear h2 h3 hRR hbig hno hyes
      go_wp2
      exact ⟨rfl, HQ.out⟩
    · rw [if_neg hbig] at hRR
      refine hc2.mono ?_
      rintro E w2 ⟨h1, _, h3⟩
      obtain ⟨⟨A, c, rfl, hC, hlen⟩, hr⟩ := h1 (by omega)
      have hcs := Kd.C_string (P := Try.prog) (c := c) Try.underlying27 Try.underlying5 Try.underlying9 (Kd.C_below hC hr.below)
      rw [hlen] at hcs
      have HQ := Aside0.mk (hyes w2 _ _ hRR.symm hr (gb_trans HG1.out h3))
      clear h1 h3 hRR hbig hno hyes hC hr hlen
      go_wp2
      first | exact HQ.out | (go_ret; exact HQ.out)
  · rw [if_neg he] at hRR
    have hc : Calls Try.prog 111 #[.pointer (some ⟨G, 0, none⟩)] w fun E w' => E = .panicked badP ∧ w.grownBy w' (some G) := hnum.mono fun E w' ⟨_, h2, h3⟩ => ⟨h2 he, h3⟩
    have HR := Aside0.mk hRR
    clear hnum hn hl1 hun he hs hRR
    go_enter Try.func84, Try.ntmps84
    go_wp2_with fail
    refine hc.mono ?_
    rintro E w1 ⟨rfl, hg1⟩
    go_wp2
    exact ⟨rfl, hno _ HR.out.symm hg1⟩
end Go.Proofs.Ytgihecpobichbaa.Q
