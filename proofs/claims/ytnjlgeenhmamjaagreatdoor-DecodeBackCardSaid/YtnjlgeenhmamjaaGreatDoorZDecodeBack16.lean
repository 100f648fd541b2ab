/- (*strings.Replacer).Replace: walked; the replacer's two states. -/
import Derived.Test.YtnjlgeenhmamjaaGreatDoorZDecodeBack15
import Derived.Handy
namespace Go.Proofs.YtnjlgeenhmamjaaGreatDoor.Q
open Go.RowKit Go.Proofs.YtnjlgeenhmamjaaGreatDoorW.PrintWords Go.Proofs.YtnjlgeenhmamjaaGreatDoorW.PrintLast Go.Proofs.YtnjlgeenhmamjaaGreatDoorW.PrintMore
set_option linter.unusedVariables false
set_option linter.unusedSimpArgs false
theorem cell_same {w w' : World} {a : Addr} (h : w'.heap[a.block]? = w.heap[a.block]?) : w'.cell? a = w.cell? a := by
  unfold World.cell?
  rw [h]
theorem cell_lt {w : World} {g j : Nat} {v : Value} (h : w.cell? ⟨g, j, none⟩ = some v) : g < w.heap.size := by
  rcases Nat.lt_or_ge g w.heap.size with h1 | h1
  · exact h1
  · unfold World.cell? at h
    rw [Array.getElem?_eq_none h1] at h
    simp at h
/-- A replacer that has been asked. -/
def RDone (L b : Nat) (w : World) : Prop := ∃ (bk B : Nat) (cur : Array Value) (vt : Value), L < B ∧ B ≤ bk ∧ RB w b 1 0 (.iface 130 (.pointer (some ⟨bk, 0, none⟩))) (.slice none 0 0) ∧ BST B bk KS cur vt w
/-- A replacer, asked or not; what is laid at L does not touch it. -/
def SG (L b : Nat) (w : World) : Prop := b < L ∧ L < w.heap.size ∧ ((∃ g C, g < L ∧ RUn w b g C) ∨ RDone L b w)
theorem SG.keep {L b : Nat} {w w' : World} (h : SG L b w) (hz : w.heap.size ≤ w'.heap.size) (hs : ∀ k, k < w.heap.size → k ≠ L → w'.heap[k]? = w.heap[k]?) : SG L b w' := by
  obtain ⟨h1, h2, h3⟩ := h
  refine ⟨h1, Nat.lt_of_lt_of_le h2 hz, ?_⟩
  rcases h3 with ⟨g, C, a1, a2, a3, a4, a5, a6, a7⟩ | ⟨bk, B, cur, vt, a1, a2, a3, a4⟩
  · have hg : w'.heap[g]? = w.heap[g]? := hs g (by omega) (by omega)
    exact .inl ⟨g, C, a1, (hs b (by omega) (by omega)).trans a2, a3, (cell_same hg).trans a4, (cell_same hg).trans a5, (cell_same hg).trans a6, (cell_same hg).trans a7⟩
  · exact .inr ⟨bk, B, cur, vt, a1, a2, (hs b (by omega) (by omega)).trans a3, a4.far a2 hz (fun k k1 k2 => hs k k2 (by omega))⟩
theorem SG.below {L b : Nat} {w w' : World} (h : SG L b w) (hb : Below w.heap.size w w') : SG L b w' := h.keep hb.size (fun k k1 _ => hb.block k k1)
set_option maxHeartbeats 4000000 in
set_option maxRecDepth 100000 in
theorem rep_calls (L b : Nat) (s : ByteArray) (hs : s.size ≤ 1000) (w : World) (h : SG L b w) :
    Calls Tryz.prog 17 #[.pointer (some ⟨b, 0, none⟩), .string s] w fun e w' => e = .returned (.string (strOfNums (escS (bytesOf s)))) ∧ SG L b w' ∧ w.grownBy w' (some b) := by
  obtain ⟨R, hR⟩ : ∃ R, strOfNums (escS (bytesOf s)) = R := ⟨_, rfl⟩
  have hdo : Calls Tryz.prog 29 #[.pointer (some ⟨b, 0, none⟩), .func (.func 30) #[.pointer (some ⟨b, 0, none⟩)] #[]] w fun e w' => e = .returned (.tuple #[]) ∧ RDone L b w' ∧ w.grownBy w' (some b) := by
    obtain ⟨h1, h2, h3⟩ := h
    rcases h3 with ⟨g, C, a1, a2⟩ | hd
    · refine (do_first b g C w a2).mono ?_
      rintro e w' ⟨rfl, bk, cur, vt, r1, r2, r3, r4⟩
      exact ⟨rfl, ⟨bk, _, cur, vt, h2, r2, r1, r3⟩, r4⟩
    · refine (do_done ⟨b, 0, none⟩ _ w ?_).mono ?_
      · obtain ⟨bk, B, cur, vt, d1, d2, d3, d4⟩ := hd
        exact (blk_cell d3 0).trans rfl
      · rintro e w' ⟨rfl, rfl⟩
        exact ⟨rfl, hd, gb_below (Below.refl _ _) _⟩
  have hL := h.2.1
  have hbL := h.1
  rw [hR]
  clear h
  go_enter Tryz.func17, Tryz.ntmps17
  go_wp2_with (first | (go_at_call 29; refine hdo.mono ?_; rintro e w1 ⟨rfl, hd1, hg1⟩; obtain ⟨bk, B, cur, vt, d1, d2, d3, d4⟩ := hd1; have e1 : w1.cell? ⟨b, 3, none⟩ = some (.iface 130 (.pointer (some ⟨bk, 0, none⟩))) := (blk_cell d3 3).trans rfl; have HBS := Aside0.mk d4; have HD3 := Aside0.mk d3; have HG1 := Aside0.mk hg1; have hcall := bsr_calls B bk cur vt s hs w1 d4; rw [hR] at hcall; clear d4 d3 hg1 hdo) | (go_at_call 132; refine hcall.mono ?_; rintro e w2 ⟨rfl, hb2⟩; have HB2 := Aside0.mk hb2; clear hb2 hcall))
  go_ret
  have hS : SG L b w1 := ⟨hbL, Nat.lt_of_lt_of_le hL HG1.out.size, .inr ⟨bk, B, cur, vt, d1, d2, HD3.out, HBS.out⟩⟩
  exact ⟨rfl, hS.below HB2.out, gb_trans1 HG1.out (gb_below HB2.out _)⟩
end Go.Proofs.YtnjlgeenhmamjaaGreatDoor.Q
