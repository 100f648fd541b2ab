/- What the program's variables hold, and what ParseInt and FormatInt come to over them. -/
import Derived.Test.YtnjlgeenhmamjaaGreatDoorZDecodeBack7
import Derived.Test.YtnjlgeenhmamjaaGreatDoorZDecodeBack1
import Derived.Lib.LaidTab
namespace Go.Proofs.YtnjlgeenhmamjaaGreatDoor.Q
open Go.RowKit Go.Sort
set_option linter.unusedVariables false
/-- What the laid variables hold, as far as it is read. -/
structure Glob (w : World) : Prop where
  pow : Lib.TabIs Tryz.prog w "internal/strconv.uint64pow10" .u64 Lib.pow10Tab
  syn : ∃ ev, w.cell? ⟨2, 0, none⟩ = some ev ∧ (ev = .nilIface ∨ ∃ te pe, ev = .iface te pe)
  rng : ∃ ev, w.cell? ⟨3, 0, none⟩ = some ev ∧ (ev = .nilIface ∨ ∃ te pe, ev = .iface te pe)
theorem tabIs_below {P : Program} {w w' : World} {name : String} {k : IntKind} {zs : List Int} (h : Lib.TabIs P w name k zs) (hb : Below w.heap.size w w') : Lib.TabIs P w' name k zs := by
  unfold Lib.TabIs World.var? at *
  cases hg : P.globalNamed name with
  | none => simp [hg] at h
  | some g =>
    simp only [hg, Option.bind_some] at h ⊢
    have hlt : g < w.heap.size := by
      rcases Nat.lt_or_ge g w.heap.size with h' | h'
      · exact h'
      · rw [Array.getElem?_eq_none h'] at h; simp at h
    rw [hb.block g hlt]
    exact h
theorem Glob.below {w w' : World} (h : Glob w) (hb : Below w.heap.size w w') : Glob w' := by
  obtain ⟨h1, ⟨e2, h2, k2⟩, ⟨e3, h3, k3⟩⟩ := h
  refine ⟨tabIs_below h1 hb, ⟨e2, ?_, k2⟩, ⟨e3, ?_, k3⟩⟩
  · exact (hb.cell (Lib.lt_of_cell h2)).trans h2
  · exact (hb.cell (Lib.lt_of_cell h3)).trans h3
theorem parse_calls (s : ByteArray) (hs : s.size ≤ 140737488355328) (w : World) (hG : Glob w) :
    Calls Tryz.prog 38 #[.string s, .int .i64 10, .int .i64 64] w fun e w' => Below w.heap.size w w' ∧
      ((∃ n, Lib.parseIntB 64 s.data.toList = .ok n ∧ e = .returned (.tuple #[.int .i64 n, .nilIface])) ∨
        ((∀ n, Lib.parseIntB 64 s.data.toList ≠ .ok n) ∧ ∃ n p, e = .returned (.tuple #[.int .i64 n, .iface 137 (.pointer (some ⟨p, 0, none⟩))]))) := by
  obtain ⟨_, ⟨e2, h2, k2⟩, ⟨e3, h3, k3⟩⟩ := hG
  cases hp : Lib.parseIntB 64 s.data.toList with
  | ok n =>
    refine (Tryz.strconv_ParseInt_10_at64_ok s (by omega) n hp w).mono ?_
    rintro e w' ⟨rfl, hw⟩
    refine ⟨?_, .inl ⟨n, rfl, rfl⟩⟩
    rcases hw with rfl | ⟨t, rfl⟩
    · exact Below.refl _ _
    · exact Lib.bytesWorld_below _ _ _
  | «syntax» =>
    refine (Tryz.strconv_ParseInt_10_at64_syntax s (by omega) hp e2 w h2 k2).mono ?_
    rintro e w' ⟨N, rfl, _, _, hb⟩
    exact ⟨hb, .inr ⟨(fun n h => by cases h), _, _, rfl⟩⟩
  | range =>
    refine (Tryz.strconv_ParseInt_10_at64_range s (by omega) hp e3 w h3 k3).mono ?_
    rintro e w' ⟨N, rfl, _, _, hb⟩
    exact ⟨hb, .inr ⟨(fun n h => by cases h), _, _, rfl⟩⟩
theorem below_growN (B : Nat) (w : World) (q : Nat) (os : Array Obj) (hB : B ≤ w.heap.size) : RowKit.Below B w (grow (w.drewN q) os) :=
  ⟨rfl, rfl, rfl, by first | (simp [grow]; done) | (simp [grow]; omega), fun i hi => by
    show ((w.drewN q).heap ++ os)[i]? = _
    rw [Array.getElem?_append_left (by show i < w.heap.size; omega)]
    rfl⟩
theorem format_calls (n : Int) (h0 : -9223372036854775808 ≤ n) (h1 : n ≤ 9223372036854775807) (w : World) (hG : Glob w) :
    Calls Tryz.prog 15 #[.int .i64 n, .int .i64 10] w fun e w' => e = .returned (.string ⟨(Lib.itoa n).toArray⟩) ∧ Below w.heap.size w w' := by
  refine (Tryz.strconv_FormatInt_10 n h0 h1 w hG.pow).mono ?_
  rintro e w' ⟨rfl, k, os, rfl⟩
  exact ⟨rfl, below_growN _ w k os (Nat.le_refl _)⟩
end Go.Proofs.YtnjlgeenhmamjaaGreatDoor.Q
