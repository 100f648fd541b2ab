/- Marks, in plain words: what See and Next make, and that the printed functions of the program and of the document make just that; no program in it. -/
import Derived.Test.YtonkenpmacgblaaQx3
namespace Go.Proofs.Ytonkenpmacgblaa.Mark
open Go.RowKit Go.Proofs.Ytonkenpmacgblaa.Q Go.Proofs.YtonkenpmacgblaaW.PrintWords Go.Proofs.YtonkenpmacgblaaW.PrintLast Go.Proofs.YtonkenpmacgblaaW.PrintMore

theorem wrap_id {x : Int} (h0 : -9223372036854775808 ≤ x) (h1 : x ≤ 9223372036854775807) : wrap64 x = x := by
  unfold wrap64
  omega

/-- A mark's changing parts: at, most, seen. -/
abbrev St := Int × Int × Bool
def see (s : St) (t : Int) : St := if -72057594037927936 ≤ t ∧ t ≤ 72057594037927936 then (s.1, if s.2.2 then (if s.2.1 < t then t else s.2.1) else t, true) else s
def next (d : Int) (s : St) : St := if s.2.2 then ((if s.1 < s.2.1 - d then s.2.1 - d else s.1), s.2.1, s.2.2) else s
def row (d : Int) (s : St) (l : List Int) : St := next d (l.foldl see s)
def all (d : Int) (s : St) (ls : List (List Int)) : St := ls.foldl (row d) s
def Inv (d : Int) (s : St) : Prop := 0 ≤ d ∧ d ≤ 72057594037927936 ∧ -72057594037927936 ≤ s.2.1 ∧ s.2.1 ≤ 72057594037927936

theorem inv_see {d : Int} {s : St} (h : Inv d s) (t : Int) : Inv d (see s t) := by
  obtain ⟨a, m, b⟩ := s
  unfold Inv see at *
  dsimp only at *
  split
  · dsimp only
    split
    · split <;> omega
    · omega
  · exact h
theorem inv_fold {d : Int} : ∀ (l : List Int) {s : St}, Inv d s → Inv d (l.foldl see s)
  | [], _, h => h
  | t :: l, _, h => inv_fold l (inv_see h t)
theorem inv_next {d : Int} {s : St} (h : Inv d s) : Inv d (next d s) := by
  obtain ⟨a, m, b⟩ := s
  unfold Inv next at *
  dsimp only at *
  split <;> exact h
theorem inv_row {d : Int} {s : St} (h : Inv d s) (l : List Int) : Inv d (row d s l) := inv_next (inv_fold l h)

theorem see_eq (s : St) (d t : Int) : mark_Mark_See.f s.1 s.2.1 s.2.2 d t = some ((see s t).1, (see s t).2.1, (see s t).2.2, d) := by
  obtain ⟨a, m, b⟩ := s
  unfold mark_Mark_See.f mark_time.f see mx
  by_cases h1 : -72057594037927936 ≤ t
  · by_cases h2 : t ≤ 72057594037927936
    · cases b <;> simp [h1, h2]
    · simp [h1, h2]
  · simp [h1]
theorem next_eq {d : Int} {s : St} (h : Inv d s) : mark_Mark_Next.f s.1 s.2.1 s.2.2 d = some ((next d s).1, (next d s).2.1, (next d s).2.2, d) := by
  obtain ⟨a, m, b⟩ := s
  unfold Inv at h
  dsimp only at h
  unfold mark_Mark_Next.f next mx
  dsimp only
  rw [wrap_id (by omega) (by omega)]
  cases b <;> simp
theorem alive_eq : headgatelaw19_alive.f = some true := by kernel_rfl

theorem few_total (x : List (List Int)) (hx : x.length ≤ 9223372036854775806) : ∀ (d : Nat) (n i : Int), 0 ≤ i → i + d = x.length → 0 ≤ n → n ≤ 5000 → ∃ b, Ev (fun k => headgatelaw19_few.l0 k x n i) b := by
  intro d
  induction d with
  | zero =>
    intro n i h0 h1 h2 h3
    exact ⟨true, Ev.step (f := fun _ => some true) (fun k => by simp only [headgatelaw19_few.l0]; rw [if_neg (by omega)]) (Ev.now _)⟩
  | succ d ih =>
    intro n i h0 h1 h2 h3
    have hm : 0 ≤ mn ((rd_L1 x i).length : Int) 5000 ∧ mn ((rd_L1 x i).length : Int) 5000 ≤ 5000 := by
      unfold mn
      split <;> omega
    have e1 : wrap64 ((wrap64 (n + 1)) + (mn ((rd_L1 x i).length : Int) 5000)) = n + 1 + mn ((rd_L1 x i).length : Int) 5000 := by
      rw [wrap_id (x := n + 1) (by omega) (by omega), wrap_id (by omega) (by omega)]
    have e2 : wrap64 (i + 1) = i + 1 := wrap_id (by omega) (by omega)
    by_cases hs : n + 1 + mn ((rd_L1 x i).length : Int) 5000 > 5000
    · exact ⟨false, Ev.step (f := fun _ => some false) (fun k => by simp only [headgatelaw19_few.l0]; rw [if_pos (by omega), if_pos h0, e1, if_pos hs]) (Ev.now _)⟩
    · obtain ⟨b, hb⟩ := ih (n + 1 + mn ((rd_L1 x i).length : Int) 5000) (i + 1) (by omega) (by omega) (by omega) (by omega)
      exact ⟨b, Ev.step (fun k => by simp only [headgatelaw19_few.l0]; rw [if_pos (by omega), if_pos h0, e1, if_neg hs, e2]) hb⟩
theorem few_some (x : List (List Int)) (hx : x.length ≤ 9223372036854775806) : ∃ b, Ev (fun k => headgatelaw19_few.f k x) b := few_total x hx x.length 0 0 (by omega) (by omega) (by omega) (by omega)
end Go.Proofs.Ytonkenpmacgblaa.Mark
