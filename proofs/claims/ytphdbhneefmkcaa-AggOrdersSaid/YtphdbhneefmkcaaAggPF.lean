/- What values come to: it is always there. -/
import Derived.Test.YtphdbhneefmkcaaAggPR
import Derived.Test.YtphdbhneefmkcaaHAggH
namespace Go.Proofs.Ytphdbhneefmkcaa.Q
open Go.RowKit Go.Proofs.YtphdbhneefmkcaaW.PrintWords Go.Proofs.YtphdbhneefmkcaaW.PrintLast Go.Proofs.YtphdbhneefmkcaaW.PrintMore
set_option linter.unusedVariables false
set_option linter.unusedSimpArgs false

theorem bothS_parts {a b c d : Int} (hp : Parts a b) (hq : Parts c d) : Parts (bothS a b c d).1 (bothS a b c d).2 := by
  unfold Parts at *
  unfold bothS wrap64
  simp only
  omega
theorem both_good (kind a0 a1 a2 a3 a4 : Int) (a5 : ByteArray) (b0 b1 b2 b3 b4 : Int) (b5 : ByteArray) (hp : Parts a1 a2) (hq : kind = 3 → Parts b1 b2) :
    ∃ r1 r2 r3 r4 r5 r6 r7, agg_Both.f kind a0 a1 a2 a3 a4 a5 b0 b1 b2 b3 b4 b5 = some (r1, r2, r3, r4, r5, r6, r7) ∧ Parts r2 r3 := by
  unfold agg_Both.f num_Both.f
  split
  · exact ⟨_, _, _, _, _, _, _, rfl, by decide⟩
  split
  · exact ⟨_, _, _, _, _, _, _, rfl, hp⟩
  split
  · rename_i h3
    rw [if_pos ⟨hp, hq h3⟩]
    exact ⟨_, _, _, _, _, _, _, rfl, bothS_parts hp (hq h3)⟩
  generalize (if kind = 4 then (1 : Int) else -1) = s
  split <;> exact ⟨_, _, _, _, _, _, _, rfl, hp⟩
theorem add_good (kind a0 a1 a2 a3 a4 : Int) (a5 : ByteArray) (v0 v1 : Int) (v2 : ByteArray) (hp : Parts a1 a2) (hv : in64 v1) :
    ∃ r1 r2 r3 r4 r5 r6 r7, agg_Add.f kind a0 a1 a2 a3 a4 a5 v0 v1 v2 = some (r1, r2, r3, r4, r5, r6, r7) ∧ Parts r2 r3 := by
  unfold agg_Add.f
  rw [add0_eq hv]
  simp only [Option.bind_some]
  split
  · exact ⟨_, _, _, _, _, _, _, rfl, by decide⟩
  split
  · exact ⟨_, _, _, _, _, _, _, rfl, by decide⟩
  split
  · exact ⟨_, _, _, _, _, _, _, rfl, hp⟩
  split
  · exact both_good _ _ _ _ _ _ _ _ _ _ _ _ _ hp (fun _ => ws_parts _)
  · rename_i h3
    exact both_good _ _ _ _ _ _ _ _ _ _ _ _ _ hp (fun h => absurd h h3)
theorem fold_good (kind : Int) : ∀ (l : List S26) (x0 x1 x2 x3 x4 : Int) (x5 : ByteArray) (n : Nat), Parts x1 x2 → (∀ v ∈ l, in64 v.f1) →
    ∃ r1 r2 r3 r4 r5 r6 r7 nn, foldV kind x0 x1 x2 x3 x4 x5 n l = some (r1, r2, r3, r4, r5, r6, r7, nn)
  | [], x0, x1, x2, x3, x4, x5, n, _, _ => ⟨_, _, _, _, _, _, _, _, rfl⟩
  | v :: l, x0, x1, x2, x3, x4, x5, n, hp, hl => by
    obtain ⟨r1, r2, r3, r4, r5, r6, r7, h, hq⟩ := add_good kind x0 x1 x2 x3 x4 x5 v.f0 v.f1 v.f2 hp (hl v (List.mem_cons_self ..))
    unfold foldV
    rw [h]
    simp only [Option.bind_some]
    split
    · exact fold_good kind l _ _ _ _ _ _ _ hq (fun u hu => hl u (List.mem_cons_of_mem _ hu))
    · exact ⟨_, _, _, _, _, _, _, _, rfl⟩
end Go.Proofs.Ytphdbhneefmkcaa.Q
