/- The row of the law AggPacks: for every input the call returns true and leaves its arguments as they were; out of the pure statement and the printed contract. -/
import Derived.Test.YtphdbhneefmkcaaRows
import Derived.Test.YtphdbhneefmkcaaRk
import Derived.Test.YtphdbhneefmkcaaHx4
import Derived.Test.YtphdbhneefmkcaaAggPP
import Derived.WalkKit
import Derived.ProofKit
import Derived.OpenShut
import Derived.ShutString
import Derived.ChangeOld
import Derived.Below
import Derived.SizedLaws
import Derived.Test.YtphdbhneefmkcaaOpens
namespace Go.Proofs.Ytphdbhneefmkcaa.aggPacks
open Go.ChangeShapes Go.WideShapes Go.ChangeAt Go.RowKit Go.Proofs.YtphdbhneefmkcaaR
open Go.Proofs.YtphdbhneefmkcaaW.PrintWords Go.Proofs.Ytphdbhneefmkcaa.Q
open Go.ChangeMaps (open_string shut_string)
theorem own : ownKnob Try.prog.godebug = none := by kernel_rfl
theorem laidOut : laidOutB Try.prog = true := by kernel_rfl
theorem bytes26 : Try.prog.bytesOf 26 = 32 := by kernel_rfl
set_option maxRecDepth 100000 in
theorem lifted (os : Os) (started : os.Started) (H : Type) (enc : TypeId × Value → H) :
    ReturnsInHanded {} Try.checked os 8 .any (Rows.aggPacksSpec.pre6 enc Try.prog Try.f8 Rows.aggPacksRow.domain false) (Rows.aggPacksSpec.post enc Try.prog Try.f8 false true false false) := by
  refine returnsInHanded_of_change_sized (C := Try.checked) own started (by kernel_rfl) Try.func8
    (ChangeSpec.witness6 (enc := enc) (C := Try.checked) false ⟨#[], #[.agg #[.int .i64 0, .int .i64 0, .int .u64 0, .int .i64 0, .int .i64 0, .string ByteArray.empty], .slice none 0 0], []⟩ 8 (by kernel_rfl) (by kernel_rfl) (by kernel_rfl) (by kernel_rfl)) ?_
  intro W base args ds gs before hval0 hW _ hsz0 _
  have hsz : (DataW.weightsEach Try.prog (Try.f8.params.toList ++ Rows.aggPacksSpec.plain.varTypes Try.prog) (ds ++ gs)).all (· ≤ reachBytes) = true := hsz0
  have hval : ∀ (j : Nat) t v, Try.f8.params[j]? = some t → args[j]? = some v → Value.okWide Try.prog W .any base t v := hval0
  have hW' := hW
  obtain ⟨p, q, hA0, hV, rfl, _, _⟩ := hW
  have hA : DataW.TrodAll enc Try.prog W 0 (fun _ => true) true Try.f8.params.toList args.toList ds p := hA0
  rw [Try.params8] at hA hval hsz
  obtain ⟨v0, vs0, d0, ds0, p0, q0, hargs, rfl, rfl, h0, r0⟩ := trodAll_cons hA
  obtain ⟨v1, vs1, d1, ds1, p1, q1, rfl, rfl, rfl, h1, r1⟩ := trodAll_cons r0
  obtain ⟨rfl, rfl, rfl⟩ := trodAll_nil r1
  obtain rfl : args = #[v0, v1] := by cases args; simp_all
  obtain ⟨rfl, rfl⟩ := trodVars_none hV
  have k0 := h0
  have lt0 : ∀ x ∈ p0, x.block < W.heap.size := by obtain ⟨m, hm⟩ := k0; exact DataW.trod_lt m _ _ _ hm
  obtain ⟨x0, hk0, hg0⟩ := open_arg (j := 0) (opens28 W) h0 hsz rfl rfl
  obtain ho0 := Q.k28_open hk0
  obtain rfl : v0 = .agg #[.int .i64 x0.f0, .int .i64 x0.f1.f0, .int .u64 x0.f1.f1, .int .i64 x0.f2.f0, .int .i64 x0.f2.f1, .string x0.f2.f2] := agg_form ho0 (by simp)
  have k1 := h1
  have lt1 : ∀ x ∈ p1, x.block < W.heap.size := by obtain ⟨m, hm⟩ := k1; exact DataW.trod_lt m _ _ _ hm
  obtain ⟨x1, hk1, hg1⟩ := open_arg (j := 1) (opens_slice Try.underlying44 (by kernel_rfl) (opens26 W)) h1 hsz rfl rfl
  obtain ⟨a1, len1, cap1, rfl⟩ := okWide_slice Try.underlying44 (hval 1 44 v1 rfl rfl)
  obtain ⟨A1, c1, hcs1, hle1, hC1⟩ := hk1
  obtain ⟨rfl, rfl, rfl⟩ : a1 = A1 ∧ len1 = x1.length ∧ cap1 = c1 := by simpa [Value.cells] using hcs1
  simp only [bytes26] at hg1
  obtain ⟨k, hk⟩ := Go.Proofs.Ytphdbhneefmkcaa.Q.AggPacks_pure x0 x1 hg0 hg1
  refine (Go.Proofs.Ytphdbhneefmkcaa.Q.headgatelaw15_AggPacks.calls k x0.f0 x0.f1.f0 x0.f1.f1 x0.f2.f0 x0.f2.f1 x0.f2.f2 _ _ x1 true W hC1 hle1 hk).mono fun e W' hb => ?_
  have bel : Below W.heap.size W W' := by first | exact hb.2 | (obtain ⟨n, rfl⟩ := hb.2.out; exact pw_below_drewN (Below.refl _ _) n)
  obtain ⟨he, _⟩ := hb
  subst he
  exact ⟨_, rfl, _, _, _, [], _, [], hW', trodAll_mk1 (shut_bool Try.underlying4 _), (trodAll_cons_mk (Below.trod laidOut (by kernel_rfl) (of_decide_eq_true (by kernel_rfl)) k0 bel lt0) (trodAll_cons_mk (Below.trod laidOut (by kernel_rfl) (of_decide_eq_true (by kernel_rfl)) k1 bel lt1) trodAll_mk0)), rfl, bel.frame _, fun h => by cases h⟩
theorem over : Rows.aggPacksRow.holds Try.pinned (OpenSpec.ofChange Rows.aggPacksSpec) :=
  OpenClaim.holds_of_wide 8 Try.f8 rfl rfl rfl rfl rfl rfl rfl ⟨rfl, rfl, rfl, rfl, rfl⟩ rfl rfl rfl rfl rfl (by kernel_rfl) Try.func8 (by kernel_rfl)
    (of_decide_eq_true (by kernel_rfl)) (by unfold Func.isWrapper; first | (rw [if_pos (by decide +kernel)]; kernel_rfl) | (rw [if_neg (by decide +kernel)]; exact ⟨rfl, rfl⟩))
    (fun os started H enc _ => lifted os started H enc)
theorem proved : Rows.AggPacksSaid := over
#print axioms proved
end Go.Proofs.Ytphdbhneefmkcaa.aggPacks
namespace Go.Proofs.Ytphdbhneefmkcaa
/-- The row, under a short name, for the claim. -/
theorem aggPacks_holds : Rows.AggPacksSaid := aggPacks.proved
end Go.Proofs.Ytphdbhneefmkcaa
