/- The row of the law AggOrders: for every input the call returns true and leaves its arguments as they were; out of the pure statement and the printed contract. -/
import Derived.Test.YtphdbhneefmkcaaRows
import Derived.Test.YtphdbhneefmkcaaRk
import Derived.Test.YtphdbhneefmkcaaHAggO
import Derived.Test.YtphdbhneefmkcaaHAggO
import Derived.WalkKit
import Derived.ProofKit
import Derived.OpenShut
import Derived.ShutString
import Derived.ChangeOld
import Derived.Below
import Derived.SizedLaws
import Derived.Test.YtphdbhneefmkcaaOpens
namespace Go.Proofs.Ytphdbhneefmkcaa.aggOrders
open Go.ChangeShapes Go.WideShapes Go.ChangeAt Go.RowKit Go.Proofs.YtphdbhneefmkcaaR
open Go.Proofs.YtphdbhneefmkcaaW.PrintWords Go.Proofs.Ytphdbhneefmkcaa.Q
open Go.ChangeMaps (open_string shut_string)
theorem own : ownKnob Try.prog.godebug = none := by kernel_rfl
theorem laidOut : laidOutB Try.prog = true := by kernel_rfl
theorem bytes26 : Try.prog.bytesOf 26 = 32 := by kernel_rfl
set_option maxRecDepth 100000 in
theorem lifted (os : Os) (started : os.Started) (H : Type) (enc : TypeId × Value → H) :
    ReturnsInHanded {} Try.checked os 6 .any (Rows.aggOrdersSpec.pre6 enc Try.prog Try.f6 Rows.aggOrdersRow.domain false) (Rows.aggOrdersSpec.post enc Try.prog Try.f6 false true false false) := by
  refine returnsInHanded_of_change_sized (C := Try.checked) own started (by kernel_rfl) Try.func6
    (ChangeSpec.witness6 (enc := enc) (C := Try.checked) false ⟨#[], #[.int .u8 0, .slice none 0 0, .int .u8 0], []⟩ 8 (by kernel_rfl) (by kernel_rfl) (by kernel_rfl) (by kernel_rfl)) ?_
  intro W base args ds gs before hval0 hW _ hsz0 _
  have hsz : (DataW.weightsEach Try.prog (Try.f6.params.toList ++ Rows.aggOrdersSpec.plain.varTypes Try.prog) (ds ++ gs)).all (· ≤ reachBytes) = true := hsz0
  have hval : ∀ (j : Nat) t v, Try.f6.params[j]? = some t → args[j]? = some v → Value.okWide Try.prog W .any base t v := hval0
  have hW' := hW
  obtain ⟨p, q, hA0, hV, rfl, _, _⟩ := hW
  have hA : DataW.TrodAll enc Try.prog W 0 (fun _ => true) true Try.f6.params.toList args.toList ds p := hA0
  rw [Try.params6] at hA hval hsz
  obtain ⟨v0, vs0, d0, ds0, p0, q0, hargs, rfl, rfl, h0, r0⟩ := trodAll_cons hA
  obtain ⟨v1, vs1, d1, ds1, p1, q1, rfl, rfl, rfl, h1, r1⟩ := trodAll_cons r0
  obtain ⟨v2, vs2, d2, ds2, p2, q2, rfl, rfl, rfl, h2, r2⟩ := trodAll_cons r1
  obtain ⟨rfl, rfl, rfl⟩ := trodAll_nil r2
  obtain rfl : args = #[v0, v1, v2] := by cases args; simp_all
  obtain ⟨rfl, rfl⟩ := trodVars_none hV
  obtain ⟨a0, rfl, rfl, rfl, w0⟩ := open_int Try.underlying5 (hval 0 5 v0 rfl rfl) h0
  have k1 := h1
  have lt1 : ∀ x ∈ p1, x.block < W.heap.size := by obtain ⟨m, hm⟩ := k1; exact DataW.trod_lt m _ _ _ hm
  obtain ⟨x1, hk1, hg1⟩ := open_arg (j := 1) (opens_slice Try.underlying44 (by kernel_rfl) (opens26 W)) h1 hsz rfl rfl
  obtain ⟨a1, len1, cap1, rfl⟩ := okWide_slice Try.underlying44 (hval 1 44 v1 rfl rfl)
  obtain ⟨A1, c1, hcs1, hle1, hC1⟩ := hk1
  obtain ⟨rfl, rfl, rfl⟩ : a1 = A1 ∧ len1 = x1.length ∧ cap1 = c1 := by simpa [Value.cells] using hcs1
  simp only [bytes26] at hg1
  obtain ⟨a2, rfl, rfl, rfl, w2⟩ := open_int Try.underlying5 (hval 2 5 v2 rfl rfl) h2
  obtain ⟨k, hk⟩ := Go.Proofs.Ytphdbhneefmkcaa.Q.AggOrders_pure a0 x1 a2 w0 hg1 w2
  refine (Go.Proofs.Ytphdbhneefmkcaa.Q.headgatelaw15_AggOrders.calls k a0 _ _ x1 a2 true W hC1 hle1 hk).mono fun e W' hb => ?_
  have bel : Below W.heap.size W W' := by first | exact hb.2 | (obtain ⟨n, rfl⟩ := hb.2.out; exact pw_below_drewN (Below.refl _ _) n)
  obtain ⟨he, _⟩ := hb
  subst he
  exact ⟨_, rfl, _, _, _, [], _, [], hW', trodAll_mk1 (shut_bool Try.underlying4 _), (trodAll_cons_mk (shut_int Try.underlying5 w0) (trodAll_cons_mk (Below.trod laidOut (by kernel_rfl) (of_decide_eq_true (by kernel_rfl)) k1 bel lt1) (trodAll_cons_mk (shut_int Try.underlying5 w2) trodAll_mk0))), rfl, bel.frame _, fun h => by cases h⟩
theorem over : Rows.aggOrdersRow.holds Try.pinned (OpenSpec.ofChange Rows.aggOrdersSpec) :=
  OpenClaim.holds_of_wide 6 Try.f6 rfl rfl rfl rfl rfl rfl rfl ⟨rfl, rfl, rfl, rfl, rfl⟩ rfl rfl rfl rfl rfl (by kernel_rfl) Try.func6 (by kernel_rfl)
    (of_decide_eq_true (by kernel_rfl)) (by unfold Func.isWrapper; first | (rw [if_pos (by decide +kernel)]; kernel_rfl) | (rw [if_neg (by decide +kernel)]; exact ⟨rfl, rfl⟩))
    (fun os started H enc _ => lifted os started H enc)
theorem proved : Rows.AggOrdersSaid := over
#print axioms proved
end Go.Proofs.Ytphdbhneefmkcaa.aggOrders
namespace Go.Proofs.Ytphdbhneefmkcaa
/-- The row, under a short name, for the claim. -/
theorem aggOrders_holds : Rows.AggOrdersSaid := aggOrders.proved
end Go.Proofs.Ytphdbhneefmkcaa
