/- The row of the law OffsOnce: for every input the call returns true and leaves its arguments as they were; out of the pure statement and the printed contract. -/
import Derived.Test.YtgihecpobichbaaRows
import Derived.Test.YtgihecpobichbaaRk
import Derived.Test.YtgihecpobichbaaZOffsOnce1
import Derived.WalkKit
import Derived.ProofKit
import Derived.OpenShut
import Derived.ShutString
import Derived.ChangeOld
import Derived.Below
import Derived.SizedLaws
namespace Go.Proofs.Ytgihecpobichbaa.offsOnce
open Go.ChangeShapes Go.WideShapes Go.ChangeAt Go.RowKit Go.Proofs.YtgihecpobichbaaR
open Go.Proofs.YtgihecpobichbaaW.PrintWords Go.Proofs.Ytgihecpobichbaa.Q
open Go.ChangeMaps (open_string shut_string)
theorem own : ownKnob Try.prog.godebug = none := by kernel_rfl
theorem laidOut : laidOutB Try.prog = true := by kernel_rfl
theorem bytes5 : Try.prog.bytesOf 5 = 1 := by kernel_rfl
theorem bytes27 : Try.prog.bytesOf 27 = 24 := by kernel_rfl
set_option maxRecDepth 100000 in
theorem lifted (os : Os) (started : os.Started) (H : Type) (enc : TypeId × Value → H) :
    ReturnsInHanded {} Try.checked os 9 .any (Rows.offsOnceSpec.pre6 enc Try.prog Try.f9 Rows.offsOnceRow.domain false) (Rows.offsOnceSpec.post enc Try.prog Try.f9 false true false false) := by
  refine returnsInHanded_of_change_sized (C := Try.checked) own started (by kernel_rfl) Try.func9
    (ChangeSpec.witness6 (enc := enc) (C := Try.checked) false ⟨#[], #[.slice none 0 0], []⟩ 8 (by kernel_rfl) (by kernel_rfl) (by kernel_rfl) (by kernel_rfl)) ?_
  intro W base args ds gs before hval0 hW _ hsz0 _
  have hsz : (DataW.weightsEach Try.prog (Try.f9.params.toList ++ Rows.offsOnceSpec.plain.varTypes Try.prog) (ds ++ gs)).all (· ≤ reachBytes) = true := hsz0
  have hval : ∀ (j : Nat) t v, Try.f9.params[j]? = some t → args[j]? = some v → Value.okWide Try.prog W .any base t v := hval0
  have hW' := hW
  obtain ⟨p, q, hA0, hV, rfl, _, _⟩ := hW
  have hA : DataW.TrodAll enc Try.prog W 0 (fun _ => true) true Try.f9.params.toList args.toList ds p := hA0
  rw [Try.params9] at hA hval hsz
  obtain ⟨v0, vs0, d0, ds0, p0, q0, hargs, rfl, rfl, h0, r0⟩ := trodAll_cons hA
  obtain ⟨rfl, rfl, rfl⟩ := trodAll_nil r0
  obtain rfl : args = #[v0] := by cases args; simp_all
  obtain ⟨rfl, rfl⟩ := trodVars_none hV
  have k0 := h0
  have lt0 : ∀ x ∈ p0, x.block < W.heap.size := by obtain ⟨m, hm⟩ := k0; exact DataW.trod_lt m _ _ _ hm
  obtain ⟨x0, hk0, hg0⟩ := open_arg (j := 0) (opens_slice Try.underlying78 (by kernel_rfl) (opens_slice Try.underlying27 (by kernel_rfl) (opens_int Try.underlying5))) h0 hsz rfl rfl
  obtain ⟨a0, len0, cap0, rfl⟩ := okWide_slice Try.underlying78 (hval 0 78 v0 rfl rfl)
  obtain ⟨A0, c0, hcs0, hle0, hC0⟩ := hk0
  obtain ⟨rfl, rfl, rfl⟩ : a0 = A0 ∧ len0 = x0.length ∧ cap0 = c0 := by simpa [Value.cells] using hcs0
  simp only [bytes5, bytes27] at hg0
  obtain ⟨k, hk⟩ := Go.Proofs.Ytgihecpobichbaa.Q.OffsOnce_pure x0 hg0
  refine (Go.Proofs.Ytgihecpobichbaa.Q.headgatelaw08_OffsOnce.calls k _ _ x0 true W hC0 hle0 hk).mono fun e W' hb => ?_
  have bel : Below W.heap.size W W' := by first | exact hb.2 | (obtain ⟨n, rfl⟩ := hb.2.out; exact pw_below_drewN (Below.refl _ _) n)
  obtain ⟨he, _⟩ := hb
  subst he
  exact ⟨_, rfl, _, _, _, [], _, [], hW', trodAll_mk1 (shut_bool Try.underlying4 _), (trodAll_cons_mk (Below.trod laidOut (by kernel_rfl) (of_decide_eq_true (by kernel_rfl)) k0 bel lt0) trodAll_mk0), rfl, bel.frame _, fun h => by cases h⟩
theorem over : Rows.offsOnceRow.holds Try.pinned (OpenSpec.ofChange Rows.offsOnceSpec) :=
  OpenClaim.holds_of_wide 9 Try.f9 rfl rfl rfl rfl rfl rfl rfl ⟨rfl, rfl, rfl, rfl, rfl⟩ rfl rfl rfl rfl rfl (by kernel_rfl) Try.func9 (by kernel_rfl)
    (of_decide_eq_true (by kernel_rfl)) (by unfold Func.isWrapper; first | (rw [if_pos (by decide +kernel)]; kernel_rfl) | (rw [if_neg (by decide +kernel)]; exact ⟨rfl, rfl⟩))
    (fun os started H enc _ => lifted os started H enc)
theorem proved : Rows.OffsOnceSaid := over
#print axioms proved
end Go.Proofs.Ytgihecpobichbaa.offsOnce
namespace Go.Proofs.Ytgihecpobichbaa
/-- The row, under a short name, for the claim. -/
theorem offsOnce_holds : Rows.OffsOnceSaid := offsOnce.proved
end Go.Proofs.Ytgihecpobichbaa
