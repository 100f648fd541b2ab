/- Of each struct type that an argument leads to: what the reader reads is a value of its kind, and good. -/
import Derived.Test.YtphdbhneefmkcaaRk
import Derived.Test.YtphdbhneefmkcaaK
namespace Go.Proofs.Ytphdbhneefmkcaa.Q
open Go.RowKit Go.Proofs.YtphdbhneefmkcaaR Go.Proofs.YtphdbhneefmkcaaW.PrintWords
set_option linter.unusedVariables false
theorem opens26 (W : World) : Opens Try.prog W 26 k26 (fun x => ((Lit.int .i64 x.f0).wf = true) ∧ ((Lit.int .i64 x.f1).wf = true) ∧ (x.f2.size ≤ 140737488351232)) :=
  (opens_struct (f := fun x : S26 => (x.f0, x.f1, x.f2)) Try.underlying26 (by kernel_rfl) (fun m => (opensF_cons rfl (by kernel_rfl) ((opens_int Try.underlying3) m) (opensF_cons rfl (by kernel_rfl) ((opens_int Try.underlying2) m) (opensF_one rfl (by kernel_rfl) ((opens_string Try.underlying9) m))))) (fun p => ⟨p.1, p.2.1, p.2.2⟩) (fun _ => rfl)).imp (fun x h => by simpa only [and_true] using h)
end Go.Proofs.Ytphdbhneefmkcaa.Q
