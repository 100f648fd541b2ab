/- Of each struct type that an argument leads to: what the reader reads is a value of its kind, and good. -/
import Derived.Test.YtgihecpobichbaaRk
import Derived.Test.YtgihecpobichbaaK
namespace Go.Proofs.Ytgihecpobichbaa.Q
open Go.RowKit Go.Proofs.YtgihecpobichbaaR Go.Proofs.YtgihecpobichbaaW.PrintWords
set_option linter.unusedVariables false
theorem opens83 (W : World) : Opens Try.prog W 83 k83 (fun x => ((Lit.int .i64 x.f0).wf = true) ∧ ((Lit.int .i64 x.f1).wf = true)) :=
  (opens_struct (f := fun x : S83 => (x.f0, x.f1)) Try.underlying83 (by kernel_rfl) (fun m => (opensF_cons rfl (by kernel_rfl) ((opens_int Try.underlying2) m) (opensF_one rfl (by kernel_rfl) ((opens_int Try.underlying2) m)))) (fun p => ⟨p.1, p.2⟩) (fun _ => rfl)).imp (fun x h => by simpa only [and_true] using h)
end Go.Proofs.Ytgihecpobichbaa.Q
