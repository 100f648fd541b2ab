/- Of each struct type that an argument leads to: what the reader reads is a value of its kind, and good. -/
import Derived.Test.YtnjlgeenhmamjaaDoorRk
import Derived.Test.YtnjlgeenhmamjaaDoorK
namespace Go.Proofs.YtnjlgeenhmamjaaDoor.Q
open Go.RowKit Go.Proofs.YtnjlgeenhmamjaaDoorR Go.Proofs.YtnjlgeenhmamjaaDoorW.PrintWords
set_option linter.unusedVariables false
theorem opens44 (W : World) : Opens Tryd.prog W 44 k44 (fun x => (x.f0.size ≤ 140737488351232) ∧ ((Lit.int .i64 x.f1).wf = true)) :=
  (opens_struct (f := fun x : S44 => (x.f0, x.f1)) Tryd.underlying44 (by kernel_rfl) (fun m => (opensF_cons rfl (by kernel_rfl) ((opens_string Tryd.underlying9) m) (opensF_one rfl (by kernel_rfl) ((opens_int Tryd.underlying3) m)))) (fun p => ⟨p.1, p.2⟩) (fun _ => rfl)).imp (fun x h => by simpa only [and_true] using h)
end Go.Proofs.YtnjlgeenhmamjaaDoor.Q
