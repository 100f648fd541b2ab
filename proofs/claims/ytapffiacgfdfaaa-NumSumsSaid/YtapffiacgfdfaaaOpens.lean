/- Of each struct type that an argument leads to: what the reader reads is a value of its kind, and good. -/
import Derived.Test.YtapffiacgfdfaaaRk
import Derived.Test.YtapffiacgfdfaaaK
namespace Go.Proofs.Ytapffiacgfdfaaa.Q
open Go.RowKit Go.Proofs.YtapffiacgfdfaaaR Go.Proofs.YtapffiacgfdfaaaW.PrintWords
set_option linter.unusedVariables false
theorem opens34 (W : World) : Opens Try.prog W 34 k34 (fun x => ((Lit.int .i64 x.f0).wf = true) ∧ ((Lit.int .u64 x.f1).wf = true)) :=
  (opens_struct (f := fun x : S34 => (x.f0, x.f1)) Try.underlying34 (by kernel_rfl) (fun m => (opensF_cons rfl (by kernel_rfl) ((opens_int Try.underlying2) m) (opensF_one rfl (by kernel_rfl) ((opens_int Try.underlying32) m)))) (fun p => ⟨p.1, p.2⟩) (fun _ => rfl)).imp (fun x h => by simpa only [and_true] using h)
end Go.Proofs.Ytapffiacgfdfaaa.Q
