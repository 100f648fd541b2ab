/- Of each struct type that an argument leads to: what the reader reads is a value of its kind, and good. -/
import Derived.Test.YtdafccmanekliaaRk
import Derived.Test.YtdafccmanekliaaK
namespace Go.Proofs.Ytdafccmanekliaa.Q
open Go.RowKit Go.Proofs.YtdafccmanekliaaR Go.Proofs.YtdafccmanekliaaW.PrintWords
set_option linter.unusedVariables false
theorem opens31 (W : World) : Opens Try.prog W 31 k31 (fun x => ((Lit.int .i64 x.f0).wf = true) ∧ ((Lit.int .i64 x.f1).wf = true)) :=
  (opens_struct (f := fun x : S31 => (x.f0, x.f1)) Try.underlying31 (by kernel_rfl) (fun m => (opensF_cons rfl (by kernel_rfl) ((opens_int Try.underlying2) m) (opensF_one rfl (by kernel_rfl) ((opens_int Try.underlying2) m)))) (fun p => ⟨p.1, p.2⟩) (fun _ => rfl)).imp (fun x h => by simpa only [and_true] using h)
end Go.Proofs.Ytdafccmanekliaa.Q
