/- Of each struct type that an argument leads to: what the reader reads is a value of its kind, and good. -/
import Derived.Test.YtindffllmlifiaaDoorRk
import Derived.Test.YtindffllmlifiaaDoorK
namespace Go.Proofs.YtindffllmlifiaaDoor.Q
open Go.RowKit Go.Proofs.YtindffllmlifiaaDoorR Go.Proofs.YtindffllmlifiaaDoorW.PrintWords
set_option linter.unusedVariables false
theorem opens23 (W : World) : Opens Tryd.prog W 23 k23 (fun x => ((Lit.int .i64 x.f0).wf = true) ∧ ((Lit.int .i64 x.f1).wf = true) ∧ (x.f2.size ≤ 140737488351232)) :=
  (opens_struct (f := fun x : S23 => (x.f0, x.f1, x.f2)) Tryd.underlying23 (by kernel_rfl) (fun m => (opensF_cons rfl (by kernel_rfl) ((opens_int Tryd.underlying3) m) (opensF_cons rfl (by kernel_rfl) ((opens_int Tryd.underlying2) m) (opensF_one rfl (by kernel_rfl) ((opens_string Tryd.underlying9) m))))) (fun p => ⟨p.1, p.2.1, p.2.2⟩) (fun _ => rfl)).imp (fun x h => by simpa only [and_true] using h)
end Go.Proofs.YtindffllmlifiaaDoor.Q
