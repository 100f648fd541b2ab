/- Of each struct type that an argument leads to: what the reader reads is a value of its kind, and good. -/
import Derived.Test.YtopolnbffmljaaaDoorZExprKinds5
import Derived.Test.YtopolnbffmljaaaDoorZExprKinds6
namespace Go.Proofs.YtopolnbffmljaaaDoor.Q
open Go.RowKit Go.Proofs.YtopolnbffmljaaaDoorR Go.Proofs.YtopolnbffmljaaaDoorW.PrintWords
set_option linter.unusedVariables false
theorem obytes26 : Tryd.prog.bytesOf 26 = 80 := by kernel_rfl
theorem opens58 (W : World) : Opens Tryd.prog W 58 k58 (fun x => (x.f0.size ≤ 140737488351232) ∧ ((Lit.int .i64 x.f1).wf = true)) :=
  (opens_struct (f := fun x : S58 => (x.f0, x.f1)) Tryd.underlying58 (by kernel_rfl) (fun m => (opensF_cons rfl (by kernel_rfl) ((opens_string Tryd.underlying9) m) (opensF_one rfl (by kernel_rfl) ((opens_int Tryd.underlying3) m)))) (fun p => ⟨p.1, p.2⟩) (fun _ => rfl)).imp (fun x h => by simpa only [and_true, obytes26] using h)
end Go.Proofs.YtopolnbffmljaaaDoor.Q
