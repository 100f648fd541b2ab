/- Texts of the claim, put together. -/
import Derived.Test.YtopolnbffmljaaaDoorZExprWorth5
import Derived.Test.YtopolnbffmljaaaDoorZExprWorth6
open Go.RowKit Go.Proofs.YtopolnbffmljaaaDoorW.PrintWords Go.Proofs.YtopolnbffmljaaaDoorW.PrintLast Go.Proofs.YtopolnbffmljaaaDoorW.PrintMore
set_option linter.unusedVariables false
set_option linter.unusedSimpArgs false
namespace Go.Proofs.YtopolnbffmljaaaDoor.Q
open Go.RowKit Go.Proofs.YtopolnbffmljaaaDoorR Go.Proofs.YtopolnbffmljaaaDoorW.PrintWords
theorem obytes26 : Tryd.prog.bytesOf 26 = 80 := by kernel_rfl
theorem opens23 (W : World) : Opens Tryd.prog W 23 k23 (fun x => ((Lit.int .i64 x.f0).wf = true) ∧ ((Lit.int .i64 x.f1).wf = true) ∧ (x.f2.size ≤ 140737488351232)) :=
 (opens_struct (f := fun x : S23 => (x.f0, x.f1, x.f2)) Tryd.underlying23 (by kernel_rfl) (fun m => (opensF_cons rfl (by kernel_rfl) ((opens_int Tryd.underlying3) m) (opensF_cons rfl (by kernel_rfl) ((opens_int Tryd.underlying2) m) (opensF_one rfl (by kernel_rfl) ((opens_string Tryd.underlying9) m))))) (fun p => ⟨p.1, p.2.1, p.2.2⟩) (fun _ => rfl)).imp (fun x h => by simpa only [and_true, obytes26] using h)
theorem opens58 (W : World) : Opens Tryd.prog W 58 k58 (fun x => (x.f0.size ≤ 140737488351232) ∧ ((Lit.int .i64 x.f1).wf = true)) :=
 (opens_struct (f := fun x : S58 => (x.f0, x.f1)) Tryd.underlying58 (by kernel_rfl) (fun m => (opensF_cons rfl (by kernel_rfl) ((opens_string Tryd.underlying9) m) (opensF_one rfl (by kernel_rfl) ((opens_int Tryd.underlying3) m)))) (fun p => ⟨p.1, p.2⟩) (fun _ => rfl)).imp (fun x h => by simpa only [and_true, obytes26] using h)
end Go.Proofs.YtopolnbffmljaaaDoor.Q
