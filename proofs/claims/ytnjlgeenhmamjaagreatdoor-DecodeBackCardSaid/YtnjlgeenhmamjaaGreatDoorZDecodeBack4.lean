/- Of each struct type that an argument leads to: what the reader reads is a value of its kind, and good. -/
import Derived.Test.YtnjlgeenhmamjaaGreatDoorRk
import Derived.Test.YtnjlgeenhmamjaaGreatDoorK
namespace Go.Proofs.YtnjlgeenhmamjaaGreatDoor.Q
open Go.RowKit Go.Proofs.YtnjlgeenhmamjaaGreatDoorR Go.Proofs.YtnjlgeenhmamjaaGreatDoorW.PrintWords
set_option linter.unusedVariables false
theorem opens39 (W : World) : Opens Tryz.prog W 39 k39 (fun x => (x.f0.size ≤ 140737488351232) ∧ ((Lit.int .i64 x.f1).wf = true)) :=
  (opens_struct (f := fun x : S39 => (x.f0, x.f1)) Tryz.underlying39 (by kernel_rfl) (fun m => (opensF_cons rfl (by kernel_rfl) ((opens_string Tryz.underlying9) m) (opensF_one rfl (by kernel_rfl) ((opens_int Tryz.underlying3) m)))) (fun p => ⟨p.1, p.2⟩) (fun _ => rfl)).imp (fun x h => by simpa only [and_true] using h)
theorem opens41 (W : World) : Opens Tryz.prog W 41 k41 (fun x => ((Lit.int .i64 x.f0).wf = true) ∧ ((Lit.int .i64 x.f1).wf = true) ∧ (x.f2.size ≤ 140737488351232)) :=
  (opens_struct (f := fun x : S41 => (x.f0, x.f1, x.f2)) Tryz.underlying41 (by kernel_rfl) (fun m => (opensF_cons rfl (by kernel_rfl) ((opens_int Tryz.underlying3) m) (opensF_cons rfl (by kernel_rfl) ((opens_int Tryz.underlying2) m) (opensF_one rfl (by kernel_rfl) ((opens_string Tryz.underlying9) m))))) (fun p => ⟨p.1, p.2.1, p.2.2⟩) (fun _ => rfl)).imp (fun x h => by simpa only [and_true] using h)
end Go.Proofs.YtnjlgeenhmamjaaGreatDoor.Q
