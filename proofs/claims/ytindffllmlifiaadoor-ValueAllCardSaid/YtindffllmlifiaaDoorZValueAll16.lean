/- Keys stand as their rows do: in plain Lean. -/
import Derived.Test.YtindffllmlifiaaDoorZValueAll7
import Derived.Test.YtindffllmlifiaaDoorZValueAll15
namespace Go.Proofs.YtindffllmlifiaaDoor.Q
open Go.RowKit Go.Proofs.YtindffllmlifiaaDoorW.PrintWords Go.Proofs.YtindffllmlifiaaDoorW.PrintLast Go.Proofs.YtindffllmlifiaaDoorW.PrintMore
set_option linter.unusedVariables false
set_option linter.unusedSimpArgs false
end Go.Proofs.YtindffllmlifiaaDoor.Q
