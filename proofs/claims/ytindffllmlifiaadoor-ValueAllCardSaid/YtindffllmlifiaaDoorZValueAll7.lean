/- Comparisons of values and rows in plain words. -/
import Derived.Test.YtindffllmlifiaaDoorZValueAll6
import Derived.Test.YtindffllmlifiaaDoorZValueAll2
import Derived.Test.YtindffllmlifiaaDoorZValueAll4
namespace Go.Proofs.YtindffllmlifiaaDoor.Q
open Go.RowKit Go.Proofs.YtindffllmlifiaaDoorW.PrintWords Go.Proofs.YtindffllmlifiaaDoorW.PrintLast Go.Proofs.YtindffllmlifiaaDoorW.PrintMore
set_option linter.unusedVariables false
set_option linter.unusedSimpArgs false
def c2 (x y : Int) : Int := if x < y then -1 else if x > y then 1 else 0
end Go.Proofs.YtindffllmlifiaaDoor.Q
