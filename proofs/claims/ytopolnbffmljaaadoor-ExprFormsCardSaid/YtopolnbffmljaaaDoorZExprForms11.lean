/- Of each struct type that an argument leads to: what the reader reads is a value of its kind, and good. -/
import Derived.Test.YtopolnbffmljaaaDoorZExprForms5
import Derived.Test.YtopolnbffmljaaaDoorZExprForms6
namespace Go.Proofs.YtopolnbffmljaaaDoor.Q
open Go.RowKit Go.Proofs.YtopolnbffmljaaaDoorR Go.Proofs.YtopolnbffmljaaaDoorW.PrintWords
set_option linter.unusedVariables false
end Go.Proofs.YtopolnbffmljaaaDoor.Q
