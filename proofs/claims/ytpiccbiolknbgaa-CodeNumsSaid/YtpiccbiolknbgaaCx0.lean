-- Written by a program of the session over the translation's print: functions as plain Lean, and that the machine's call comes to them.
import Derived.Test.YtpiccbiolknbgaaK
namespace Go.Proofs.Ytpiccbiolknbgaa.Q
open Go.RowKit Go.Proofs.YtpiccbiolknbgaaW.PrintWords Go.Proofs.YtpiccbiolknbgaaW.PrintLast Go.Proofs.YtpiccbiolknbgaaW.PrintMore
attribute [local go_sem] max2_int min2_int max_two min_two max_three min_three max_four min_four   -- for this text's walks alone
set_option linter.unusedVariables false
set_option linter.unusedSimpArgs false

end Go.Proofs.Ytpiccbiolknbgaa.Q
