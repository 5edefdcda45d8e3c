/- Of the text LQx14, what the row of LureForces reaches. -/
import Derived.Test.YtnmaonampilmoaaZLureForcesLQx0
namespace Go.Proofs.Ytnmaonampilmoaa.LQ
open Go.RowKit Go.Proofs.YtnmaonampilmoaaW.PrintWords Go.Proofs.YtnmaonampilmoaaW.PrintLast Go.Proofs.YtnmaonampilmoaaW.PrintMore
attribute [local go_sem] max2_int min2_int max_two min_two max_three min_three max_four min_four   -- for this text's walks alone
set_option linter.unusedVariables false
set_option linter.unusedSimpArgs false

end Go.Proofs.Ytnmaonampilmoaa.LQ

