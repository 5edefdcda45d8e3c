/- Of the text CHx21, what the row of CountHistories reaches. -/
import Derived.Test.YtkmhccllligcmaaDoorZCountHistoriesCHx0
import Derived.Test.YtkmhccllligcmaaDoorZCountHistoriesCHx13
import Derived.Test.YtkmhccllligcmaaDoorZCountHistoriesCHx20
namespace Go.Proofs.YtkmhccllligcmaaDoor.CH
open Go.RowKit Go.Proofs.YtkmhccllligcmaaDoorW.PrintWords Go.Proofs.YtkmhccllligcmaaDoorW.PrintLast Go.Proofs.YtkmhccllligcmaaDoorW.PrintMore
attribute [local go_sem] max2_int min2_int max_two min_two max_three min_three max_four min_four   -- for this text's walks alone
set_option linter.unusedVariables false
set_option linter.unusedSimpArgs false

end Go.Proofs.YtkmhccllligcmaaDoor.CH

