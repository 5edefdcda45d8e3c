/- Of the text BUx16, what the row of BookGrowths reaches. -/
import Derived.Test.YthjdocddohijnaaZBookGrowthsBUx0
import Derived.Test.YthjdocddohijnaaZBookGrowthsBUx12
import Derived.Test.YthjdocddohijnaaZBookGrowthsBUx13
import Derived.Test.YthjdocddohijnaaZBookGrowthsBUx14
import Derived.Test.YthjdocddohijnaaZBookGrowthsBUx15
namespace Go.Proofs.Ythjdocddohijnaa.BU
open Go.RowKit Go.Proofs.YthjdocddohijnaaW.PrintWords Go.Proofs.YthjdocddohijnaaW.PrintLast Go.Proofs.YthjdocddohijnaaW.PrintMore
attribute [local go_sem] max2_int min2_int max_two min_two max_three min_three max_four min_four   -- for this text's walks alone
set_option linter.unusedVariables false
set_option linter.unusedSimpArgs false

end Go.Proofs.Ythjdocddohijnaa.BU

