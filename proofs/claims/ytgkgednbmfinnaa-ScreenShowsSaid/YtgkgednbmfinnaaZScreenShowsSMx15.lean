/- Of the text SMx15, what the row of ScreenShows reaches. -/
import Derived.Test.YtgkgednbmfinnaaZScreenShowsSMx0
namespace Go.Proofs.Ytgkgednbmfinnaa.SM
open Go.RowKit Go.Proofs.YtgkgednbmfinnaaW.PrintWords Go.Proofs.YtgkgednbmfinnaaW.PrintLast Go.Proofs.YtgkgednbmfinnaaW.PrintMore
attribute [local go_sem] max2_int min2_int max_two min_two max_three min_three max_four min_four   -- for this text's walks alone
set_option linter.unusedVariables false
set_option linter.unusedSimpArgs false

end Go.Proofs.Ytgkgednbmfinnaa.SM

