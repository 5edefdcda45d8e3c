/- Of the text LVx16, what the row of LureBefore reaches. -/
import Derived.Test.YtnmaonampilmoaaZLureBeforeLVx0
import Derived.Test.YtnmaonampilmoaaZLureBeforeLVx1
import Derived.Test.YtnmaonampilmoaaZLureBeforeLVx10
import Derived.Test.YtnmaonampilmoaaZLureBeforeLVx12
import Derived.Test.YtnmaonampilmoaaZLureBeforeLVx13
import Derived.Test.YtnmaonampilmoaaZLureBeforeLVx14
import Derived.Test.YtnmaonampilmoaaZLureBeforeLVx15
namespace Go.Proofs.Ytnmaonampilmoaa.LV
open Go.RowKit Go.Proofs.YtnmaonampilmoaaW.PrintWords Go.Proofs.YtnmaonampilmoaaW.PrintLast Go.Proofs.YtnmaonampilmoaaW.PrintMore
attribute [local go_sem] max2_int min2_int max_two min_two max_three min_three max_four min_four   -- for this text's walks alone
set_option linter.unusedVariables false
set_option linter.unusedSimpArgs false

end Go.Proofs.Ytnmaonampilmoaa.LV

