/- Of the text CHx0, what the row of CountShares reaches. -/
import Derived.Test.YtkmhccllligcmaaDoorProg
import Derived.Below
import Derived.Deep.Draws
import Derived.Deep.AppendLies
import Derived.Maps.AppendAt
import Derived.OwnWalk
import Derived.Laws.BytesArg
import Derived.Laws.MakeOwn
import Derived.Laws.OwnMore
import Derived.Deep.OwnRows
import Derived.Tactics
import Derived.Lib.ConvBytes
import Derived.Laws.Slices
import Derived.WalkKit
import Derived.KernelRfl
import Derived.RowKit3
import Derived.Deep.LoopGhost
import Derived.Deep.QuietTactic
import Derived.BigQuiet
import Derived.WideLaws
import Derived.Deep.DeepCutAuto
import Derived.Deep.CutBlock
import Derived.Deep.RegionHeld3
import Derived.Laws.Rows
import Derived.Lib.AppendStr
import Derived.ArgAppend
import Derived.Laws.IdiomCopy
import Derived.OrdersHeld
import Derived.Laws.BitsLemmas
import Derived.RowKit
import Derived.Test.YtkmhccllligcmaaDoorZCountSharesWWords
import Derived.Test.YtkmhccllligcmaaDoorZCountSharesWLast
import Derived.Test.YtkmhccllligcmaaDoorZCountSharesWTab
import Derived.Test.YtkmhccllligcmaaDoorZCountSharesWApart
import Derived.Test.YtkmhccllligcmaaDoorZCountSharesWFoot
import Derived.Test.YtkmhccllligcmaaDoorZCountSharesWKept
import Derived.Test.YtkmhccllligcmaaDoorZCountSharesWShare
import Derived.Test.YtkmhccllligcmaaDoorZCountSharesWN
import Derived.Test.YtkmhccllligcmaaDoorZCountSharesWEqStruct
import Derived.Test.YtkmhccllligcmaaDoorZCountSharesWRepsOne
import Derived.Test.YtkmhccllligcmaaDoorZCountSharesWInv
import Derived.Test.YtkmhccllligcmaaDoorZCountSharesWMore
namespace Go.Proofs.YtkmhccllligcmaaDoor.CH
open Go.RowKit Go.Proofs.YtkmhccllligcmaaDoorW.PrintWords Go.Proofs.YtkmhccllligcmaaDoorW.PrintLast Go.Proofs.YtkmhccllligcmaaDoorW.PrintMore
attribute [local go_sem] max2_int min2_int max_two min_two max_three min_three max_four min_four   -- for this text's walks alone
set_option linter.unusedVariables false
set_option linter.unusedSimpArgs false



def errW : Option Int → Value
  | none => .nilIface
  | some c => .iface 0 (.int .i64 c)
theorem errW_none : errW none = .nilIface := rfl
theorem errW_some (c : Int) : errW (some c) = .iface 0 (.int .i64 c) := rfl

theorem info3 : (Tryd.prog.info? 3).map (fun i => (i.zero, i.size, i.bytes)) = some (some (.int .i64 0), 1, 8) := by kernel_rfl
structure S42 where
  f0 : Int
  f1 : Int
  f2 : Int
theorem fenters {P : Program} {f : FuncId} {fn : Func} {c : Code} (hf : P.funcs[f]? = some fn) (hname : (fn.name == "runtime.NumGoroutine") = false) (hb : fn.body = some c) : ∀ args w, (callFunc f args).run P w = .ok (.enter f args) w := by
  intro args w
  have h1 : fn.name ≠ "runtime.NumGoroutine" := by simpa using hname
  simp [callFunc, hf, h1, hb, mark]
end Go.Proofs.YtkmhccllligcmaaDoor.CH

