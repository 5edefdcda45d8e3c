/- Of the text BAx0, what the row of BookMerges reaches. -/
import Derived.Test.YtfccgfjiplnmfaaDoorProg
import Derived.Below
import Derived.Deep.Draws
import Derived.Deep.AppendLies
import Derived.Maps.AppendAt
import Derived.OwnWalk
import Derived.Laws.BytesArg
import Derived.Laws.MakeOwn
import Derived.Laws.OwnMore
import Derived.Deep.OwnRows
import Derived.Tactics
import Derived.Lib.ConvBytes
import Derived.Laws.Slices
import Derived.WalkKit
import Derived.KernelRfl
import Derived.RowKit3
import Derived.Deep.LoopGhost
import Derived.Deep.QuietTactic
import Derived.BigQuiet
import Derived.WideLaws
import Derived.Deep.DeepCutAuto
import Derived.Deep.CutBlock
import Derived.Deep.RegionHeld3
import Derived.Laws.Rows
import Derived.Lib.AppendStr
import Derived.ArgAppend
import Derived.Laws.IdiomCopy
import Derived.OrdersHeld
import Derived.Laws.BitsLemmas
import Derived.RowKit
import Derived.Test.YtfccgfjiplnmfaaDoorZBookMergesWWords
import Derived.Test.YtfccgfjiplnmfaaDoorZBookMergesWLast
import Derived.Test.YtfccgfjiplnmfaaDoorZBookMergesWTab
import Derived.Test.YtfccgfjiplnmfaaDoorZBookMergesWApart
import Derived.Test.YtfccgfjiplnmfaaDoorZBookMergesWArr
import Derived.Test.YtfccgfjiplnmfaaDoorZBookMergesWFoot
import Derived.Test.YtfccgfjiplnmfaaDoorZBookMergesWKept
import Derived.Test.YtfccgfjiplnmfaaDoorZBookMergesWShare
import Derived.Test.YtfccgfjiplnmfaaDoorZBookMergesWN
import Derived.Laws.StructEq
import Derived.Test.YtfccgfjiplnmfaaDoorZBookMergesWRepsOne
import Derived.Test.YtfccgfjiplnmfaaDoorZBookMergesWInv
import Derived.Test.YtfccgfjiplnmfaaDoorZBookMergesWGuard
import Derived.Test.YtfccgfjiplnmfaaDoorZBookMergesWMore
namespace Go.Proofs.YtfccgfjiplnmfaaDoor.BA
open Go.RowKit Go.Proofs.YtfccgfjiplnmfaaDoorW.PrintWords Go.Proofs.YtfccgfjiplnmfaaDoorW.PrintLast Go.Proofs.YtfccgfjiplnmfaaDoorW.PrintMore
attribute [local go_sem] max2_int min2_int max_two min_two max_three min_three max_four min_four   -- for this text's walks alone
set_option linter.unusedVariables false
set_option linter.unusedSimpArgs false



def errW : Option Int → Value
  | none => .nilIface
  | some c => .iface 120 (.int .i64 c)
theorem errW_none : errW none = .nilIface := rfl
theorem errW_some (c : Int) : errW (some c) = .iface 120 (.int .i64 c) := rfl

theorem info3 : (Tryd.prog.info? 3).map (fun i => (i.zero, i.size, i.bytes)) = some (some (.int .i64 0), 1, 8) := by kernel_rfl
theorem info9 : (Tryd.prog.info? 9).map (fun i => (i.zero, i.size, i.bytes)) = some (some (.string ⟨#[]⟩), 1, 16) := by kernel_rfl
theorem fenters {P : Program} {f : FuncId} {fn : Func} {c : Code} (hf : P.funcs[f]? = some fn) (hname : (fn.name == "runtime.NumGoroutine") = false) (hb : fn.body = some c) : ∀ args w, (callFunc f args).run P w = .ok (.enter f args) w := by
  intro args w
  have h1 : fn.name ≠ "runtime.NumGoroutine" := by simpa using hname
  simp [callFunc, hf, h1, hb, mark]
theorem int_cell {k : IntKind} {w : World} {A : Option Addr} {l : List Int} (h : Kd.C (Kd.int k) w A l.length l) (i : Nat) (hi : i < l.length) : ∃ ad, A = some ad ∧ w.cell? (ad.add i) = some (.int k l[i]) := by
  obtain ⟨ad, e, hc⟩ := h.2.2 (by omega)
  obtain ⟨c, _, hK, hcell⟩ := hc i l[i] (List.getElem?_eq_getElem hi)
  have hK' : c = [.int k l[i]] := hK
  subst hK'
  have h0 := hcell 0 _ rfl
  refine ⟨ad, e, ?_⟩
  rwa [show (Kd.int k).sz = 1 from rfl, Nat.mul_one, Nat.add_zero] at h0
end Go.Proofs.YtfccgfjiplnmfaaDoor.BA

