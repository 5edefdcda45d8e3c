/- Of the text CHx21, what the row of CountShares reaches. -/
import Derived.Test.YtkmhccllligcmaaDoorZCountSharesCHx0
import Derived.Test.YtkmhccllligcmaaDoorZCountSharesCHx13
import Derived.Test.YtkmhccllligcmaaDoorZCountSharesCHx20
namespace Go.Proofs.YtkmhccllligcmaaDoor.CH
open Go.RowKit Go.Proofs.YtkmhccllligcmaaDoorW.PrintWords Go.Proofs.YtkmhccllligcmaaDoorW.PrintLast Go.Proofs.YtkmhccllligcmaaDoorW.PrintMore
attribute [local go_sem] max2_int min2_int max_two min_two max_three min_three max_four min_four   -- for this text's walks alone
set_option linter.unusedVariables false
set_option linter.unusedSimpArgs false

def number_s1.f (l0 : List ByteArray) (a1 : Int) : Option (Int) := numF count_Share_1.f l0 a1
theorem number_s1.calls (A0 : Option Addr) (c0 : Nat) (l0 : List ByteArray) (a1 : Int) (r : Int) (w : World) (hr0 : Kd.C Kd.string w A0 l0.length l0) (hc0 : l0.length ≤ c0) (h : number_s1.f l0 a1 = some r) :
    Calls Tryd.prog 35 #[.slice A0 l0.length c0, .int .i64 a1, .func (.func 45) #[] #[]] w fun e w' => e = .returned (.int .i64 r) ∧ Below w.heap.size w w' :=
  count_number_any.calls 45 count_Share_1.f (fenters Tryd.func45 (by kernel_rfl) rfl) (fun x d b W hb => (count_Share_1.calls x d b W hb).mono fun _ _ q => ⟨q.1, q.2.below⟩) A0 c0 l0 a1 r w hr0 hc0 h

end Go.Proofs.YtkmhccllligcmaaDoor.CH

