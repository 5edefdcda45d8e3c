/- Of the text BAx4, what the row of TopBook reaches. -/
import Derived.Test.YtfccgfjiplnmfaaDoorZTopBookBAx0
import Derived.Test.YtfccgfjiplnmfaaDoorZTopBookBAx2
import Derived.Test.YtfccgfjiplnmfaaDoorZTopBookBAx3
namespace Go.Proofs.YtfccgfjiplnmfaaDoor.BA
open Go.RowKit Go.Proofs.YtfccgfjiplnmfaaDoorW.PrintWords Go.Proofs.YtfccgfjiplnmfaaDoorW.PrintLast Go.Proofs.YtfccgfjiplnmfaaDoorW.PrintMore
attribute [local go_sem] max2_int min2_int max_two min_two max_three min_three max_four min_four   -- for this text's walks alone
set_option linter.unusedVariables false
set_option linter.unusedSimpArgs false

def cf_isSum.f (l0 : List Int) : Option Bool := some (l0.any fun x => decide (x < 0) || decide (x ≥ 2147483647))
theorem cf_isSum.calls (A0 : Option Addr) (c0 : Nat) (l0 : List Int) (r : Bool) (w : World) (hr0 : Kd.C (Kd.int .i64) w A0 l0.length l0) (hc0 : l0.length ≤ c0) (h : cf_isSum.f l0 = some r) :
    Calls Tryd.prog 40 #[.slice A0 l0.length c0, .func (.func 41) #[] #[]] w fun e w' => e = .returned (.bool r) ∧ Below w.heap.size w w' := by
  obtain rfl : (l0.any fun x => decide (x < 0) || decide (x ≥ 2147483647)) = r := Option.some.inj h
  refine ContainsFunc_int 41 #[] (fenters Tryd.func41 (by kernel_rfl) rfl) _ w l0 (fun x W _ _ => ?_) A0 c0 hr0 hc0
  refine (book_isSum_1.calls x _ W (show book_isSum_1.f x = some (decide (x < 0) || decide (x ≥ 2147483647)) by
    unfold book_isSum_1.f
    by_cases h : x < 0
    · simp [h]
    · simp [h])).mono fun e w' hh => ?_
  exact ⟨hh.1, by first | exact hh.2 | exact hh.2.below⟩

end Go.Proofs.YtfccgfjiplnmfaaDoor.BA

