/- Of the text SWx6, what the row of TopSights reaches. -/
import Derived.Test.YtieffjkplaajdaaZTopSightsSWx0
import Derived.Test.YtieffjkplaajdaaZTopSightsSWx4
import Derived.Test.YtieffjkplaajdaaZTopSightsSWx5
namespace Go.Proofs.Ytieffjkplaajdaa.SW
open Go.RowKit Go.Proofs.YtieffjkplaajdaaW.PrintWords Go.Proofs.YtieffjkplaajdaaW.PrintLast Go.Proofs.YtieffjkplaajdaaW.PrintMore
attribute [local go_sem] max2_int min2_int max_two min_two max_three min_three max_four min_four   -- for this text's walks alone
set_option linter.unusedVariables false
set_option linter.unusedSimpArgs false

def farB (p : S25) : Bool := decide (p.f0 < -100) || decide (p.f0 > 100) || decide (p.f1 < -100) || decide (p.f1 > 100)
def cf_place.f (l0 : List S25) : Option Bool := some (l0.any farB)
theorem cf_place.calls (A0 : Option Addr) (c0 : Nat) (l0 : List S25) (r : Bool) (w : World) (hr0 : Kd.C k25 w A0 l0.length l0) (hc0 : l0.length ≤ c0) (h : cf_place.f l0 = some r) :
    Calls Try.prog 57 #[.slice A0 l0.length c0, .func (.func 73) #[] #[]] w fun e w' => e = .returned (.bool r) ∧ Below w.heap.size w w' := by
  obtain rfl : l0.any farB = r := Option.some.inj h
  refine ContainsFunc_point 73 #[] (fenters Try.func73 (by kernel_rfl) rfl) _ w l0 (fun x W _ _ => ?_) A0 c0 hr0 hc0
  refine (screen_place_1.calls x.f0 x.f1 _ W (show screen_place_1.f x.f0 x.f1 = some (farB x) by
    unfold screen_place_1.f farB
    by_cases h : x.f0 < -100
    · simp [h]
    · by_cases h2 : x.f0 > 100
      · simp [h2]
      · by_cases h3 : x.f1 < -100
        · simp [h3]
        · simp [h, h2, h3])).mono fun e w' hh => ?_
  exact ⟨hh.1, by first | exact hh.2 | exact hh.2.below⟩

end Go.Proofs.Ytieffjkplaajdaa.SW

