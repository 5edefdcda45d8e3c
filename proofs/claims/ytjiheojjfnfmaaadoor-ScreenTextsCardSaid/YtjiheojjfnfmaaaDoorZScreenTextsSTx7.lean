/- Of the text STx7, what the row of ScreenTexts reaches. -/
import Derived.Test.YtjiheojjfnfmaaaDoorZScreenTextsSTx0
import Derived.Test.YtjiheojjfnfmaaaDoorZScreenTextsSTx5
import Derived.Test.YtjiheojjfnfmaaaDoorZScreenTextsSTx6
namespace Go.Proofs.YtjiheojjfnfmaaaDoor.ST
open Go.RowKit Go.Proofs.YtjiheojjfnfmaaaDoorW.PrintWords Go.Proofs.YtjiheojjfnfmaaaDoorW.PrintLast Go.Proofs.YtjiheojjfnfmaaaDoorW.PrintMore
attribute [local go_sem] max2_int min2_int max_two min_two max_three min_three max_four min_four   -- for this text's walks alone
set_option linter.unusedVariables false
set_option linter.unusedSimpArgs false

def farB (p : S44) : Bool := decide (p.f0 < -100) || decide (p.f0 > 100) || decide (p.f1 < -100) || decide (p.f1 > 100)
def cf_place.f (l0 : List S44) : Option Bool := some (l0.any farB)
theorem cf_place.calls (A0 : Option Addr) (c0 : Nat) (l0 : List S44) (r : Bool) (w : World) (hr0 : Kd.C k44 w A0 l0.length l0) (hc0 : l0.length ≤ c0) (h : cf_place.f l0 = some r) :
    Calls Tryd.prog 60 #[.slice A0 l0.length c0, .func (.func 61) #[] #[]] w fun e w' => e = .returned (.bool r) ∧ Below w.heap.size w w' := by
  obtain rfl : l0.any farB = r := Option.some.inj h
  refine ContainsFunc_point 61 #[] (fenters Tryd.func61 (by kernel_rfl) rfl) _ w l0 (fun x W _ _ => ?_) A0 c0 hr0 hc0
  refine (screen_place_1.calls x.f0 x.f1 _ W (show screen_place_1.f x.f0 x.f1 = some (farB x) by
    unfold screen_place_1.f farB
    by_cases h : x.f0 < -100
    · simp [h]
    · by_cases h2 : x.f0 > 100
      · simp [h2]
      · by_cases h3 : x.f1 < -100
        · simp [h3]
        · simp [h, h2, h3])).mono fun e w' hh => ?_
  exact ⟨hh.1, by first | exact hh.2 | exact hh.2.below⟩

end Go.Proofs.YtjiheojjfnfmaaaDoor.ST

