/- Of the text BAx3, what the row of TopBook reaches. -/
import Derived.Test.YtfccgfjiplnmfaaDoorZTopBookBAx0
namespace Go.Proofs.YtfccgfjiplnmfaaDoor.BA
open Go.RowKit Go.Proofs.YtfccgfjiplnmfaaDoorW.PrintWords Go.Proofs.YtfccgfjiplnmfaaDoorW.PrintLast Go.Proofs.YtfccgfjiplnmfaaDoorW.PrintMore
attribute [local go_sem] max2_int min2_int max_two min_two max_three min_three max_four min_four   -- for this text's walks alone
set_option linter.unusedVariables false
set_option linter.unusedSimpArgs false

def book_isSum_1.f (a0 : Int) : Option (Bool) := if a0 < 0 then (some true) else (some (decide (a0 ≥ 2147483647)))
set_option maxHeartbeats 8000000 in
set_option maxRecDepth 100000 in
theorem book_isSum_1.calls (a0 : Int) (r : Bool) (w : World) (h : book_isSum_1.f a0 = some r) :
    Calls Tryd.prog 41 #[.int .i64 a0] w fun e w' => e = .returned (.bool r) ∧ Drawn0 w w' := by
  have H : (if a0 < 0 then (some true) else (some (decide (a0 ≥ 2147483647)))) = some r := h
  clear h
  by_cases c2 : a0 < 0
  · rw [if_pos c2] at H
    have c2b0 : decide (a0 < 0) = true := decide_eq_true c2
    clear c2
    obtain rfl := Option.some.inj H
    go_enter Tryd.func41, Tryd.ntmps41
    go_wp2
    go_ret
    exact ⟨by first | rfl | (simp; done) | (simp [*]; done) | (simp [IntKind.wrap_i64, wrap64]; done), by repeat (first | exact Drawn0.refl _ | apply Drawn0.step)⟩
  · rw [if_neg c2] at H
    have c2b0 : decide (a0 < 0) = false := decide_eq_false c2
    clear c2
    obtain rfl := Option.some.inj H
    go_enter Tryd.func41, Tryd.ntmps41
    go_wp2
    go_ret
    exact ⟨by first | rfl | (simp; done) | (simp [*]; done) | (simp [IntKind.wrap_i64, wrap64]; done), by repeat (first | exact Drawn0.refl _ | apply Drawn0.step)⟩

end Go.Proofs.YtfccgfjiplnmfaaDoor.BA

