/- The plain law behind the row: what the printed functions of this law compute answers true, for every input that the row lets in. -/
import Derived.Test.YthjdocddohijnaaBLibC
import Derived.Test.YthjdocddohijnaaBKx17
namespace Go.Proofs.Ythjdocddohijnaa.Pure
set_option linter.unusedVariables false
set_option linter.unusedSimpArgs false
open Go.RowKit Go.Proofs.Ythjdocddohijnaa.BK Go.Proofs.YthjdocddohijnaaW.PrintWords Go.Proofs.YthjdocddohijnaaW.PrintLast


theorem BookClimbs (a0_0 : Int) (a0_1 : Int) (a0_2 : Int) (a0_3 : List Int) (h0_0 : (Lit.int .i64 a0_0).wf = true) (h0_1 : (Lit.int .i64 a0_1).wf = true) (h0_2 : (Lit.int .i64 a0_2).wf = true) (h0_3 : (a0_3.length ≤ 9223372036854775807 ∧ ∀ x_ ∈ a0_3, (Lit.int .i64 x_).wf = true)) : ∃ k, wigeonlaw09_BookClimbs.f k a0_0 a0_1 a0_2 a0_3 = some true := by
  refine Ev.rounds (g := fun k => wigeonlaw09_BookClimbs.f k a0_0 a0_1 a0_2 a0_3) ?_
  unfold wigeonlaw09_BookClimbs.f
  refine evs (show wigeonlaw09_many.f a0_3 = some (decide ((a0_3.length : Int) > 100)) from rfl) ?_
  by_cases h : (a0_3.length : Int) > 100
  · exact evp (by simpa using h) (evb known_ev (Ev.now _))
  · exact evn (by simpa using h) (evb (Climb_ev _ _ _ _ (by omega)) (evb (rClimb_ev _ _ _ _ (by omega)) (evp rfl (evp rfl (evb known_ev (Ev.now _))))))

end Go.Proofs.Ythjdocddohijnaa.Pure
