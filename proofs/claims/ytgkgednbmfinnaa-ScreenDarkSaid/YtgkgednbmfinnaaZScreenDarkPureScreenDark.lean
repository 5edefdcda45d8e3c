/- Of the text PureScreenDark, what the row of ScreenDark reaches. -/
import Derived.Test.YtgkgednbmfinnaaZScreenDarkSLibC
import Derived.Test.YtgkgednbmfinnaaZScreenDarkSCx24
namespace Go.Proofs.Ytgkgednbmfinnaa.Pure
set_option linter.unusedVariables false
set_option linter.unusedSimpArgs false
open Go.RowKit Go.Proofs.Ytgkgednbmfinnaa.SC Go.Proofs.YtgkgednbmfinnaaW.PrintWords Go.Proofs.YtgkgednbmfinnaaW.PrintLast Go.Proofs.YtgkgednbmfinnaaW.PrintMore


theorem ScreenDark (a0 : List S55) (a1 : List S23) (a2_0_0 : Int) (a2_0_1 : Int) (a2_1_0 : Int) (a2_1_1 : Int) (h0 : (a0.length ≤ 9223372036854775807 ∧ ∀ x_ ∈ a0, (((Lit.int .i64 x_.f0.f0).wf = true) ∧ ((Lit.int .i64 x_.f0.f1).wf = true)) ∧ (((Lit.int .i64 x_.f1.f0).wf = true) ∧ ((Lit.int .i64 x_.f1.f1).wf = true)))) (h1 : (a1.length ≤ 9223372036854775807 ∧ ∀ x_ ∈ a1, ((Lit.int .i64 x_.f0).wf = true) ∧ ((Lit.int .i64 x_.f1).wf = true))) (h2_0_0 : (Lit.int .i64 a2_0_0).wf = true) (h2_0_1 : (Lit.int .i64 a2_0_1).wf = true) (h2_1_0 : (Lit.int .i64 a2_1_0).wf = true) (h2_1_1 : (Lit.int .i64 a2_1_1).wf = true) : ∃ k, wigeonlaw02_ScreenDark.f k a0 a1 a2_0_0 a2_0_1 a2_1_0 a2_1_1 = some true := by
  refine Ev.rounds (g := fun k => wigeonlaw02_ScreenDark.f k a0 a1 a2_0_0 a2_0_1 a2_1_0 a2_1_1) ?_
  unfold wigeonlaw02_ScreenDark.f
  refine evs (Long_eq ..) ?_
  by_cases h : a0.length > 100 ∨ a1.length > 100
  · rw [decide_eq_true h]; exact evp rfl (evb known_ev (Ev.now _))
  · rw [decide_eq_false h]
    exact evn (by decide) (evb (Dark_ev ..) (evb (rDark_ev _ _ _ _ _ _ (by omega)) (evp rfl (evp rfl (evb known_ev (Ev.now _))))))

end Go.Proofs.Ytgkgednbmfinnaa.Pure

