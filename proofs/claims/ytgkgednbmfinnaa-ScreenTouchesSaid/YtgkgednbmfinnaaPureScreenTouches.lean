/- The plain law behind the row: what the printed functions of this law compute answers true, for every input that the row lets in. -/
import Derived.Test.YtgkgednbmfinnaaSLibA
import Derived.Test.YtgkgednbmfinnaaSCx15
namespace Go.Proofs.Ytgkgednbmfinnaa.Pure
set_option linter.unusedVariables false
set_option linter.unusedSimpArgs false
open Go.RowKit Go.Proofs.Ytgkgednbmfinnaa.SC Go.Proofs.YtgkgednbmfinnaaW.PrintWords Go.Proofs.YtgkgednbmfinnaaW.PrintLast Go.Proofs.YtgkgednbmfinnaaW.PrintMore


theorem ScreenTouches (a0_0 : Int) (a0_1 : Int) (a0_2 : Int) (a0_3 : Int) (a1_0 : Int) (a1_1 : Int) (a1_2 : Int) (a1_3 : Int) (h0_0 : (Lit.int .i64 a0_0).wf = true) (h0_1 : (Lit.int .i64 a0_1).wf = true) (h0_2 : (Lit.int .i64 a0_2).wf = true) (h0_3 : (Lit.int .i64 a0_3).wf = true) (h1_0 : (Lit.int .i64 a1_0).wf = true) (h1_1 : (Lit.int .i64 a1_1).wf = true) (h1_2 : (Lit.int .i64 a1_2).wf = true) (h1_3 : (Lit.int .i64 a1_3).wf = true) : ∃ k, wigeonlaw02_ScreenTouches.f k a0_0 a0_1 a0_2 a0_3 a1_0 a1_1 a1_2 a1_3 = some true := by
  refine Ev.rounds (g := fun k => wigeonlaw02_ScreenTouches.f k a0_0 a0_1 a0_2 a0_3 a1_0 a1_1 a1_2 a1_3) ?_
  unfold wigeonlaw02_ScreenTouches.f
  have e : TchR a1_2 a1_3 a1_0 a1_1 a0_0 a0_1 a0_2 a0_3 = TchR a0_0 a0_1 a0_2 a0_3 a1_0 a1_1 a1_2 a1_3 := by
    unfold TchR
    rw [show plB [⟨a1_2, a1_3⟩, ⟨a1_0, a1_1⟩, ⟨a0_0, a0_1⟩, ⟨a0_2, a0_3⟩] = plB [⟨a0_0, a0_1⟩, ⟨a0_2, a0_3⟩, ⟨a1_0, a1_1⟩, ⟨a1_2, a1_3⟩] by
      unfold plB; simp only [List.any_cons, List.any_nil, Bool.or_false]
      congr 1
      generalize farB ⟨a1_2, a1_3⟩ = x1
      generalize farB ⟨a1_0, a1_1⟩ = x2
      generalize farB ⟨a0_0, a0_1⟩ = x3
      generalize farB ⟨a0_2, a0_3⟩ = x4
      cases x1 <;> cases x2 <;> cases x3 <;> cases x4 <;> rfl]
    rw [tB_rev1, tB_comm]
  refine evb (Touch_ev ..) (evb (rTouch_ev ..) (evb (Touch_ev ..) ?_))
  rw [e]
  exact evp (by simp) (evp rfl (evp (by simp) (evp rfl (evb known_ev (Ev.now _)))))

end Go.Proofs.Ytgkgednbmfinnaa.Pure
