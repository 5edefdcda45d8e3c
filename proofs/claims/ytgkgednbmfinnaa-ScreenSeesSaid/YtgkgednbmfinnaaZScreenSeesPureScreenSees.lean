/- Of the text PureScreenSees, what the row of ScreenSees reaches. -/
import Derived.Test.YtgkgednbmfinnaaZScreenSeesSLibB
import Derived.Test.YtgkgednbmfinnaaZScreenSeesSCx18
namespace Go.Proofs.Ytgkgednbmfinnaa.Pure
set_option linter.unusedVariables false
set_option linter.unusedSimpArgs false
open Go.RowKit Go.Proofs.Ytgkgednbmfinnaa.SC Go.Proofs.YtgkgednbmfinnaaW.PrintWords Go.Proofs.YtgkgednbmfinnaaW.PrintLast Go.Proofs.YtgkgednbmfinnaaW.PrintMore


theorem ScreenSees (a0 : List S55) (a1_0_0 : Int) (a1_0_1 : Int) (a1_1_0 : Int) (a1_1_1 : Int) (h0 : (a0.length ≤ 9223372036854775807 ∧ ∀ x_ ∈ a0, (((Lit.int .i64 x_.f0.f0).wf = true) ∧ ((Lit.int .i64 x_.f0.f1).wf = true)) ∧ (((Lit.int .i64 x_.f1.f0).wf = true) ∧ ((Lit.int .i64 x_.f1.f1).wf = true)))) (h1_0_0 : (Lit.int .i64 a1_0_0).wf = true) (h1_0_1 : (Lit.int .i64 a1_0_1).wf = true) (h1_1_0 : (Lit.int .i64 a1_1_0).wf = true) (h1_1_1 : (Lit.int .i64 a1_1_1).wf = true) : ∃ k, wigeonlaw02_ScreenSees.f k a0 a1_0_0 a1_0_1 a1_1_0 a1_1_1 = some true := by
  refine Ev.rounds (g := fun k => wigeonlaw02_ScreenSees.f k a0 a1_0_0 a1_0_1 a1_1_0 a1_1_1) ?_
  unfold wigeonlaw02_ScreenSees.f
  refine evs (Long_eq ..) ?_
  by_cases h : a0.length > 100 ∨ ([] : List S23).length > 100
  · rw [decide_eq_true h]; exact evp rfl (evb known_ev (Ev.now _))
  · rw [decide_eq_false h]
    have sw : SeR a0 a1_1_0 a1_1_1 a1_0_0 a1_0_1 = SeR a0 a1_0_0 a1_0_1 a1_1_0 a1_1_1 := by
      unfold SeR
      rw [show lkR a0 [] [⟨a1_1_0, a1_1_1⟩, ⟨a1_0_0, a1_0_1⟩] = lkR a0 [] [⟨a1_0_0, a1_0_1⟩, ⟨a1_1_0, a1_1_1⟩] by
        unfold lkR
        rw [show plB [⟨a1_1_0, a1_1_1⟩, ⟨a1_0_0, a1_0_1⟩] = plB [⟨a1_0_0, a1_0_1⟩, ⟨a1_1_0, a1_1_1⟩] by
          unfold plB; simp only [List.any_cons, List.any_nil, Bool.or_false]; rw [Bool.or_comm]]
        rfl]
      rw [sE_comm]
    have ln : (CuR a0 a1_0_0 a1_0_1 a1_1_0 a1_1_1).1.length ≤ 100000 := by
      unfold CuR
      split
      · have := idxs_len (tS a1_0_0 a1_0_1 a1_1_0 a1_1_1) a0 0; simp only; omega
      · simp
    refine evn (by decide) (evb (Sees_ev ..) (evb (rSees_ev ..) (evb (Cutters_ev ..) (evb (rCutters_ev ..) (evb (Sees_ev ..) (evb (valid_ev _) (evb (rvalid_ev _) ?_)))))))
    rw [sw]
    exact evp rfl (evp (by simp) (evp rfl (evb (same_ev _ ln) (evp rfl (evp rfl (evp (by simp) (evp rfl (evb known_ev (Ev.now _)))))))))

end Go.Proofs.Ytgkgednbmfinnaa.Pure

