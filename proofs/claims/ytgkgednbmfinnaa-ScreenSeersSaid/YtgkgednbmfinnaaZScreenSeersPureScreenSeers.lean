/- Of the text PureScreenSeers, what the row of ScreenSeers reaches. -/
import Derived.Test.YtgkgednbmfinnaaZScreenSeersSLibC
import Derived.Test.YtgkgednbmfinnaaZScreenSeersSCx25
namespace Go.Proofs.Ytgkgednbmfinnaa.Pure
set_option linter.unusedVariables false
set_option linter.unusedSimpArgs false
open Go.RowKit Go.Proofs.Ytgkgednbmfinnaa.SC Go.Proofs.YtgkgednbmfinnaaW.PrintWords Go.Proofs.YtgkgednbmfinnaaW.PrintLast Go.Proofs.YtgkgednbmfinnaaW.PrintMore


theorem ScreenSeers (a0 : List S55) (a1 : List S23) (a2_0 : Int) (a2_1 : Int) (h0 : (a0.length ≤ 9223372036854775807 ∧ ∀ x_ ∈ a0, (((Lit.int .i64 x_.f0.f0).wf = true) ∧ ((Lit.int .i64 x_.f0.f1).wf = true)) ∧ (((Lit.int .i64 x_.f1.f0).wf = true) ∧ ((Lit.int .i64 x_.f1.f1).wf = true)))) (h1 : (a1.length ≤ 9223372036854775807 ∧ ∀ x_ ∈ a1, ((Lit.int .i64 x_.f0).wf = true) ∧ ((Lit.int .i64 x_.f1).wf = true))) (h2_0 : (Lit.int .i64 a2_0).wf = true) (h2_1 : (Lit.int .i64 a2_1).wf = true) : ∃ k, wigeonlaw02_ScreenSeers.f k a0 a1 a2_0 a2_1 = some true := by
  refine Ev.rounds (g := fun k => wigeonlaw02_ScreenSeers.f k a0 a1 a2_0 a2_1) ?_
  unfold wigeonlaw02_ScreenSeers.f
  refine evs (Long_eq ..) ?_
  by_cases h : a0.length > 100 ∨ a1.length > 100
  · rw [decide_eq_true h]; exact evp rfl (evb known_ev (Ev.now _))
  · rw [decide_eq_false h]
    have ln : (SrR a0 a1 a2_0 a2_1).1.length ≤ 100000 := by
      unfold SrR
      split
      · have := idxs_len (fun e : S23 => sE a0 e.f0 e.f1 a2_0 a2_1) a1 0; simp only; omega
      · simp
    exact evn (by decide) (evb (Seers_ev ..) (evb (rSeers_ev _ _ _ _ (by omega)) (evb (Hidden_ev ..) (evb (rHidden_ev _ _ _ _ (by omega)) (evb (same_ev _ ln) (evp rfl (evp rfl (evp (by simp) (evp rfl (evb known_ev (Ev.now _)))))))))))

end Go.Proofs.Ytgkgednbmfinnaa.Pure

