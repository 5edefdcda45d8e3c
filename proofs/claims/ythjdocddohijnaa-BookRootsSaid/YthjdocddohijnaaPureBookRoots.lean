/- The plain law behind the row: what the printed functions of this law compute answers true, for every input that the row lets in. -/
import Derived.Test.YthjdocddohijnaaBLibB
import Derived.Test.YthjdocddohijnaaBKx14
namespace Go.Proofs.Ythjdocddohijnaa.Pure
set_option linter.unusedVariables false
set_option linter.unusedSimpArgs false
open Go.RowKit Go.Proofs.Ythjdocddohijnaa.BK Go.Proofs.YthjdocddohijnaaW.PrintWords Go.Proofs.YthjdocddohijnaaW.PrintLast


theorem BookRoots (a0 : List ByteArray) (a1 : Int) (h0 : (a0.length ≤ 9223372036854775807 ∧ ∀ x_ ∈ a0, x_.size ≤ 9223372036854775807)) (h1 : (Lit.int .i64 a1).wf = true) : ∃ k, wigeonlaw09_BookRoots.f k a0 a1 = some true := by
  refine Ev.rounds (g := fun k => wigeonlaw09_BookRoots.f k a0 a1) ?_
  unfold wigeonlaw09_BookRoots.f
  refine evb (Long_ev a0 h0.1) ?_
  by_cases h : longB a0 = true
  · exact evp h (evb known_ev (Ev.now _))
  · obtain ⟨l1, l2⟩ := long_not a0 h
    exact evn h (evb (Split_ev a1) (evb (rSplit_ev a1) (evb (Root_ev a0 (by omega)) (evb (rRoot_ev a0 (by omega) h0.2) (evp rfl (evp rfl (evb (vP_ev a0 (by omega)) (evb (rvP_ev a0 (by omega) h0.2) (evp rfl (evp rfl (evp rfl (evb known_ev (Ev.now _)))))))))))))

end Go.Proofs.Ythjdocddohijnaa.Pure
