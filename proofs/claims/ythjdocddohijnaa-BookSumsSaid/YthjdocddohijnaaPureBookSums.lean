/- The plain law behind the row: what the printed functions of this law compute answers true, for every input that the row lets in. -/
import Derived.Test.YthjdocddohijnaaBLibA
namespace Go.Proofs.Ythjdocddohijnaa.Pure
set_option linter.unusedVariables false
set_option linter.unusedSimpArgs false
open Go.RowKit Go.Proofs.Ythjdocddohijnaa.BK Go.Proofs.YthjdocddohijnaaW.PrintWords Go.Proofs.YthjdocddohijnaaW.PrintLast


theorem Leaf_ev (s : ByteArray) (hs : s.size ≤ 1000) : book_Leaf.f s = some (if pageB s then (leafV s, 0) else (0, 1)) := by
  unfold book_Leaf.f book_IsPage.f
  rw [Option.bind_some, leaf_eq s (by omega)]
  cases pageB s <;> rfl
theorem rLeaf_ev (s : ByteArray) (hs : s.size ≤ 1000) : Ev (fun k => wigeonref09_Leaf.f k s) (if pageB s then (leafV s, 0) else (0, 1)) := by
  unfold wigeonref09_Leaf.f
  refine evb (rIsPage_ev s (by omega)) ?_
  cases pageB s
  · exact evn (by decide) (Ev.now _)
  · exact evp rfl (evb (rleaf_ev s (by omega)) (Ev.now _))
theorem Join_eq (x y : Int) : book_Join.f x y = some (if sumP x ∧ sumP y then (jn x y, 0) else (0, 1)) := by
  unfold book_Join.f
  rw [isSum_eq, Option.bind_some]
  by_cases h : sumP x ∧ sumP y
  · rw [if_pos h, if_pos (by simpa using h)]; rfl
  · rw [if_neg h, if_neg (by simpa using h)]
theorem rJoin_eq (x y : Int) : wigeonref09_Join.f x y = some (if sumP x ∧ sumP y then (jn x y, 0) else (0, 1)) := by
  unfold wigeonref09_Join.f
  rw [risSum_eq, risSum_eq, Option.bind_some, Option.bind_some]
  by_cases h : sumP x
  · rw [if_pos (by simpa using h)]
    by_cases h2 : sumP y
    · rw [if_pos (by simpa using h2), if_pos ⟨h, h2⟩]; rfl
    · rw [if_neg (by simpa using h2), if_neg (fun q => h2 q.2)]
  · rw [if_neg (by simpa using h), if_neg (fun q => h q.1)]
theorem BookSums (a0 : ByteArray) (a1 : Int) (a2 : Int) (h0 : a0.size ≤ 9223372036854775807) (h1 : (Lit.int .i64 a1).wf = true) (h2 : (Lit.int .i64 a2).wf = true) : ∃ k, wigeonlaw09_BookSums.f k a0 a1 a2 = some true := by
  refine Ev.rounds (g := fun k => wigeonlaw09_BookSums.f k a0 a1 a2) ?_
  unfold wigeonlaw09_BookSums.f
  by_cases h : (a0.size : Int) > 1000
  · exact evp h (evb known_ev (Ev.now _))
  · exact evn h (evs (Leaf_ev a0 (by omega)) (evb (rLeaf_ev a0 (by omega)) (evs (Join_eq a1 a2) (evs (rJoin_eq a1 a2) (evs rfl (evb (rIsPage_ev a0 (by omega)) (evp (by simp) (evp rfl (evp rfl (evp rfl (evp rfl (evb known_ev (Ev.now _)))))))))))))

end Go.Proofs.Ythjdocddohijnaa.Pure
