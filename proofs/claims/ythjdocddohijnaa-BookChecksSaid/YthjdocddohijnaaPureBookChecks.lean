/- The plain law behind the row: what the printed functions of this law compute answers true, for every input that the row lets in. -/
import Derived.Test.YthjdocddohijnaaBLibC
import Derived.Test.YthjdocddohijnaaBKx19
namespace Go.Proofs.Ythjdocddohijnaa.Pure
set_option linter.unusedVariables false
set_option linter.unusedSimpArgs false
open Go.RowKit Go.Proofs.Ythjdocddohijnaa.BK Go.Proofs.YthjdocddohijnaaW.PrintWords Go.Proofs.YthjdocddohijnaaW.PrintLast


theorem Leaf_eq (s : ByteArray) (hs : s.size ≤ 1000) : book_Leaf.f s = some (if pageB s then (leafV s, 0) else (0, 1)) := by
  unfold book_Leaf.f book_IsPage.f
  rw [Option.bind_some, leaf_eq s (by omega)]
  cases pageB s <;> rfl
def chkR (root : Int) (page : ByteArray) (i n : Int) (p : List Int) : Int :=
  if pageB page then (if (climbR (leafV page) i n p).2 = 0 then (if sumP root then (if (climbR (leafV page) i n p).1 = root then 0 else 7) else 1) else (climbR (leafV page) i n p).2) else 1
theorem chkR_p {root : Int} {page : ByteArray} {i n : Int} {p : List Int} (h : ¬ pageB page = true) : chkR root page i n p = 1 := if_neg h
theorem chkR_c {root : Int} {page : ByteArray} {i n : Int} {p : List Int} (h : pageB page = true) (h2 : ¬ (climbR (leafV page) i n p).2 = 0) : chkR root page i n p = (climbR (leafV page) i n p).2 := (if_pos h).trans (if_neg h2)
theorem chkR_s {root : Int} {page : ByteArray} {i n : Int} {p : List Int} (h : pageB page = true) (h2 : (climbR (leafV page) i n p).2 = 0) (h3 : ¬ sumP root) : chkR root page i n p = 1 := (if_pos h).trans ((if_pos h2).trans (if_neg h3))
theorem chkR_e {root : Int} {page : ByteArray} {i n : Int} {p : List Int} (h : pageB page = true) (h2 : (climbR (leafV page) i n p).2 = 0) (h3 : sumP root) (h4 : (climbR (leafV page) i n p).1 = root) : chkR root page i n p = 0 := (if_pos h).trans ((if_pos h2).trans ((if_pos h3).trans (if_pos h4)))
theorem chkR_n {root : Int} {page : ByteArray} {i n : Int} {p : List Int} (h : pageB page = true) (h2 : (climbR (leafV page) i n p).2 = 0) (h3 : sumP root) (h4 : ¬ (climbR (leafV page) i n p).1 = root) : chkR root page i n p = 7 := (if_pos h).trans ((if_pos h2).trans ((if_pos h3).trans (if_neg h4)))
theorem CheckPage_ev (root : Int) (page : ByteArray) (i n : Int) (p : List Int) (hs : page.size ≤ 1000) (hp : p.length ≤ 1000) : Ev (fun k => book_CheckPage.f k root page i n p) (chkR root page i n p) := by
  unfold book_CheckPage.f
  refine evs (Leaf_eq page hs) ?_
  by_cases hq : pageB page = true
  · rw [if_pos hq]
    refine evp rfl (evb (Climb_ev _ _ _ _ hp) ?_)
    by_cases h : (climbR (leafV page) i n p).2 = 0
    · refine evp h (evs (isSum_eq _) ?_)
      by_cases hr : sumP root
      · refine evp (by simpa using hr) ?_
        by_cases he : (climbR (leafV page) i n p).1 = root
        · rw [chkR_e hq h hr he]; exact evp he (Ev.now _)
        · rw [chkR_n hq h hr he]; exact evn he (Ev.now _)
      · rw [chkR_s hq h hr]; exact evn (by simpa using hr) (Ev.now _)
    · rw [chkR_c hq h]; exact evn h (Ev.now _)
  · rw [if_neg hq, chkR_p hq]
    exact evn (by simp) (Ev.now _)
theorem rCheckPage_ev (root : Int) (page : ByteArray) (i n : Int) (p : List Int) (hs : page.size ≤ 1000) (hp : p.length ≤ 1000) : Ev (fun k => wigeonref09_CheckPage.f k root page i n p) (chkR root page i n p) := by
  unfold wigeonref09_CheckPage.f
  refine evb (rIsPage_ev page (by omega)) ?_
  by_cases hq : pageB page = true
  · refine evp hq (evb (rleaf_ev page (by omega)) (evb (rClimb_ev _ _ _ _ hp) ?_))
    by_cases h : (climbR (leafV page) i n p).2 = 0
    · refine evp h (evs (risSum_eq _) ?_)
      by_cases hr : sumP root
      · refine evp (by simpa using hr) ?_
        by_cases he : (climbR (leafV page) i n p).1 = root
        · rw [chkR_e hq h hr he]; exact evp he (Ev.now _)
        · rw [chkR_n hq h hr he]; exact evn he (Ev.now _)
      · rw [chkR_s hq h hr]; exact evn (by simpa using hr) (Ev.now _)
    · rw [chkR_c hq h]; exact evn h (Ev.now _)
  · rw [chkR_p hq]
    exact evn hq (Ev.now _)
theorem BookChecks (a0 : Int) (a1 : ByteArray) (a2_0 : Int) (a2_1 : Int) (a2_2 : Int) (a2_3 : List Int) (h0 : (Lit.int .i64 a0).wf = true) (h1 : a1.size ≤ 9223372036854775807) (h2_0 : (Lit.int .i64 a2_0).wf = true) (h2_1 : (Lit.int .i64 a2_1).wf = true) (h2_2 : (Lit.int .i64 a2_2).wf = true) (h2_3 : (a2_3.length ≤ 9223372036854775807 ∧ ∀ x_ ∈ a2_3, (Lit.int .i64 x_).wf = true)) : ∃ k, wigeonlaw09_BookChecks.f k a0 a1 a2_0 a2_1 a2_2 a2_3 = some true := by
  refine Ev.rounds (g := fun k => wigeonlaw09_BookChecks.f k a0 a1 a2_0 a2_1 a2_2 a2_3) ?_
  unfold wigeonlaw09_BookChecks.f
  refine evs (show wigeonlaw09_many.f a2_3 = some (decide ((a2_3.length : Int) > 100)) from rfl) ?_
  by_cases h : (a2_3.length : Int) > 100
  · exact evp (by simpa using h) (Ev.step (fun k => wigeonlaw09_BookChecks.j0.eq_2 ..) (evp rfl (evb known_ev (Ev.now _))))
  · refine evn (by simpa using h) (Ev.step (fun k => wigeonlaw09_BookChecks.j0.eq_2 ..) ?_)
    by_cases h2 : (a1.size : Int) > 1000
    · exact evp (by simpa using h2) (evb known_ev (Ev.now _))
    · exact evn (by simpa using h2) (evb (CheckPage_ev _ _ _ _ _ (by omega) (by omega)) (evb (rCheckPage_ev _ _ _ _ _ (by omega) (by omega)) (evp rfl (evb known_ev (Ev.now _)))))

end Go.Proofs.Ythjdocddohijnaa.Pure
