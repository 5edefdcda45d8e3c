/- The plain law behind the row: what the printed functions of this law compute answers true, for every input that the row lets in. -/
import Derived.Test.YthjdocddohijnaaBLibB
import Derived.Test.YthjdocddohijnaaBKx14
namespace Go.Proofs.Ythjdocddohijnaa.Pure
set_option linter.unusedVariables false
set_option linter.unusedSimpArgs false
open Go.RowKit Go.Proofs.Ythjdocddohijnaa.BK Go.Proofs.YthjdocddohijnaaW.PrintWords Go.Proofs.YthjdocddohijnaaW.PrintLast


theorem Join_ok (x y : Int) (hx : sumP x) (hy : sumP y) : book_Join.f x y = some (jn x y, 0) := by
  unfold book_Join.f
  rw [isSum_eq, Option.bind_some, if_pos (by simpa using ⟨hx, hy⟩)]; rfl
theorem BookSplits (a0 : List ByteArray) (h0 : (a0.length ≤ 9223372036854775807 ∧ ∀ x_ ∈ a0, x_.size ≤ 9223372036854775807)) : ∃ k, wigeonlaw09_BookSplits.f k a0 = some true := by
  refine Ev.rounds (g := fun k => wigeonlaw09_BookSplits.f k a0) ?_
  unfold wigeonlaw09_BookSplits.f
  refine evb (Long_ev a0 h0.1) ?_
  by_cases h : longB a0 = true
  · exact evp h (evb known_ev (Ev.now _))
  · obtain ⟨l1, l2⟩ := long_not a0 h
    have Z : ∀ {r : Int}, Ev (fun k => wigeonlaw09_BookSplits.j0 k a0 r true) true := Ev.step (fun k => wigeonlaw09_BookSplits.j0.eq_2 ..) (evp rfl (evb known_ev (Ev.now _)))
    refine evn h (evb (Root_ev a0 (by omega)) ?_)
    unfold rootR
    rcases vP_cases a0 with ⟨hv, h64, hp⟩ | hv
    · rw [if_pos hv]
      refine evp rfl ?_
      by_cases h2 : (a0.length : Int) < 2
      · rw [decide_eq_true h2]; exact Z
      · rw [decide_eq_false h2]
        have a := sp_lt a0.length (by omega)
        have b := sp_pos a0.length
        refine Ev.step (fun k => wigeonlaw09_BookSplits.j0.eq_2 ..) (evn (by decide) (evb (Split_ev _) ?_))
        unfold splitR
        rw [if_neg (by omega), Int.toNat_natCast]
        refine evp rfl (evn (by simp only; omega) ?_)
        rw [show decide (((sp a0.length : Nat) : Int) ≥ (a0.length : Int)) = false from decide_eq_false (by omega)]
        refine Ev.step (fun k => wigeonlaw09_BookSplits.j1.eq_2 ..) (evn (by decide) (evp (by omega) (evp (by omega) ?_)))
        rw [Int.toNat_natCast]
        have t1 : ∀ s ∈ a0.take (sp a0.length), pageB s = true := fun s hs => hp s (List.mem_of_mem_take hs)
        have t2 : ∀ s ∈ a0.drop (sp a0.length), pageB s = true := fun s hs => hp s (List.mem_of_mem_drop hs)
        have n1 : (a0.take (sp a0.length)).length ≤ 64 := by rw [List.length_take]; omega
        have n2 : (a0.drop (sp a0.length)).length ≤ 64 := by rw [List.length_drop]; omega
        have R1 := Root_ev (a0.take (sp a0.length)) (by omega)
        have R2 := Root_ev (a0.drop (sp a0.length)) (by omega)
        unfold rootR at R1 R2
        rw [if_pos (vP_zero _ n1 t1)] at R1
        rw [if_pos (vP_zero _ n2 t2)] at R2
        have q1 := rt_range 64 _ (by rw [lvs_length]; omega) (lvs_range (a0.take (sp a0.length)))
        have q2 := rt_range 64 _ (by rw [lvs_length]; omega) (lvs_range (a0.drop (sp a0.length)))
        refine evb R1 (evb R2 (evs (Join_ok _ _ q1 q2) (evp rfl (evp rfl (evp rfl (evp ?_ (evb known_ev (Ev.now _))))))))
        show jn _ _ = rt (lvs a0)
        rw [rt_two (lvs a0) (by rw [lvs_length]; omega), lvs_length]
        unfold lvs
        rw [List.map_take, List.map_drop]
    · rw [if_neg hv]
      exact evn hv Z

end Go.Proofs.Ythjdocddohijnaa.Pure
