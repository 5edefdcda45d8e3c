/- Of the text SLibC, what the row of ScreenChecks reaches. -/
import Derived.Test.YtgkgednbmfinnaaZScreenChecksSLibB
import Derived.Test.YtgkgednbmfinnaaZScreenChecksSCx25
namespace Go.Proofs.Ytgkgednbmfinnaa.Pure
set_option linter.unusedVariables false
set_option linter.unusedSimpArgs false
open Go.RowKit Go.Proofs.Ytgkgednbmfinnaa.SC Go.Proofs.YtgkgednbmfinnaaW.PrintWords Go.Proofs.YtgkgednbmfinnaaW.PrintLast Go.Proofs.YtgkgednbmfinnaaW.PrintMore

def hidE (l : List S55) (eyes : List S23) (a b : Int) : Bool := !(eyes.any fun e => sE l e.f0 e.f1 a b)
theorem hidden_eq {l : List S55} {eyes : List S23} {a b : Int} (h : valR l = 0) (he : plB eyes = true) (r : inR a b) : screen_hidden.f l eyes a b = some (hidE l eyes a b) := by
  unfold screen_hidden.f hidB hidE
  rw [any_congr (q := fun e => sE l e.f0 e.f1 a b) (fun e hm => Option.some.inj (sees_eq h (plB_in he e hm) r))]
theorem seers_l0 {l : List S55} {eyes : List S23} {a b : Int} (h : valR l = 0) (he : plB eyes = true) (h8 : eyes.length ≤ 8) (r : inR a b) : ∀ (d i : Nat) (acc : List Int), i + d = eyes.length → acc.length ≤ i → Ev (fun k => wigeonref02_seers.l0 k l eyes acc (i : Int) a b) (acc ++ idxs (fun e => sE l e.f0 e.f1 a b) (eyes.drop i) i)
  | 0, i, acc, hi, _ => by
    refine Ev.step (fun k => wigeonref02_seers.l0.eq_2 ..) (evn (by omega) ?_)
    rw [List.drop_eq_nil_of_le (by omega)]; unfold idxs; rw [List.append_nil]; exact Ev.now _
  | d + 1, i, acc, hi, ha => by
    have hlt : i < eyes.length := by omega
    refine Ev.step (fun k => wigeonref02_seers.l0.eq_2 ..) (evp (by omega) (evp (by omega) ?_))
    rw [rdP_at eyes i hlt, List.drop_eq_getElem_cons hlt, w64 (by omega) (by omega)]
    refine evb (rsees_ev h (plB_in he _ (List.getElem_mem hlt)) r) ?_
    unfold idxs
    by_cases z : sE l (eyes[i]).f0 (eyes[i]).f1 a b = true
    · rw [if_pos z]
      refine evp z (evp (by omega) ?_)
      have R := seers_l0 h he h8 r d (i + 1) (acc ++ [(i : Int)]) (by omega) (by simp; omega)
      rw [List.append_assoc, List.singleton_append] at R
      exact R
    · rw [if_neg z]
      exact evn z (seers_l0 h he h8 r d (i + 1) acc (by omega) (by omega))
theorem seers_ev {l : List S55} {eyes : List S23} {a b : Int} (h : valR l = 0) (he : plB eyes = true) (h8 : eyes.length ≤ 8) (r : inR a b) : Ev (fun k => wigeonref02_seers.f k l eyes a b) (idxs (fun e => sE l e.f0 e.f1 a b) eyes 0) :=
  seers_l0 h he h8 r eyes.length 0 [] (by omega) (by simp)
theorem boxed_ev (l : List S55) (eyes points : List S23) (a b c d : Int) (he : eyes.length ≤ 100000) (hp : points.length ≤ 100000) : Ev (fun k => wigeonref02_boxed.f k l eyes points a b c d) (ckR l eyes points a b c d) := by
  unfold wigeonref02_boxed.f
  refine evb (looked_ev l eyes points he hp) ?_
  by_cases h : lkR l eyes points = 0
  · refine evp h ?_
    have e : wigeonref02_isBox.f a b c d = some (bxB a b c d) := by
      unfold wigeonref02_isBox.f bxB
      rw [isPoint_eq, isPoint_eq, Option.bind_some, Option.bind_some]
      have pe : plB [⟨a, b⟩, ⟨c, d⟩] = (!farB ⟨a, b⟩ && !farB ⟨c, d⟩) := by
        unfold plB; simp only [List.any_cons, List.any_nil, Bool.or_false, Bool.not_or]
      rw [pe]
      cases h1 : farB ⟨a, b⟩
      · cases h2 : farB ⟨c, d⟩
        · have q1 : inR a b := (far_in ⟨a, b⟩).1 h1
          have q2 : inR c d := (far_in ⟨c, d⟩).1 h2
          unfold inR at q1 q2
          rw [if_pos (show (!false) = true from rfl), if_pos (show (!false) = true from rfl), w64 (n := c - a) (by omega) (by omega), w64 (n := d - b) (by omega) (by omega)]
          unfold wigeonref02_within.f
          rw [show (!false && !false && decide (0 ≤ c - a ∧ 0 ≤ d - b ∧ c - a < 21 ∧ d - b < 21)) = decide (0 ≤ c - a ∧ 0 ≤ d - b ∧ c - a < 21 ∧ d - b < 21) from rfl]
          by_cases z1 : c - a ≥ 0
          · rw [if_pos z1, Option.bind_some]
            by_cases z2 : c - a ≤ 20
            · rw [decide_eq_true z2, if_pos rfl]
              by_cases z3 : d - b ≥ 0
              · rw [if_pos z3]; exact congrArg some (decide_eq_decide.2 (by omega))
              · rw [if_neg z3]; exact congrArg some (decide_eq_false (by omega)).symm
            · rw [decide_eq_false z2, if_neg (by decide)]; exact congrArg some (decide_eq_false (by omega)).symm
          · rw [if_neg z1, Option.bind_some, if_neg (by decide)]; exact congrArg some (decide_eq_false (by omega)).symm
        · rfl
      · rfl
    refine evs e ?_
    by_cases h2 : bxB a b c d = true
    · rw [ckR_0 h h2]; exact evp h2 (Ev.now _)
    · rw [ckR_1 h h2]; exact evn h2 (Ev.now _)
  · rw [ckR_l h]; exact evn h (Ev.now _)

theorem box_in {l : List S55} {eyes p : List S23} {a b c d : Int} (h : ckR l eyes p a b c d = 0) : valR l = 0 ∧ eyes.length ≤ 8 ∧ plB eyes = true ∧ inR a b ∧ inR c d ∧ a ≤ c ∧ b ≤ d := by
  obtain ⟨h1, h2⟩ := ckR_ok h
  obtain ⟨v, e8, _, pe, _⟩ := lkR_ok h1
  unfold bxB at h2
  rw [Bool.and_eq_true, decide_eq_true_eq] at h2
  have q := plB_in h2.1
  exact ⟨v, e8, pe, q ⟨a, b⟩ (by simp), q ⟨c, d⟩ (by simp), by omega, by omega⟩
end Go.Proofs.Ytgkgednbmfinnaa.Pure

