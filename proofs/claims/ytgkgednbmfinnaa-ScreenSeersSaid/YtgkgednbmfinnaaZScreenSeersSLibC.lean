/- Of the text SLibC, what the row of ScreenSeers reaches. -/
import Derived.Test.YtgkgednbmfinnaaZScreenSeersSLibB
import Derived.Test.YtgkgednbmfinnaaZScreenSeersSCx25
namespace Go.Proofs.Ytgkgednbmfinnaa.Pure
set_option linter.unusedVariables false
set_option linter.unusedSimpArgs false
open Go.RowKit Go.Proofs.Ytgkgednbmfinnaa.SC Go.Proofs.YtgkgednbmfinnaaW.PrintWords Go.Proofs.YtgkgednbmfinnaaW.PrintLast Go.Proofs.YtgkgednbmfinnaaW.PrintMore

def hidE (l : List S55) (eyes : List S23) (a b : Int) : Bool := !(eyes.any fun e => sE l e.f0 e.f1 a b)
theorem hidden_eq {l : List S55} {eyes : List S23} {a b : Int} (h : valR l = 0) (he : plB eyes = true) (r : inR a b) : screen_hidden.f l eyes a b = some (hidE l eyes a b) := by
  unfold screen_hidden.f hidB hidE
  rw [any_congr (q := fun e => sE l e.f0 e.f1 a b) (fun e hm => Option.some.inj (sees_eq h (plB_in he e hm) r))]
theorem seers_l0 {l : List S55} {eyes : List S23} {a b : Int} (h : valR l = 0) (he : plB eyes = true) (h8 : eyes.length ≤ 8) (r : inR a b) : ∀ (d i : Nat) (acc : List Int), i + d = eyes.length → acc.length ≤ i → Ev (fun k => wigeonref02_seers.l0 k l eyes acc (i : Int) a b) (acc ++ idxs (fun e => sE l e.f0 e.f1 a b) (eyes.drop i) i)
  | 0, i, acc, hi, _ => by
    refine Ev.step (fun k => wigeonref02_seers.l0.eq_2 ..) (evn (by omega) ?_)
    rw [List.drop_eq_nil_of_le (by omega)]; unfold idxs; rw [List.append_nil]; exact Ev.now _
  | d + 1, i, acc, hi, ha => by
    have hlt : i < eyes.length := by omega
    refine Ev.step (fun k => wigeonref02_seers.l0.eq_2 ..) (evp (by omega) (evp (by omega) ?_))
    rw [rdP_at eyes i hlt, List.drop_eq_getElem_cons hlt, w64 (by omega) (by omega)]
    refine evb (rsees_ev h (plB_in he _ (List.getElem_mem hlt)) r) ?_
    unfold idxs
    by_cases z : sE l (eyes[i]).f0 (eyes[i]).f1 a b = true
    · rw [if_pos z]
      refine evp z (evp (by omega) ?_)
      have R := seers_l0 h he h8 r d (i + 1) (acc ++ [(i : Int)]) (by omega) (by simp; omega)
      rw [List.append_assoc, List.singleton_append] at R
      exact R
    · rw [if_neg z]
      exact evn z (seers_l0 h he h8 r d (i + 1) acc (by omega) (by omega))
theorem seers_ev {l : List S55} {eyes : List S23} {a b : Int} (h : valR l = 0) (he : plB eyes = true) (h8 : eyes.length ≤ 8) (r : inR a b) : Ev (fun k => wigeonref02_seers.f k l eyes a b) (idxs (fun e => sE l e.f0 e.f1 a b) eyes 0) :=
  seers_l0 h he h8 r eyes.length 0 [] (by omega) (by simp)
theorem one_in {l : List S55} {eyes : List S23} {a b : Int} (h : lkR l eyes [⟨a, b⟩] = 0) : valR l = 0 ∧ eyes.length ≤ 8 ∧ plB eyes = true ∧ inR a b := by
  obtain ⟨h1, h2, _, h3, h4⟩ := lkR_ok h
  exact ⟨h1, h2, h3, plB_in h4 ⟨a, b⟩ (by simp)⟩
def SrR (l : List S55) (eyes : List S23) (a b : Int) : List Int × Int := if lkR l eyes [⟨a, b⟩] = 0 then (idxs (fun e => sE l e.f0 e.f1 a b) eyes 0, 0) else ([], lkR l eyes [⟨a, b⟩])
theorem SrR_0 {l : List S55} {eyes : List S23} {a b : Int} (h : lkR l eyes [⟨a, b⟩] = 0) : SrR l eyes a b = (idxs (fun e => sE l e.f0 e.f1 a b) eyes 0, 0) := if_pos h
theorem SrR_n {l : List S55} {eyes : List S23} {a b : Int} (h : ¬ lkR l eyes [⟨a, b⟩] = 0) : SrR l eyes a b = ([], lkR l eyes [⟨a, b⟩]) := if_neg h
theorem Seers_l0 {l : List S55} {eyes : List S23} {a b : Int} (h : valR l = 0) (he : plB eyes = true) (h8 : eyes.length ≤ 8) (r : inR a b) : ∀ (d i : Nat) (acc : List Int), i + d = eyes.length → acc.length ≤ i → Ev (fun k => screen_Seers.l0 k l acc eyes (eyes.length : Int) (i : Int) a b) (acc ++ idxs (fun e => sE l e.f0 e.f1 a b) (eyes.drop i) i, 0)
  | 0, i, acc, hi, _ => by
    refine Ev.step (fun k => screen_Seers.l0.eq_2 ..) (evn (by omega) ?_)
    rw [List.drop_eq_nil_of_le (by omega)]; unfold idxs; rw [List.append_nil]; exact Ev.now _
  | d + 1, i, acc, hi, ha => by
    have hlt : i < eyes.length := by omega
    refine Ev.step (fun k => screen_Seers.l0.eq_2 ..) (evp (by omega) (evp (by omega) (evp (by omega) ?_)))
    rw [rdP_at eyes i hlt, List.drop_eq_getElem_cons hlt, w64 (by omega) (by omega)]
    refine evs (sees_eq h (plB_in he _ (List.getElem_mem hlt)) r) ?_
    unfold idxs
    by_cases z : sE l (eyes[i]).f0 (eyes[i]).f1 a b = true
    · rw [if_pos z]
      refine evp z (evp (by omega) ?_)
      have R := Seers_l0 h he h8 r d (i + 1) (acc ++ [(i : Int)]) (by omega) (by simp; omega)
      rw [List.append_assoc, List.singleton_append] at R
      exact R
    · rw [if_neg z]
      exact evn z (Seers_l0 h he h8 r d (i + 1) acc (by omega) (by omega))
theorem Seers_ev (l : List S55) (eyes : List S23) (a b : Int) : Ev (fun k => screen_Seers.f k l eyes a b) (SrR l eyes a b) := by
  unfold screen_Seers.f
  refine evb (checked_ev ..) ?_
  rw [ckR_z]
  by_cases h : lkR l eyes [⟨a, b⟩] = 0
  · rw [SrR_0 h]
    obtain ⟨h1, h2, h3, r⟩ := one_in h
    exact evp h (Seers_l0 h1 h3 h2 r eyes.length 0 [] (by omega) (by simp))
  · rw [SrR_n h]; exact evn h (Ev.now _)
theorem rSeers_ev (l : List S55) (eyes : List S23) (a b : Int) (he : eyes.length ≤ 100000) : Ev (fun k => wigeonref02_Seers.f k l eyes a b) (SrR l eyes a b) := by
  unfold wigeonref02_Seers.f
  refine evb (looked_ev _ _ _ he (by simp)) ?_
  by_cases h : lkR l eyes [⟨a, b⟩] = 0
  · rw [SrR_0 h]
    obtain ⟨h1, h2, h3, r⟩ := one_in h
    exact evp h (evb (seers_ev h1 h3 h2 r) (Ev.now _))
  · rw [SrR_n h]; exact evn h (Ev.now _)
def HdR (l : List S55) (eyes : List S23) (a b : Int) : Bool × Int := if lkR l eyes [⟨a, b⟩] = 0 then (hidE l eyes a b, 0) else (false, lkR l eyes [⟨a, b⟩])
theorem HdR_0 {l : List S55} {eyes : List S23} {a b : Int} (h : lkR l eyes [⟨a, b⟩] = 0) : HdR l eyes a b = (hidE l eyes a b, 0) := if_pos h
theorem HdR_n {l : List S55} {eyes : List S23} {a b : Int} (h : ¬ lkR l eyes [⟨a, b⟩] = 0) : HdR l eyes a b = (false, lkR l eyes [⟨a, b⟩]) := if_neg h
theorem Hidden_ev (l : List S55) (eyes : List S23) (a b : Int) : Ev (fun k => screen_Hidden.f k l eyes a b) (HdR l eyes a b) := by
  unfold screen_Hidden.f
  refine evb (checked_ev ..) ?_
  rw [ckR_z]
  by_cases h : lkR l eyes [⟨a, b⟩] = 0
  · rw [HdR_0 h]
    obtain ⟨h1, h2, h3, r⟩ := one_in h
    exact evp h (evs (hidden_eq h1 h3 r) (Ev.now _))
  · rw [HdR_n h]; exact evn h (Ev.now _)
theorem rHidden_ev (l : List S55) (eyes : List S23) (a b : Int) (he : eyes.length ≤ 100000) : Ev (fun k => wigeonref02_Hidden.f k l eyes a b) (HdR l eyes a b) := by
  unfold wigeonref02_Hidden.f
  refine evb (looked_ev _ _ _ he (by simp)) ?_
  by_cases h : lkR l eyes [⟨a, b⟩] = 0
  · rw [HdR_0 h]
    obtain ⟨h1, h2, h3, r⟩ := one_in h
    refine evp h (evb (seers_ev h1 h3 h2 r) ?_)
    rw [idxs_none]; exact Ev.now _
  · rw [HdR_n h]; exact evn h (Ev.now _)

end Go.Proofs.Ytgkgednbmfinnaa.Pure

