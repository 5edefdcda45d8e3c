/- Of the text SLibB, what the row of ScreenSights reaches. -/
import Derived.Test.YtgkgednbmfinnaaZScreenSightsSLibA
import Derived.Test.YtgkgednbmfinnaaZScreenSightsSCx18
namespace Go.Proofs.Ytgkgednbmfinnaa.Pure
set_option linter.unusedVariables false
set_option linter.unusedSimpArgs false
open Go.RowKit Go.Proofs.Ytgkgednbmfinnaa.SC Go.Proofs.YtgkgednbmfinnaaW.PrintWords Go.Proofs.YtgkgednbmfinnaaW.PrintLast Go.Proofs.YtgkgednbmfinnaaW.PrintMore

def okS (s : S55) : Bool := plB [⟨s.f0.f0, s.f0.f1⟩, ⟨s.f1.f0, s.f1.f1⟩] && !(s.f0.f0 == s.f1.f0 && s.f0.f1 == s.f1.f1)
def valR (l : List S55) : Int := if l.length > 12 then 3 else if l.all okS then 0 else 1
theorem valid_l0 (l : List S55) (hl : l.length ≤ 12) : ∀ d i : Nat, i + d = l.length → Ev (fun k => screen_Validate.l0 k l (l.length : Int) (i : Int)) (if (l.drop i).all okS then (0 : Int) else 1)
  | 0, i, h => by
    refine Ev.step (fun k => screen_Validate.l0.eq_2 ..) (evn (by omega) ?_)
    rw [List.drop_eq_nil_of_le (by omega)]; exact Ev.now _
  | d + 1, i, h => by
    have hlt : i < l.length := by omega
    have R := valid_l0 l hl d (i + 1) (by omega)
    refine Ev.step (fun k => screen_Validate.l0.eq_2 ..) (evp (by omega) (evp (by omega) (evp (by omega) (evs (place_eq _) ?_))))
    rw [rdX_at l i hlt, List.drop_eq_getElem_cons hlt, List.all_cons, w64 (by omega) (by omega)]
    unfold okS
    cases plB [⟨(l[i]).f0.f0, (l[i]).f0.f1⟩, ⟨(l[i]).f1.f0, (l[i]).f1.f1⟩]
    · exact evn (by decide) (by rw [Bool.false_and, Bool.false_and, if_neg (by decide)]; exact Ev.now _)
    · refine evp rfl ?_
      cases ((l[i]).f0.f0 == (l[i]).f1.f0 && (l[i]).f0.f1 == (l[i]).f1.f1)
      · exact evn (by decide) (by rw [Bool.not_false, Bool.true_and, Bool.true_and]; exact R)
      · exact evp rfl (by rw [Bool.not_true, Bool.true_and, Bool.false_and, if_neg (by decide)]; exact Ev.now _)
theorem valid_ev (l : List S55) : Ev (fun k => screen_Validate.f k l) (valR l) := by
  unfold screen_Validate.f valR
  by_cases h : l.length > 12
  · rw [if_pos h]; exact evp (by omega) (Ev.now _)
  · rw [if_neg h]; exact evn (by omega) (valid_l0 l (by omega) l.length 0 (by omega))
theorem rvalid_l0 (l : List S55) (hl : l.length ≤ 12) : ∀ d i : Nat, i + d = l.length → Ev (fun k => wigeonref02_Validate.l0 k l (i : Int)) (if (l.drop i).all okS then (0 : Int) else 1)
  | 0, i, h => by
    refine Ev.step (fun k => wigeonref02_Validate.l0.eq_2 ..) (evn (by omega) ?_)
    rw [List.drop_eq_nil_of_le (by omega)]; exact Ev.now _
  | d + 1, i, h => by
    have hlt : i < l.length := by omega
    have R := rvalid_l0 l hl d (i + 1) (by omega)
    refine Ev.step (fun k => wigeonref02_Validate.l0.eq_2 ..) (evp (by omega) (evp (by omega) (evs (isPoint_eq _ _) ?_)))
    rw [rdX_at l i hlt, List.drop_eq_getElem_cons hlt, List.all_cons, w64 (by omega) (by omega)]
    unfold okS plB
    rw [List.any_cons, List.any_cons, List.any_nil, Bool.or_false]
    cases farB ⟨(l[i]).f0.f0, (l[i]).f0.f1⟩
    · refine evp rfl (evs (isPoint_eq _ _) ?_)
      cases farB ⟨(l[i]).f1.f0, (l[i]).f1.f1⟩
      · refine evp rfl ?_
        cases ((l[i]).f0.f0 == (l[i]).f1.f0 && (l[i]).f0.f1 == (l[i]).f1.f1)
        · exact evn (by decide) R
        · exact evp rfl (Ev.now _)
      · exact evn (by decide) (Ev.now _)
    · exact evn (by decide) (Ev.now _)
theorem rvalid_ev (l : List S55) : Ev (fun k => wigeonref02_Validate.f k l) (valR l) := by
  unfold wigeonref02_Validate.f valR
  by_cases h : l.length > 12
  · rw [if_pos h]; exact evp (by omega) (Ev.now _)
  · rw [if_neg h]; exact evn (by omega) (rvalid_l0 l (by omega) l.length 0 (by omega))
theorem valR_ok {l : List S55} (h : valR l = 0) : l.length ≤ 12 ∧ ∀ s ∈ l, inR s.f0.f0 s.f0.f1 ∧ inR s.f1.f0 s.f1.f1 := by
  unfold valR at h
  by_cases h1 : l.length > 12
  · rw [if_pos h1] at h; exact absurd h (by decide)
  · rw [if_neg h1] at h
    by_cases h2 : l.all okS = true
    · refine ⟨by omega, fun s hs => ?_⟩
      have a := List.all_eq_true.1 h2 s hs
      unfold okS at a
      rw [Bool.and_eq_true] at a
      have b := plB_in a.1
      exact ⟨b ⟨s.f0.f0, s.f0.f1⟩ (by simp), b ⟨s.f1.f0, s.f1.f1⟩ (by simp)⟩
    · rw [if_neg h2] at h; exact absurd h (by decide)

def bxB (a b c d : Int) : Bool := plB [⟨a, b⟩, ⟨c, d⟩] && decide (0 ≤ c - a ∧ 0 ≤ d - b ∧ c - a < 21 ∧ d - b < 21)
def lkR (l : List S55) (eyes points : List S23) : Int := if valR l = 0 then (if eyes.length > 8 ∨ points.length > 16 then 3 else if plB eyes && plB points then 0 else 1) else valR l
def ckR (l : List S55) (eyes points : List S23) (a b c d : Int) : Int := if lkR l eyes points = 0 then (if bxB a b c d then 0 else 1) else lkR l eyes points
theorem lkR_v {l : List S55} {eyes points : List S23} (h : ¬ valR l = 0) : lkR l eyes points = valR l := if_neg h
theorem lkR_3 {l : List S55} {eyes points : List S23} (h : valR l = 0) (h2 : eyes.length > 8 ∨ points.length > 16) : lkR l eyes points = 3 := (if_pos h).trans (if_pos h2)
theorem lkR_1 {l : List S55} {eyes points : List S23} (h : valR l = 0) (h2 : ¬ (eyes.length > 8 ∨ points.length > 16)) (h3 : ¬ (plB eyes && plB points) = true) : lkR l eyes points = 1 := (if_pos h).trans ((if_neg h2).trans (if_neg h3))
theorem lkR_0 {l : List S55} {eyes points : List S23} (h : valR l = 0) (h2 : ¬ (eyes.length > 8 ∨ points.length > 16)) (h3 : (plB eyes && plB points) = true) : lkR l eyes points = 0 := (if_pos h).trans ((if_neg h2).trans (if_pos h3))
theorem lkR_ok {l : List S55} {eyes points : List S23} (h : lkR l eyes points = 0) : valR l = 0 ∧ eyes.length ≤ 8 ∧ points.length ≤ 16 ∧ plB eyes = true ∧ plB points = true := by
  by_cases h1 : valR l = 0
  · by_cases h2 : eyes.length > 8 ∨ points.length > 16
    · rw [lkR_3 h1 h2] at h; exact absurd h (by decide)
    · by_cases h3 : (plB eyes && plB points) = true
      · rw [Bool.and_eq_true] at h3; exact ⟨h1, by omega, by omega, h3.1, h3.2⟩
      · rw [lkR_1 h1 h2 h3] at h; exact absurd h (by decide)
  · rw [lkR_v h1] at h; exact absurd h h1
theorem ckR_l {l : List S55} {eyes points : List S23} {a b c d : Int} (h : ¬ lkR l eyes points = 0) : ckR l eyes points a b c d = lkR l eyes points := if_neg h
theorem ckR_0 {l : List S55} {eyes points : List S23} {a b c d : Int} (h : lkR l eyes points = 0) (h2 : bxB a b c d = true) : ckR l eyes points a b c d = 0 := (if_pos h).trans (if_pos h2)
theorem ckR_1 {l : List S55} {eyes points : List S23} {a b c d : Int} (h : lkR l eyes points = 0) (h2 : ¬ bxB a b c d = true) : ckR l eyes points a b c d = 1 := (if_pos h).trans (if_neg h2)
theorem ckR_z (l : List S55) (eyes points : List S23) : ckR l eyes points 0 0 0 0 = lkR l eyes points := by
  by_cases h : lkR l eyes points = 0
  · rw [ckR_0 h (by decide), h]
  · exact ckR_l h
theorem checked_ev (l : List S55) (eyes points : List S23) (a b c d : Int) : Ev (fun k => screen_checked.f k l eyes points a b c d) (ckR l eyes points a b c d) := by
  unfold screen_checked.f
  refine evb (valid_ev l) ?_
  by_cases h : valR l = 0
  · refine evp h ?_
    have J1 : ∀ x : Bool, lkR l eyes points = (if x then 1 else 0) → (x = false → True) → Ev (fun k => screen_checked.j1 k (x || !plB [⟨a, b⟩, ⟨c, d⟩]) a b c d) (ckR l eyes points a b c d) := by
      intro x hx _
      refine Ev.step (fun k => screen_checked.j1.eq_2 ..) ?_
      cases x
      · have hx : lkR l eyes points = 0 := hx
        rw [Bool.false_or]
        by_cases hp : plB [⟨a, b⟩, ⟨c, d⟩] = true
        · have q := plB_in hp
          have q1 : inR a b := q ⟨a, b⟩ (by simp)
          have q2 : inR c d := q ⟨c, d⟩ (by simp)
          unfold inR at q1 q2
          rw [hp, w64 (n := c - a) (by omega) (by omega), w64 (n := d - b) (by omega) (by omega)]
          refine evn (by decide) ?_
          have no : ¬ (0 ≤ c - a ∧ 0 ≤ d - b ∧ c - a < 21 ∧ d - b < 21) → ¬ bxB a b c d = true := fun z w => by
            unfold bxB at w; rw [Bool.and_eq_true, decide_eq_true_eq] at w; exact z w.2
          by_cases z1 : c - a < 0
          · rw [ckR_1 hx (no (by omega))]; exact evp z1 (Ev.now _)
          · refine evn z1 ?_
            by_cases z2 : d - b < 0
            · rw [ckR_1 hx (no (by omega))]; exact evp z2 (Ev.now _)
            · refine evn z2 ?_
              by_cases z3 : c - a ≥ 21
              · rw [ckR_1 hx (no (by omega))]; exact evp z3 (Ev.now _)
              · refine evn z3 ?_
                by_cases z4 : d - b ≥ 21
                · rw [ckR_1 hx (no (by omega))]; exact evp z4 (Ev.now _)
                · rw [ckR_0 hx (by unfold bxB; rw [hp, Bool.true_and]; exact decide_eq_true (by omega))]; exact evn z4 (Ev.now _)
        · rw [ckR_1 hx (fun w => by unfold bxB at w; rw [Bool.and_eq_true] at w; exact hp w.1)]
          rw [Bool.not_eq_true] at hp
          rw [hp]
          exact evp rfl (Ev.now _)
      · have hx : lkR l eyes points = 1 := hx
        rw [ckR_l (by rw [hx]; decide), hx, Bool.true_or]
        exact evp rfl (Ev.now _)
    have J0 : ∀ x : Bool, (x = true ↔ (eyes.length > 8 ∨ points.length > 16)) → Ev (fun k => screen_checked.j0 k eyes points x a b c d) (ckR l eyes points a b c d) := by
      intro x hx
      refine Ev.step (fun k => screen_checked.j0.eq_2 ..) ?_
      cases x
      · have nb : ¬ (eyes.length > 8 ∨ points.length > 16) := fun z => absurd (hx.2 z) (by decide)
        refine evn (by decide) (evs (place_eq _) ?_)
        by_cases p1 : plB eyes = true
        · refine evp p1 (evs (place_eq _) ?_)
          by_cases p2 : plB points = true
          · refine evp p2 (evs (place_eq _) ?_)
            have := J1 false (lkR_0 h nb (by rw [p1, p2]; rfl)) (fun _ => trivial)
            rwa [Bool.false_or] at this
          · exact evn p2 (J1 true (lkR_1 h nb (by rw [Bool.and_eq_true]; exact fun z => p2 z.2)) (fun _ => trivial))
        · exact evn p1 (J1 true (lkR_1 h nb (by rw [Bool.and_eq_true]; exact fun z => p1 z.1)) (fun _ => trivial))
      · have e := lkR_3 h (hx.1 rfl)
        rw [ckR_l (by rw [e]; decide), e]
        exact evp rfl (Ev.now _)
    by_cases h1 : eyes.length > 8
    · exact evp (by omega) (J0 true (by simp; omega))
    · refine evn (by omega) (J0 _ ?_)
      rw [decide_eq_true_eq]; omega
  · rw [ckR_l (by rw [lkR_v h]; exact h), lkR_v h]
    exact evn h (Ev.now _)
theorem looked_ev (l : List S55) (eyes points : List S23) (he : eyes.length ≤ 100000) (hp : points.length ≤ 100000) : Ev (fun k => wigeonref02_looked.f k l eyes points) (lkR l eyes points) := by
  unfold wigeonref02_looked.f
  refine evb (rvalid_ev l) ?_
  by_cases h : valR l = 0
  · refine evp h ?_
    have J0 : ∀ x : Bool, (x = true ↔ (eyes.length > 8 ∨ points.length > 16)) → Ev (fun k => wigeonref02_looked.j0 k eyes points x) (lkR l eyes points) := by
      intro x hx
      refine Ev.step (fun k => wigeonref02_looked.j0.eq_2 ..) ?_
      cases x
      · have nb : ¬ (eyes.length > 8 ∨ points.length > 16) := fun z => absurd (hx.2 z) (by decide)
        refine evn (by decide) (evb (arePoints_ev _ he) ?_)
        by_cases p1 : plB eyes = true
        · refine evp p1 (evb (arePoints_ev _ hp) ?_)
          by_cases p2 : plB points = true
          · rw [lkR_0 h nb (by rw [p1, p2]; rfl)]; exact evp p2 (Ev.now _)
          · rw [lkR_1 h nb (by rw [Bool.and_eq_true]; exact fun z => p2 z.2)]; exact evn p2 (Ev.now _)
        · rw [lkR_1 h nb (by rw [Bool.and_eq_true]; exact fun z => p1 z.1)]; exact evn p1 (Ev.now _)
      · rw [lkR_3 h (hx.1 rfl)]
        exact evp rfl (Ev.now _)
    by_cases h1 : eyes.length > 8
    · exact evp (by omega) (J0 true (by simp; omega))
    · refine evn (by omega) (J0 _ ?_)
      rw [decide_eq_true_eq]; omega
  · rw [lkR_v h]
    exact evn h (Ev.now _)

/-- the numbers of those of a list of which p holds -/
def idxs {α : Type} (p : α → Bool) : List α → Nat → List Int
  | [], _ => []
  | x :: l, i => if p x then (i : Int) :: idxs p l (i + 1) else idxs p l (i + 1)
theorem idxs_none {α : Type} (p : α → Bool) : ∀ (l : List α) (i : Nat), (((idxs p l i).length : Int) == 0) = !(l.any p)
  | [], _ => by simp [idxs]
  | x :: l, i => by
    have := idxs_none p l (i + 1)
    unfold idxs
    rw [List.any_cons]
    cases p x
    · rw [if_neg (by decide), Bool.false_or]; exact this
    · rw [if_pos rfl, Bool.true_or]
      simp; omega
def tS (a b c d : Int) (s : S55) : Bool := tB a b c d s.f0.f0 s.f0.f1 s.f1.f0 s.f1.f1
def sE (l : List S55) (a b c d : Int) : Bool := !(l.any (tS a b c d))
theorem sE_comm (l : List S55) (a b c d : Int) : sE l c d a b = sE l a b c d := by
  unfold sE
  congr 2
  funext s
  exact tB_rev1 ..
theorem any_congr {α : Type} {p q : α → Bool} : ∀ {l : List α}, (∀ x ∈ l, p x = q x) → l.any p = l.any q
  | [], _ => rfl
  | x :: l, h => by
    rw [List.any_cons, List.any_cons, h x List.mem_cons_self, any_congr (fun y hy => h y (List.mem_cons_of_mem _ hy))]
theorem sees_eq {l : List S55} {a b c d : Int} (h : valR l = 0) (r1 : inR a b) (r2 : inR c d) : screen_sees.f l a b c d = some (sE l a b c d) := by
  unfold screen_sees.f seesB sE
  rw [any_congr (q := tS a b c d) (fun s hs => touchB_in r1 r2 ((valR_ok h).2 s hs).1 ((valR_ok h).2 s hs).2)]
theorem cutters_l0 {l : List S55} {a b c d : Int} (h : valR l = 0) (r1 : inR a b) (r2 : inR c d) : ∀ (e i : Nat) (acc : List Int), i + e = l.length → acc.length ≤ i → Ev (fun k => wigeonref02_cutters.l0 k l acc (i : Int) a b c d) (acc ++ idxs (tS a b c d) (l.drop i) i)
  | 0, i, acc, hi, _ => by
    refine Ev.step (fun k => wigeonref02_cutters.l0.eq_2 ..) (evn (by omega) ?_)
    rw [List.drop_eq_nil_of_le (by omega)]; unfold idxs; rw [List.append_nil]; exact Ev.now _
  | e + 1, i, acc, hi, ha => by
    have hlt : i < l.length := by omega
    have hl := (valR_ok h).1
    refine Ev.step (fun k => wigeonref02_cutters.l0.eq_2 ..) (evp (by omega) (evp (by omega) ?_))
    rw [rdX_at l i hlt, List.drop_eq_getElem_cons hlt, w64 (by omega) (by omega)]
    obtain ⟨g1, g2⟩ := (valR_ok h).2 _ (List.getElem_mem hlt)
    refine evb (rtouch_ev r1 r2 g1 g2) ?_
    unfold idxs tS
    by_cases z : tB a b c d (l[i]).f0.f0 (l[i]).f0.f1 (l[i]).f1.f0 (l[i]).f1.f1 = true
    · rw [if_pos z]
      refine evp z (evp (by omega) ?_)
      have R := cutters_l0 h r1 r2 e (i + 1) (acc ++ [(i : Int)]) (by omega) (by simp; omega)
      rw [List.append_assoc, List.singleton_append] at R
      exact R
    · rw [if_neg z]
      exact evn z (cutters_l0 h r1 r2 e (i + 1) acc (by omega) (by omega))
theorem cutters_ev {l : List S55} {a b c d : Int} (h : valR l = 0) (r1 : inR a b) (r2 : inR c d) : Ev (fun k => wigeonref02_cutters.f k l a b c d) (idxs (tS a b c d) l 0) := by
  have := cutters_l0 h r1 r2 l.length 0 [] (by omega) (by simp)
  exact this
theorem rsees_ev {l : List S55} {a b c d : Int} (h : valR l = 0) (r1 : inR a b) (r2 : inR c d) : Ev (fun k => wigeonref02_sees.f k l a b c d) (sE l a b c d) := by
  unfold wigeonref02_sees.f
  refine evb (cutters_ev h r1 r2) ?_
  rw [idxs_none]; exact Ev.now _
theorem Long_eq (l : List S55) (e : List S23) : wigeonlaw02_Long.f l e = some (decide (l.length > 100 ∨ e.length > 100)) := by
  unfold wigeonlaw02_Long.f
  by_cases h : (l.length : Int) > 100
  · rw [if_pos h, decide_eq_true (by omega)]
  · rw [if_neg h]; exact congrArg some (decide_eq_decide.2 (by omega))

theorem same_l0 (l : List Int) (hl : l.length ≤ 100000) : ∀ d i : Nat, i + d = l.length → Ev (fun k => wigeonref02_SameInts.l0 k l l (i : Int)) true
  | 0, i, h => Ev.step (fun k => wigeonref02_SameInts.l0.eq_2 ..) (evn (by omega) (Ev.now _))
  | d + 1, i, h => by
    refine Ev.step (fun k => wigeonref02_SameInts.l0.eq_2 ..) (evp (by omega) (evp (by omega) (evp (by omega) (evp rfl ?_))))
    rw [w64 (by omega) (by omega)]; exact same_l0 l hl d (i + 1) (by omega)
theorem same_ev (l : List Int) (hl : l.length ≤ 100000) : Ev (fun k => wigeonref02_SameInts.f k l l) true := by
  unfold wigeonref02_SameInts.f
  exact evp rfl (same_l0 l hl l.length 0 (by omega))


end Go.Proofs.Ytgkgednbmfinnaa.Pure

