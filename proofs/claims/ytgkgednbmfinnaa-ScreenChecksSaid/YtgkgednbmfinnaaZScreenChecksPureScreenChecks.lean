/- Of the text PureScreenChecks, what the row of ScreenChecks reaches. -/
import Derived.Test.YtgkgednbmfinnaaZScreenChecksSLibC
import Derived.Test.YtgkgednbmfinnaaZScreenChecksSCx30
namespace Go.Proofs.Ytgkgednbmfinnaa.Pure
set_option linter.unusedVariables false
set_option linter.unusedSimpArgs false
open Go.RowKit Go.Proofs.Ytgkgednbmfinnaa.SC Go.Proofs.YtgkgednbmfinnaaW.PrintWords Go.Proofs.YtgkgednbmfinnaaW.PrintLast Go.Proofs.YtgkgednbmfinnaaW.PrintMore

def inB (a b c d p q : Int) : Bool := decide (a ≤ p ∧ p ≤ c ∧ b ≤ q ∧ q ≤ d)
theorem inside_eq (a b c d p q : Int) : screen_inside.f a b c d p q = some (inB a b c d p q) := by
  unfold screen_inside.f inB
  by_cases h1 : a ≤ p
  · rw [if_pos h1]
    by_cases h2 : p ≤ c
    · rw [if_pos h2]
      by_cases h3 : b ≤ q
      · rw [if_pos h3]; exact congrArg some (decide_eq_decide.2 (by omega))
      · rw [if_neg h3]; exact congrArg some (decide_eq_false (by omega)).symm
    · rw [if_neg h2]; exact congrArg some (decide_eq_false (by omega)).symm
  · rw [if_neg h1]; exact congrArg some (decide_eq_false (by omega)).symm
theorem in_eq (a b c d p q : Int) : wigeonref02_in.f a b c d p q = some (inB a b c d p q) := by
  unfold wigeonref02_in.f wigeonref02_within.f inB
  by_cases h1 : p ≥ a
  · rw [if_pos h1, Option.bind_some]
    by_cases h2 : p ≤ c
    · rw [decide_eq_true h2, if_pos rfl]
      by_cases h3 : q ≥ b
      · rw [if_pos h3]; exact congrArg some (decide_eq_decide.2 (by omega))
      · rw [if_neg h3]; exact congrArg some (decide_eq_false (by omega)).symm
    · rw [decide_eq_false h2, if_neg (by decide)]; exact congrArg some (decide_eq_false (by omega)).symm
  · rw [if_neg h1, Option.bind_some, if_neg (by decide)]; exact congrArg some (decide_eq_false (by omega)).symm
def stB (a b c d : Int) : Bool := (a - c) * (a - c) + (b - d) * (b - d) == 1
theorem sq_cases (x : Int) : (x = 0 ∧ x * x = 0) ∨ ((x = 1 ∨ x = -1) ∧ x * x = 1) ∨ ((2 ≤ x ∨ x ≤ -2) ∧ 4 ≤ x * x) := by
  by_cases h : x = 0
  · subst h; exact Or.inl ⟨rfl, rfl⟩
  by_cases h1 : x = 1
  · subst h1; exact Or.inr (Or.inl ⟨Or.inl rfl, rfl⟩)
  by_cases h2 : x = -1
  · subst h2; exact Or.inr (Or.inl ⟨Or.inr rfl, rfl⟩)
  refine Or.inr (Or.inr ⟨by omega, ?_⟩)
  by_cases p : 0 ≤ x
  · have := Int.mul_nonneg (show 0 ≤ x - 2 by omega) (show 0 ≤ x + 2 by omega)
    have e : (x - 2) * (x + 2) = x * x - 4 := by grind
    omega
  · have := nn (show x - 2 ≤ 0 by omega) (show x + 2 ≤ 0 by omega)
    have e : (x - 2) * (x + 2) = x * x - 4 := by grind
    omega
theorem isStep_eq {a b c d : Int} (h1 : inR a b) (h2 : inR c d) : screen_isStep.f a b c d = some (stB a b c d) := by
  unfold screen_isStep.f stB
  unfold inR at h1 h2
  have p := mulb (x := a - c) (y := a - c) (a := 200) (b := 200) (by omega) (by omega) (by omega) (by omega)
  have q := mulb (x := b - d) (y := b - d) (a := 200) (b := 200) (by omega) (by omega) (by omega) (by omega)
  rw [w64 (n := a - c) (by omega) (by omega), w64 (n := b - d) (by omega) (by omega)]
  generalize (a - c) * (a - c) = x at *
  generalize (b - d) * (b - d) = y at *
  rw [w64 (n := x) (by omega) (by omega), w64 (n := y) (by omega) (by omega), w64 (by omega) (by omega)]
theorem apart_eq {a b c d : Int} (h1 : inR a b) (h2 : inR c d) : ∃ n, wigeonref02_apart.f a b c d = some n ∧ (n != 1) = !stB a b c d := by
  unfold wigeonref02_apart.f stB
  unfold inR at h1 h2
  refine ⟨_, rfl, ?_⟩
  rw [mx_eq, mx_eq, w64 (n := a - c) (by omega) (by omega), w64 (n := c - a) (by omega) (by omega), w64 (n := b - d) (by omega) (by omega), w64 (n := d - b) (by omega) (by omega), w64 (by omega) (by omega)]
  have e : max (a - c) (c - a) + max (b - d) (d - b) = 1 ↔ (a - c) * (a - c) + (b - d) * (b - d) = 1 := by
    have s1 := sq_cases (a - c)
    have s2 := sq_cases (b - d)
    generalize (a - c) * (a - c) = x at *
    generalize (b - d) * (b - d) = y at *
    omega
  show (!(max (a - c) (c - a) + max (b - d) (d - b) == 1)) = !((a - c) * (a - c) + (b - d) * (b - d) == 1)
  congr 1
  rw [Bool.eq_iff_iff, beq_iff_eq, beq_iff_eq]; exact e
def cw (l : List S55) (eyes : List S23) (a b c d : Int) (way : List S23) : Nat → Nat → Int × Int
  | 0, _ => ((way.length : Int) - 1, 0)
  | n + 1, i =>
    if inB a b c d (rd_T23 way i).f0 (rd_T23 way i).f1 then
      if hidE l eyes (rd_T23 way i).f0 (rd_T23 way i).f1 then
        if i = 0 then cw l eyes a b c d way n (i + 1)
        else if stB (rd_T23 way (i - 1 : Nat)).f0 (rd_T23 way (i - 1 : Nat)).f1 (rd_T23 way i).f0 (rd_T23 way i).f1 then
          if sE l (rd_T23 way (i - 1 : Nat)).f0 (rd_T23 way (i - 1 : Nat)).f1 (rd_T23 way i).f0 (rd_T23 way i).f1 then cw l eyes a b c d way n (i + 1) else (i, 12)
        else (i, 13)
      else (i, 11)
    else (i, 1)
theorem inB_R {a b c d p q : Int} (h1 : inR a b) (h2 : inR c d) (h : inB a b c d p q = true) : inR p q := by
  unfold inB at h; rw [decide_eq_true_eq] at h; unfold inR at *; omega
theorem CheckWay_l0 {l : List S55} {eyes : List S23} {a b c d : Int} (way : List S23) (h : valR l = 0) (he : plB eyes = true) (r1 : inR a b) (r2 : inR c d) (hw : way.length ≤ 1000) : ∀ (n i : Nat), i + n = way.length → (i ≠ 0 → inR (rd_T23 way (i - 1 : Nat)).f0 (rd_T23 way (i - 1 : Nat)).f1) →
    Ev (fun k => screen_CheckWay.l0 k l eyes way way (way.length : Int) (i : Int) a b c d) (cw l eyes a b c d way n i)
  | 0, i, hi, _ => by
    refine Ev.step (fun k => screen_CheckWay.l0.eq_2 ..) (evn (by omega) ?_)
    rw [w64 (by omega) (by omega)]; exact Ev.now _
  | n + 1, i, hi, hp => by
    have R := CheckWay_l0 way h he r1 r2 hw n (i + 1) (by omega)
    refine Ev.step (fun k => screen_CheckWay.l0.eq_2 ..) (evp (by omega) (evp (by omega) (evp (by omega) (evs (inside_eq ..) ?_))))
    rw [w64 (n := (i : Int) + 1) (by omega) (by omega)]
    unfold cw
    by_cases z1 : inB a b c d (rd_T23 way i).f0 (rd_T23 way i).f1 = true
    · have rr := inB_R r1 r2 z1
      rw [if_pos z1]
      refine evp z1 (evs (hidden_eq h he rr) ?_)
      by_cases z2 : hidE l eyes (rd_T23 way i).f0 (rd_T23 way i).f1 = true
      · rw [if_pos z2]
        refine evp z2 ?_
        have R := R (fun _ => by rw [Nat.add_sub_cancel]; exact rr)
        by_cases z3 : i = 0
        · rw [if_pos z3]; exact evp (by omega) R
        · rw [if_neg z3]
          rw [w64 (n := (i : Int) - 1) (by omega) (by omega), show (i : Int) - 1 = ((i - 1 : Nat) : Int) by omega]
          refine evn (by omega) (evp (by omega) (evp (by omega) (evs (isStep_eq (hp z3) rr) ?_)))
          by_cases z4 : stB (rd_T23 way (i - 1 : Nat)).f0 (rd_T23 way (i - 1 : Nat)).f1 (rd_T23 way i).f0 (rd_T23 way i).f1 = true
          · rw [if_pos z4]
            refine evp z4 (evs (sees_eq h (hp z3) rr) ?_)
            by_cases z5 : sE l (rd_T23 way (i - 1 : Nat)).f0 (rd_T23 way (i - 1 : Nat)).f1 (rd_T23 way i).f0 (rd_T23 way i).f1 = true
            · rw [if_pos z5]; exact evp z5 R
            · rw [if_neg z5]; exact evn z5 (Ev.now _)
          · rw [if_neg z4]; exact evn z4 (Ev.now _)
      · rw [if_neg z2]; exact evn z2 (Ev.now _)
    · rw [if_neg z1]; exact evn z1 (Ev.now _)
theorem rCheckWay_l0 {l : List S55} {eyes : List S23} {a b c d : Int} (way : List S23) (h : valR l = 0) (he : plB eyes = true) (h8 : eyes.length ≤ 8) (r1 : inR a b) (r2 : inR c d) (hw : way.length ≤ 1000) : ∀ (n i : Nat), i + n = way.length → (i ≠ 0 → inR (rd_T23 way (i - 1 : Nat)).f0 (rd_T23 way (i - 1 : Nat)).f1) →
    Ev (fun k => wigeonref02_CheckWay.l0 k l eyes way (i : Int) a b c d) (cw l eyes a b c d way n i)
  | 0, i, hi, _ => by
    refine Ev.step (fun k => wigeonref02_CheckWay.l0.eq_2 ..) (evn (by omega) ?_)
    rw [w64 (by omega) (by omega)]; exact Ev.now _
  | n + 1, i, hi, hp => by
    have R := rCheckWay_l0 way h he h8 r1 r2 hw n (i + 1) (by omega)
    refine Ev.step (fun k => wigeonref02_CheckWay.l0.eq_2 ..) (evp (by omega) (evp (by omega) (evs (in_eq ..) ?_)))
    unfold cw
    by_cases z1 : inB a b c d (rd_T23 way i).f0 (rd_T23 way i).f1 = true
    · have rr := inB_R r1 r2 z1
      rw [if_pos z1]
      refine evp z1 (evb (seers_ev h he h8 rr) ?_)
      have e := idxs_none (fun e => sE l e.f0 e.f1 (rd_T23 way i).f0 (rd_T23 way i).f1) eyes 0
      change _ = hidE l eyes (rd_T23 way i).f0 (rd_T23 way i).f1 at e
      by_cases z2 : hidE l eyes (rd_T23 way i).f0 (rd_T23 way i).f1 = true
      · rw [if_pos z2]
        rw [z2, beq_iff_eq] at e
        refine evn (by omega) ?_
        have R := R (fun _ => by rw [Nat.add_sub_cancel]; exact rr)
        by_cases z3 : i = 0
        · rw [if_pos z3]
          refine evn (by omega) (Ev.step (fun k => wigeonref02_CheckWay.j1.eq_2 ..) (evn (by decide) (evn (by omega) ?_)))
          rw [w64 (n := (i : Int) + 1) (by omega) (by omega)]; exact R
        · rw [if_neg z3]
          rw [w64 (n := (i : Int) - 1) (by omega) (by omega), show (i : Int) - 1 = ((i - 1 : Nat) : Int) by omega]
          obtain ⟨m, hm, hn⟩ := apart_eq (hp z3) rr
          refine evp (by omega) (evp (by omega) (evp (by omega) (evs hm ?_)))
          rw [hn]
          refine Ev.step (fun k => wigeonref02_CheckWay.j1.eq_2 ..) ?_
          by_cases z4 : stB (rd_T23 way (i - 1 : Nat)).f0 (rd_T23 way (i - 1 : Nat)).f1 (rd_T23 way i).f0 (rd_T23 way i).f1 = true
          · rw [if_pos z4, z4]
            rw [w64 (n := (i : Int) - 1) (by omega) (by omega), show (i : Int) - 1 = ((i - 1 : Nat) : Int) by omega, w64 (n := (i : Int) + 1) (by omega) (by omega)]
            refine evn (by decide) (evp (by omega) (evp (by omega) (evp (by omega) (evp (by omega) (evp (by omega) (evb (rsees_ev h (hp z3) rr) ?_))))))
            by_cases z5 : sE l (rd_T23 way (i - 1 : Nat)).f0 (rd_T23 way (i - 1 : Nat)).f1 (rd_T23 way i).f0 (rd_T23 way i).f1 = true
            · rw [if_pos z5]; exact evp z5 R
            · rw [if_neg z5]; exact evn z5 (Ev.now _)
          · rw [if_neg z4, Bool.eq_false_iff.2 z4]; exact evp rfl (Ev.now _)
      · rw [if_neg z2]
        rw [Bool.eq_false_iff.2 z2, beq_eq_false_iff_ne] at e
        exact evp (by omega) (Ev.now _)
    · rw [if_neg z1]; exact evn z1 (Ev.now _)
def CwR (l : List S55) (eyes : List S23) (a b c d : Int) (way : List S23) : Int × Int := if ckR l eyes [] a b c d = 0 then (if way.length = 0 then (0, 13) else cw l eyes a b c d way way.length 0) else (0, ckR l eyes [] a b c d)
theorem CwR_n {l : List S55} {eyes : List S23} {a b c d : Int} {way : List S23} (h : ¬ ckR l eyes [] a b c d = 0) : CwR l eyes a b c d way = (0, ckR l eyes [] a b c d) := if_neg h
theorem CwR_e {l : List S55} {eyes : List S23} {a b c d : Int} {way : List S23} (h : ckR l eyes [] a b c d = 0) (h2 : way.length = 0) : CwR l eyes a b c d way = (0, 13) := (if_pos h).trans (if_pos h2)
theorem CwR_w {l : List S55} {eyes : List S23} {a b c d : Int} {way : List S23} (h : ckR l eyes [] a b c d = 0) (h2 : ¬ way.length = 0) : CwR l eyes a b c d way = cw l eyes a b c d way way.length 0 := (if_pos h).trans (if_neg h2)
theorem CheckWay_ev (l : List S55) (eyes : List S23) (a b c d : Int) (way : List S23) (hw : way.length ≤ 1000) : Ev (fun k => screen_CheckWay.f k l eyes a b c d way) (CwR l eyes a b c d way) := by
  unfold screen_CheckWay.f
  refine evb (checked_ev ..) ?_
  by_cases h : ckR l eyes [] a b c d = 0
  · refine evp h ?_
    obtain ⟨v, e8, pe, r1, r2, ac, bd⟩ := box_in h
    by_cases h2 : way.length = 0
    · rw [CwR_e h h2]; exact evp (by omega) (Ev.now _)
    · rw [CwR_w h h2]; exact evn (by omega) (CheckWay_l0 way v pe r1 r2 hw way.length 0 (by omega) (fun z => absurd rfl z))
  · rw [CwR_n h]; exact evn h (Ev.now _)
theorem rCheckWay_ev (l : List S55) (eyes : List S23) (a b c d : Int) (way : List S23) (he : eyes.length ≤ 100000) (hw : way.length ≤ 1000) : Ev (fun k => wigeonref02_CheckWay.f k l eyes a b c d way) (CwR l eyes a b c d way) := by
  unfold wigeonref02_CheckWay.f
  refine evb (boxed_ev _ _ _ _ _ _ _ he (by simp)) ?_
  by_cases h : ckR l eyes [] a b c d = 0
  · refine evp h ?_
    obtain ⟨v, e8, pe, r1, r2, ac, bd⟩ := box_in h
    by_cases h2 : way.length = 0
    · rw [CwR_e h h2]; exact evp (by omega) (Ev.now _)
    · rw [CwR_w h h2]; exact evn (by omega) (rCheckWay_l0 way v pe e8 r1 r2 hw way.length 0 (by omega) (fun z => absurd rfl z))
  · rw [CwR_n h]; exact evn h (Ev.now _)

theorem ScreenChecks (a0 : List S55) (a1_0 : List S23) (a1_1_0_0 : Int) (a1_1_0_1 : Int) (a1_1_1_0 : Int) (a1_1_1_1 : Int) (a1_2 : List S23) (h0 : (a0.length ≤ 9223372036854775807 ∧ ∀ x_ ∈ a0, (((Lit.int .i64 x_.f0.f0).wf = true) ∧ ((Lit.int .i64 x_.f0.f1).wf = true)) ∧ (((Lit.int .i64 x_.f1.f0).wf = true) ∧ ((Lit.int .i64 x_.f1.f1).wf = true)))) (h1_0 : (a1_0.length ≤ 9223372036854775807 ∧ ∀ x_ ∈ a1_0, ((Lit.int .i64 x_.f0).wf = true) ∧ ((Lit.int .i64 x_.f1).wf = true))) (h1_1_0_0 : (Lit.int .i64 a1_1_0_0).wf = true) (h1_1_0_1 : (Lit.int .i64 a1_1_0_1).wf = true) (h1_1_1_0 : (Lit.int .i64 a1_1_1_0).wf = true) (h1_1_1_1 : (Lit.int .i64 a1_1_1_1).wf = true) (h1_2 : (a1_2.length ≤ 9223372036854775807 ∧ ∀ x_ ∈ a1_2, ((Lit.int .i64 x_.f0).wf = true) ∧ ((Lit.int .i64 x_.f1).wf = true))) : ∃ k, wigeonlaw02_ScreenChecks.f k a0 a1_0 a1_1_0_0 a1_1_0_1 a1_1_1_0 a1_1_1_1 a1_2 = some true := by
  refine Ev.rounds (g := fun k => wigeonlaw02_ScreenChecks.f k a0 a1_0 a1_1_0_0 a1_1_0_1 a1_1_1_0 a1_1_1_1 a1_2) ?_
  unfold wigeonlaw02_ScreenChecks.f
  refine evs (Long_eq ..) ?_
  have Z : Ev (fun k => wigeonlaw02_ScreenChecks.j0 k a0 true a1_0 a1_1_0_0 a1_1_0_1 a1_1_1_0 a1_1_1_1 a1_2) true := Ev.step (fun k => wigeonlaw02_ScreenChecks.j0.eq_2 ..) (evp rfl (evb known_ev (Ev.now _)))
  by_cases h : a0.length > 100 ∨ a1_0.length > 100
  · rw [decide_eq_true h]; exact evp rfl Z
  · rw [decide_eq_false h]
    refine evn (by decide) ?_
    by_cases h2 : (a1_2.length : Int) > 1000
    · rw [decide_eq_true h2]; exact Z
    · rw [decide_eq_false h2]
      exact Ev.step (fun k => wigeonlaw02_ScreenChecks.j0.eq_2 ..) (evn (by decide) (evb (CheckWay_ev _ _ _ _ _ _ _ (by omega)) (evb (rCheckWay_ev _ _ _ _ _ _ _ (by omega) (by omega)) (evp rfl (evp rfl (evb known_ev (Ev.now _)))))))

end Go.Proofs.Ytgkgednbmfinnaa.Pure

