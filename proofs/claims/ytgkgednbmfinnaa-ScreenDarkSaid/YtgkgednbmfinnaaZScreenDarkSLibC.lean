/- Of the text SLibC, what the row of ScreenDark reaches. -/
import Derived.Test.YtgkgednbmfinnaaZScreenDarkSLibB
import Derived.Test.YtgkgednbmfinnaaZScreenDarkSCx25
namespace Go.Proofs.Ytgkgednbmfinnaa.Pure
set_option linter.unusedVariables false
set_option linter.unusedSimpArgs false
open Go.RowKit Go.Proofs.Ytgkgednbmfinnaa.SC Go.Proofs.YtgkgednbmfinnaaW.PrintWords Go.Proofs.YtgkgednbmfinnaaW.PrintLast Go.Proofs.YtgkgednbmfinnaaW.PrintMore

def hidE (l : List S55) (eyes : List S23) (a b : Int) : Bool := !(eyes.any fun e => sE l e.f0 e.f1 a b)
theorem hidden_eq {l : List S55} {eyes : List S23} {a b : Int} (h : valR l = 0) (he : plB eyes = true) (r : inR a b) : screen_hidden.f l eyes a b = some (hidE l eyes a b) := by
  unfold screen_hidden.f hidB hidE
  rw [any_congr (q := fun e => sE l e.f0 e.f1 a b) (fun e hm => Option.some.inj (sees_eq h (plB_in he e hm) r))]
theorem seers_l0 {l : List S55} {eyes : List S23} {a b : Int} (h : valR l = 0) (he : plB eyes = true) (h8 : eyes.length ≤ 8) (r : inR a b) : ∀ (d i : Nat) (acc : List Int), i + d = eyes.length → acc.length ≤ i → Ev (fun k => wigeonref02_seers.l0 k l eyes acc (i : Int) a b) (acc ++ idxs (fun e => sE l e.f0 e.f1 a b) (eyes.drop i) i)
  | 0, i, acc, hi, _ => by
    refine Ev.step (fun k => wigeonref02_seers.l0.eq_2 ..) (evn (by omega) ?_)
    rw [List.drop_eq_nil_of_le (by omega)]; unfold idxs; rw [List.append_nil]; exact Ev.now _
  | d + 1, i, acc, hi, ha => by
    have hlt : i < eyes.length := by omega
    refine Ev.step (fun k => wigeonref02_seers.l0.eq_2 ..) (evp (by omega) (evp (by omega) ?_))
    rw [rdP_at eyes i hlt, List.drop_eq_getElem_cons hlt, w64 (by omega) (by omega)]
    refine evb (rsees_ev h (plB_in he _ (List.getElem_mem hlt)) r) ?_
    unfold idxs
    by_cases z : sE l (eyes[i]).f0 (eyes[i]).f1 a b = true
    · rw [if_pos z]
      refine evp z (evp (by omega) ?_)
      have R := seers_l0 h he h8 r d (i + 1) (acc ++ [(i : Int)]) (by omega) (by simp; omega)
      rw [List.append_assoc, List.singleton_append] at R
      exact R
    · rw [if_neg z]
      exact evn z (seers_l0 h he h8 r d (i + 1) acc (by omega) (by omega))
theorem seers_ev {l : List S55} {eyes : List S23} {a b : Int} (h : valR l = 0) (he : plB eyes = true) (h8 : eyes.length ≤ 8) (r : inR a b) : Ev (fun k => wigeonref02_seers.f k l eyes a b) (idxs (fun e => sE l e.f0 e.f1 a b) eyes 0) :=
  seers_l0 h he h8 r eyes.length 0 [] (by omega) (by simp)
theorem boxed_ev (l : List S55) (eyes points : List S23) (a b c d : Int) (he : eyes.length ≤ 100000) (hp : points.length ≤ 100000) : Ev (fun k => wigeonref02_boxed.f k l eyes points a b c d) (ckR l eyes points a b c d) := by
  unfold wigeonref02_boxed.f
  refine evb (looked_ev l eyes points he hp) ?_
  by_cases h : lkR l eyes points = 0
  · refine evp h ?_
    have e : wigeonref02_isBox.f a b c d = some (bxB a b c d) := by
      unfold wigeonref02_isBox.f bxB
      rw [isPoint_eq, isPoint_eq, Option.bind_some, Option.bind_some]
      have pe : plB [⟨a, b⟩, ⟨c, d⟩] = (!farB ⟨a, b⟩ && !farB ⟨c, d⟩) := by
        unfold plB; simp only [List.any_cons, List.any_nil, Bool.or_false, Bool.not_or]
      rw [pe]
      cases h1 : farB ⟨a, b⟩
      · cases h2 : farB ⟨c, d⟩
        · have q1 : inR a b := (far_in ⟨a, b⟩).1 h1
          have q2 : inR c d := (far_in ⟨c, d⟩).1 h2
          unfold inR at q1 q2
          rw [if_pos (show (!false) = true from rfl), if_pos (show (!false) = true from rfl), w64 (n := c - a) (by omega) (by omega), w64 (n := d - b) (by omega) (by omega)]
          unfold wigeonref02_within.f
          rw [show (!false && !false && decide (0 ≤ c - a ∧ 0 ≤ d - b ∧ c - a < 21 ∧ d - b < 21)) = decide (0 ≤ c - a ∧ 0 ≤ d - b ∧ c - a < 21 ∧ d - b < 21) from rfl]
          by_cases z1 : c - a ≥ 0
          · rw [if_pos z1, Option.bind_some]
            by_cases z2 : c - a ≤ 20
            · rw [decide_eq_true z2, if_pos rfl]
              by_cases z3 : d - b ≥ 0
              · rw [if_pos z3]; exact congrArg some (decide_eq_decide.2 (by omega))
              · rw [if_neg z3]; exact congrArg some (decide_eq_false (by omega)).symm
            · rw [decide_eq_false z2, if_neg (by decide)]; exact congrArg some (decide_eq_false (by omega)).symm
          · rw [if_neg z1, Option.bind_some, if_neg (by decide)]; exact congrArg some (decide_eq_false (by omega)).symm
        · rfl
      · rfl
    refine evs e ?_
    by_cases h2 : bxB a b c d = true
    · rw [ckR_0 h h2]; exact evp h2 (Ev.now _)
    · rw [ckR_1 h h2]; exact evn h2 (Ev.now _)
  · rw [ckR_l h]; exact evn h (Ev.now _)

def dcol (p : Int → Int → Bool) (x : Int) : Nat → Int → List S23
  | 0, _ => []
  | d + 1, y => if p x y then ⟨x, y⟩ :: dcol p x d (y + 1) else dcol p x d (y + 1)
def drow (p : Int → Int → Bool) (h : Nat) (lo : Int) : Nat → Int → List S23
  | 0, _ => []
  | w + 1, x => dcol p x h lo ++ drow p h lo w (x + 1)
theorem dcol_len (p : Int → Int → Bool) (x : Int) : ∀ (d : Nat) (y : Int), (dcol p x d y).length ≤ d
  | 0, _ => by simp [dcol]
  | d + 1, y => by
    have := dcol_len p x d (y + 1)
    unfold dcol; split <;> simp <;> omega
theorem Dark_l1 {l : List S55} {eyes : List S23} (h : valR l = 0) (he : plB eyes = true) (lx ly hx hy : Int) (r1 : inR lx ly) (r2 : inR hx hy) (x : Int) (x1 : lx ≤ x) (x2 : x ≤ hx) (r : Int × Int) : ∀ (d : Nat) (y n : Int), y + d = hy + 1 → ly ≤ y → 0 ≤ n → n + d ≤ 1000000 →
    Ev (fun k => screen_Dark.l0 k l eyes (n + ((dcol (hidE l eyes) x d y).length : Nat)) (wrap64 (x + 1)) lx ly hx hy) r → Ev (fun k => screen_Dark.l1 k l eyes n x y lx ly hx hy) r
  | 0, y, n, hd, _, _, _, K => by
    refine Ev.step (fun k => screen_Dark.l1.eq_2 ..) (evn (by omega) ?_)
    simpa [dcol] using K
  | d + 1, y, n, hd, hl, hn, hb, K => by
    have rr : inR x y := by unfold inR at *; omega
    refine Ev.step (fun k => screen_Dark.l1.eq_2 ..) (evp (by omega) (evs (hidden_eq h he rr) ?_))
    have L := dcol_len (hidE l eyes) x d (y + 1)
    unfold inR at rr
    rw [w64 (n := y + 1) (by omega) (by omega)]
    unfold dcol at K
    by_cases z : hidE l eyes x y = true
    · rw [if_pos z] at K
      rw [w64 (n := n + 1) (by omega) (by omega)]
      refine evp z (Dark_l1 h he lx ly hx hy r1 r2 x x1 x2 r d (y + 1) (n + 1) (by omega) (by omega) (by omega) (by omega) ?_)
      rw [List.length_cons] at K
      rw [show n + 1 + ((dcol (hidE l eyes) x d (y + 1)).length : Int) = n + ((dcol (hidE l eyes) x d (y + 1)).length + 1 : Nat) by omega]
      exact K
    · rw [if_neg z] at K
      exact evn z (Dark_l1 h he lx ly hx hy r1 r2 x x1 x2 r d (y + 1) n (by omega) (by omega) (by omega) (by omega) K)
theorem Dark_l0 {l : List S55} {eyes : List S23} (h : valR l = 0) (he : plB eyes = true) (lx ly hx hy : Int) (r1 : inR lx ly) (r2 : inR hx hy) (g : Nat) (hg : ly + g = hy + 1) (w : Nat) : ∀ (x n : Int), x + w = hx + 1 → lx ≤ x → 0 ≤ n → n + 1000 * w ≤ 201000 →
    Ev (fun k => screen_Dark.l0 k l eyes n x lx ly hx hy) (n + (((drow (hidE l eyes) g ly w x).length : Nat) : Int), (0 : Int)) := by
  induction w with
  | zero =>
    intro x n hw _ _ _
    refine Ev.step (fun k => screen_Dark.l0.eq_2 ..) (evn (by omega) ?_)
    rw [show n + (((drow (hidE l eyes) g ly 0 x).length : Nat) : Int) = n by simp [drow]]; exact Ev.now _
  | succ w ih =>
    intro x n hw hl hn hb
    have L := dcol_len (hidE l eyes) x g ly
    unfold inR at r1 r2
    refine Ev.step (fun k => screen_Dark.l0.eq_2 ..) (evp (by omega) (Dark_l1 h he lx ly hx hy (by unfold inR; omega) (by unfold inR; omega) x hl (by omega) _ g ly n (by omega) (by omega) hn (by omega) ?_))
    rw [w64 (n := x + 1) (by omega) (by omega)]
    have R := ih (x + 1) (n + (((dcol (hidE l eyes) x g ly).length : Nat) : Int)) (by omega) (by omega) (by omega) (by omega)
    rw [show n + (((drow (hidE l eyes) g ly (w + 1) x).length : Nat) : Int) = n + (((dcol (hidE l eyes) x g ly).length : Nat) : Int) + (((drow (hidE l eyes) g ly w (x + 1)).length : Nat) : Int) by simp only [drow, List.length_append]; omega]
    exact R
theorem dark_l1 {l : List S55} {eyes : List S23} (h : valR l = 0) (he : plB eyes = true) (h8 : eyes.length ≤ 8) (lx ly hx hy : Int) (r1 : inR lx ly) (r2 : inR hx hy) (x : Int) (x1 : lx ≤ x) (x2 : x ≤ hx) (r : List S23) : ∀ (d : Nat) (y : Int) (acc : List S23), y + d = hy + 1 → ly ≤ y → acc.length + d ≤ 1000000 →
    Ev (fun k => wigeonref02_dark.l0 k l eyes (acc ++ dcol (hidE l eyes) x d y) (wrap64 (x + 1)) lx ly hx hy) r → Ev (fun k => wigeonref02_dark.l1 k l eyes acc x y lx ly hx hy) r
  | 0, y, acc, hd, _, _, K => by
    refine Ev.step (fun k => wigeonref02_dark.l1.eq_2 ..) (evn (by omega) ?_)
    simpa [dcol] using K
  | d + 1, y, acc, hd, hl, hb, K => by
    have rr : inR x y := by unfold inR at *; omega
    refine Ev.step (fun k => wigeonref02_dark.l1.eq_2 ..) (evp (by omega) (evb (seers_ev h he h8 rr) ?_))
    have e := idxs_none (fun e => sE l e.f0 e.f1 x y) eyes 0
    change _ = hidE l eyes x y at e
    unfold inR at rr
    rw [w64 (n := y + 1) (by omega) (by omega)]
    unfold dcol at K
    by_cases z : hidE l eyes x y = true
    · rw [if_pos z] at K
      refine evp (by rw [z] at e; simpa using e) (evp (by omega) (dark_l1 h he h8 lx ly hx hy r1 r2 x x1 x2 r d (y + 1) (acc ++ [⟨x, y⟩]) (by omega) (by omega) (by simp; omega) ?_))
      rw [List.append_assoc, List.singleton_append]; exact K
    · rw [if_neg z] at K
      exact evn (fun q => z (by rw [← e, q]; rfl)) (dark_l1 h he h8 lx ly hx hy r1 r2 x x1 x2 r d (y + 1) acc (by omega) (by omega) (by omega) K)
theorem dark_l0 {l : List S55} {eyes : List S23} (h : valR l = 0) (he : plB eyes = true) (h8 : eyes.length ≤ 8) (lx ly hx hy : Int) (r1 : inR lx ly) (r2 : inR hx hy) (g : Nat) (hg : ly + g = hy + 1) : ∀ (w : Nat) (x : Int) (acc : List S23), x + w = hx + 1 → lx ≤ x → acc.length ≤ 1000 * (201 - w) →
    Ev (fun k => wigeonref02_dark.l0 k l eyes acc x lx ly hx hy) (acc ++ drow (hidE l eyes) g ly w x)
  | 0, x, acc, hw, _, _ => by
    refine Ev.step (fun k => wigeonref02_dark.l0.eq_2 ..) (evn (by omega) ?_)
    simp [drow]; exact Ev.now _
  | w + 1, x, acc, hw, hl, hb => by
    have L := dcol_len (hidE l eyes) x g ly
    unfold inR at r1 r2
    refine Ev.step (fun k => wigeonref02_dark.l0.eq_2 ..) (evp (by omega) (dark_l1 h he h8 lx ly hx hy (by unfold inR; omega) (by unfold inR; omega) x hl (by omega) _ g ly acc (by omega) (by omega) (by omega) ?_))
    rw [w64 (n := x + 1) (by omega) (by omega)]
    have R := dark_l0 h he h8 lx ly hx hy (by unfold inR; omega) (by unfold inR; omega) g hg w (x + 1) (acc ++ dcol (hidE l eyes) x g ly) (by omega) (by omega) (by rw [List.length_append]; omega)
    rw [List.append_assoc] at R
    exact R
def DkR (l : List S55) (eyes : List S23) (a b c d : Int) : Int × Int := if ckR l eyes [] a b c d = 0 then ((((drow (hidE l eyes) (d + 1 - b).toNat b (c + 1 - a).toNat a).length : Nat) : Int), 0) else (0, ckR l eyes [] a b c d)
theorem DkR_0 {l : List S55} {eyes : List S23} {a b c d : Int} (h : ckR l eyes [] a b c d = 0) : DkR l eyes a b c d = ((((drow (hidE l eyes) (d + 1 - b).toNat b (c + 1 - a).toNat a).length : Nat) : Int), 0) := if_pos h
theorem DkR_n {l : List S55} {eyes : List S23} {a b c d : Int} (h : ¬ ckR l eyes [] a b c d = 0) : DkR l eyes a b c d = (0, ckR l eyes [] a b c d) := if_neg h
theorem box_in {l : List S55} {eyes p : List S23} {a b c d : Int} (h : ckR l eyes p a b c d = 0) : valR l = 0 ∧ eyes.length ≤ 8 ∧ plB eyes = true ∧ inR a b ∧ inR c d ∧ a ≤ c ∧ b ≤ d := by
  obtain ⟨h1, h2⟩ := ckR_ok h
  obtain ⟨v, e8, _, pe, _⟩ := lkR_ok h1
  unfold bxB at h2
  rw [Bool.and_eq_true, decide_eq_true_eq] at h2
  have q := plB_in h2.1
  exact ⟨v, e8, pe, q ⟨a, b⟩ (by simp), q ⟨c, d⟩ (by simp), by omega, by omega⟩
theorem Dark_ev (l : List S55) (eyes : List S23) (a b c d : Int) : Ev (fun k => screen_Dark.f k l eyes a b c d) (DkR l eyes a b c d) := by
  unfold screen_Dark.f
  refine evb (checked_ev ..) ?_
  by_cases h : ckR l eyes [] a b c d = 0
  · rw [DkR_0 h]
    obtain ⟨v, e8, pe, r1, r2, ac, bd⟩ := box_in h
    have R := Dark_l0 v pe a b c d r1 r2 (d + 1 - b).toNat (by omega) (c + 1 - a).toNat a 0 (by omega) (by omega) (by omega) (by unfold inR at r1 r2; omega)
    rw [Int.zero_add] at R
    exact evp h R
  · rw [DkR_n h]; exact evn h (Ev.now _)
theorem rDark_ev (l : List S55) (eyes : List S23) (a b c d : Int) (he : eyes.length ≤ 100000) : Ev (fun k => wigeonref02_Dark.f k l eyes a b c d) (DkR l eyes a b c d) := by
  unfold wigeonref02_Dark.f
  refine evb (boxed_ev _ _ _ _ _ _ _ he (by simp)) ?_
  by_cases h : ckR l eyes [] a b c d = 0
  · rw [DkR_0 h]
    obtain ⟨v, e8, pe, r1, r2, ac, bd⟩ := box_in h
    have R := dark_l0 v pe e8 a b c d r1 r2 (d + 1 - b).toNat (by omega) (c + 1 - a).toNat a [] (by omega) (by omega) (by simp)
    exact evp h (evb R (Ev.now _))
  · rw [DkR_n h]; exact evn h (Ev.now _)


end Go.Proofs.Ytgkgednbmfinnaa.Pure

