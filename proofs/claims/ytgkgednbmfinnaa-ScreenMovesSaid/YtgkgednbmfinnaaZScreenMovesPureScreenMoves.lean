/- Of the text PureScreenMoves, what the row of ScreenMoves reaches. -/
import Derived.Test.YtgkgednbmfinnaaZScreenMovesSMx20
namespace Go.Proofs.Ytgkgednbmfinnaa.Pure
set_option linter.unusedVariables false
set_option linter.unusedSimpArgs false
open Go.RowKit Go.Proofs.Ytgkgednbmfinnaa.SM Go.Proofs.YtgkgednbmfinnaaW.PrintWords Go.Proofs.YtgkgednbmfinnaaW.PrintLast Go.Proofs.YtgkgednbmfinnaaW.PrintMore
/-- c lies between a and b, on the axes -/
def bet (ax ay bx b_y px py : Int) : Prop := min ax bx ≤ px ∧ px ≤ max ax bx ∧ min ay b_y ≤ py ∧ py ≤ max ay b_y
instance (a b c d e f : Int) : Decidable (bet a b c d e f) := inferInstanceAs (Decidable (_ ∧ _))
def sdI (ax ay bx b_y px py : Int) : Int := (bx - ax) * (py - ay) - (b_y - ay) * (px - ax)
def touch1 (ax ay bx b_y cx cy dx dy : Int) : Prop :=
  (sdI ax ay bx b_y cx cy = 0 ∧ bet ax ay bx b_y cx cy) ∨ (sdI ax ay bx b_y dx dy = 0 ∧ bet ax ay bx b_y dx dy) ∨ (sdI cx cy dx dy ax ay = 0 ∧ bet cx cy dx dy ax ay) ∨ (sdI cx cy dx dy bx b_y = 0 ∧ bet cx cy dx dy bx b_y) ∨
    (sdI ax ay bx b_y cx cy * sdI ax ay bx b_y dx dy < 0 ∧ sdI cx cy dx dy ax ay * sdI cx cy dx dy bx b_y < 0)
def touch2 (ax ay bx b_y cx cy dx dy : Int) : Prop :=
  ¬ (max ax bx < min cx dx ∨ max cx dx < min ax bx) ∧ ¬ (max ay b_y < min cy dy ∨ max cy dy < min ay b_y) ∧ sdI ax ay bx b_y cx cy * sdI ax ay bx b_y dx dy ≤ 0 ∧ sdI cx cy dx dy ax ay * sdI cx cy dx dy bx b_y ≤ 0
theorem evp {α : Type} {c : Prop} [Decidable c] {f g : Nat → Option α} {r : α} (h : c) (k : Ev f r) : Ev (fun n => if c then f n else g n) r :=
  Ev.congr (fun _ => if_pos h) k
theorem evn {α : Type} {c : Prop} [Decidable c] {f g : Nat → Option α} {r : α} (h : ¬ c) (k : Ev g r) : Ev (fun n => if c then f n else g n) r :=
  Ev.congr (fun _ => if_neg h) k
theorem evb {α β : Type} {g : Nat → Option α} {f : Nat → α → Option β} {a : α} {r : β} (h : Ev g a) (k : Ev (fun n => f n a) r) : Ev (fun n => (g n).bind (f n)) r := Ev.bind h k
theorem evs {α β : Type} {x : Option α} {f : Nat → α → Option β} {a : α} {r : β} (h : x = some a) (k : Ev (fun n => f n a) r) : Ev (fun n => x.bind (f n)) r := by
  subst h; exact k
theorem w64 {n : Int} (h : -9223372036854775808 ≤ n) (h2 : n ≤ 9223372036854775807) : wrap64 n = n := by unfold wrap64; omega
theorem rdX_at (l : List S55) (i : Nat) (h : i < l.length) : rd_T55 l (i : Int) = l[i] := by
  simp [rd_T55, List.getD_eq_getElem?_getD, List.getElem?_eq_getElem h]
def inR (a b : Int) : Prop := -100 ≤ a ∧ a ≤ 100 ∧ -100 ≤ b ∧ b ≤ 100
theorem far_in (p : S23) : farB p = false ↔ inR p.f0 p.f1 := by
  unfold farB inR
  simp only [Bool.or_eq_false_iff, decide_eq_false_iff_not]
  omega
def plB (l : List S23) : Bool := !(l.any farB)
theorem place_eq (l : List S23) : screen_place.f l = some (plB l) := rfl
theorem plB_in {l : List S23} (h : plB l = true) : ∀ p ∈ l, inR p.f0 p.f1 := by
  intro p hp
  unfold plB at h
  rw [Bool.not_eq_true', List.any_eq_false] at h
  exact (far_in p).1 (by simpa using h p hp)
theorem isPoint_eq (a b : Int) : wigeonref02_IsPoint.f a b = some (!farB ⟨a, b⟩) := by
  unfold wigeonref02_IsPoint.f wigeonref02_within.f farB
  by_cases h1 : a < -100
  · simp only [h1, decide_true, Bool.true_or, Bool.not_true, if_neg (show ¬ a ≥ -100 by omega), Option.bind_some]; rfl
  · rw [if_pos (show a ≥ -100 by omega), Option.bind_some]
    by_cases h2 : a > 100
    · rw [if_neg (by simp; omega)]; simp [h2]
    · rw [if_pos (by simp; omega)]
      by_cases h3 : b < -100
      · rw [if_neg (by omega)]; simp [h3]
      · rw [if_pos (by omega)]
        have e : decide (b ≤ 100) = !decide (b > 100) := by rw [← decide_not]; exact decide_eq_decide.2 (by omega)
        rw [e]; simp [h1, h2, h3]

instance (a b c d e f g h : Int) : Decidable (touch1 a b c d e f g h) := inferInstanceAs (Decidable (_ ∨ _))
instance (a b c d e f g h : Int) : Decidable (touch2 a b c d e f g h) := inferInstanceAs (Decidable (_ ∧ _))
theorem known_ev : Ev (fun k => wigeonlaw02_known.f k) true := Ev.of wigeonlaw02_known.mono (k := 100) (by decide +kernel)

def okS (s : S55) : Bool := plB [⟨s.f0.f0, s.f0.f1⟩, ⟨s.f1.f0, s.f1.f1⟩] && !(s.f0.f0 == s.f1.f0 && s.f0.f1 == s.f1.f1)
def valR (l : List S55) : Int := if l.length > 12 then 3 else if l.all okS then 0 else 1
theorem valid_l0 (l : List S55) (hl : l.length ≤ 12) : ∀ d i : Nat, i + d = l.length → Ev (fun k => screen_Validate.l0 k l (l.length : Int) (i : Int)) (if (l.drop i).all okS then (0 : Int) else 1)
  | 0, i, h => by
    refine Ev.step (fun k => screen_Validate.l0.eq_2 ..) (evn (by omega) ?_)
    rw [List.drop_eq_nil_of_le (by omega)]; exact Ev.now _
  | d + 1, i, h => by
    have hlt : i < l.length := by omega
    have R := valid_l0 l hl d (i + 1) (by omega)
    refine Ev.step (fun k => screen_Validate.l0.eq_2 ..) (evp (by omega) (evp (by omega) (evp (by omega) (evs (place_eq _) ?_))))
    rw [rdX_at l i hlt, List.drop_eq_getElem_cons hlt, List.all_cons, w64 (by omega) (by omega)]
    unfold okS
    cases plB [⟨(l[i]).f0.f0, (l[i]).f0.f1⟩, ⟨(l[i]).f1.f0, (l[i]).f1.f1⟩]
    · exact evn (by decide) (by rw [Bool.false_and, Bool.false_and, if_neg (by decide)]; exact Ev.now _)
    · refine evp rfl ?_
      cases ((l[i]).f0.f0 == (l[i]).f1.f0 && (l[i]).f0.f1 == (l[i]).f1.f1)
      · exact evn (by decide) (by rw [Bool.not_false, Bool.true_and, Bool.true_and]; exact R)
      · exact evp rfl (by rw [Bool.not_true, Bool.true_and, Bool.false_and, if_neg (by decide)]; exact Ev.now _)
theorem valid_ev (l : List S55) : Ev (fun k => screen_Validate.f k l) (valR l) := by
  unfold screen_Validate.f valR
  by_cases h : l.length > 12
  · rw [if_pos h]; exact evp (by omega) (Ev.now _)
  · rw [if_neg h]; exact evn (by omega) (valid_l0 l (by omega) l.length 0 (by omega))
theorem rvalid_l0 (l : List S55) (hl : l.length ≤ 12) : ∀ d i : Nat, i + d = l.length → Ev (fun k => wigeonref02_Validate.l0 k l (i : Int)) (if (l.drop i).all okS then (0 : Int) else 1)
  | 0, i, h => by
    refine Ev.step (fun k => wigeonref02_Validate.l0.eq_2 ..) (evn (by omega) ?_)
    rw [List.drop_eq_nil_of_le (by omega)]; exact Ev.now _
  | d + 1, i, h => by
    have hlt : i < l.length := by omega
    have R := rvalid_l0 l hl d (i + 1) (by omega)
    refine Ev.step (fun k => wigeonref02_Validate.l0.eq_2 ..) (evp (by omega) (evp (by omega) (evs (isPoint_eq _ _) ?_)))
    rw [rdX_at l i hlt, List.drop_eq_getElem_cons hlt, List.all_cons, w64 (by omega) (by omega)]
    unfold okS plB
    rw [List.any_cons, List.any_cons, List.any_nil, Bool.or_false]
    cases farB ⟨(l[i]).f0.f0, (l[i]).f0.f1⟩
    · refine evp rfl (evs (isPoint_eq _ _) ?_)
      cases farB ⟨(l[i]).f1.f0, (l[i]).f1.f1⟩
      · refine evp rfl ?_
        cases ((l[i]).f0.f0 == (l[i]).f1.f0 && (l[i]).f0.f1 == (l[i]).f1.f1)
        · exact evn (by decide) R
        · exact evp rfl (Ev.now _)
      · exact evn (by decide) (Ev.now _)
    · exact evn (by decide) (Ev.now _)
theorem rvalid_ev (l : List S55) : Ev (fun k => wigeonref02_Validate.f k l) (valR l) := by
  unfold wigeonref02_Validate.f valR
  by_cases h : l.length > 12
  · rw [if_pos h]; exact evp (by omega) (Ev.now _)
  · rw [if_neg h]; exact evn (by omega) (rvalid_l0 l (by omega) l.length 0 (by omega))
theorem valR_ok {l : List S55} (h : valR l = 0) : l.length ≤ 12 ∧ ∀ s ∈ l, inR s.f0.f0 s.f0.f1 ∧ inR s.f1.f0 s.f1.f1 := by
  unfold valR at h
  by_cases h1 : l.length > 12
  · rw [if_pos h1] at h; exact absurd h (by decide)
  · rw [if_neg h1] at h
    by_cases h2 : l.all okS = true
    · refine ⟨by omega, fun s hs => ?_⟩
      have a := List.all_eq_true.1 h2 s hs
      unfold okS at a
      rw [Bool.and_eq_true] at a
      have b := plB_in a.1
      exact ⟨b ⟨s.f0.f0, s.f0.f1⟩ (by simp), b ⟨s.f1.f0, s.f1.f1⟩ (by simp)⟩
    · rw [if_neg h2] at h; exact absurd h (by decide)

theorem Long_eq (l : List S55) (e : List S23) : wigeonlaw02_Long.f l e = some (decide (l.length > 100 ∨ e.length > 100)) := by
  unfold wigeonlaw02_Long.f
  by_cases h : (l.length : Int) > 100
  · rw [if_pos h, decide_eq_true (by omega)]
  · rw [if_neg h]; exact congrArg some (decide_eq_decide.2 (by omega))

def mp (c : S23 → S23) (l : List S55) : List S55 := l.map fun s => (⟨c s.f0, c s.f1⟩ : S55)
def chR (c : S23 → S23) (l : List S55) : List S55 × Int := if valR (mp c l) = 0 then (mp c l, 0) else ([], valR (mp c l))
theorem chR_0 {c : S23 → S23} {l : List S55} (h : valR (mp c l) = 0) : chR c l = (mp c l, 0) := if_pos h
theorem chR_n {c : S23 → S23} {l : List S55} (h : ¬ valR (mp c l) = 0) : chR c l = ([], valR (mp c l)) := if_neg h
def endR (r : List S55) : List S55 × Int := if valR r = 0 then (r, 0) else ([], valR r)
theorem endR_0 {r : List S55} (h : valR r = 0) : endR r = (r, 0) := if_pos h
theorem endR_n {r : List S55} (h : ¬ valR r = 0) : endR r = ([], valR r) := if_neg h
theorem changed_l0 (qf : Int → Int → Option (Int × Int)) (c : S23 → S23) (hq : ∀ x y, qf x y = some ((c ⟨x, y⟩).f0, (c ⟨x, y⟩).f1)) (l : List S55) (hl : l.length ≤ 1000) : ∀ (d i : Nat) (acc : List S55), i + d = l.length → acc.length = i →
    Ev (fun k => screen_changed.l0 qf k acc l (l.length : Int) (i : Int)) (endR (acc ++ mp c (l.drop i)))
  | 0, i, acc, h, ha => by
    refine Ev.step (fun k => screen_changed.l0.eq_2 ..) (evn (by omega) (evb (valid_ev acc) ?_))
    rw [List.drop_eq_nil_of_le (by omega), show mp c [] = [] from rfl, List.append_nil]
    by_cases q : valR acc = 0
    · rw [endR_0 q]; exact evp q (Ev.now _)
    · rw [endR_n q]; exact evn q (Ev.now _)
  | d + 1, i, acc, h, ha => by
    have hlt : i < l.length := by omega
    have R := changed_l0 qf c hq l hl d (i + 1) (acc ++ [(⟨c (l[i]).f0, c (l[i]).f1⟩ : S55)]) (by omega) (by rw [List.length_append, List.length_singleton]; omega)
    refine Ev.step (fun k => screen_changed.l0.eq_2 ..) (evp (by omega) (evp (by omega) (evp (by omega) (evs (hq _ _) (evs (hq _ _) (evp (by omega) ?_))))))
    rw [rdX_at l i hlt, List.drop_eq_getElem_cons hlt, w64 (by omega) (by omega)]
    rw [List.append_assoc] at R
    exact R
theorem changed_ev (qf : Int → Int → Option (Int × Int)) (c : S23 → S23) (hq : ∀ x y, qf x y = some ((c ⟨x, y⟩).f0, (c ⟨x, y⟩).f1)) (l : List S55) (hl : l.length ≤ 1000) : Ev (fun k => screen_changed.f qf k l 0) (chR c l) :=
  changed_l0 qf c hq l hl l.length 0 [] (by omega) rfl
def trn (p : S23) : S23 := ⟨wrap64 (-p.f1), p.f0⟩
def mvp (a b : Int) (p : S23) : S23 := ⟨wrap64 (p.f0 + a), wrap64 (p.f1 + b)⟩
def TuR (l : List S55) : List S55 × Int := if valR l = 0 then chR trn l else ([], valR l)
theorem TuR_0 {l : List S55} (h : valR l = 0) : TuR l = chR trn l := if_pos h
theorem TuR_n {l : List S55} (h : ¬ valR l = 0) : TuR l = ([], valR l) := if_neg h
theorem Turn_ev (l : List S55) : Ev (fun k => screen_Turn.f k l) (TuR l) := by
  unfold screen_Turn.f
  refine evb (valid_ev l) ?_
  by_cases h : valR l = 0
  · rw [TuR_0 h]
    exact evp h (evb (changed_ev screen_Turn_1.f trn (fun _ _ => rfl) l (by have := (valR_ok h).1; omega)) (Ev.now _))
  · rw [TuR_n h]; exact evn h (Ev.now _)
def bigB (a b : Int) : Prop := max a b > 200 ∨ min a b < -200
instance (a b : Int) : Decidable (bigB a b) := inferInstanceAs (Decidable (_ ∨ _))
def MvR (l : List S55) (a b : Int) : List S55 × Int := if valR l = 0 then (if bigB a b then ([], 1) else chR (mvp a b) l) else ([], valR l)
theorem MvR_0 {l : List S55} {a b : Int} (h : valR l = 0) (h2 : ¬ bigB a b) : MvR l a b = chR (mvp a b) l := (if_pos h).trans (if_neg h2)
theorem MvR_1 {l : List S55} {a b : Int} (h : valR l = 0) (h2 : bigB a b) : MvR l a b = ([], 1) := (if_pos h).trans (if_pos h2)
theorem MvR_n {l : List S55} {a b : Int} (h : ¬ valR l = 0) : MvR l a b = ([], valR l) := if_neg h
theorem Move_ev (l : List S55) (a b : Int) : Ev (fun k => screen_Move.f k l a b) (MvR l a b) := by
  unfold screen_Move.f
  refine evb (valid_ev l) ?_
  by_cases h : valR l = 0
  · refine evp h ?_
    by_cases h1 : max a b > 200
    · rw [MvR_1 h (Or.inl h1)]; exact evp h1 (Ev.now _)
    · refine evn h1 ?_
      by_cases h2 : min a b < -200
      · rw [MvR_1 h (Or.inr h2)]; exact evp h2 (Ev.now _)
      · rw [MvR_0 h (by unfold bigB; omega)]
        exact evn h2 (changed_ev (moveF a b) (mvp a b) (fun _ _ => rfl) l (by have := (valR_ok h).1; omega))
  · rw [MvR_n h]; exact evn h (Ev.now _)
theorem valR_iff (l : List S55) : valR l = 0 ↔ l.length ≤ 12 ∧ ∀ s ∈ l, okS s = true := by
  unfold valR
  by_cases h1 : l.length > 12
  · rw [if_pos h1]; constructor
    · intro h; exact absurd h (by decide)
    · intro h; omega
  · rw [if_neg h1]
    by_cases h2 : l.all okS = true
    · rw [if_pos h2]; exact ⟨fun _ => ⟨by omega, List.all_eq_true.1 h2⟩, fun _ => rfl⟩
    · rw [if_neg h2]; constructor
      · intro h; exact absurd h (by decide)
      · intro h; exact absurd (List.all_eq_true.2 h.2) h2
theorem plB_2 (p q : S23) : plB [p, q] = true ↔ inR p.f0 p.f1 ∧ inR q.f0 q.f1 := by
  rw [← far_in, ← far_in]
  unfold plB
  rw [List.any_cons, List.any_cons, List.any_nil, Bool.or_false]
  cases farB p <;> cases farB q <;> simp
theorem okS_iff (s : S55) : okS s = true ↔ inR s.f0.f0 s.f0.f1 ∧ inR s.f1.f0 s.f1.f1 ∧ ¬ (s.f0.f0 = s.f1.f0 ∧ s.f0.f1 = s.f1.f1) := by
  unfold okS
  rw [Bool.and_eq_true, plB_2]
  simp [and_assoc]
  intro _ _
  omega
theorem trn_in {p : S23} (h : inR p.f0 p.f1) : trn p = ⟨-p.f1, p.f0⟩ ∧ inR (trn p).f0 (trn p).f1 := by
  have e : trn p = ⟨-p.f1, p.f0⟩ := by unfold trn; rw [w64 (by unfold inR at h; omega) (by unfold inR at h; omega)]
  refine ⟨e, ?_⟩
  rw [e]; unfold inR at h ⊢; dsimp only; omega
theorem val_turn {l : List S55} (h : valR l = 0) : valR (mp trn l) = 0 := by
  obtain ⟨h1, h2⟩ := (valR_iff l).1 h
  refine (valR_iff _).2 ⟨by unfold mp; rw [List.length_map]; exact h1, fun s hs => ?_⟩
  obtain ⟨t, ht, rfl⟩ := List.mem_map.1 hs
  obtain ⟨r1, r2, r3⟩ := (okS_iff t).1 (h2 t ht)
  obtain ⟨e1, i1⟩ := trn_in r1
  obtain ⟨e2, i2⟩ := trn_in r2
  refine (okS_iff _).2 ⟨i1, i2, ?_⟩
  rw [e1, e2]; dsimp only; omega
theorem told_ev (l : List S55) : Ev (fun k => wigeonref02_told.f k l) (endR l) := by
  unfold wigeonref02_told.f
  refine evb (rvalid_ev l) ?_
  by_cases h : valR l = 0
  · rw [endR_0 h]; exact evp h (Ev.now _)
  · rw [endR_n h]; exact evn h (Ev.now _)
theorem rTurn_l0 (l : List S55) (hl : l.length ≤ 1000) : ∀ (d i : Nat) (acc : List S55), i + d = l.length → acc.length = i →
    Ev (fun k => wigeonref02_Turn.l0 k l acc (i : Int)) (endR (acc ++ mp trn (l.drop i)))
  | 0, i, acc, h, ha => by
    refine Ev.step (fun k => wigeonref02_Turn.l0.eq_2 ..) (evn (by omega) (evb (told_ev acc) ?_))
    rw [List.drop_eq_nil_of_le (by omega), show mp trn [] = [] from rfl, List.append_nil]; exact Ev.now _
  | d + 1, i, acc, h, ha => by
    have hlt : i < l.length := by omega
    have R := rTurn_l0 l hl d (i + 1) (acc ++ [(⟨trn (l[i]).f0, trn (l[i]).f1⟩ : S55)]) (by omega) (by rw [List.length_append, List.length_singleton]; omega)
    refine Ev.step (fun k => wigeonref02_Turn.l0.eq_2 ..) (evp (by omega) (evp (by omega) (evs rfl (evs rfl (evp (by omega) ?_)))))
    rw [rdX_at l i hlt, List.drop_eq_getElem_cons hlt, w64 (n := (i : Int) + 1) (by omega) (by omega)]
    rw [List.append_assoc] at R
    exact R
theorem rTurn_ev (l : List S55) : Ev (fun k => wigeonref02_Turn.f k l) (TuR l) := by
  unfold wigeonref02_Turn.f
  refine evb (rvalid_ev l) ?_
  by_cases h : valR l = 0
  · rw [TuR_0 h]
    exact evp h (rTurn_l0 l (by have := (valR_ok h).1; omega) l.length 0 [] (by omega) rfl)
  · rw [TuR_n h]; exact evn h (Ev.now _)
theorem rMove_l0 (a b : Int) (l : List S55) (hl : l.length ≤ 1000) : ∀ (d i : Nat) (acc : List S55), i + d = l.length → acc.length = i →
    Ev (fun k => wigeonref02_Move.l0 k l acc (i : Int) a b) (endR (acc ++ mp (mvp a b) (l.drop i)))
  | 0, i, acc, h, ha => by
    refine Ev.step (fun k => wigeonref02_Move.l0.eq_2 ..) (evn (by omega) (evb (told_ev acc) ?_))
    rw [List.drop_eq_nil_of_le (by omega), show mp (mvp a b) [] = [] from rfl, List.append_nil]; exact Ev.now _
  | d + 1, i, acc, h, ha => by
    have hlt : i < l.length := by omega
    have R := rMove_l0 a b l hl d (i + 1) (acc ++ [(⟨mvp a b (l[i]).f0, mvp a b (l[i]).f1⟩ : S55)]) (by omega) (by rw [List.length_append, List.length_singleton]; omega)
    refine Ev.step (fun k => wigeonref02_Move.l0.eq_2 ..) (evp (by omega) (evp (by omega) (evs rfl (evs rfl (evp (by omega) ?_)))))
    rw [rdX_at l i hlt, List.drop_eq_getElem_cons hlt, w64 (n := (i : Int) + 1) (by omega) (by omega)]
    rw [List.append_assoc] at R
    exact R
theorem rMove_ev (l : List S55) (a b : Int) : Ev (fun k => wigeonref02_Move.f k l a b) (MvR l a b) := by
  unfold wigeonref02_Move.f
  refine evb (rvalid_ev l) ?_
  by_cases h : valR l = 0
  · refine evp h ?_
    have W : ∀ x : Int, wigeonref02_within.f x (-200) 200 = some (decide (-200 ≤ x ∧ x ≤ 200)) := fun x => by
      unfold wigeonref02_within.f
      by_cases q : x ≥ -200
      · rw [if_pos q, decide_eq_decide.2 (show x ≤ 200 ↔ -200 ≤ x ∧ x ≤ 200 by omega)]
      · rw [if_neg q, decide_eq_false (show ¬ (-200 ≤ x ∧ x ≤ 200) by omega)]
    refine evs (W a) ?_
    by_cases q1 : -200 ≤ a ∧ a ≤ 200
    · refine evp (decide_eq_true q1) (evs (W b) ?_)
      by_cases q2 : -200 ≤ b ∧ b ≤ 200
      · rw [decide_eq_true q2, MvR_0 h (by unfold bigB; omega)]
        exact Ev.step (fun k => wigeonref02_Move.j0.eq_2 ..) (evn (by decide) (rMove_l0 a b l (by have := (valR_ok h).1; omega) l.length 0 [] (by omega) rfl))
      · rw [decide_eq_false q2, MvR_1 h (by unfold bigB; omega)]
        exact Ev.step (fun k => wigeonref02_Move.j0.eq_2 ..) (evp rfl (Ev.now _))
    · refine evn (by simpa using q1) ?_
      rw [MvR_1 h (by unfold bigB; omega)]
      exact Ev.step (fun k => wigeonref02_Move.j0.eq_2 ..) (evp rfl (Ev.now _))
  · rw [MvR_n h]; exact evn h (Ev.now _)
theorem sameS_l0 (l : List S55) (hl : l.length ≤ 1000) : ∀ d i : Nat, i + d = l.length → Ev (fun k => wigeonref02_SameScreens.l0 k l l (i : Int)) true
  | 0, i, h => Ev.step (fun k => wigeonref02_SameScreens.l0.eq_2 ..) (evn (by omega) (Ev.now _))
  | d + 1, i, h => by
    refine Ev.step (fun k => wigeonref02_SameScreens.l0.eq_2 ..) (evp (by omega) (evp (by omega) (evp (by omega) (evn (by simp) ?_))))
    rw [w64 (by omega) (by omega)]; exact sameS_l0 l hl d (i + 1) (by omega)
theorem sameS_ev (l : List S55) (hl : l.length ≤ 1000) : Ev (fun k => wigeonref02_SameScreens.f k l l) true := by
  unfold wigeonref02_SameScreens.f
  exact evp rfl (sameS_l0 l hl l.length 0 (by omega))
theorem mp_len (c : S23 → S23) (l : List S55) : (mp c l).length = l.length := List.length_map ..
theorem ch_len (c : S23 → S23) (l : List S55) : (chR c l).1.length ≤ l.length := by
  by_cases h : valR (mp c l) = 0
  · rw [chR_0 h]; exact Nat.le_of_eq (mp_len c l)
  · rw [chR_n h]; exact Nat.zero_le _
theorem tu_len (l : List S55) : (TuR l).1.length ≤ l.length := by
  by_cases h : valR l = 0
  · rw [TuR_0 h]; exact ch_len _ _
  · rw [TuR_n h]; exact Nat.zero_le _
theorem mv_len (l : List S55) (a b : Int) : (MvR l a b).1.length ≤ l.length := by
  by_cases h : valR l = 0
  · by_cases h2 : bigB a b
    · rw [MvR_1 h h2]; exact Nat.zero_le _
    · rw [MvR_0 h h2]; exact ch_len _ _
  · rw [MvR_n h]; exact Nat.zero_le _
theorem trn4 {p : S23} (h : inR p.f0 p.f1) : trn (trn (trn (trn p))) = p := by
  obtain ⟨e1, i1⟩ := trn_in h
  obtain ⟨e2, i2⟩ := trn_in i1
  obtain ⟨e3, i3⟩ := trn_in i2
  obtain ⟨e4, i4⟩ := trn_in i3
  rw [e4, e3, e2, e1]
  dsimp only
  rw [Int.neg_neg, Int.neg_neg]
theorem mp4 {l : List S55} (h : valR l = 0) : mp trn (mp trn (mp trn (mp trn l))) = l := by
  obtain ⟨_, q⟩ := valR_ok h
  unfold mp
  rw [List.map_map, List.map_map, List.map_map]
  refine (List.map_congr_left fun s hs => ?_).trans (List.map_id l)
  show (⟨trn (trn (trn (trn s.f0))), trn (trn (trn (trn s.f1)))⟩ : S55) = s
  rw [trn4 (q s hs).1, trn4 (q s hs).2]
theorem TuR_ok {l : List S55} (h : valR l = 0) : TuR l = (mp trn l, 0) := by rw [TuR_0 h, chR_0 (val_turn h)]
theorem moves_l0 (a0 a c : List S55) (g : Int) (ha : a.length ≤ 1000) (hl : a0.length ≤ 1000) (hc : c = (TuR a0).1) (hg : g = (TuR a0).2) : ∀ d i : Nat, i + d = a.length → Ev (fun k => wigeonlaw02_ScreenMoves.l0 k a0 a0 a c g (i : Int)) true
  | 0, i, h => by
    refine Ev.step (fun k => wigeonlaw02_ScreenMoves.l0.eq_2 ..) (evn (by omega) (evb (Turn_ev _) (evb (Turn_ev _) (evb (Turn_ev _) ?_))))
    by_cases hv : valR a0 = 0
    · rw [TuR_ok hv] at hc hg
      subst hc hg
      have v1 := val_turn hv
      have v2 := val_turn v1
      have v3 := val_turn v2
      rw [TuR_ok v1, TuR_ok v2, TuR_ok v3, mp4 hv]
      exact evp rfl (evp rfl (evp rfl (evp rfl (evb (sameS_ev a0 hl) (evp rfl (evb (sameS_ev a0 hl) (evp rfl (evb known_ev (Ev.now _)))))))))
    · rw [TuR_n hv] at hg
      subst hg
      exact evn hv (evb (sameS_ev a0 hl) (evp rfl (evb known_ev (Ev.now _))))
  | d + 1, i, h => by
    refine Ev.step (fun k => wigeonlaw02_ScreenMoves.l0.eq_2 ..) (evp (by omega) (evp (by omega) ?_))
    rw [w64 (by omega) (by omega)]; exact moves_l0 a0 a c g ha hl hc hg d (i + 1) (by omega)
theorem ScreenMoves (a0 : List S55) (a1_0 : Int) (a1_1 : Int) (h0 : (a0.length ≤ 9223372036854775807 ∧ ∀ x_ ∈ a0, (((Lit.int .i64 x_.f0.f0).wf = true) ∧ ((Lit.int .i64 x_.f0.f1).wf = true)) ∧ (((Lit.int .i64 x_.f1.f0).wf = true) ∧ ((Lit.int .i64 x_.f1.f1).wf = true)))) (h1_0 : (Lit.int .i64 a1_0).wf = true) (h1_1 : (Lit.int .i64 a1_1).wf = true) : ∃ k, wigeonlaw02_ScreenMoves.f k a0 a1_0 a1_1 = some true := by
  refine Ev.rounds (g := fun k => wigeonlaw02_ScreenMoves.f k a0 a1_0 a1_1) ?_
  unfold wigeonlaw02_ScreenMoves.f
  refine evs (Long_eq _ _) ?_
  by_cases hl : a0.length > 100 ∨ ([] : List S23).length > 100
  · exact evp (decide_eq_true hl) (evb known_ev (Ev.now _))
  have hl' : a0.length ≤ 100 := by omega
  refine evn (by simpa using hl) (evs rfl (evp (by simp only [List.length_nil]; omega) (evs rfl ?_)))
  rw [List.nil_append]
  have m1 := mv_len a0 a1_0 a1_1
  have m2 := tu_len a0
  refine evb (Move_ev _ _ _) (evb (rMove_ev _ _ _) (evb (Turn_ev _) (evb (rTurn_ev _) (evp rfl (evb (sameS_ev _ (by omega)) (evp rfl (evp rfl (evb (sameS_ev _ (by omega)) ?_))))))))
  exact Ev.step (fun k => wigeonlaw02_ScreenMoves.j0.eq_2 ..) (evn (by decide) (moves_l0 a0 (MvR a0 a1_0 a1_1).1 _ _ (by omega) (by omega) rfl rfl (MvR a0 a1_0 a1_1).1.length 0 (by omega)))

end Go.Proofs.Ytgkgednbmfinnaa.Pure

