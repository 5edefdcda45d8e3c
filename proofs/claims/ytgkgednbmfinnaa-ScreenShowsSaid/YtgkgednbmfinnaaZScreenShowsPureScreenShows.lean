/- Of the text PureScreenShows, what the row of ScreenShows reaches. -/
import Derived.Test.YtgkgednbmfinnaaZScreenShowsSMx20
namespace Go.Proofs.Ytgkgednbmfinnaa.Pure
set_option linter.unusedVariables false
set_option linter.unusedSimpArgs false
open Go.RowKit Go.Proofs.Ytgkgednbmfinnaa.SM Go.Proofs.YtgkgednbmfinnaaW.PrintWords Go.Proofs.YtgkgednbmfinnaaW.PrintLast Go.Proofs.YtgkgednbmfinnaaW.PrintMore
theorem nn {a b : Int} (h : a ≤ 0) (k : b ≤ 0) : 0 ≤ a * b := by
  have := Int.mul_nonneg (show 0 ≤ -a by omega) (show 0 ≤ -b by omega)
  rw [Int.neg_mul, Int.mul_neg] at this; omega
/-- c lies between a and b, on the axes -/
def bet (ax ay bx b_y px py : Int) : Prop := min ax bx ≤ px ∧ px ≤ max ax bx ∧ min ay b_y ≤ py ∧ py ≤ max ay b_y
instance (a b c d e f : Int) : Decidable (bet a b c d e f) := inferInstanceAs (Decidable (_ ∧ _))
def sdI (ax ay bx b_y px py : Int) : Int := (bx - ax) * (py - ay) - (b_y - ay) * (px - ax)
def touch1 (ax ay bx b_y cx cy dx dy : Int) : Prop :=
  (sdI ax ay bx b_y cx cy = 0 ∧ bet ax ay bx b_y cx cy) ∨ (sdI ax ay bx b_y dx dy = 0 ∧ bet ax ay bx b_y dx dy) ∨ (sdI cx cy dx dy ax ay = 0 ∧ bet cx cy dx dy ax ay) ∨ (sdI cx cy dx dy bx b_y = 0 ∧ bet cx cy dx dy bx b_y) ∨
    (sdI ax ay bx b_y cx cy * sdI ax ay bx b_y dx dy < 0 ∧ sdI cx cy dx dy ax ay * sdI cx cy dx dy bx b_y < 0)
def touch2 (ax ay bx b_y cx cy dx dy : Int) : Prop :=
  ¬ (max ax bx < min cx dx ∨ max cx dx < min ax bx) ∧ ¬ (max ay b_y < min cy dy ∨ max cy dy < min ay b_y) ∧ sdI ax ay bx b_y cx cy * sdI ax ay bx b_y dx dy ≤ 0 ∧ sdI cx cy dx dy ax ay * sdI cx cy dx dy bx b_y ≤ 0
theorem evp {α : Type} {c : Prop} [Decidable c] {f g : Nat → Option α} {r : α} (h : c) (k : Ev f r) : Ev (fun n => if c then f n else g n) r :=
  Ev.congr (fun _ => if_pos h) k
theorem evn {α : Type} {c : Prop} [Decidable c] {f g : Nat → Option α} {r : α} (h : ¬ c) (k : Ev g r) : Ev (fun n => if c then f n else g n) r :=
  Ev.congr (fun _ => if_neg h) k
theorem evb {α β : Type} {g : Nat → Option α} {f : Nat → α → Option β} {a : α} {r : β} (h : Ev g a) (k : Ev (fun n => f n a) r) : Ev (fun n => (g n).bind (f n)) r := Ev.bind h k
theorem evs {α β : Type} {x : Option α} {f : Nat → α → Option β} {a : α} {r : β} (h : x = some a) (k : Ev (fun n => f n a) r) : Ev (fun n => x.bind (f n)) r := by
  subst h; exact k
theorem ev_uniq {α : Type} {g : Nat → Option α} {r s : α} (h : Ev g r) (k : Ev g s) : r = s := by
  obtain ⟨a, h⟩ := h
  obtain ⟨b, k⟩ := k
  have x := h (max a b) (by omega)
  have y := k (max a b) (by omega)
  rw [x] at y; exact Option.some.inj y
theorem w64 {n : Int} (h : -9223372036854775808 ≤ n) (h2 : n ≤ 9223372036854775807) : wrap64 n = n := by unfold wrap64; omega
theorem rdX_at (l : List S55) (i : Nat) (h : i < l.length) : rd_T55 l (i : Int) = l[i] := by
  simp [rd_T55, List.getD_eq_getElem?_getD, List.getElem?_eq_getElem h]
theorem mn_eq (a b : Int) : mn a b = min a b := by unfold mn; split <;> omega
theorem mx_eq (a b : Int) : mx a b = max a b := by unfold mx; split <;> omega
theorem mulb {x y a b : Int} (h1 : -a ≤ x) (h2 : x ≤ a) (h3 : -b ≤ y) (h4 : y ≤ b) : -(a * b) ≤ x * y ∧ x * y ≤ a * b := by
  have p1 := Int.mul_nonneg (show 0 ≤ a - x by omega) (show 0 ≤ b + y by omega)
  have p2 := Int.mul_nonneg (show 0 ≤ a + x by omega) (show 0 ≤ b - y by omega)
  have p3 := Int.mul_nonneg (show 0 ≤ a - x by omega) (show 0 ≤ b - y by omega)
  have p4 := Int.mul_nonneg (show 0 ≤ a + x by omega) (show 0 ≤ b + y by omega)
  have e1 : (a - x) * (b + y) + (a + x) * (b - y) = 2 * (a * b) - 2 * (x * y) := by grind
  have e2 : (a - x) * (b - y) + (a + x) * (b + y) = 2 * (a * b) + 2 * (x * y) := by grind
  omega

def inR (a b : Int) : Prop := -100 ≤ a ∧ a ≤ 100 ∧ -100 ≤ b ∧ b ≤ 100
theorem far_in (p : S23) : farB p = false ↔ inR p.f0 p.f1 := by
  unfold farB inR
  simp only [Bool.or_eq_false_iff, decide_eq_false_iff_not]
  omega
def plB (l : List S23) : Bool := !(l.any farB)
theorem place_eq (l : List S23) : screen_place.f l = some (plB l) := rfl
theorem plB_in {l : List S23} (h : plB l = true) : ∀ p ∈ l, inR p.f0 p.f1 := by
  intro p hp
  unfold plB at h
  rw [Bool.not_eq_true', List.any_eq_false] at h
  exact (far_in p).1 (by simpa using h p hp)
def isg (x : Int) : Int := if x < 0 then -1 else if x > 0 then 1 else 0
theorem isg_0 (x : Int) : isg x = 0 ↔ x = 0 := by
  unfold isg
  split
  · omega
  · split <;> omega
theorem isg_mul (x y : Int) : wrap64 (isg x * isg y) < 0 ↔ x * y < 0 := by
  have e : wrap64 (isg x * isg y) = isg x * isg y := by
    have h (z : Int) : isg z = -1 ∨ isg z = 0 ∨ isg z = 1 := by
      unfold isg
      split
      · omega
      · split <;> omega
    rcases h x with h1 | h1 | h1 <;> rcases h y with h2 | h2 | h2 <;> rw [h1, h2] <;> (unfold wrap64; omega)
  rw [e]
  unfold isg
  by_cases x1 : x < 0
  · rw [if_pos x1]
    by_cases y1 : y < 0
    · rw [if_pos y1]; have := nn (show x ≤ 0 by omega) (show y ≤ 0 by omega); omega
    · rw [if_neg y1]
      by_cases y2 : y > 0
      · rw [if_pos y2]; have := Int.mul_pos (show 0 < -x by omega) y2; rw [Int.neg_mul] at this; omega
      · rw [if_neg y2]; obtain rfl : y = 0 := by omega
        simp
  · rw [if_neg x1]
    by_cases x2 : x > 0
    · rw [if_pos x2]
      by_cases y1 : y < 0
      · rw [if_pos y1]; have := Int.mul_pos x2 (show 0 < -y by omega); rw [Int.mul_neg] at this; omega
      · rw [if_neg y1]
        by_cases y2 : y > 0
        · rw [if_pos y2]; have := Int.mul_pos x2 y2; omega
        · rw [if_neg y2]; obtain rfl : y = 0 := by omega
          simp
    · rw [if_neg x2]; obtain rfl : x = 0 := by omega
      simp
theorem sdI_b {a b c d e f : Int} (h1 : inR a b) (h2 : inR c d) (h3 : inR e f) : wrap64 (wrap64 (wrap64 (c - a) * wrap64 (f - b)) - wrap64 (wrap64 (d - b) * wrap64 (e - a))) = sdI a b c d e f ∧ -80000 ≤ sdI a b c d e f ∧ sdI a b c d e f ≤ 80000 := by
  unfold inR at *
  rw [w64 (n := c - a) (by omega) (by omega), w64 (n := f - b) (by omega) (by omega), w64 (n := d - b) (by omega) (by omega), w64 (n := e - a) (by omega) (by omega)]
  have p := mulb (x := c - a) (y := f - b) (a := 200) (b := 200) (by omega) (by omega) (by omega) (by omega)
  have q := mulb (x := d - b) (y := e - a) (a := 200) (b := 200) (by omega) (by omega) (by omega) (by omega)
  unfold sdI
  generalize (c - a) * (f - b) = x at *
  generalize (d - b) * (e - a) = y at *
  rw [w64 (n := x) (by omega) (by omega), w64 (n := y) (by omega) (by omega), w64 (by omega) (by omega)]
  omega
theorem side_eq {a b c d e f : Int} (h1 : inR a b) (h2 : inR c d) (h3 : inR e f) : screen_side.f a b c d e f = some (isg (sdI a b c d e f)) := by
  unfold screen_side.f
  rw [(sdI_b h1 h2 h3).1]
  generalize sdI a b c d e f = x
  unfold cmp_Compare_int.f cmp_isNaN_int.f isg
  simp only [Option.bind_some]
  by_cases h : x < 0
  · simp [h]
  · by_cases h2 : x > 0
    · simp [h, h2]
    · simp [h, h2]
theorem between_eq (a b c d e f : Int) : screen_between.f a b c d e f = some (decide (bet a b c d e f)) := by
  unfold screen_between.f bet
  rw [mn_eq, mx_eq, mn_eq, mx_eq]
  by_cases h1 : min a c ≤ e
  · by_cases h2 : e ≤ max a c
    · by_cases h3 : min b d ≤ f
      · simp [h1, h2, h3]
      · simp [h1, h2, h3]
    · simp [h1, h2]
  · simp [h1]

instance (a b c d e f g h : Int) : Decidable (touch1 a b c d e f g h) := inferInstanceAs (Decidable (_ ∨ _))
instance (a b c d e f g h : Int) : Decidable (touch2 a b c d e f g h) := inferInstanceAs (Decidable (_ ∧ _))
def tB (a b c d e f g h : Int) : Bool := decide (touch1 a b c d e f g h)
theorem touch_ev {a b c d e f g h : Int} (r1 : inR a b) (r2 : inR c d) (r3 : inR e f) (r4 : inR g h) : Ev (fun k => screen_touch.f k a b c d e f g h) (tB a b c d e f g h) := by
  have eq : tB a b c d e f g h = (decide (sdI a b c d e f = 0 ∧ bet a b c d e f) || (decide (sdI a b c d g h = 0 ∧ bet a b c d g h) || (decide (sdI e f g h a b = 0 ∧ bet e f g h a b) || (decide (sdI e f g h c d = 0 ∧ bet e f g h c d) || decide (sdI a b c d e f * sdI a b c d g h < 0 ∧ sdI e f g h a b * sdI e f g h c d < 0))))) := by
    rw [show tB a b c d e f g h = decide ((sdI a b c d e f = 0 ∧ bet a b c d e f) ∨ ((sdI a b c d g h = 0 ∧ bet a b c d g h) ∨ ((sdI e f g h a b = 0 ∧ bet e f g h a b) ∨ ((sdI e f g h c d = 0 ∧ bet e f g h c d) ∨ (sdI a b c d e f * sdI a b c d g h < 0 ∧ sdI e f g h a b * sdI e f g h c d < 0))))) from decide_eq_decide.2 Iff.rfl]
    simp only [Bool.decide_or]
  have J3 : Ev (fun k => screen_touch.j3 k a b c d e f g h) (decide (sdI a b c d e f * sdI a b c d g h < 0 ∧ sdI e f g h a b * sdI e f g h c d < 0)) := by
    refine Ev.step (fun k => screen_touch.j3.eq_2 ..) (evs (side_eq r1 r2 r3) (evs (side_eq r1 r2 r4) ?_))
    by_cases q : sdI a b c d e f * sdI a b c d g h < 0
    · refine evp ((isg_mul _ _).2 q) (evs (side_eq r3 r4 r1) (evs (side_eq r3 r4 r2) ?_))
      rw [show decide (sdI a b c d e f * sdI a b c d g h < 0 ∧ sdI e f g h a b * sdI e f g h c d < 0) = decide (wrap64 (isg (sdI e f g h a b) * isg (sdI e f g h c d)) < 0) from decide_eq_decide.2 (by rw [isg_mul]; simp [q])]
      exact Ev.now _
    · refine evn (fun z => q ((isg_mul _ _).1 z)) ?_
      rw [decide_eq_false (fun z => q z.1)]; exact Ev.now _
  have J2 : ∀ x : Bool, Ev (fun k => screen_touch.j2 k x a b c d e f g h) (x || (decide (sdI e f g h c d = 0 ∧ bet e f g h c d) || decide (sdI a b c d e f * sdI a b c d g h < 0 ∧ sdI e f g h a b * sdI e f g h c d < 0))) := by
    intro x
    refine Ev.step (fun k => screen_touch.j2.eq_2 ..) ?_
    cases x
    · refine evn (by decide) (evs (side_eq r3 r4 r2) ?_)
      rw [Bool.false_or]
      by_cases z : sdI e f g h c d = 0
      · refine evp ((isg_0 _).2 z) (evs (between_eq ..) ?_)
        by_cases y : bet e f g h c d
        · rw [decide_eq_true y, show decide (sdI e f g h c d = 0 ∧ bet e f g h c d) = true from decide_eq_true ⟨z, y⟩]
          exact evp rfl (Ev.now _)
        · rw [decide_eq_false y, show decide (sdI e f g h c d = 0 ∧ bet e f g h c d) = false from decide_eq_false (fun q => y q.2), Bool.false_or]
          exact evn (by decide) J3
      · rw [show decide (sdI e f g h c d = 0 ∧ bet e f g h c d) = false from decide_eq_false (fun q => z q.1), Bool.false_or]
        exact evn (fun q => z ((isg_0 _).1 q)) J3
    · exact evp rfl (Ev.now _)
  have J1 : ∀ x : Bool, Ev (fun k => screen_touch.j1 k x a b c d e f g h) (x || (decide (sdI e f g h a b = 0 ∧ bet e f g h a b) || (decide (sdI e f g h c d = 0 ∧ bet e f g h c d) || decide (sdI a b c d e f * sdI a b c d g h < 0 ∧ sdI e f g h a b * sdI e f g h c d < 0)))) := by
    intro x
    refine Ev.step (fun k => screen_touch.j1.eq_2 ..) ?_
    cases x
    · refine evn (by decide) (evs (side_eq r3 r4 r1) ?_)
      rw [Bool.false_or]
      by_cases z : sdI e f g h a b = 0
      · refine evp ((isg_0 _).2 z) (evs (between_eq ..) ?_)
        rw [show decide (sdI e f g h a b = 0 ∧ bet e f g h a b) = decide (bet e f g h a b) from decide_eq_decide.2 (by simp [z])]
        exact J2 _
      · rw [show decide (sdI e f g h a b = 0 ∧ bet e f g h a b) = false from decide_eq_false (fun q => z q.1)]
        exact evn (fun q => z ((isg_0 _).1 q)) (J2 false)
    · exact evp rfl (Ev.now _)
  have J0 : ∀ x : Bool, Ev (fun k => screen_touch.j0 k x a b c d e f g h) (x || (decide (sdI a b c d g h = 0 ∧ bet a b c d g h) || (decide (sdI e f g h a b = 0 ∧ bet e f g h a b) || (decide (sdI e f g h c d = 0 ∧ bet e f g h c d) || decide (sdI a b c d e f * sdI a b c d g h < 0 ∧ sdI e f g h a b * sdI e f g h c d < 0))))) := by
    intro x
    refine Ev.step (fun k => screen_touch.j0.eq_2 ..) ?_
    cases x
    · refine evn (by decide) (evs (side_eq r1 r2 r4) ?_)
      rw [Bool.false_or]
      by_cases z : sdI a b c d g h = 0
      · refine evp ((isg_0 _).2 z) (evs (between_eq ..) ?_)
        rw [show decide (sdI a b c d g h = 0 ∧ bet a b c d g h) = decide (bet a b c d g h) from decide_eq_decide.2 (by simp [z])]
        exact J1 _
      · rw [show decide (sdI a b c d g h = 0 ∧ bet a b c d g h) = false from decide_eq_false (fun q => z q.1)]
        exact evn (fun q => z ((isg_0 _).1 q)) (J1 false)
    · exact evp rfl (Ev.now _)
  rw [eq]
  unfold screen_touch.f
  refine evs (side_eq r1 r2 r3) ?_
  by_cases z : sdI a b c d e f = 0
  · refine evp ((isg_0 _).2 z) (evs (between_eq ..) ?_)
    rw [show decide (sdI a b c d e f = 0 ∧ bet a b c d e f) = decide (bet a b c d e f) from decide_eq_decide.2 (by simp [z])]
    exact J0 _
  · rw [show decide (sdI a b c d e f = 0 ∧ bet a b c d e f) = false from decide_eq_false (fun q => z q.1)]
    exact evn (fun q => z ((isg_0 _).1 q)) (J0 false)
theorem touchB_in {a b c d e f g h : Int} (r1 : inR a b) (r2 : inR c d) (r3 : inR e f) (r4 : inR g h) : touchB a b c d e f g h = tB a b c d e f g h :=
  ev_uniq (Ev.of (screen_touch.mono a b c d e f g h) (touchB_eq a b c d e f g h)) (touch_ev r1 r2 r3 r4)

theorem known_ev : Ev (fun k => wigeonlaw02_known.f k) true := Ev.of wigeonlaw02_known.mono (k := 100) (by decide +kernel)

def okS (s : S55) : Bool := plB [⟨s.f0.f0, s.f0.f1⟩, ⟨s.f1.f0, s.f1.f1⟩] && !(s.f0.f0 == s.f1.f0 && s.f0.f1 == s.f1.f1)
def valR (l : List S55) : Int := if l.length > 12 then 3 else if l.all okS then 0 else 1
theorem valid_l0 (l : List S55) (hl : l.length ≤ 12) : ∀ d i : Nat, i + d = l.length → Ev (fun k => screen_Validate.l0 k l (l.length : Int) (i : Int)) (if (l.drop i).all okS then (0 : Int) else 1)
  | 0, i, h => by
    refine Ev.step (fun k => screen_Validate.l0.eq_2 ..) (evn (by omega) ?_)
    rw [List.drop_eq_nil_of_le (by omega)]; exact Ev.now _
  | d + 1, i, h => by
    have hlt : i < l.length := by omega
    have R := valid_l0 l hl d (i + 1) (by omega)
    refine Ev.step (fun k => screen_Validate.l0.eq_2 ..) (evp (by omega) (evp (by omega) (evp (by omega) (evs (place_eq _) ?_))))
    rw [rdX_at l i hlt, List.drop_eq_getElem_cons hlt, List.all_cons, w64 (by omega) (by omega)]
    unfold okS
    cases plB [⟨(l[i]).f0.f0, (l[i]).f0.f1⟩, ⟨(l[i]).f1.f0, (l[i]).f1.f1⟩]
    · exact evn (by decide) (by rw [Bool.false_and, Bool.false_and, if_neg (by decide)]; exact Ev.now _)
    · refine evp rfl ?_
      cases ((l[i]).f0.f0 == (l[i]).f1.f0 && (l[i]).f0.f1 == (l[i]).f1.f1)
      · exact evn (by decide) (by rw [Bool.not_false, Bool.true_and, Bool.true_and]; exact R)
      · exact evp rfl (by rw [Bool.not_true, Bool.true_and, Bool.false_and, if_neg (by decide)]; exact Ev.now _)
theorem valid_ev (l : List S55) : Ev (fun k => screen_Validate.f k l) (valR l) := by
  unfold screen_Validate.f valR
  by_cases h : l.length > 12
  · rw [if_pos h]; exact evp (by omega) (Ev.now _)
  · rw [if_neg h]; exact evn (by omega) (valid_l0 l (by omega) l.length 0 (by omega))
theorem valR_ok {l : List S55} (h : valR l = 0) : l.length ≤ 12 ∧ ∀ s ∈ l, inR s.f0.f0 s.f0.f1 ∧ inR s.f1.f0 s.f1.f1 := by
  unfold valR at h
  by_cases h1 : l.length > 12
  · rw [if_pos h1] at h; exact absurd h (by decide)
  · rw [if_neg h1] at h
    by_cases h2 : l.all okS = true
    · refine ⟨by omega, fun s hs => ?_⟩
      have a := List.all_eq_true.1 h2 s hs
      unfold okS at a
      rw [Bool.and_eq_true] at a
      have b := plB_in a.1
      exact ⟨b ⟨s.f0.f0, s.f0.f1⟩ (by simp), b ⟨s.f1.f0, s.f1.f1⟩ (by simp)⟩
    · rw [if_neg h2] at h; exact absurd h (by decide)

def bxB (a b c d : Int) : Bool := plB [⟨a, b⟩, ⟨c, d⟩] && decide (0 ≤ c - a ∧ 0 ≤ d - b ∧ c - a < 21 ∧ d - b < 21)
def lkR (l : List S55) (eyes points : List S23) : Int := if valR l = 0 then (if eyes.length > 8 ∨ points.length > 16 then 3 else if plB eyes && plB points then 0 else 1) else valR l
def ckR (l : List S55) (eyes points : List S23) (a b c d : Int) : Int := if lkR l eyes points = 0 then (if bxB a b c d then 0 else 1) else lkR l eyes points
theorem lkR_v {l : List S55} {eyes points : List S23} (h : ¬ valR l = 0) : lkR l eyes points = valR l := if_neg h
theorem lkR_3 {l : List S55} {eyes points : List S23} (h : valR l = 0) (h2 : eyes.length > 8 ∨ points.length > 16) : lkR l eyes points = 3 := (if_pos h).trans (if_pos h2)
theorem lkR_1 {l : List S55} {eyes points : List S23} (h : valR l = 0) (h2 : ¬ (eyes.length > 8 ∨ points.length > 16)) (h3 : ¬ (plB eyes && plB points) = true) : lkR l eyes points = 1 := (if_pos h).trans ((if_neg h2).trans (if_neg h3))
theorem lkR_0 {l : List S55} {eyes points : List S23} (h : valR l = 0) (h2 : ¬ (eyes.length > 8 ∨ points.length > 16)) (h3 : (plB eyes && plB points) = true) : lkR l eyes points = 0 := (if_pos h).trans ((if_neg h2).trans (if_pos h3))
theorem lkR_ok {l : List S55} {eyes points : List S23} (h : lkR l eyes points = 0) : valR l = 0 ∧ eyes.length ≤ 8 ∧ points.length ≤ 16 ∧ plB eyes = true ∧ plB points = true := by
  by_cases h1 : valR l = 0
  · by_cases h2 : eyes.length > 8 ∨ points.length > 16
    · rw [lkR_3 h1 h2] at h; exact absurd h (by decide)
    · by_cases h3 : (plB eyes && plB points) = true
      · rw [Bool.and_eq_true] at h3; exact ⟨h1, by omega, by omega, h3.1, h3.2⟩
      · rw [lkR_1 h1 h2 h3] at h; exact absurd h (by decide)
  · rw [lkR_v h1] at h; exact absurd h h1
theorem ckR_l {l : List S55} {eyes points : List S23} {a b c d : Int} (h : ¬ lkR l eyes points = 0) : ckR l eyes points a b c d = lkR l eyes points := if_neg h
theorem ckR_0 {l : List S55} {eyes points : List S23} {a b c d : Int} (h : lkR l eyes points = 0) (h2 : bxB a b c d = true) : ckR l eyes points a b c d = 0 := (if_pos h).trans (if_pos h2)
theorem ckR_1 {l : List S55} {eyes points : List S23} {a b c d : Int} (h : lkR l eyes points = 0) (h2 : ¬ bxB a b c d = true) : ckR l eyes points a b c d = 1 := (if_pos h).trans (if_neg h2)
theorem ckR_z (l : List S55) (eyes points : List S23) : ckR l eyes points 0 0 0 0 = lkR l eyes points := by
  by_cases h : lkR l eyes points = 0
  · rw [ckR_0 h (by decide), h]
  · exact ckR_l h
theorem checked_ev (l : List S55) (eyes points : List S23) (a b c d : Int) : Ev (fun k => screen_checked.f k l eyes points a b c d) (ckR l eyes points a b c d) := by
  unfold screen_checked.f
  refine evb (valid_ev l) ?_
  by_cases h : valR l = 0
  · refine evp h ?_
    have J1 : ∀ x : Bool, lkR l eyes points = (if x then 1 else 0) → (x = false → True) → Ev (fun k => screen_checked.j1 k (x || !plB [⟨a, b⟩, ⟨c, d⟩]) a b c d) (ckR l eyes points a b c d) := by
      intro x hx _
      refine Ev.step (fun k => screen_checked.j1.eq_2 ..) ?_
      cases x
      · have hx : lkR l eyes points = 0 := hx
        rw [Bool.false_or]
        by_cases hp : plB [⟨a, b⟩, ⟨c, d⟩] = true
        · have q := plB_in hp
          have q1 : inR a b := q ⟨a, b⟩ (by simp)
          have q2 : inR c d := q ⟨c, d⟩ (by simp)
          unfold inR at q1 q2
          rw [hp, w64 (n := c - a) (by omega) (by omega), w64 (n := d - b) (by omega) (by omega)]
          refine evn (by decide) ?_
          have no : ¬ (0 ≤ c - a ∧ 0 ≤ d - b ∧ c - a < 21 ∧ d - b < 21) → ¬ bxB a b c d = true := fun z w => by
            unfold bxB at w; rw [Bool.and_eq_true, decide_eq_true_eq] at w; exact z w.2
          by_cases z1 : c - a < 0
          · rw [ckR_1 hx (no (by omega))]; exact evp z1 (Ev.now _)
          · refine evn z1 ?_
            by_cases z2 : d - b < 0
            · rw [ckR_1 hx (no (by omega))]; exact evp z2 (Ev.now _)
            · refine evn z2 ?_
              by_cases z3 : c - a ≥ 21
              · rw [ckR_1 hx (no (by omega))]; exact evp z3 (Ev.now _)
              · refine evn z3 ?_
                by_cases z4 : d - b ≥ 21
                · rw [ckR_1 hx (no (by omega))]; exact evp z4 (Ev.now _)
                · rw [ckR_0 hx (by unfold bxB; rw [hp, Bool.true_and]; exact decide_eq_true (by omega))]; exact evn z4 (Ev.now _)
        · rw [ckR_1 hx (fun w => by unfold bxB at w; rw [Bool.and_eq_true] at w; exact hp w.1)]
          rw [Bool.not_eq_true] at hp
          rw [hp]
          exact evp rfl (Ev.now _)
      · have hx : lkR l eyes points = 1 := hx
        rw [ckR_l (by rw [hx]; decide), hx, Bool.true_or]
        exact evp rfl (Ev.now _)
    have J0 : ∀ x : Bool, (x = true ↔ (eyes.length > 8 ∨ points.length > 16)) → Ev (fun k => screen_checked.j0 k eyes points x a b c d) (ckR l eyes points a b c d) := by
      intro x hx
      refine Ev.step (fun k => screen_checked.j0.eq_2 ..) ?_
      cases x
      · have nb : ¬ (eyes.length > 8 ∨ points.length > 16) := fun z => absurd (hx.2 z) (by decide)
        refine evn (by decide) (evs (place_eq _) ?_)
        by_cases p1 : plB eyes = true
        · refine evp p1 (evs (place_eq _) ?_)
          by_cases p2 : plB points = true
          · refine evp p2 (evs (place_eq _) ?_)
            have := J1 false (lkR_0 h nb (by rw [p1, p2]; rfl)) (fun _ => trivial)
            rwa [Bool.false_or] at this
          · exact evn p2 (J1 true (lkR_1 h nb (by rw [Bool.and_eq_true]; exact fun z => p2 z.2)) (fun _ => trivial))
        · exact evn p1 (J1 true (lkR_1 h nb (by rw [Bool.and_eq_true]; exact fun z => p1 z.1)) (fun _ => trivial))
      · have e := lkR_3 h (hx.1 rfl)
        rw [ckR_l (by rw [e]; decide), e]
        exact evp rfl (Ev.now _)
    by_cases h1 : eyes.length > 8
    · exact evp (by omega) (J0 true (by simp; omega))
    · refine evn (by omega) (J0 _ ?_)
      rw [decide_eq_true_eq]; omega
  · rw [ckR_l (by rw [lkR_v h]; exact h), lkR_v h]
    exact evn h (Ev.now _)

def tS (a b c d : Int) (s : S55) : Bool := tB a b c d s.f0.f0 s.f0.f1 s.f1.f0 s.f1.f1
def sE (l : List S55) (a b c d : Int) : Bool := !(l.any (tS a b c d))
theorem any_congr {α : Type} {p q : α → Bool} : ∀ {l : List α}, (∀ x ∈ l, p x = q x) → l.any p = l.any q
  | [], _ => rfl
  | x :: l, h => by
    rw [List.any_cons, List.any_cons, h x List.mem_cons_self, any_congr (fun y hy => h y (List.mem_cons_of_mem _ hy))]
theorem sees_eq {l : List S55} {a b c d : Int} (h : valR l = 0) (r1 : inR a b) (r2 : inR c d) : screen_sees.f l a b c d = some (sE l a b c d) := by
  unfold screen_sees.f seesB sE
  rw [any_congr (q := tS a b c d) (fun s hs => touchB_in r1 r2 ((valR_ok h).2 s hs).1 ((valR_ok h).2 s hs).2)]
theorem Long_eq (l : List S55) (e : List S23) : wigeonlaw02_Long.f l e = some (decide (l.length > 100 ∨ e.length > 100)) := by
  unfold wigeonlaw02_Long.f
  by_cases h : (l.length : Int) > 100
  · rw [if_pos h, decide_eq_true (by omega)]
  · rw [if_neg h]; exact congrArg some (decide_eq_decide.2 (by omega))

def SeR (l : List S55) (a b c d : Int) : Bool × Int := if lkR l [] [⟨a, b⟩, ⟨c, d⟩] = 0 then (sE l a b c d, 0) else (false, lkR l [] [⟨a, b⟩, ⟨c, d⟩])
theorem two_in {l : List S55} {a b c d : Int} (h : lkR l [] [⟨a, b⟩, ⟨c, d⟩] = 0) : valR l = 0 ∧ inR a b ∧ inR c d := by
  obtain ⟨h1, _, _, _, h2⟩ := lkR_ok h
  have := plB_in h2
  exact ⟨h1, this ⟨a, b⟩ (by simp), this ⟨c, d⟩ (by simp)⟩
theorem SeR_0 {l : List S55} {a b c d : Int} (h : lkR l [] [⟨a, b⟩, ⟨c, d⟩] = 0) : SeR l a b c d = (sE l a b c d, 0) := if_pos h
theorem SeR_n {l : List S55} {a b c d : Int} (h : ¬ lkR l [] [⟨a, b⟩, ⟨c, d⟩] = 0) : SeR l a b c d = (false, lkR l [] [⟨a, b⟩, ⟨c, d⟩]) := if_neg h
theorem Sees_ev (l : List S55) (a b c d : Int) : Ev (fun k => screen_Sees.f k l a b c d) (SeR l a b c d) := by
  unfold screen_Sees.f
  refine evb (checked_ev ..) ?_
  rw [ckR_z]
  by_cases h : lkR l [] [⟨a, b⟩, ⟨c, d⟩] = 0
  · rw [SeR_0 h]
    obtain ⟨h1, r1, r2⟩ := two_in h
    exact evp h (evs (sees_eq h1 r1 r2) (Ev.now _))
  · rw [SeR_n h]; exact evn h (Ev.now _)

def mp (c : S23 → S23) (l : List S55) : List S55 := l.map fun s => (⟨c s.f0, c s.f1⟩ : S55)
def chR (c : S23 → S23) (l : List S55) : List S55 × Int := if valR (mp c l) = 0 then (mp c l, 0) else ([], valR (mp c l))
theorem chR_0 {c : S23 → S23} {l : List S55} (h : valR (mp c l) = 0) : chR c l = (mp c l, 0) := if_pos h
theorem chR_n {c : S23 → S23} {l : List S55} (h : ¬ valR (mp c l) = 0) : chR c l = ([], valR (mp c l)) := if_neg h
def endR (r : List S55) : List S55 × Int := if valR r = 0 then (r, 0) else ([], valR r)
theorem endR_0 {r : List S55} (h : valR r = 0) : endR r = (r, 0) := if_pos h
theorem endR_n {r : List S55} (h : ¬ valR r = 0) : endR r = ([], valR r) := if_neg h
theorem changed_l0 (qf : Int → Int → Option (Int × Int)) (c : S23 → S23) (hq : ∀ x y, qf x y = some ((c ⟨x, y⟩).f0, (c ⟨x, y⟩).f1)) (l : List S55) (hl : l.length ≤ 1000) : ∀ (d i : Nat) (acc : List S55), i + d = l.length → acc.length = i →
    Ev (fun k => screen_changed.l0 qf k acc l (l.length : Int) (i : Int)) (endR (acc ++ mp c (l.drop i)))
  | 0, i, acc, h, ha => by
    refine Ev.step (fun k => screen_changed.l0.eq_2 ..) (evn (by omega) (evb (valid_ev acc) ?_))
    rw [List.drop_eq_nil_of_le (by omega), show mp c [] = [] from rfl, List.append_nil]
    by_cases q : valR acc = 0
    · rw [endR_0 q]; exact evp q (Ev.now _)
    · rw [endR_n q]; exact evn q (Ev.now _)
  | d + 1, i, acc, h, ha => by
    have hlt : i < l.length := by omega
    have R := changed_l0 qf c hq l hl d (i + 1) (acc ++ [(⟨c (l[i]).f0, c (l[i]).f1⟩ : S55)]) (by omega) (by rw [List.length_append, List.length_singleton]; omega)
    refine Ev.step (fun k => screen_changed.l0.eq_2 ..) (evp (by omega) (evp (by omega) (evp (by omega) (evs (hq _ _) (evs (hq _ _) (evp (by omega) ?_))))))
    rw [rdX_at l i hlt, List.drop_eq_getElem_cons hlt, w64 (by omega) (by omega)]
    rw [List.append_assoc] at R
    exact R
theorem changed_ev (qf : Int → Int → Option (Int × Int)) (c : S23 → S23) (hq : ∀ x y, qf x y = some ((c ⟨x, y⟩).f0, (c ⟨x, y⟩).f1)) (l : List S55) (hl : l.length ≤ 1000) : Ev (fun k => screen_changed.f qf k l 0) (chR c l) :=
  changed_l0 qf c hq l hl l.length 0 [] (by omega) rfl
def trn (p : S23) : S23 := ⟨wrap64 (-p.f1), p.f0⟩
def mvp (a b : Int) (p : S23) : S23 := ⟨wrap64 (p.f0 + a), wrap64 (p.f1 + b)⟩
def TuR (l : List S55) : List S55 × Int := if valR l = 0 then chR trn l else ([], valR l)
theorem TuR_0 {l : List S55} (h : valR l = 0) : TuR l = chR trn l := if_pos h
theorem TuR_n {l : List S55} (h : ¬ valR l = 0) : TuR l = ([], valR l) := if_neg h
theorem Turn_ev (l : List S55) : Ev (fun k => screen_Turn.f k l) (TuR l) := by
  unfold screen_Turn.f
  refine evb (valid_ev l) ?_
  by_cases h : valR l = 0
  · rw [TuR_0 h]
    exact evp h (evb (changed_ev screen_Turn_1.f trn (fun _ _ => rfl) l (by have := (valR_ok h).1; omega)) (Ev.now _))
  · rw [TuR_n h]; exact evn h (Ev.now _)
def bigB (a b : Int) : Prop := max a b > 200 ∨ min a b < -200
instance (a b : Int) : Decidable (bigB a b) := inferInstanceAs (Decidable (_ ∨ _))
def MvR (l : List S55) (a b : Int) : List S55 × Int := if valR l = 0 then (if bigB a b then ([], 1) else chR (mvp a b) l) else ([], valR l)
theorem MvR_0 {l : List S55} {a b : Int} (h : valR l = 0) (h2 : ¬ bigB a b) : MvR l a b = chR (mvp a b) l := (if_pos h).trans (if_neg h2)
theorem MvR_1 {l : List S55} {a b : Int} (h : valR l = 0) (h2 : bigB a b) : MvR l a b = ([], 1) := (if_pos h).trans (if_pos h2)
theorem MvR_n {l : List S55} {a b : Int} (h : ¬ valR l = 0) : MvR l a b = ([], valR l) := if_neg h
theorem Move_ev (l : List S55) (a b : Int) : Ev (fun k => screen_Move.f k l a b) (MvR l a b) := by
  unfold screen_Move.f
  refine evb (valid_ev l) ?_
  by_cases h : valR l = 0
  · refine evp h ?_
    by_cases h1 : max a b > 200
    · rw [MvR_1 h (Or.inl h1)]; exact evp h1 (Ev.now _)
    · refine evn h1 ?_
      by_cases h2 : min a b < -200
      · rw [MvR_1 h (Or.inr h2)]; exact evp h2 (Ev.now _)
      · rw [MvR_0 h (by unfold bigB; omega)]
        exact evn h2 (changed_ev (moveF a b) (mvp a b) (fun _ _ => rfl) l (by have := (valR_ok h).1; omega))
  · rw [MvR_n h]; exact evn h (Ev.now _)
theorem valR_iff (l : List S55) : valR l = 0 ↔ l.length ≤ 12 ∧ ∀ s ∈ l, okS s = true := by
  unfold valR
  by_cases h1 : l.length > 12
  · rw [if_pos h1]; constructor
    · intro h; exact absurd h (by decide)
    · intro h; omega
  · rw [if_neg h1]
    by_cases h2 : l.all okS = true
    · rw [if_pos h2]; exact ⟨fun _ => ⟨by omega, List.all_eq_true.1 h2⟩, fun _ => rfl⟩
    · rw [if_neg h2]; constructor
      · intro h; exact absurd h (by decide)
      · intro h; exact absurd (List.all_eq_true.2 h.2) h2
theorem plB_2 (p q : S23) : plB [p, q] = true ↔ inR p.f0 p.f1 ∧ inR q.f0 q.f1 := by
  rw [← far_in, ← far_in]
  unfold plB
  rw [List.any_cons, List.any_cons, List.any_nil, Bool.or_false]
  cases farB p <;> cases farB q <;> simp
theorem okS_iff (s : S55) : okS s = true ↔ inR s.f0.f0 s.f0.f1 ∧ inR s.f1.f0 s.f1.f1 ∧ ¬ (s.f0.f0 = s.f1.f0 ∧ s.f0.f1 = s.f1.f1) := by
  unfold okS
  rw [Bool.and_eq_true, plB_2]
  simp [and_assoc]
  intro _ _
  omega
theorem bet_turn (a b c d e f : Int) : bet (-b) a (-d) c (-f) e ↔ bet a b c d e f := by unfold bet; omega
theorem bet_move (a b c d e f u v : Int) : bet (a + u) (b + v) (c + u) (d + v) (e + u) (f + v) ↔ bet a b c d e f := by unfold bet; omega
theorem sdI_turn (a b c d e f : Int) : sdI (-b) a (-d) c (-f) e = sdI a b c d e f := by unfold sdI; grind
theorem sdI_move (a b c d e f u v : Int) : sdI (a + u) (b + v) (c + u) (d + v) (e + u) (f + v) = sdI a b c d e f := by unfold sdI; grind
theorem tB_turn (a b c d e f g h : Int) : tB (-b) a (-d) c (-f) e (-h) g = tB a b c d e f g h := decide_eq_decide.2 (by
  unfold touch1
  rw [sdI_turn, sdI_turn, sdI_turn, sdI_turn, bet_turn, bet_turn, bet_turn, bet_turn])
theorem tB_move (a b c d e f g h u v : Int) : tB (a + u) (b + v) (c + u) (d + v) (e + u) (f + v) (g + u) (h + v) = tB a b c d e f g h := decide_eq_decide.2 (by
  unfold touch1
  rw [sdI_move, sdI_move, sdI_move, sdI_move, bet_move, bet_move, bet_move, bet_move])
theorem any_mp (c : S23 → S23) (p : S55 → Bool) (l : List S55) : (mp c l).any p = l.any fun s => p ⟨c s.f0, c s.f1⟩ := by unfold mp; rw [List.any_map]; rfl
theorem trn_in {p : S23} (h : inR p.f0 p.f1) : trn p = ⟨-p.f1, p.f0⟩ ∧ inR (trn p).f0 (trn p).f1 := by
  have e : trn p = ⟨-p.f1, p.f0⟩ := by unfold trn; rw [w64 (by unfold inR at h; omega) (by unfold inR at h; omega)]
  refine ⟨e, ?_⟩
  rw [e]; unfold inR at h ⊢; dsimp only; omega
theorem mvp_in {p : S23} {a b : Int} (h : inR p.f0 p.f1) (h2 : ¬ bigB a b) : mvp a b p = ⟨p.f0 + a, p.f1 + b⟩ := by
  unfold mvp; unfold bigB at h2; unfold inR at h
  rw [w64 (by omega) (by omega), w64 (by omega) (by omega)]
theorem val_turn {l : List S55} (h : valR l = 0) : valR (mp trn l) = 0 := by
  obtain ⟨h1, h2⟩ := (valR_iff l).1 h
  refine (valR_iff _).2 ⟨by unfold mp; rw [List.length_map]; exact h1, fun s hs => ?_⟩
  obtain ⟨t, ht, rfl⟩ := List.mem_map.1 hs
  obtain ⟨r1, r2, r3⟩ := (okS_iff t).1 (h2 t ht)
  obtain ⟨e1, i1⟩ := trn_in r1
  obtain ⟨e2, i2⟩ := trn_in r2
  refine (okS_iff _).2 ⟨i1, i2, ?_⟩
  rw [e1, e2]; dsimp only; omega
theorem sE_turn {l : List S55} {a b c d : Int} (h : valR l = 0) : sE (mp trn l) (-b) a (-d) c = sE l a b c d := by
  unfold sE
  rw [any_mp]
  congr 1
  refine any_congr fun s hs => ?_
  obtain ⟨_, q⟩ := valR_ok h
  unfold tS
  rw [(trn_in (q s hs).1).1, (trn_in (q s hs).2).1]
  exact tB_turn ..
theorem sE_move {l : List S55} {a b c d u v : Int} (h : valR l = 0) (h2 : ¬ bigB u v) : sE (mp (mvp u v) l) (a + u) (b + v) (c + u) (d + v) = sE l a b c d := by
  unfold sE
  rw [any_mp]
  congr 1
  refine any_congr fun s hs => ?_
  obtain ⟨_, q⟩ := valR_ok h
  unfold tS
  rw [mvp_in (q s hs).1 h2, mvp_in (q s hs).2 h2]
  exact tB_move ..

theorem lkR_two {l : List S55} {a b c d : Int} (h : valR l = 0) (r1 : inR a b) (r2 : inR c d) : lkR l [] [⟨a, b⟩, ⟨c, d⟩] = 0 :=
  lkR_0 h (by simp) (by rw [(plB_2 _ _).2 ⟨r1, r2⟩]; rfl)
theorem ScreenShows (a0 : List S55) (a1_0_0 : Int) (a1_0_1 : Int) (a1_1_0 : Int) (a1_1_1 : Int) (a2_0 : Int) (a2_1 : Int) (h0 : (a0.length ≤ 9223372036854775807 ∧ ∀ x_ ∈ a0, (((Lit.int .i64 x_.f0.f0).wf = true) ∧ ((Lit.int .i64 x_.f0.f1).wf = true)) ∧ (((Lit.int .i64 x_.f1.f0).wf = true) ∧ ((Lit.int .i64 x_.f1.f1).wf = true)))) (h1_0_0 : (Lit.int .i64 a1_0_0).wf = true) (h1_0_1 : (Lit.int .i64 a1_0_1).wf = true) (h1_1_0 : (Lit.int .i64 a1_1_0).wf = true) (h1_1_1 : (Lit.int .i64 a1_1_1).wf = true) (h2_0 : (Lit.int .i64 a2_0).wf = true) (h2_1 : (Lit.int .i64 a2_1).wf = true) : ∃ k, wigeonlaw02_ScreenShows.f k a0 a1_0_0 a1_0_1 a1_1_0 a1_1_1 a2_0 a2_1 = some true := by
  refine Ev.rounds (g := fun k => wigeonlaw02_ScreenShows.f k a0 a1_0_0 a1_0_1 a1_1_0 a1_1_1 a2_0 a2_1) ?_
  unfold wigeonlaw02_ScreenShows.f
  refine evs (Long_eq _ _) ?_
  by_cases hl : a0.length > 100 ∨ ([] : List S23).length > 100
  · exact evp (decide_eq_true hl) (evb known_ev (Ev.now _))
  refine evn (by simpa using hl) (evb (Sees_ev _ _ _ _ _) ?_)
  by_cases hk : lkR a0 [] [⟨a1_0_0, a1_0_1⟩, ⟨a1_1_0, a1_1_1⟩] = 0
  · obtain ⟨hv, r1, r2⟩ := two_in hk
    have T := Turn_ev a0
    rw [TuR_0 hv, chR_0 (val_turn hv)] at T
    have t1 : wrap64 (-a1_0_1) = -a1_0_1 := w64 (by unfold inR at r1; omega) (by unfold inR at r1; omega)
    have t3 : wrap64 (-a1_1_1) = -a1_1_1 := w64 (by unfold inR at r2; omega) (by unfold inR at r2; omega)
    have q1 : inR (-a1_0_1) a1_0_0 := by unfold inR at r1 ⊢; omega
    have q2 : inR (-a1_1_1) a1_1_0 := by unfold inR at r2 ⊢; omega
    have S := Sees_ev (mp trn a0) (-a1_0_1) a1_0_0 (-a1_1_1) a1_1_0
    rw [SeR_0 (lkR_two (val_turn hv) q1 q2), sE_turn hv] at S
    rw [SeR_0 hk]
    refine evp rfl (evb T (evs (show wigeonref02_Turned.f a1_0_0 a1_0_1 = some (-a1_0_1, a1_0_0) by unfold wigeonref02_Turned.f; rw [t1]) (evs (show wigeonref02_Turned.f a1_1_0 a1_1_1 = some (-a1_1_1, a1_1_0) by unfold wigeonref02_Turned.f; rw [t3]) (evb S (evp rfl (evp rfl ?_))))))
    rw [show (sE a0 a1_0_0 a1_0_1 a1_1_0 a1_1_1 != sE a0 a1_0_0 a1_0_1 a1_1_0 a1_1_1) = false by simp]
    refine Ev.step (fun k => wigeonlaw02_ScreenShows.j0.eq_2 ..) (evn (by decide) (evb (Move_ev _ _ _) ?_))
    by_cases hb : bigB a2_0 a2_1
    · rw [MvR_1 hv hb]; exact evn (by decide) (evb known_ev (Ev.now _))
    · rw [MvR_0 hv hb]
      by_cases hm : valR (mp (mvp a2_0 a2_1) a0) = 0
      · rw [chR_0 hm]
        refine evp rfl (evb (Sees_ev _ _ _ _ _) ?_)
        have e : ∀ x y : Int, inR x y → wrap64 (x + a2_0) = x + a2_0 ∧ wrap64 (y + a2_1) = y + a2_1 := fun x y h => by
          unfold inR at h; unfold bigB at hb; exact ⟨w64 (by omega) (by omega), w64 (by omega) (by omega)⟩
        rw [(e _ _ r1).1, (e _ _ r1).2, (e _ _ r2).1, (e _ _ r2).2]
        by_cases hz : lkR (mp (mvp a2_0 a2_1) a0) [] [⟨a1_0_0 + a2_0, a1_0_1 + a2_1⟩, ⟨a1_1_0 + a2_0, a1_1_1 + a2_1⟩] = 0
        · rw [SeR_0 hz, sE_move hv hb]
          exact evp rfl (evp (by simp) (evb known_ev (Ev.now _)))
        · rw [SeR_n hz]; exact evn hz (evb known_ev (Ev.now _))
      · rw [chR_n hm]; exact evn hm (evb known_ev (Ev.now _))
  · rw [SeR_n hk]; exact evn hk (evb known_ev (Ev.now _))

end Go.Proofs.Ytgkgednbmfinnaa.Pure

