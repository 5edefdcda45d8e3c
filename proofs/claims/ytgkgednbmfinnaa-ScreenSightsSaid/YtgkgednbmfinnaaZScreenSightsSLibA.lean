/- Of the text SLibA, what the row of ScreenSights reaches. -/
import Derived.Test.YtgkgednbmfinnaaZScreenSightsSCx15
namespace Go.Proofs.Ytgkgednbmfinnaa.Pure
set_option linter.unusedVariables false
set_option linter.unusedSimpArgs false
open Go.RowKit Go.Proofs.Ytgkgednbmfinnaa.SC Go.Proofs.YtgkgednbmfinnaaW.PrintWords Go.Proofs.YtgkgednbmfinnaaW.PrintLast Go.Proofs.YtgkgednbmfinnaaW.PrintMore
theorem np {a b : Int} (h : 0 ≤ a) (k : b ≤ 0) : a * b ≤ 0 := by
  have := Int.mul_nonneg h (show 0 ≤ -b by omega)
  rw [Int.mul_neg] at this; omega
theorem nn {a b : Int} (h : a ≤ 0) (k : b ≤ 0) : 0 ≤ a * b := by
  have := Int.mul_nonneg (show 0 ≤ -a by omega) (show 0 ≤ -b by omega)
  rw [Int.neg_mul, Int.mul_neg] at this; omega
theorem pn {a b : Int} (h : a ≤ 0) (k : 0 ≤ b) : a * b ≤ 0 := by rw [Int.mul_comm]; exact np k h
theorem sq0 (a : Int) : 0 ≤ a * a := by
  by_cases h : 0 ≤ a
  · exact Int.mul_nonneg h h
  · exact nn (by omega) (by omega)
theorem sqp {a : Int} (h : a ≠ 0) : 0 < a * a := by
  by_cases k : 0 < a
  · exact Int.mul_pos k k
  · have := Int.mul_pos (show 0 < -a by omega) (show 0 < -a by omega)
    rw [Int.neg_mul, Int.mul_neg] at this; omega
theorem neg_cases {a b : Int} (h : a * b < 0) : (a < 0 ∧ 0 < b) ∨ (0 < a ∧ b < 0) := by
  by_cases ha : 0 ≤ a
  · by_cases hb : 0 ≤ b
    · have := Int.mul_nonneg ha hb; omega
    · by_cases h0 : a = 0
      · subst h0; simp at h
      · exact Or.inr ⟨by omega, by omega⟩
  · by_cases hb : b ≤ 0
    · have := nn (show a ≤ 0 by omega) hb; omega
    · exact Or.inl ⟨by omega, by omega⟩
theorem npos_cases {a b : Int} (h : a * b ≤ 0) : a = 0 ∨ b = 0 ∨ (a < 0 ∧ 0 < b) ∨ (0 < a ∧ b < 0) := by
  by_cases h1 : a * b < 0
  · exact Or.inr (Or.inr (neg_cases h1))
  · have := Int.mul_eq_zero.1 (show a * b = 0 by omega)
    omega
theorem sgn {t1 t2 u v : Int} (h : t1 * v = t2 * u) (k : u * v ≤ 0) (hv : v ≠ 0) : t1 * t2 ≤ 0 := by
  by_cases hp : t1 * t2 ≤ 0
  · exact hp
  · have e : (t1 * t2) * (v * v) = (t2 * t2) * (u * v) := by grind
    have a := Int.mul_pos (show 0 < t1 * t2 by omega) (sqp hv)
    have b := np (sq0 t2) k
    omega
theorem part0 {t1 t2 s1 s2 A B C E m : Int} (a1 : 0 < t1) (a2 : t2 < 0) (a3 : 0 < s2) (a4 : s1 < 0) (hD : s2 - s1 = t1 - t2) (hx : t1 * B - t2 * A = s2 * C - s1 * E) : ¬ (A < m ∧ B < m ∧ m ≤ C ∧ m ≤ E) := by
  rintro ⟨h1, h2, h3, h4⟩
  have e : t1 * (B - m) + (-t2) * (A - m) = s2 * (C - m) + (-s1) * (E - m) := by grind
  have x1 := Int.mul_pos a1 (show 0 < m - B by omega)
  have x2 := Int.mul_pos (show 0 < -t2 by omega) (show 0 < m - A by omega)
  have x3 := Int.mul_nonneg (show 0 ≤ s2 by omega) (show 0 ≤ C - m by omega)
  have x4 := Int.mul_nonneg (show 0 ≤ -s1 by omega) (show 0 ≤ E - m by omega)
  have e1 : t1 * (B - m) = - (t1 * (m - B)) := by grind
  have e2 : (-t2) * (A - m) = - ((-t2) * (m - A)) := by grind
  omega
theorem part1 {t1 t2 s1 s2 A B C E : Int} (h1 : s1 * s2 < 0) (h2 : t1 * t2 < 0) (hD : s2 - s1 = t1 - t2) (hx : t1 * B - t2 * A = s2 * C - s1 * E) : ¬ (max A B < min C E) := by
  intro h
  rcases neg_cases h1 with ⟨p, q⟩ | ⟨p, q⟩ <;> rcases neg_cases h2 with ⟨r, s⟩ | ⟨r, s⟩
  · omega
  · exact part0 (m := min C E) r s q p hD hx (by omega)
  · exact part0 (m := min C E) (t1 := -t1) (t2 := -t2) (s1 := -s1) (s2 := -s2) (A := A) (B := B) (C := C) (E := E) (by omega) (by omega) (by omega) (by omega) (by omega) (by grind) (by omega)
  · omega
/-- c lies between a and b, on the axes -/
def bet (ax ay bx b_y px py : Int) : Prop := min ax bx ≤ px ∧ px ≤ max ax bx ∧ min ay b_y ≤ py ∧ py ≤ max ay b_y
instance (a b c d e f : Int) : Decidable (bet a b c d e f) := inferInstanceAs (Decidable (_ ∧ _))
def sdI (ax ay bx b_y px py : Int) : Int := (bx - ax) * (py - ay) - (b_y - ay) * (px - ax)
theorem sdI_D (ax ay bx b_y cx cy dx dy : Int) : sdI ax ay bx b_y dx dy - sdI ax ay bx b_y cx cy = sdI cx cy dx dy ax ay - sdI cx cy dx dy bx b_y := by unfold sdI; grind
theorem sdI_x (ax ay bx b_y cx cy dx dy : Int) : sdI cx cy dx dy ax ay * bx - sdI cx cy dx dy bx b_y * ax = sdI ax ay bx b_y dx dy * cx - sdI ax ay bx b_y cx cy * dx := by unfold sdI; grind
theorem sdI_y (ax ay bx b_y cx cy dx dy : Int) : sdI cx cy dx dy ax ay * b_y - sdI cx cy dx dy bx b_y * ay = sdI ax ay bx b_y dx dy * cy - sdI ax ay bx b_y cx cy * dy := by unfold sdI; grind
theorem sd_self1 (ax ay bx b_y : Int) : sdI ax ay bx b_y ax ay = 0 := by unfold sdI; grind
theorem sd_swap (ax ay bx b_y px py : Int) : sdI bx b_y ax ay px py = - sdI ax ay bx b_y px py := by unfold sdI; grind
theorem btw_mul {a b c : Int} (h1 : min a b ≤ c) (h2 : c ≤ max a b) : (a - c) * (b - c) ≤ 0 := by
  by_cases h : a ≤ b
  · exact pn (by omega) (by omega)
  · exact np (by omega) (by omega)
/-- an end on the other line -/
theorem endOn (ax ay bx b_y cx cy dx dy : Int) (h0 : sdI ax ay bx b_y cx cy = 0) (hb : bet ax ay bx b_y cx cy) : sdI cx cy dx dy ax ay * sdI cx cy dx dy bx b_y ≤ 0 := by
  have hD := sdI_D ax ay bx b_y cx cy dx dy
  have hx := sdI_x ax ay bx b_y cx cy dx dy
  have hy := sdI_y ax ay bx b_y cx cy dx dy
  rw [h0] at hD hx hy
  obtain ⟨b1, b2, b3, b4⟩ := hb
  by_cases e : bx = cx
  · by_cases e2 : b_y = cy
    · rw [e, e2, sd_self1]; simp
    · refine sgn (u := ay - cy) (v := b_y - cy) ?_ (btw_mul b3 b4) (by omega)
      generalize sdI cx cy dx dy ax ay = t1 at *
      generalize sdI cx cy dx dy bx b_y = t2 at *
      generalize sdI ax ay bx b_y dx dy = s2 at *
      grind
  · refine sgn (u := ax - cx) (v := bx - cx) ?_ (btw_mul b1 b2) (by omega)
    generalize sdI cx cy dx dy ax ay = t1 at *
    generalize sdI cx cy dx dy bx b_y = t2 at *
    generalize sdI ax ay bx b_y dx dy = s2 at *
    grind
theorem conv {t1 t2 s A B C : Int} (hs : s ≠ 0) (hD : s = t1 - t2) (ht : t1 * t2 ≤ 0) (hx : t1 * B - t2 * A = s * C) : min A B ≤ C ∧ C ≤ max A B := by
  have key : ∀ {t1 t2 s : Int}, 0 < s → s = t1 - t2 → 0 ≤ t1 → t2 ≤ 0 → t1 * B - t2 * A = s * C → min A B ≤ C ∧ C ≤ max A B := by
    intro t1 t2 s hs hD h1 h2 hx
    have z : ∀ m : Int, t1 * (B - m) + (-t2) * (A - m) = s * (C - m) := by intro m; subst hD; grind
    refine ⟨?_, ?_⟩
    · by_cases q : min A B ≤ C
      · exact q
      · have e := z (min A B)
        have x1 := Int.mul_nonneg h1 (show 0 ≤ B - min A B by omega)
        have x2 := Int.mul_nonneg (show 0 ≤ -t2 by omega) (show 0 ≤ A - min A B by omega)
        have x3 := Int.mul_pos hs (show 0 < min A B - C by omega)
        have e2 : s * (C - min A B) = - (s * (min A B - C)) := by grind
        omega
    · by_cases q : C ≤ max A B
      · exact q
      · have e := z (max A B)
        have x1 := np h1 (show B - max A B ≤ 0 by omega)
        have x2 := np (show 0 ≤ -t2 by omega) (show A - max A B ≤ 0 by omega)
        have x3 := Int.mul_pos hs (show 0 < C - max A B by omega)
        omega
  rcases npos_cases ht with h | h | ⟨h, k⟩ | ⟨h, k⟩
  · by_cases p : 0 < s
    · exact key p hD (by omega) (by omega) hx
    · exact key (t1 := -t1) (t2 := -t2) (s := -s) (by omega) (by omega) (by omega) (by omega) (by grind)
  · by_cases p : 0 < s
    · exact key p hD (by omega) (by omega) hx
    · exact key (t1 := -t1) (t2 := -t2) (s := -s) (by omega) (by omega) (by omega) (by omega) (by grind)
  · exact key (t1 := -t1) (t2 := -t2) (s := -s) (by omega) (by omega) (by omega) (by omega) (by grind)
  · exact key (by omega) hD (by omega) (by omega) hx
theorem onLine {ax ay bx b_y cx cy : Int} (h : sdI ax ay bx b_y cx cy = 0) (hn : ax ≠ bx) (h1 : min ax bx ≤ cx) (h2 : cx ≤ max ax bx) : min ay b_y ≤ cy ∧ cy ≤ max ay b_y := by
  unfold sdI at h
  have := conv (t1 := cx - ax) (t2 := cx - bx) (s := bx - ax) (A := ay) (B := b_y) (C := cy) (by omega) (by omega) (by
    have := btw_mul h1 h2
    have e : (cx - ax) * (cx - bx) = (ax - cx) * (bx - cx) := by grind
    omega) (by grind)
  exact this
def touch1 (ax ay bx b_y cx cy dx dy : Int) : Prop :=
  (sdI ax ay bx b_y cx cy = 0 ∧ bet ax ay bx b_y cx cy) ∨ (sdI ax ay bx b_y dx dy = 0 ∧ bet ax ay bx b_y dx dy) ∨ (sdI cx cy dx dy ax ay = 0 ∧ bet cx cy dx dy ax ay) ∨ (sdI cx cy dx dy bx b_y = 0 ∧ bet cx cy dx dy bx b_y) ∨
    (sdI ax ay bx b_y cx cy * sdI ax ay bx b_y dx dy < 0 ∧ sdI cx cy dx dy ax ay * sdI cx cy dx dy bx b_y < 0)
def touch2 (ax ay bx b_y cx cy dx dy : Int) : Prop :=
  ¬ (max ax bx < min cx dx ∨ max cx dx < min ax bx) ∧ ¬ (max ay b_y < min cy dy ∨ max cy dy < min ay b_y) ∧ sdI ax ay bx b_y cx cy * sdI ax ay bx b_y dx dy ≤ 0 ∧ sdI cx cy dx dy ax ay * sdI cx cy dx dy bx b_y ≤ 0
theorem touch2_swap {ax ay bx b_y cx cy dx dy : Int} (h : touch2 cx cy dx dy ax ay bx b_y) : touch2 ax ay bx b_y cx cy dx dy := by
  obtain ⟨h1, h2, h3, h4⟩ := h
  exact ⟨by omega, by omega, h4, h3⟩
theorem touch2_flip {ax ay bx b_y cx cy dx dy : Int} (h : touch2 ax ay bx b_y dx dy cx cy) : touch2 ax ay bx b_y cx cy dx dy := by
  obtain ⟨h1, h2, h3, h4⟩ := h
  refine ⟨by omega, by omega, by rw [Int.mul_comm]; exact h3, ?_⟩
  rw [sd_swap dx dy cx cy ax ay, sd_swap dx dy cx cy bx b_y, Int.neg_mul_neg]; exact h4
theorem touch2_one {ax ay bx b_y cx cy dx dy : Int} (h0 : sdI ax ay bx b_y cx cy = 0) (hb : bet ax ay bx b_y cx cy) : touch2 ax ay bx b_y cx cy dx dy := by
  have e := endOn ax ay bx b_y cx cy dx dy h0 hb
  obtain ⟨b1, b2, b3, b4⟩ := hb
  exact ⟨by omega, by omega, by rw [h0, Int.zero_mul]; exact Int.le_refl _, e⟩
theorem touch2_of1 {ax ay bx b_y cx cy dx dy : Int} (h : touch1 ax ay bx b_y cx cy dx dy) : touch2 ax ay bx b_y cx cy dx dy := by
  rcases h with ⟨h0, hb⟩ | ⟨h0, hb⟩ | ⟨h0, hb⟩ | ⟨h0, hb⟩ | ⟨h1, h2⟩
  · exact touch2_one h0 hb
  · exact touch2_flip (touch2_one h0 hb)
  · exact touch2_swap (touch2_one h0 hb)
  · exact touch2_swap (touch2_flip (touch2_one h0 hb))
  · have hD := sdI_D ax ay bx b_y cx cy dx dy
    have hx := sdI_x ax ay bx b_y cx cy dx dy
    have hy := sdI_y ax ay bx b_y cx cy dx dy
    have kD := sdI_D cx cy dx dy ax ay bx b_y
    have kx := sdI_x cx cy dx dy ax ay bx b_y
    have ky := sdI_y cx cy dx dy ax ay bx b_y
    refine ⟨?_, ?_, by omega, by omega⟩
    · rintro (h | h)
      · exact part1 h1 h2 hD hx h
      · exact part1 h2 h1 kD kx h
    · rintro (h | h)
      · exact part1 h1 h2 hD hy h
      · exact part1 h2 h1 kD ky h
theorem touch1_swap {ax ay bx b_y cx cy dx dy : Int} (h : touch1 cx cy dx dy ax ay bx b_y) : touch1 ax ay bx b_y cx cy dx dy := by
  rcases h with h | h | h | h | ⟨h1, h2⟩
  · exact Or.inr (Or.inr (Or.inl h))
  · exact Or.inr (Or.inr (Or.inr (Or.inl h)))
  · exact Or.inl h
  · exact Or.inr (Or.inl h)
  · exact Or.inr (Or.inr (Or.inr (Or.inr ⟨h2, h1⟩)))
theorem bet_flip {ax ay bx b_y px py : Int} (h : bet ax ay bx b_y px py) : bet bx b_y ax ay px py := by
  obtain ⟨h1, h2, h3, h4⟩ := h; exact ⟨by omega, by omega, by omega, by omega⟩
theorem touch1_flip {ax ay bx b_y cx cy dx dy : Int} (h : touch1 ax ay bx b_y dx dy cx cy) : touch1 ax ay bx b_y cx cy dx dy := by
  rcases h with h | h | h | h | ⟨h1, h2⟩
  · exact Or.inr (Or.inl h)
  · exact Or.inl h
  · refine Or.inr (Or.inr (Or.inl ⟨?_, bet_flip h.2⟩)); rw [sd_swap, h.1]; rfl
  · refine Or.inr (Or.inr (Or.inr (Or.inl ⟨?_, bet_flip h.2⟩))); rw [sd_swap, h.1]; rfl
  · refine Or.inr (Or.inr (Or.inr (Or.inr ⟨by rw [Int.mul_comm]; exact h1, ?_⟩)))
    rw [sd_swap dx dy cx cy ax ay, sd_swap dx dy cx cy bx b_y, Int.neg_mul_neg]; exact h2
theorem touch1_one {ax ay bx b_y cx cy dx dy : Int} (h : touch2 ax ay bx b_y cx cy dx dy) (h0 : sdI ax ay bx b_y cx cy = 0) : touch1 ax ay bx b_y cx cy dx dy := by
  obtain ⟨h1, h2, h3, h4⟩ := h
  have hD := sdI_D ax ay bx b_y cx cy dx dy
  have hx := sdI_x ax ay bx b_y cx cy dx dy
  have hy := sdI_y ax ay bx b_y cx cy dx dy
  by_cases hs : sdI ax ay bx b_y dx dy = 0
  · have t12 : sdI cx cy dx dy ax ay = 0 ∧ sdI cx cy dx dy bx b_y = 0 := by
      have e : sdI cx cy dx dy ax ay = sdI cx cy dx dy bx b_y := by omega
      rw [e] at h4
      have := sq0 (sdI cx cy dx dy bx b_y)
      have := Int.mul_eq_zero.1 (show sdI cx cy dx dy bx b_y * sdI cx cy dx dy bx b_y = 0 by omega)
      omega
    by_cases n1 : ax = bx
    · by_cases n2 : cx = dx
      · have : ax = cx := by omega
        by_cases q1 : min ay b_y ≤ cy ∧ cy ≤ max ay b_y
        · exact Or.inl ⟨h0, by omega, by omega, q1.1, q1.2⟩
        · by_cases q2 : min ay b_y ≤ dy ∧ dy ≤ max ay b_y
          · exact Or.inr (Or.inl ⟨hs, by omega, by omega, q2.1, q2.2⟩)
          · exact Or.inr (Or.inr (Or.inl ⟨t12.1, by omega, by omega, by omega, by omega⟩))
      · have p := onLine t12.1 n2 (by omega) (by omega)
        exact Or.inr (Or.inr (Or.inl ⟨t12.1, by omega, by omega, p.1, p.2⟩))
    · by_cases q1 : min ax bx ≤ cx ∧ cx ≤ max ax bx
      · have p := onLine h0 n1 q1.1 q1.2
        exact Or.inl ⟨h0, q1.1, q1.2, p.1, p.2⟩
      · by_cases q2 : min ax bx ≤ dx ∧ dx ≤ max ax bx
        · have p := onLine hs n1 q2.1 q2.2
          exact Or.inr (Or.inl ⟨hs, q2.1, q2.2, p.1, p.2⟩)
        · have p := onLine t12.1 (show cx ≠ dx by omega) (by omega) (by omega)
          exact Or.inr (Or.inr (Or.inl ⟨t12.1, by omega, by omega, p.1, p.2⟩))
  · rw [h0] at hD hx hy
    rw [Int.zero_mul, Int.sub_zero] at hx hy
    have x := conv hs (by omega) h4 hx
    have y := conv hs (by omega) h4 hy
    exact Or.inl ⟨h0, x.1, x.2, y.1, y.2⟩
theorem touch1_of2 {ax ay bx b_y cx cy dx dy : Int} (h : touch2 ax ay bx b_y cx cy dx dy) : touch1 ax ay bx b_y cx cy dx dy := by
  by_cases e1 : sdI ax ay bx b_y cx cy = 0
  · exact touch1_one h e1
  by_cases e2 : sdI ax ay bx b_y dx dy = 0
  · exact touch1_flip (touch1_one (touch2_flip h) e2)
  by_cases e3 : sdI cx cy dx dy ax ay = 0
  · exact touch1_swap (touch1_one (touch2_swap h) e3)
  by_cases e4 : sdI cx cy dx dy bx b_y = 0
  · exact touch1_swap (touch1_flip (touch1_one (touch2_flip (touch2_swap h)) e4))
  obtain ⟨_, _, h3, h4⟩ := h
  refine Or.inr (Or.inr (Or.inr (Or.inr ⟨?_, ?_⟩)))
  · rcases npos_cases h3 with z | z | ⟨z, y⟩ | ⟨z, y⟩
    · exact absurd z e1
    · exact absurd z e2
    · have := Int.mul_pos (show 0 < - sdI ax ay bx b_y cx cy by omega) y; rw [Int.neg_mul] at this; omega
    · have := Int.mul_pos z (show 0 < - sdI ax ay bx b_y dx dy by omega); rw [Int.mul_neg] at this; omega
  · rcases npos_cases h4 with z | z | ⟨z, y⟩ | ⟨z, y⟩
    · exact absurd z e3
    · exact absurd z e4
    · have := Int.mul_pos (show 0 < - sdI cx cy dx dy ax ay by omega) y; rw [Int.neg_mul] at this; omega
    · have := Int.mul_pos z (show 0 < - sdI cx cy dx dy bx b_y by omega); rw [Int.mul_neg] at this; omega
theorem touch12 (ax ay bx b_y cx cy dx dy : Int) : touch1 ax ay bx b_y cx cy dx dy ↔ touch2 ax ay bx b_y cx cy dx dy := ⟨touch2_of1, touch1_of2⟩
theorem touch1_comm (ax ay bx b_y cx cy dx dy : Int) : touch1 cx cy dx dy ax ay bx b_y ↔ touch1 ax ay bx b_y cx cy dx dy := ⟨touch1_swap, touch1_swap⟩
theorem touch1_rev (ax ay bx b_y cx cy dx dy : Int) : touch1 ax ay bx b_y dx dy cx cy ↔ touch1 ax ay bx b_y cx cy dx dy := ⟨touch1_flip, touch1_flip⟩

theorem evp {α : Type} {c : Prop} [Decidable c] {f g : Nat → Option α} {r : α} (h : c) (k : Ev f r) : Ev (fun n => if c then f n else g n) r :=
  Ev.congr (fun _ => if_pos h) k
theorem evn {α : Type} {c : Prop} [Decidable c] {f g : Nat → Option α} {r : α} (h : ¬ c) (k : Ev g r) : Ev (fun n => if c then f n else g n) r :=
  Ev.congr (fun _ => if_neg h) k
theorem evb {α β : Type} {g : Nat → Option α} {f : Nat → α → Option β} {a : α} {r : β} (h : Ev g a) (k : Ev (fun n => f n a) r) : Ev (fun n => (g n).bind (f n)) r := Ev.bind h k
theorem evs {α β : Type} {x : Option α} {f : Nat → α → Option β} {a : α} {r : β} (h : x = some a) (k : Ev (fun n => f n a) r) : Ev (fun n => x.bind (f n)) r := by
  subst h; exact k
theorem ev_uniq {α : Type} {g : Nat → Option α} {r s : α} (h : Ev g r) (k : Ev g s) : r = s := by
  obtain ⟨a, h⟩ := h
  obtain ⟨b, k⟩ := k
  have x := h (max a b) (by omega)
  have y := k (max a b) (by omega)
  rw [x] at y; exact Option.some.inj y
theorem w64 {n : Int} (h : -9223372036854775808 ≤ n) (h2 : n ≤ 9223372036854775807) : wrap64 n = n := by unfold wrap64; omega
theorem rd_at (l : List Int) (i : Nat) (h : i < l.length) : rd l (i : Int) = l[i] := by
  simp [rd, List.getD_eq_getElem?_getD, List.getElem?_eq_getElem h]
theorem rdP_at (l : List S23) (i : Nat) (h : i < l.length) : rd_T23 l (i : Int) = l[i] := by
  simp [rd_T23, List.getD_eq_getElem?_getD, List.getElem?_eq_getElem h]
theorem rdX_at (l : List S55) (i : Nat) (h : i < l.length) : rd_T55 l (i : Int) = l[i] := by
  simp [rd_T55, List.getD_eq_getElem?_getD, List.getElem?_eq_getElem h]
theorem mn_eq (a b : Int) : mn a b = min a b := by unfold mn; split <;> omega
theorem mx_eq (a b : Int) : mx a b = max a b := by unfold mx; split <;> omega
theorem mulb {x y a b : Int} (h1 : -a ≤ x) (h2 : x ≤ a) (h3 : -b ≤ y) (h4 : y ≤ b) : -(a * b) ≤ x * y ∧ x * y ≤ a * b := by
  have p1 := Int.mul_nonneg (show 0 ≤ a - x by omega) (show 0 ≤ b + y by omega)
  have p2 := Int.mul_nonneg (show 0 ≤ a + x by omega) (show 0 ≤ b - y by omega)
  have p3 := Int.mul_nonneg (show 0 ≤ a - x by omega) (show 0 ≤ b - y by omega)
  have p4 := Int.mul_nonneg (show 0 ≤ a + x by omega) (show 0 ≤ b + y by omega)
  have e1 : (a - x) * (b + y) + (a + x) * (b - y) = 2 * (a * b) - 2 * (x * y) := by grind
  have e2 : (a - x) * (b - y) + (a + x) * (b + y) = 2 * (a * b) + 2 * (x * y) := by grind
  omega

def inR (a b : Int) : Prop := -100 ≤ a ∧ a ≤ 100 ∧ -100 ≤ b ∧ b ≤ 100
theorem far_in (p : S23) : farB p = false ↔ inR p.f0 p.f1 := by
  unfold farB inR
  simp only [Bool.or_eq_false_iff, decide_eq_false_iff_not]
  omega
def plB (l : List S23) : Bool := !(l.any farB)
theorem place_eq (l : List S23) : screen_place.f l = some (plB l) := rfl
theorem plB_in {l : List S23} (h : plB l = true) : ∀ p ∈ l, inR p.f0 p.f1 := by
  intro p hp
  unfold plB at h
  rw [Bool.not_eq_true', List.any_eq_false] at h
  exact (far_in p).1 (by simpa using h p hp)
theorem isPoint_eq (a b : Int) : wigeonref02_IsPoint.f a b = some (!farB ⟨a, b⟩) := by
  unfold wigeonref02_IsPoint.f wigeonref02_within.f farB
  by_cases h1 : a < -100
  · simp only [h1, decide_true, Bool.true_or, Bool.not_true, if_neg (show ¬ a ≥ -100 by omega), Option.bind_some]; rfl
  · rw [if_pos (show a ≥ -100 by omega), Option.bind_some]
    by_cases h2 : a > 100
    · rw [if_neg (by simp; omega)]; simp [h2]
    · rw [if_pos (by simp; omega)]
      by_cases h3 : b < -100
      · rw [if_neg (by omega)]; simp [h3]
      · rw [if_pos (by omega)]
        have e : decide (b ≤ 100) = !decide (b > 100) := by rw [← decide_not]; exact decide_eq_decide.2 (by omega)
        rw [e]; simp [h1, h2, h3]
theorem arePoints_l0 (l : List S23) (hl : l.length ≤ 100000) : ∀ d i : Nat, i + d = l.length → Ev (fun k => wigeonref02_arePoints.l0 k l (i : Int)) (plB (l.drop i))
  | 0, i, h => by
    refine Ev.step (fun k => wigeonref02_arePoints.l0.eq_2 ..) (evn (by omega) ?_)
    rw [List.drop_eq_nil_of_le (by omega)]; exact Ev.now _
  | d + 1, i, h => by
    have hlt : i < l.length := by omega
    have R := arePoints_l0 l hl d (i + 1) (by omega)
    refine Ev.step (fun k => wigeonref02_arePoints.l0.eq_2 ..) (evp (by omega) (evp (by omega) (evs (isPoint_eq _ _) ?_)))
    rw [rdP_at l i hlt, List.drop_eq_getElem_cons hlt, w64 (by omega) (by omega)]
    unfold plB at *
    rw [List.any_cons]
    have eta : (⟨(l[i]).f0, (l[i]).f1⟩ : S23) = l[i] := rfl
    rw [eta]
    cases farB l[i]
    · exact evp rfl (by rw [Bool.false_or]; exact R)
    · exact evn (by decide) (by rw [Bool.true_or]; exact Ev.now _)
theorem arePoints_ev (l : List S23) (hl : l.length ≤ 100000) : Ev (fun k => wigeonref02_arePoints.f k l) (plB l) := arePoints_l0 l hl l.length 0 (by omega)

def isg (x : Int) : Int := if x < 0 then -1 else if x > 0 then 1 else 0
theorem isg_0 (x : Int) : isg x = 0 ↔ x = 0 := by
  unfold isg
  split
  · omega
  · split <;> omega
theorem isg_mul (x y : Int) : wrap64 (isg x * isg y) < 0 ↔ x * y < 0 := by
  have e : wrap64 (isg x * isg y) = isg x * isg y := by
    have h (z : Int) : isg z = -1 ∨ isg z = 0 ∨ isg z = 1 := by
      unfold isg
      split
      · omega
      · split <;> omega
    rcases h x with h1 | h1 | h1 <;> rcases h y with h2 | h2 | h2 <;> rw [h1, h2] <;> (unfold wrap64; omega)
  rw [e]
  unfold isg
  by_cases x1 : x < 0
  · rw [if_pos x1]
    by_cases y1 : y < 0
    · rw [if_pos y1]; have := nn (show x ≤ 0 by omega) (show y ≤ 0 by omega); omega
    · rw [if_neg y1]
      by_cases y2 : y > 0
      · rw [if_pos y2]; have := Int.mul_pos (show 0 < -x by omega) y2; rw [Int.neg_mul] at this; omega
      · rw [if_neg y2]; obtain rfl : y = 0 := by omega
        simp
  · rw [if_neg x1]
    by_cases x2 : x > 0
    · rw [if_pos x2]
      by_cases y1 : y < 0
      · rw [if_pos y1]; have := Int.mul_pos x2 (show 0 < -y by omega); rw [Int.mul_neg] at this; omega
      · rw [if_neg y1]
        by_cases y2 : y > 0
        · rw [if_pos y2]; have := Int.mul_pos x2 y2; omega
        · rw [if_neg y2]; obtain rfl : y = 0 := by omega
          simp
    · rw [if_neg x2]; obtain rfl : x = 0 := by omega
      simp
theorem sdI_b {a b c d e f : Int} (h1 : inR a b) (h2 : inR c d) (h3 : inR e f) : wrap64 (wrap64 (wrap64 (c - a) * wrap64 (f - b)) - wrap64 (wrap64 (d - b) * wrap64 (e - a))) = sdI a b c d e f ∧ -80000 ≤ sdI a b c d e f ∧ sdI a b c d e f ≤ 80000 := by
  unfold inR at *
  rw [w64 (n := c - a) (by omega) (by omega), w64 (n := f - b) (by omega) (by omega), w64 (n := d - b) (by omega) (by omega), w64 (n := e - a) (by omega) (by omega)]
  have p := mulb (x := c - a) (y := f - b) (a := 200) (b := 200) (by omega) (by omega) (by omega) (by omega)
  have q := mulb (x := d - b) (y := e - a) (a := 200) (b := 200) (by omega) (by omega) (by omega) (by omega)
  unfold sdI
  generalize (c - a) * (f - b) = x at *
  generalize (d - b) * (e - a) = y at *
  rw [w64 (n := x) (by omega) (by omega), w64 (n := y) (by omega) (by omega), w64 (by omega) (by omega)]
  omega
theorem side_eq {a b c d e f : Int} (h1 : inR a b) (h2 : inR c d) (h3 : inR e f) : screen_side.f a b c d e f = some (isg (sdI a b c d e f)) := by
  unfold screen_side.f
  rw [(sdI_b h1 h2 h3).1]
  generalize sdI a b c d e f = x
  unfold cmp_Compare_int.f cmp_isNaN_int.f isg
  simp only [Option.bind_some]
  by_cases h : x < 0
  · simp [h]
  · by_cases h2 : x > 0
    · simp [h, h2]
    · simp [h, h2]
theorem rside_eq {a b c d e f : Int} (h1 : inR a b) (h2 : inR c d) (h3 : inR e f) : wigeonref02_side.f a b c d e f = some (sdI a b c d e f) := by
  unfold wigeonref02_side.f; rw [(sdI_b h1 h2 h3).1]
theorem between_eq (a b c d e f : Int) : screen_between.f a b c d e f = some (decide (bet a b c d e f)) := by
  unfold screen_between.f bet
  rw [mn_eq, mx_eq, mn_eq, mx_eq]
  by_cases h1 : min a c ≤ e
  · by_cases h2 : e ≤ max a c
    · by_cases h3 : min b d ≤ f
      · simp [h1, h2, h3]
      · simp [h1, h2, h3]
    · simp [h1, h2]
  · simp [h1]

instance (a b c d e f g h : Int) : Decidable (touch1 a b c d e f g h) := inferInstanceAs (Decidable (_ ∨ _))
instance (a b c d e f g h : Int) : Decidable (touch2 a b c d e f g h) := inferInstanceAs (Decidable (_ ∧ _))
def tB (a b c d e f g h : Int) : Bool := decide (touch1 a b c d e f g h)
theorem touch_ev {a b c d e f g h : Int} (r1 : inR a b) (r2 : inR c d) (r3 : inR e f) (r4 : inR g h) : Ev (fun k => screen_touch.f k a b c d e f g h) (tB a b c d e f g h) := by
  have eq : tB a b c d e f g h = (decide (sdI a b c d e f = 0 ∧ bet a b c d e f) || (decide (sdI a b c d g h = 0 ∧ bet a b c d g h) || (decide (sdI e f g h a b = 0 ∧ bet e f g h a b) || (decide (sdI e f g h c d = 0 ∧ bet e f g h c d) || decide (sdI a b c d e f * sdI a b c d g h < 0 ∧ sdI e f g h a b * sdI e f g h c d < 0))))) := by
    rw [show tB a b c d e f g h = decide ((sdI a b c d e f = 0 ∧ bet a b c d e f) ∨ ((sdI a b c d g h = 0 ∧ bet a b c d g h) ∨ ((sdI e f g h a b = 0 ∧ bet e f g h a b) ∨ ((sdI e f g h c d = 0 ∧ bet e f g h c d) ∨ (sdI a b c d e f * sdI a b c d g h < 0 ∧ sdI e f g h a b * sdI e f g h c d < 0))))) from decide_eq_decide.2 Iff.rfl]
    simp only [Bool.decide_or]
  have J3 : Ev (fun k => screen_touch.j3 k a b c d e f g h) (decide (sdI a b c d e f * sdI a b c d g h < 0 ∧ sdI e f g h a b * sdI e f g h c d < 0)) := by
    refine Ev.step (fun k => screen_touch.j3.eq_2 ..) (evs (side_eq r1 r2 r3) (evs (side_eq r1 r2 r4) ?_))
    by_cases q : sdI a b c d e f * sdI a b c d g h < 0
    · refine evp ((isg_mul _ _).2 q) (evs (side_eq r3 r4 r1) (evs (side_eq r3 r4 r2) ?_))
      rw [show decide (sdI a b c d e f * sdI a b c d g h < 0 ∧ sdI e f g h a b * sdI e f g h c d < 0) = decide (wrap64 (isg (sdI e f g h a b) * isg (sdI e f g h c d)) < 0) from decide_eq_decide.2 (by rw [isg_mul]; simp [q])]
      exact Ev.now _
    · refine evn (fun z => q ((isg_mul _ _).1 z)) ?_
      rw [decide_eq_false (fun z => q z.1)]; exact Ev.now _
  have J2 : ∀ x : Bool, Ev (fun k => screen_touch.j2 k x a b c d e f g h) (x || (decide (sdI e f g h c d = 0 ∧ bet e f g h c d) || decide (sdI a b c d e f * sdI a b c d g h < 0 ∧ sdI e f g h a b * sdI e f g h c d < 0))) := by
    intro x
    refine Ev.step (fun k => screen_touch.j2.eq_2 ..) ?_
    cases x
    · refine evn (by decide) (evs (side_eq r3 r4 r2) ?_)
      rw [Bool.false_or]
      by_cases z : sdI e f g h c d = 0
      · refine evp ((isg_0 _).2 z) (evs (between_eq ..) ?_)
        by_cases y : bet e f g h c d
        · rw [decide_eq_true y, show decide (sdI e f g h c d = 0 ∧ bet e f g h c d) = true from decide_eq_true ⟨z, y⟩]
          exact evp rfl (Ev.now _)
        · rw [decide_eq_false y, show decide (sdI e f g h c d = 0 ∧ bet e f g h c d) = false from decide_eq_false (fun q => y q.2), Bool.false_or]
          exact evn (by decide) J3
      · rw [show decide (sdI e f g h c d = 0 ∧ bet e f g h c d) = false from decide_eq_false (fun q => z q.1), Bool.false_or]
        exact evn (fun q => z ((isg_0 _).1 q)) J3
    · exact evp rfl (Ev.now _)
  have J1 : ∀ x : Bool, Ev (fun k => screen_touch.j1 k x a b c d e f g h) (x || (decide (sdI e f g h a b = 0 ∧ bet e f g h a b) || (decide (sdI e f g h c d = 0 ∧ bet e f g h c d) || decide (sdI a b c d e f * sdI a b c d g h < 0 ∧ sdI e f g h a b * sdI e f g h c d < 0)))) := by
    intro x
    refine Ev.step (fun k => screen_touch.j1.eq_2 ..) ?_
    cases x
    · refine evn (by decide) (evs (side_eq r3 r4 r1) ?_)
      rw [Bool.false_or]
      by_cases z : sdI e f g h a b = 0
      · refine evp ((isg_0 _).2 z) (evs (between_eq ..) ?_)
        rw [show decide (sdI e f g h a b = 0 ∧ bet e f g h a b) = decide (bet e f g h a b) from decide_eq_decide.2 (by simp [z])]
        exact J2 _
      · rw [show decide (sdI e f g h a b = 0 ∧ bet e f g h a b) = false from decide_eq_false (fun q => z q.1)]
        exact evn (fun q => z ((isg_0 _).1 q)) (J2 false)
    · exact evp rfl (Ev.now _)
  have J0 : ∀ x : Bool, Ev (fun k => screen_touch.j0 k x a b c d e f g h) (x || (decide (sdI a b c d g h = 0 ∧ bet a b c d g h) || (decide (sdI e f g h a b = 0 ∧ bet e f g h a b) || (decide (sdI e f g h c d = 0 ∧ bet e f g h c d) || decide (sdI a b c d e f * sdI a b c d g h < 0 ∧ sdI e f g h a b * sdI e f g h c d < 0))))) := by
    intro x
    refine Ev.step (fun k => screen_touch.j0.eq_2 ..) ?_
    cases x
    · refine evn (by decide) (evs (side_eq r1 r2 r4) ?_)
      rw [Bool.false_or]
      by_cases z : sdI a b c d g h = 0
      · refine evp ((isg_0 _).2 z) (evs (between_eq ..) ?_)
        rw [show decide (sdI a b c d g h = 0 ∧ bet a b c d g h) = decide (bet a b c d g h) from decide_eq_decide.2 (by simp [z])]
        exact J1 _
      · rw [show decide (sdI a b c d g h = 0 ∧ bet a b c d g h) = false from decide_eq_false (fun q => z q.1)]
        exact evn (fun q => z ((isg_0 _).1 q)) (J1 false)
    · exact evp rfl (Ev.now _)
  rw [eq]
  unfold screen_touch.f
  refine evs (side_eq r1 r2 r3) ?_
  by_cases z : sdI a b c d e f = 0
  · refine evp ((isg_0 _).2 z) (evs (between_eq ..) ?_)
    rw [show decide (sdI a b c d e f = 0 ∧ bet a b c d e f) = decide (bet a b c d e f) from decide_eq_decide.2 (by simp [z])]
    exact J0 _
  · rw [show decide (sdI a b c d e f = 0 ∧ bet a b c d e f) = false from decide_eq_false (fun q => z q.1)]
    exact evn (fun q => z ((isg_0 _).1 q)) (J0 false)
theorem mul_w {x y : Int} (h1 : -80000 ≤ x) (h2 : x ≤ 80000) (h3 : -80000 ≤ y) (h4 : y ≤ 80000) : wrap64 (x * y) = x * y := by
  have := mulb h1 h2 h3 h4
  exact w64 (by omega) (by omega)
theorem rtouch_ev {a b c d e f g h : Int} (r1 : inR a b) (r2 : inR c d) (r3 : inR e f) (r4 : inR g h) : Ev (fun k => wigeonref02_touch.f k a b c d e f g h) (tB a b c d e f g h) := by
  have eq : tB a b c d e f g h = decide (touch2 a b c d e f g h) := decide_eq_decide.2 (touch12 ..)
  rw [eq]
  have pe : ∀ x y z w : Int, wigeonref02_parted.f x y z w = some (decide (max x y < min z w ∨ max z w < min x y)) := by
    intro x y z w
    unfold wigeonref02_parted.f
    rw [mn_eq, mx_eq, mn_eq, mx_eq]
    by_cases q : max x y < min z w
    · simp [q]
    · simp [q]
  have b1 := sdI_b r1 r2 r3
  have b2 := sdI_b r1 r2 r4
  have b3 := sdI_b r3 r4 r1
  have b4 := sdI_b r3 r4 r2
  unfold wigeonref02_touch.f
  refine evs (pe ..) ?_
  by_cases p1 : max a c < min e g ∨ max e g < min a c
  · rw [decide_eq_true p1, decide_eq_false (fun q : touch2 a b c d e f g h => q.1 p1)]
    exact evp rfl (Ev.step (fun k => wigeonref02_touch.j0.eq_2 ..) (evp rfl (Ev.now _)))
  · rw [decide_eq_false p1]
    refine evn (by decide) (evs (pe ..) (Ev.step (fun k => wigeonref02_touch.j0.eq_2 ..) ?_))
    by_cases p2 : max b d < min f h ∨ max f h < min b d
    · rw [decide_eq_true p2, decide_eq_false (fun q : touch2 a b c d e f g h => q.2.1 p2)]
      exact evp rfl (Ev.now _)
    · rw [decide_eq_false p2]
      refine evn (by decide) (evs (rside_eq r1 r2 r3) (evs (rside_eq r1 r2 r4) ?_))
      rw [mul_w b1.2.1 b1.2.2 b2.2.1 b2.2.2]
      by_cases p3 : sdI a b c d e f * sdI a b c d g h ≤ 0
      · refine evp p3 (evs (rside_eq r3 r4 r1) (evs (rside_eq r3 r4 r2) ?_))
        rw [mul_w b3.2.1 b3.2.2 b4.2.1 b4.2.2, show decide (touch2 a b c d e f g h) = decide (sdI e f g h a b * sdI e f g h c d ≤ 0) from decide_eq_decide.2 ⟨fun q => q.2.2.2, fun q => ⟨p1, p2, p3, q⟩⟩]
        exact Ev.now _
      · rw [decide_eq_false (fun q : touch2 a b c d e f g h => p3 q.2.2.1)]
        exact evn p3 (Ev.now _)
theorem tB_comm (a b c d e f g h : Int) : tB e f g h a b c d = tB a b c d e f g h := decide_eq_decide.2 (touch1_comm ..)
theorem tB_rev (a b c d e f g h : Int) : tB a b c d g h e f = tB a b c d e f g h := decide_eq_decide.2 (touch1_rev ..)
theorem tB_rev1 (a b c d e f g h : Int) : tB c d a b e f g h = tB a b c d e f g h := by rw [← tB_comm, tB_rev, tB_comm]
theorem touchB_in {a b c d e f g h : Int} (r1 : inR a b) (r2 : inR c d) (r3 : inR e f) (r4 : inR g h) : touchB a b c d e f g h = tB a b c d e f g h :=
  ev_uniq (Ev.of (screen_touch.mono a b c d e f g h) (touchB_eq a b c d e f g h)) (touch_ev r1 r2 r3 r4)

theorem known_ev : Ev (fun k => wigeonlaw02_known.f k) true := Ev.of wigeonlaw02_known.mono (k := 100) (by decide +kernel)

end Go.Proofs.Ytgkgednbmfinnaa.Pure

