/- Of the text PureScreenGroups, what the row of ScreenGroups reaches. -/
import Derived.Test.YtgkgednbmfinnaaZScreenGroupsSGx19
namespace Go.Proofs.Ytgkgednbmfinnaa.Pure
set_option linter.unusedVariables false
set_option linter.unusedSimpArgs false
open Go.RowKit Go.Proofs.Ytgkgednbmfinnaa.SG Go.Proofs.YtgkgednbmfinnaaW.PrintWords Go.Proofs.YtgkgednbmfinnaaW.PrintLast Go.Proofs.YtgkgednbmfinnaaW.PrintMore
theorem np {a b : Int} (h : 0 ≤ a) (k : b ≤ 0) : a * b ≤ 0 := by
  have := Int.mul_nonneg h (show 0 ≤ -b by omega)
  rw [Int.mul_neg] at this; omega
theorem nn {a b : Int} (h : a ≤ 0) (k : b ≤ 0) : 0 ≤ a * b := by
  have := Int.mul_nonneg (show 0 ≤ -a by omega) (show 0 ≤ -b by omega)
  rw [Int.neg_mul, Int.mul_neg] at this; omega
theorem pn {a b : Int} (h : a ≤ 0) (k : 0 ≤ b) : a * b ≤ 0 := by rw [Int.mul_comm]; exact np k h
theorem sq0 (a : Int) : 0 ≤ a * a := by
  by_cases h : 0 ≤ a
  · exact Int.mul_nonneg h h
  · exact nn (by omega) (by omega)
theorem sqp {a : Int} (h : a ≠ 0) : 0 < a * a := by
  by_cases k : 0 < a
  · exact Int.mul_pos k k
  · have := Int.mul_pos (show 0 < -a by omega) (show 0 < -a by omega)
    rw [Int.neg_mul, Int.mul_neg] at this; omega
theorem neg_cases {a b : Int} (h : a * b < 0) : (a < 0 ∧ 0 < b) ∨ (0 < a ∧ b < 0) := by
  by_cases ha : 0 ≤ a
  · by_cases hb : 0 ≤ b
    · have := Int.mul_nonneg ha hb; omega
    · by_cases h0 : a = 0
      · subst h0; simp at h
      · exact Or.inr ⟨by omega, by omega⟩
  · by_cases hb : b ≤ 0
    · have := nn (show a ≤ 0 by omega) hb; omega
    · exact Or.inl ⟨by omega, by omega⟩
theorem npos_cases {a b : Int} (h : a * b ≤ 0) : a = 0 ∨ b = 0 ∨ (a < 0 ∧ 0 < b) ∨ (0 < a ∧ b < 0) := by
  by_cases h1 : a * b < 0
  · exact Or.inr (Or.inr (neg_cases h1))
  · have := Int.mul_eq_zero.1 (show a * b = 0 by omega)
    omega
theorem sgn {t1 t2 u v : Int} (h : t1 * v = t2 * u) (k : u * v ≤ 0) (hv : v ≠ 0) : t1 * t2 ≤ 0 := by
  by_cases hp : t1 * t2 ≤ 0
  · exact hp
  · have e : (t1 * t2) * (v * v) = (t2 * t2) * (u * v) := by grind
    have a := Int.mul_pos (show 0 < t1 * t2 by omega) (sqp hv)
    have b := np (sq0 t2) k
    omega
theorem part0 {t1 t2 s1 s2 A B C E m : Int} (a1 : 0 < t1) (a2 : t2 < 0) (a3 : 0 < s2) (a4 : s1 < 0) (hD : s2 - s1 = t1 - t2) (hx : t1 * B - t2 * A = s2 * C - s1 * E) : ¬ (A < m ∧ B < m ∧ m ≤ C ∧ m ≤ E) := by
  rintro ⟨h1, h2, h3, h4⟩
  have e : t1 * (B - m) + (-t2) * (A - m) = s2 * (C - m) + (-s1) * (E - m) := by grind
  have x1 := Int.mul_pos a1 (show 0 < m - B by omega)
  have x2 := Int.mul_pos (show 0 < -t2 by omega) (show 0 < m - A by omega)
  have x3 := Int.mul_nonneg (show 0 ≤ s2 by omega) (show 0 ≤ C - m by omega)
  have x4 := Int.mul_nonneg (show 0 ≤ -s1 by omega) (show 0 ≤ E - m by omega)
  have e1 : t1 * (B - m) = - (t1 * (m - B)) := by grind
  have e2 : (-t2) * (A - m) = - ((-t2) * (m - A)) := by grind
  omega
theorem part1 {t1 t2 s1 s2 A B C E : Int} (h1 : s1 * s2 < 0) (h2 : t1 * t2 < 0) (hD : s2 - s1 = t1 - t2) (hx : t1 * B - t2 * A = s2 * C - s1 * E) : ¬ (max A B < min C E) := by
  intro h
  rcases neg_cases h1 with ⟨p, q⟩ | ⟨p, q⟩ <;> rcases neg_cases h2 with ⟨r, s⟩ | ⟨r, s⟩
  · omega
  · exact part0 (m := min C E) r s q p hD hx (by omega)
  · exact part0 (m := min C E) (t1 := -t1) (t2 := -t2) (s1 := -s1) (s2 := -s2) (A := A) (B := B) (C := C) (E := E) (by omega) (by omega) (by omega) (by omega) (by omega) (by grind) (by omega)
  · omega
/-- c lies between a and b, on the axes -/
def bet (ax ay bx b_y px py : Int) : Prop := min ax bx ≤ px ∧ px ≤ max ax bx ∧ min ay b_y ≤ py ∧ py ≤ max ay b_y
instance (a b c d e f : Int) : Decidable (bet a b c d e f) := inferInstanceAs (Decidable (_ ∧ _))
def sdI (ax ay bx b_y px py : Int) : Int := (bx - ax) * (py - ay) - (b_y - ay) * (px - ax)
theorem sdI_D (ax ay bx b_y cx cy dx dy : Int) : sdI ax ay bx b_y dx dy - sdI ax ay bx b_y cx cy = sdI cx cy dx dy ax ay - sdI cx cy dx dy bx b_y := by unfold sdI; grind
theorem sdI_x (ax ay bx b_y cx cy dx dy : Int) : sdI cx cy dx dy ax ay * bx - sdI cx cy dx dy bx b_y * ax = sdI ax ay bx b_y dx dy * cx - sdI ax ay bx b_y cx cy * dx := by unfold sdI; grind
theorem sdI_y (ax ay bx b_y cx cy dx dy : Int) : sdI cx cy dx dy ax ay * b_y - sdI cx cy dx dy bx b_y * ay = sdI ax ay bx b_y dx dy * cy - sdI ax ay bx b_y cx cy * dy := by unfold sdI; grind
theorem sd_self1 (ax ay bx b_y : Int) : sdI ax ay bx b_y ax ay = 0 := by unfold sdI; grind
theorem sd_swap (ax ay bx b_y px py : Int) : sdI bx b_y ax ay px py = - sdI ax ay bx b_y px py := by unfold sdI; grind
theorem btw_mul {a b c : Int} (h1 : min a b ≤ c) (h2 : c ≤ max a b) : (a - c) * (b - c) ≤ 0 := by
  by_cases h : a ≤ b
  · exact pn (by omega) (by omega)
  · exact np (by omega) (by omega)
/-- an end on the other line -/
theorem endOn (ax ay bx b_y cx cy dx dy : Int) (h0 : sdI ax ay bx b_y cx cy = 0) (hb : bet ax ay bx b_y cx cy) : sdI cx cy dx dy ax ay * sdI cx cy dx dy bx b_y ≤ 0 := by
  have hD := sdI_D ax ay bx b_y cx cy dx dy
  have hx := sdI_x ax ay bx b_y cx cy dx dy
  have hy := sdI_y ax ay bx b_y cx cy dx dy
  rw [h0] at hD hx hy
  obtain ⟨b1, b2, b3, b4⟩ := hb
  by_cases e : bx = cx
  · by_cases e2 : b_y = cy
    · rw [e, e2, sd_self1]; simp
    · refine sgn (u := ay - cy) (v := b_y - cy) ?_ (btw_mul b3 b4) (by omega)
      generalize sdI cx cy dx dy ax ay = t1 at *
      generalize sdI cx cy dx dy bx b_y = t2 at *
      generalize sdI ax ay bx b_y dx dy = s2 at *
      grind
  · refine sgn (u := ax - cx) (v := bx - cx) ?_ (btw_mul b1 b2) (by omega)
    generalize sdI cx cy dx dy ax ay = t1 at *
    generalize sdI cx cy dx dy bx b_y = t2 at *
    generalize sdI ax ay bx b_y dx dy = s2 at *
    grind
theorem conv {t1 t2 s A B C : Int} (hs : s ≠ 0) (hD : s = t1 - t2) (ht : t1 * t2 ≤ 0) (hx : t1 * B - t2 * A = s * C) : min A B ≤ C ∧ C ≤ max A B := by
  have key : ∀ {t1 t2 s : Int}, 0 < s → s = t1 - t2 → 0 ≤ t1 → t2 ≤ 0 → t1 * B - t2 * A = s * C → min A B ≤ C ∧ C ≤ max A B := by
    intro t1 t2 s hs hD h1 h2 hx
    have z : ∀ m : Int, t1 * (B - m) + (-t2) * (A - m) = s * (C - m) := by intro m; subst hD; grind
    refine ⟨?_, ?_⟩
    · by_cases q : min A B ≤ C
      · exact q
      · have e := z (min A B)
        have x1 := Int.mul_nonneg h1 (show 0 ≤ B - min A B by omega)
        have x2 := Int.mul_nonneg (show 0 ≤ -t2 by omega) (show 0 ≤ A - min A B by omega)
        have x3 := Int.mul_pos hs (show 0 < min A B - C by omega)
        have e2 : s * (C - min A B) = - (s * (min A B - C)) := by grind
        omega
    · by_cases q : C ≤ max A B
      · exact q
      · have e := z (max A B)
        have x1 := np h1 (show B - max A B ≤ 0 by omega)
        have x2 := np (show 0 ≤ -t2 by omega) (show A - max A B ≤ 0 by omega)
        have x3 := Int.mul_pos hs (show 0 < C - max A B by omega)
        omega
  rcases npos_cases ht with h | h | ⟨h, k⟩ | ⟨h, k⟩
  · by_cases p : 0 < s
    · exact key p hD (by omega) (by omega) hx
    · exact key (t1 := -t1) (t2 := -t2) (s := -s) (by omega) (by omega) (by omega) (by omega) (by grind)
  · by_cases p : 0 < s
    · exact key p hD (by omega) (by omega) hx
    · exact key (t1 := -t1) (t2 := -t2) (s := -s) (by omega) (by omega) (by omega) (by omega) (by grind)
  · exact key (t1 := -t1) (t2 := -t2) (s := -s) (by omega) (by omega) (by omega) (by omega) (by grind)
  · exact key (by omega) hD (by omega) (by omega) hx
theorem onLine {ax ay bx b_y cx cy : Int} (h : sdI ax ay bx b_y cx cy = 0) (hn : ax ≠ bx) (h1 : min ax bx ≤ cx) (h2 : cx ≤ max ax bx) : min ay b_y ≤ cy ∧ cy ≤ max ay b_y := by
  unfold sdI at h
  have := conv (t1 := cx - ax) (t2 := cx - bx) (s := bx - ax) (A := ay) (B := b_y) (C := cy) (by omega) (by omega) (by
    have := btw_mul h1 h2
    have e : (cx - ax) * (cx - bx) = (ax - cx) * (bx - cx) := by grind
    omega) (by grind)
  exact this
def touch1 (ax ay bx b_y cx cy dx dy : Int) : Prop :=
  (sdI ax ay bx b_y cx cy = 0 ∧ bet ax ay bx b_y cx cy) ∨ (sdI ax ay bx b_y dx dy = 0 ∧ bet ax ay bx b_y dx dy) ∨ (sdI cx cy dx dy ax ay = 0 ∧ bet cx cy dx dy ax ay) ∨ (sdI cx cy dx dy bx b_y = 0 ∧ bet cx cy dx dy bx b_y) ∨
    (sdI ax ay bx b_y cx cy * sdI ax ay bx b_y dx dy < 0 ∧ sdI cx cy dx dy ax ay * sdI cx cy dx dy bx b_y < 0)
def touch2 (ax ay bx b_y cx cy dx dy : Int) : Prop :=
  ¬ (max ax bx < min cx dx ∨ max cx dx < min ax bx) ∧ ¬ (max ay b_y < min cy dy ∨ max cy dy < min ay b_y) ∧ sdI ax ay bx b_y cx cy * sdI ax ay bx b_y dx dy ≤ 0 ∧ sdI cx cy dx dy ax ay * sdI cx cy dx dy bx b_y ≤ 0
theorem touch2_swap {ax ay bx b_y cx cy dx dy : Int} (h : touch2 cx cy dx dy ax ay bx b_y) : touch2 ax ay bx b_y cx cy dx dy := by
  obtain ⟨h1, h2, h3, h4⟩ := h
  exact ⟨by omega, by omega, h4, h3⟩
theorem touch2_flip {ax ay bx b_y cx cy dx dy : Int} (h : touch2 ax ay bx b_y dx dy cx cy) : touch2 ax ay bx b_y cx cy dx dy := by
  obtain ⟨h1, h2, h3, h4⟩ := h
  refine ⟨by omega, by omega, by rw [Int.mul_comm]; exact h3, ?_⟩
  rw [sd_swap dx dy cx cy ax ay, sd_swap dx dy cx cy bx b_y, Int.neg_mul_neg]; exact h4
theorem touch2_one {ax ay bx b_y cx cy dx dy : Int} (h0 : sdI ax ay bx b_y cx cy = 0) (hb : bet ax ay bx b_y cx cy) : touch2 ax ay bx b_y cx cy dx dy := by
  have e := endOn ax ay bx b_y cx cy dx dy h0 hb
  obtain ⟨b1, b2, b3, b4⟩ := hb
  exact ⟨by omega, by omega, by rw [h0, Int.zero_mul]; exact Int.le_refl _, e⟩
theorem touch2_of1 {ax ay bx b_y cx cy dx dy : Int} (h : touch1 ax ay bx b_y cx cy dx dy) : touch2 ax ay bx b_y cx cy dx dy := by
  rcases h with ⟨h0, hb⟩ | ⟨h0, hb⟩ | ⟨h0, hb⟩ | ⟨h0, hb⟩ | ⟨h1, h2⟩
  · exact touch2_one h0 hb
  · exact touch2_flip (touch2_one h0 hb)
  · exact touch2_swap (touch2_one h0 hb)
  · exact touch2_swap (touch2_flip (touch2_one h0 hb))
  · have hD := sdI_D ax ay bx b_y cx cy dx dy
    have hx := sdI_x ax ay bx b_y cx cy dx dy
    have hy := sdI_y ax ay bx b_y cx cy dx dy
    have kD := sdI_D cx cy dx dy ax ay bx b_y
    have kx := sdI_x cx cy dx dy ax ay bx b_y
    have ky := sdI_y cx cy dx dy ax ay bx b_y
    refine ⟨?_, ?_, by omega, by omega⟩
    · rintro (h | h)
      · exact part1 h1 h2 hD hx h
      · exact part1 h2 h1 kD kx h
    · rintro (h | h)
      · exact part1 h1 h2 hD hy h
      · exact part1 h2 h1 kD ky h
theorem touch1_swap {ax ay bx b_y cx cy dx dy : Int} (h : touch1 cx cy dx dy ax ay bx b_y) : touch1 ax ay bx b_y cx cy dx dy := by
  rcases h with h | h | h | h | ⟨h1, h2⟩
  · exact Or.inr (Or.inr (Or.inl h))
  · exact Or.inr (Or.inr (Or.inr (Or.inl h)))
  · exact Or.inl h
  · exact Or.inr (Or.inl h)
  · exact Or.inr (Or.inr (Or.inr (Or.inr ⟨h2, h1⟩)))
theorem bet_flip {ax ay bx b_y px py : Int} (h : bet ax ay bx b_y px py) : bet bx b_y ax ay px py := by
  obtain ⟨h1, h2, h3, h4⟩ := h; exact ⟨by omega, by omega, by omega, by omega⟩
theorem touch1_flip {ax ay bx b_y cx cy dx dy : Int} (h : touch1 ax ay bx b_y dx dy cx cy) : touch1 ax ay bx b_y cx cy dx dy := by
  rcases h with h | h | h | h | ⟨h1, h2⟩
  · exact Or.inr (Or.inl h)
  · exact Or.inl h
  · refine Or.inr (Or.inr (Or.inl ⟨?_, bet_flip h.2⟩)); rw [sd_swap, h.1]; rfl
  · refine Or.inr (Or.inr (Or.inr (Or.inl ⟨?_, bet_flip h.2⟩))); rw [sd_swap, h.1]; rfl
  · refine Or.inr (Or.inr (Or.inr (Or.inr ⟨by rw [Int.mul_comm]; exact h1, ?_⟩)))
    rw [sd_swap dx dy cx cy ax ay, sd_swap dx dy cx cy bx b_y, Int.neg_mul_neg]; exact h2
theorem touch1_one {ax ay bx b_y cx cy dx dy : Int} (h : touch2 ax ay bx b_y cx cy dx dy) (h0 : sdI ax ay bx b_y cx cy = 0) : touch1 ax ay bx b_y cx cy dx dy := by
  obtain ⟨h1, h2, h3, h4⟩ := h
  have hD := sdI_D ax ay bx b_y cx cy dx dy
  have hx := sdI_x ax ay bx b_y cx cy dx dy
  have hy := sdI_y ax ay bx b_y cx cy dx dy
  by_cases hs : sdI ax ay bx b_y dx dy = 0
  · have t12 : sdI cx cy dx dy ax ay = 0 ∧ sdI cx cy dx dy bx b_y = 0 := by
      have e : sdI cx cy dx dy ax ay = sdI cx cy dx dy bx b_y := by omega
      rw [e] at h4
      have := sq0 (sdI cx cy dx dy bx b_y)
      have := Int.mul_eq_zero.1 (show sdI cx cy dx dy bx b_y * sdI cx cy dx dy bx b_y = 0 by omega)
      omega
    by_cases n1 : ax = bx
    · by_cases n2 : cx = dx
      · have : ax = cx := by omega
        by_cases q1 : min ay b_y ≤ cy ∧ cy ≤ max ay b_y
        · exact Or.inl ⟨h0, by omega, by omega, q1.1, q1.2⟩
        · by_cases q2 : min ay b_y ≤ dy ∧ dy ≤ max ay b_y
          · exact Or.inr (Or.inl ⟨hs, by omega, by omega, q2.1, q2.2⟩)
          · exact Or.inr (Or.inr (Or.inl ⟨t12.1, by omega, by omega, by omega, by omega⟩))
      · have p := onLine t12.1 n2 (by omega) (by omega)
        exact Or.inr (Or.inr (Or.inl ⟨t12.1, by omega, by omega, p.1, p.2⟩))
    · by_cases q1 : min ax bx ≤ cx ∧ cx ≤ max ax bx
      · have p := onLine h0 n1 q1.1 q1.2
        exact Or.inl ⟨h0, q1.1, q1.2, p.1, p.2⟩
      · by_cases q2 : min ax bx ≤ dx ∧ dx ≤ max ax bx
        · have p := onLine hs n1 q2.1 q2.2
          exact Or.inr (Or.inl ⟨hs, q2.1, q2.2, p.1, p.2⟩)
        · have p := onLine t12.1 (show cx ≠ dx by omega) (by omega) (by omega)
          exact Or.inr (Or.inr (Or.inl ⟨t12.1, by omega, by omega, p.1, p.2⟩))
  · rw [h0] at hD hx hy
    rw [Int.zero_mul, Int.sub_zero] at hx hy
    have x := conv hs (by omega) h4 hx
    have y := conv hs (by omega) h4 hy
    exact Or.inl ⟨h0, x.1, x.2, y.1, y.2⟩
theorem touch1_of2 {ax ay bx b_y cx cy dx dy : Int} (h : touch2 ax ay bx b_y cx cy dx dy) : touch1 ax ay bx b_y cx cy dx dy := by
  by_cases e1 : sdI ax ay bx b_y cx cy = 0
  · exact touch1_one h e1
  by_cases e2 : sdI ax ay bx b_y dx dy = 0
  · exact touch1_flip (touch1_one (touch2_flip h) e2)
  by_cases e3 : sdI cx cy dx dy ax ay = 0
  · exact touch1_swap (touch1_one (touch2_swap h) e3)
  by_cases e4 : sdI cx cy dx dy bx b_y = 0
  · exact touch1_swap (touch1_flip (touch1_one (touch2_flip (touch2_swap h)) e4))
  obtain ⟨_, _, h3, h4⟩ := h
  refine Or.inr (Or.inr (Or.inr (Or.inr ⟨?_, ?_⟩)))
  · rcases npos_cases h3 with z | z | ⟨z, y⟩ | ⟨z, y⟩
    · exact absurd z e1
    · exact absurd z e2
    · have := Int.mul_pos (show 0 < - sdI ax ay bx b_y cx cy by omega) y; rw [Int.neg_mul] at this; omega
    · have := Int.mul_pos z (show 0 < - sdI ax ay bx b_y dx dy by omega); rw [Int.mul_neg] at this; omega
  · rcases npos_cases h4 with z | z | ⟨z, y⟩ | ⟨z, y⟩
    · exact absurd z e3
    · exact absurd z e4
    · have := Int.mul_pos (show 0 < - sdI cx cy dx dy ax ay by omega) y; rw [Int.neg_mul] at this; omega
    · have := Int.mul_pos z (show 0 < - sdI cx cy dx dy bx b_y by omega); rw [Int.mul_neg] at this; omega
theorem touch12 (ax ay bx b_y cx cy dx dy : Int) : touch1 ax ay bx b_y cx cy dx dy ↔ touch2 ax ay bx b_y cx cy dx dy := ⟨touch2_of1, touch1_of2⟩
theorem touch1_comm (ax ay bx b_y cx cy dx dy : Int) : touch1 cx cy dx dy ax ay bx b_y ↔ touch1 ax ay bx b_y cx cy dx dy := ⟨touch1_swap, touch1_swap⟩
theorem touch1_rev (ax ay bx b_y cx cy dx dy : Int) : touch1 ax ay bx b_y dx dy cx cy ↔ touch1 ax ay bx b_y cx cy dx dy := ⟨touch1_flip, touch1_flip⟩

theorem evp {α : Type} {c : Prop} [Decidable c] {f g : Nat → Option α} {r : α} (h : c) (k : Ev f r) : Ev (fun n => if c then f n else g n) r :=
  Ev.congr (fun _ => if_pos h) k
theorem evn {α : Type} {c : Prop} [Decidable c] {f g : Nat → Option α} {r : α} (h : ¬ c) (k : Ev g r) : Ev (fun n => if c then f n else g n) r :=
  Ev.congr (fun _ => if_neg h) k
theorem evb {α β : Type} {g : Nat → Option α} {f : Nat → α → Option β} {a : α} {r : β} (h : Ev g a) (k : Ev (fun n => f n a) r) : Ev (fun n => (g n).bind (f n)) r := Ev.bind h k
theorem evs {α β : Type} {x : Option α} {f : Nat → α → Option β} {a : α} {r : β} (h : x = some a) (k : Ev (fun n => f n a) r) : Ev (fun n => x.bind (f n)) r := by
  subst h; exact k
theorem ev_uniq {α : Type} {g : Nat → Option α} {r s : α} (h : Ev g r) (k : Ev g s) : r = s := by
  obtain ⟨a, h⟩ := h
  obtain ⟨b, k⟩ := k
  have x := h (max a b) (by omega)
  have y := k (max a b) (by omega)
  rw [x] at y; exact Option.some.inj y
theorem w64 {n : Int} (h : -9223372036854775808 ≤ n) (h2 : n ≤ 9223372036854775807) : wrap64 n = n := by unfold wrap64; omega
theorem rd_at (l : List Int) (i : Nat) (h : i < l.length) : rd l (i : Int) = l[i] := by
  simp [rd, List.getD_eq_getElem?_getD, List.getElem?_eq_getElem h]
theorem rdP_at (l : List S23) (i : Nat) (h : i < l.length) : rd_T23 l (i : Int) = l[i] := by
  simp [rd_T23, List.getD_eq_getElem?_getD, List.getElem?_eq_getElem h]
theorem rdX_at (l : List S55) (i : Nat) (h : i < l.length) : rd_T55 l (i : Int) = l[i] := by
  simp [rd_T55, List.getD_eq_getElem?_getD, List.getElem?_eq_getElem h]
theorem mn_eq (a b : Int) : mn a b = min a b := by unfold mn; split <;> omega
theorem mx_eq (a b : Int) : mx a b = max a b := by unfold mx; split <;> omega
theorem mulb {x y a b : Int} (h1 : -a ≤ x) (h2 : x ≤ a) (h3 : -b ≤ y) (h4 : y ≤ b) : -(a * b) ≤ x * y ∧ x * y ≤ a * b := by
  have p1 := Int.mul_nonneg (show 0 ≤ a - x by omega) (show 0 ≤ b + y by omega)
  have p2 := Int.mul_nonneg (show 0 ≤ a + x by omega) (show 0 ≤ b - y by omega)
  have p3 := Int.mul_nonneg (show 0 ≤ a - x by omega) (show 0 ≤ b - y by omega)
  have p4 := Int.mul_nonneg (show 0 ≤ a + x by omega) (show 0 ≤ b + y by omega)
  have e1 : (a - x) * (b + y) + (a + x) * (b - y) = 2 * (a * b) - 2 * (x * y) := by grind
  have e2 : (a - x) * (b - y) + (a + x) * (b + y) = 2 * (a * b) + 2 * (x * y) := by grind
  omega

def inR (a b : Int) : Prop := -100 ≤ a ∧ a ≤ 100 ∧ -100 ≤ b ∧ b ≤ 100
theorem far_in (p : S23) : farB p = false ↔ inR p.f0 p.f1 := by
  unfold farB inR
  simp only [Bool.or_eq_false_iff, decide_eq_false_iff_not]
  omega
def plB (l : List S23) : Bool := !(l.any farB)
theorem place_eq (l : List S23) : screen_place.f l = some (plB l) := rfl
theorem plB_in {l : List S23} (h : plB l = true) : ∀ p ∈ l, inR p.f0 p.f1 := by
  intro p hp
  unfold plB at h
  rw [Bool.not_eq_true', List.any_eq_false] at h
  exact (far_in p).1 (by simpa using h p hp)
theorem isPoint_eq (a b : Int) : wigeonref02_IsPoint.f a b = some (!farB ⟨a, b⟩) := by
  unfold wigeonref02_IsPoint.f wigeonref02_within.f farB
  by_cases h1 : a < -100
  · simp only [h1, decide_true, Bool.true_or, Bool.not_true, if_neg (show ¬ a ≥ -100 by omega), Option.bind_some]; rfl
  · rw [if_pos (show a ≥ -100 by omega), Option.bind_some]
    by_cases h2 : a > 100
    · rw [if_neg (by simp; omega)]; simp [h2]
    · rw [if_pos (by simp; omega)]
      by_cases h3 : b < -100
      · rw [if_neg (by omega)]; simp [h3]
      · rw [if_pos (by omega)]
        have e : decide (b ≤ 100) = !decide (b > 100) := by rw [← decide_not]; exact decide_eq_decide.2 (by omega)
        rw [e]; simp [h1, h2, h3]
theorem arePoints_l0 (l : List S23) (hl : l.length ≤ 100000) : ∀ d i : Nat, i + d = l.length → Ev (fun k => wigeonref02_arePoints.l0 k l (i : Int)) (plB (l.drop i))
  | 0, i, h => by
    refine Ev.step (fun k => wigeonref02_arePoints.l0.eq_2 ..) (evn (by omega) ?_)
    rw [List.drop_eq_nil_of_le (by omega)]; exact Ev.now _
  | d + 1, i, h => by
    have hlt : i < l.length := by omega
    have R := arePoints_l0 l hl d (i + 1) (by omega)
    refine Ev.step (fun k => wigeonref02_arePoints.l0.eq_2 ..) (evp (by omega) (evp (by omega) (evs (isPoint_eq _ _) ?_)))
    rw [rdP_at l i hlt, List.drop_eq_getElem_cons hlt, w64 (by omega) (by omega)]
    unfold plB at *
    rw [List.any_cons]
    have eta : (⟨(l[i]).f0, (l[i]).f1⟩ : S23) = l[i] := rfl
    rw [eta]
    cases farB l[i]
    · exact evp rfl (by rw [Bool.false_or]; exact R)
    · exact evn (by decide) (by rw [Bool.true_or]; exact Ev.now _)
theorem arePoints_ev (l : List S23) (hl : l.length ≤ 100000) : Ev (fun k => wigeonref02_arePoints.f k l) (plB l) := arePoints_l0 l hl l.length 0 (by omega)

def isg (x : Int) : Int := if x < 0 then -1 else if x > 0 then 1 else 0
theorem isg_0 (x : Int) : isg x = 0 ↔ x = 0 := by
  unfold isg
  split
  · omega
  · split <;> omega
theorem isg_mul (x y : Int) : wrap64 (isg x * isg y) < 0 ↔ x * y < 0 := by
  have e : wrap64 (isg x * isg y) = isg x * isg y := by
    have h (z : Int) : isg z = -1 ∨ isg z = 0 ∨ isg z = 1 := by
      unfold isg
      split
      · omega
      · split <;> omega
    rcases h x with h1 | h1 | h1 <;> rcases h y with h2 | h2 | h2 <;> rw [h1, h2] <;> (unfold wrap64; omega)
  rw [e]
  unfold isg
  by_cases x1 : x < 0
  · rw [if_pos x1]
    by_cases y1 : y < 0
    · rw [if_pos y1]; have := nn (show x ≤ 0 by omega) (show y ≤ 0 by omega); omega
    · rw [if_neg y1]
      by_cases y2 : y > 0
      · rw [if_pos y2]; have := Int.mul_pos (show 0 < -x by omega) y2; rw [Int.neg_mul] at this; omega
      · rw [if_neg y2]; obtain rfl : y = 0 := by omega
        simp
  · rw [if_neg x1]
    by_cases x2 : x > 0
    · rw [if_pos x2]
      by_cases y1 : y < 0
      · rw [if_pos y1]; have := Int.mul_pos x2 (show 0 < -y by omega); rw [Int.mul_neg] at this; omega
      · rw [if_neg y1]
        by_cases y2 : y > 0
        · rw [if_pos y2]; have := Int.mul_pos x2 y2; omega
        · rw [if_neg y2]; obtain rfl : y = 0 := by omega
          simp
    · rw [if_neg x2]; obtain rfl : x = 0 := by omega
      simp
theorem sdI_b {a b c d e f : Int} (h1 : inR a b) (h2 : inR c d) (h3 : inR e f) : wrap64 (wrap64 (wrap64 (c - a) * wrap64 (f - b)) - wrap64 (wrap64 (d - b) * wrap64 (e - a))) = sdI a b c d e f ∧ -80000 ≤ sdI a b c d e f ∧ sdI a b c d e f ≤ 80000 := by
  unfold inR at *
  rw [w64 (n := c - a) (by omega) (by omega), w64 (n := f - b) (by omega) (by omega), w64 (n := d - b) (by omega) (by omega), w64 (n := e - a) (by omega) (by omega)]
  have p := mulb (x := c - a) (y := f - b) (a := 200) (b := 200) (by omega) (by omega) (by omega) (by omega)
  have q := mulb (x := d - b) (y := e - a) (a := 200) (b := 200) (by omega) (by omega) (by omega) (by omega)
  unfold sdI
  generalize (c - a) * (f - b) = x at *
  generalize (d - b) * (e - a) = y at *
  rw [w64 (n := x) (by omega) (by omega), w64 (n := y) (by omega) (by omega), w64 (by omega) (by omega)]
  omega
theorem side_eq {a b c d e f : Int} (h1 : inR a b) (h2 : inR c d) (h3 : inR e f) : screen_side.f a b c d e f = some (isg (sdI a b c d e f)) := by
  unfold screen_side.f
  rw [(sdI_b h1 h2 h3).1]
  generalize sdI a b c d e f = x
  unfold cmp_Compare_int.f cmp_isNaN_int.f isg
  simp only [Option.bind_some]
  by_cases h : x < 0
  · simp [h]
  · by_cases h2 : x > 0
    · simp [h, h2]
    · simp [h, h2]
theorem rside_eq {a b c d e f : Int} (h1 : inR a b) (h2 : inR c d) (h3 : inR e f) : wigeonref02_side.f a b c d e f = some (sdI a b c d e f) := by
  unfold wigeonref02_side.f; rw [(sdI_b h1 h2 h3).1]
theorem between_eq (a b c d e f : Int) : screen_between.f a b c d e f = some (decide (bet a b c d e f)) := by
  unfold screen_between.f bet
  rw [mn_eq, mx_eq, mn_eq, mx_eq]
  by_cases h1 : min a c ≤ e
  · by_cases h2 : e ≤ max a c
    · by_cases h3 : min b d ≤ f
      · simp [h1, h2, h3]
      · simp [h1, h2, h3]
    · simp [h1, h2]
  · simp [h1]

instance (a b c d e f g h : Int) : Decidable (touch1 a b c d e f g h) := inferInstanceAs (Decidable (_ ∨ _))
instance (a b c d e f g h : Int) : Decidable (touch2 a b c d e f g h) := inferInstanceAs (Decidable (_ ∧ _))
def tB (a b c d e f g h : Int) : Bool := decide (touch1 a b c d e f g h)
theorem touch_ev {a b c d e f g h : Int} (r1 : inR a b) (r2 : inR c d) (r3 : inR e f) (r4 : inR g h) : Ev (fun k => screen_touch.f k a b c d e f g h) (tB a b c d e f g h) := by
  have eq : tB a b c d e f g h = (decide (sdI a b c d e f = 0 ∧ bet a b c d e f) || (decide (sdI a b c d g h = 0 ∧ bet a b c d g h) || (decide (sdI e f g h a b = 0 ∧ bet e f g h a b) || (decide (sdI e f g h c d = 0 ∧ bet e f g h c d) || decide (sdI a b c d e f * sdI a b c d g h < 0 ∧ sdI e f g h a b * sdI e f g h c d < 0))))) := by
    rw [show tB a b c d e f g h = decide ((sdI a b c d e f = 0 ∧ bet a b c d e f) ∨ ((sdI a b c d g h = 0 ∧ bet a b c d g h) ∨ ((sdI e f g h a b = 0 ∧ bet e f g h a b) ∨ ((sdI e f g h c d = 0 ∧ bet e f g h c d) ∨ (sdI a b c d e f * sdI a b c d g h < 0 ∧ sdI e f g h a b * sdI e f g h c d < 0))))) from decide_eq_decide.2 Iff.rfl]
    simp only [Bool.decide_or]
  have J3 : Ev (fun k => screen_touch.j3 k a b c d e f g h) (decide (sdI a b c d e f * sdI a b c d g h < 0 ∧ sdI e f g h a b * sdI e f g h c d < 0)) := by
    refine Ev.step (fun k => screen_touch.j3.eq_2 ..) (evs (side_eq r1 r2 r3) (evs (side_eq r1 r2 r4) ?_))
    by_cases q : sdI a b c d e f * sdI a b c d g h < 0
    · refine evp ((isg_mul _ _).2 q) (evs (side_eq r3 r4 r1) (evs (side_eq r3 r4 r2) ?_))
      rw [show decide (sdI a b c d e f * sdI a b c d g h < 0 ∧ sdI e f g h a b * sdI e f g h c d < 0) = decide (wrap64 (isg (sdI e f g h a b) * isg (sdI e f g h c d)) < 0) from decide_eq_decide.2 (by rw [isg_mul]; simp [q])]
      exact Ev.now _
    · refine evn (fun z => q ((isg_mul _ _).1 z)) ?_
      rw [decide_eq_false (fun z => q z.1)]; exact Ev.now _
  have J2 : ∀ x : Bool, Ev (fun k => screen_touch.j2 k x a b c d e f g h) (x || (decide (sdI e f g h c d = 0 ∧ bet e f g h c d) || decide (sdI a b c d e f * sdI a b c d g h < 0 ∧ sdI e f g h a b * sdI e f g h c d < 0))) := by
    intro x
    refine Ev.step (fun k => screen_touch.j2.eq_2 ..) ?_
    cases x
    · refine evn (by decide) (evs (side_eq r3 r4 r2) ?_)
      rw [Bool.false_or]
      by_cases z : sdI e f g h c d = 0
      · refine evp ((isg_0 _).2 z) (evs (between_eq ..) ?_)
        by_cases y : bet e f g h c d
        · rw [decide_eq_true y, show decide (sdI e f g h c d = 0 ∧ bet e f g h c d) = true from decide_eq_true ⟨z, y⟩]
          exact evp rfl (Ev.now _)
        · rw [decide_eq_false y, show decide (sdI e f g h c d = 0 ∧ bet e f g h c d) = false from decide_eq_false (fun q => y q.2), Bool.false_or]
          exact evn (by decide) J3
      · rw [show decide (sdI e f g h c d = 0 ∧ bet e f g h c d) = false from decide_eq_false (fun q => z q.1), Bool.false_or]
        exact evn (fun q => z ((isg_0 _).1 q)) J3
    · exact evp rfl (Ev.now _)
  have J1 : ∀ x : Bool, Ev (fun k => screen_touch.j1 k x a b c d e f g h) (x || (decide (sdI e f g h a b = 0 ∧ bet e f g h a b) || (decide (sdI e f g h c d = 0 ∧ bet e f g h c d) || decide (sdI a b c d e f * sdI a b c d g h < 0 ∧ sdI e f g h a b * sdI e f g h c d < 0)))) := by
    intro x
    refine Ev.step (fun k => screen_touch.j1.eq_2 ..) ?_
    cases x
    · refine evn (by decide) (evs (side_eq r3 r4 r1) ?_)
      rw [Bool.false_or]
      by_cases z : sdI e f g h a b = 0
      · refine evp ((isg_0 _).2 z) (evs (between_eq ..) ?_)
        rw [show decide (sdI e f g h a b = 0 ∧ bet e f g h a b) = decide (bet e f g h a b) from decide_eq_decide.2 (by simp [z])]
        exact J2 _
      · rw [show decide (sdI e f g h a b = 0 ∧ bet e f g h a b) = false from decide_eq_false (fun q => z q.1)]
        exact evn (fun q => z ((isg_0 _).1 q)) (J2 false)
    · exact evp rfl (Ev.now _)
  have J0 : ∀ x : Bool, Ev (fun k => screen_touch.j0 k x a b c d e f g h) (x || (decide (sdI a b c d g h = 0 ∧ bet a b c d g h) || (decide (sdI e f g h a b = 0 ∧ bet e f g h a b) || (decide (sdI e f g h c d = 0 ∧ bet e f g h c d) || decide (sdI a b c d e f * sdI a b c d g h < 0 ∧ sdI e f g h a b * sdI e f g h c d < 0))))) := by
    intro x
    refine Ev.step (fun k => screen_touch.j0.eq_2 ..) ?_
    cases x
    · refine evn (by decide) (evs (side_eq r1 r2 r4) ?_)
      rw [Bool.false_or]
      by_cases z : sdI a b c d g h = 0
      · refine evp ((isg_0 _).2 z) (evs (between_eq ..) ?_)
        rw [show decide (sdI a b c d g h = 0 ∧ bet a b c d g h) = decide (bet a b c d g h) from decide_eq_decide.2 (by simp [z])]
        exact J1 _
      · rw [show decide (sdI a b c d g h = 0 ∧ bet a b c d g h) = false from decide_eq_false (fun q => z q.1)]
        exact evn (fun q => z ((isg_0 _).1 q)) (J1 false)
    · exact evp rfl (Ev.now _)
  rw [eq]
  unfold screen_touch.f
  refine evs (side_eq r1 r2 r3) ?_
  by_cases z : sdI a b c d e f = 0
  · refine evp ((isg_0 _).2 z) (evs (between_eq ..) ?_)
    rw [show decide (sdI a b c d e f = 0 ∧ bet a b c d e f) = decide (bet a b c d e f) from decide_eq_decide.2 (by simp [z])]
    exact J0 _
  · rw [show decide (sdI a b c d e f = 0 ∧ bet a b c d e f) = false from decide_eq_false (fun q => z q.1)]
    exact evn (fun q => z ((isg_0 _).1 q)) (J0 false)
theorem mul_w {x y : Int} (h1 : -80000 ≤ x) (h2 : x ≤ 80000) (h3 : -80000 ≤ y) (h4 : y ≤ 80000) : wrap64 (x * y) = x * y := by
  have := mulb h1 h2 h3 h4
  exact w64 (by omega) (by omega)
theorem rtouch_ev {a b c d e f g h : Int} (r1 : inR a b) (r2 : inR c d) (r3 : inR e f) (r4 : inR g h) : Ev (fun k => wigeonref02_touch.f k a b c d e f g h) (tB a b c d e f g h) := by
  have eq : tB a b c d e f g h = decide (touch2 a b c d e f g h) := decide_eq_decide.2 (touch12 ..)
  rw [eq]
  have pe : ∀ x y z w : Int, wigeonref02_parted.f x y z w = some (decide (max x y < min z w ∨ max z w < min x y)) := by
    intro x y z w
    unfold wigeonref02_parted.f
    rw [mn_eq, mx_eq, mn_eq, mx_eq]
    by_cases q : max x y < min z w
    · simp [q]
    · simp [q]
  have b1 := sdI_b r1 r2 r3
  have b2 := sdI_b r1 r2 r4
  have b3 := sdI_b r3 r4 r1
  have b4 := sdI_b r3 r4 r2
  unfold wigeonref02_touch.f
  refine evs (pe ..) ?_
  by_cases p1 : max a c < min e g ∨ max e g < min a c
  · rw [decide_eq_true p1, decide_eq_false (fun q : touch2 a b c d e f g h => q.1 p1)]
    exact evp rfl (Ev.step (fun k => wigeonref02_touch.j0.eq_2 ..) (evp rfl (Ev.now _)))
  · rw [decide_eq_false p1]
    refine evn (by decide) (evs (pe ..) (Ev.step (fun k => wigeonref02_touch.j0.eq_2 ..) ?_))
    by_cases p2 : max b d < min f h ∨ max f h < min b d
    · rw [decide_eq_true p2, decide_eq_false (fun q : touch2 a b c d e f g h => q.2.1 p2)]
      exact evp rfl (Ev.now _)
    · rw [decide_eq_false p2]
      refine evn (by decide) (evs (rside_eq r1 r2 r3) (evs (rside_eq r1 r2 r4) ?_))
      rw [mul_w b1.2.1 b1.2.2 b2.2.1 b2.2.2]
      by_cases p3 : sdI a b c d e f * sdI a b c d g h ≤ 0
      · refine evp p3 (evs (rside_eq r3 r4 r1) (evs (rside_eq r3 r4 r2) ?_))
        rw [mul_w b3.2.1 b3.2.2 b4.2.1 b4.2.2, show decide (touch2 a b c d e f g h) = decide (sdI e f g h a b * sdI e f g h c d ≤ 0) from decide_eq_decide.2 ⟨fun q => q.2.2.2, fun q => ⟨p1, p2, p3, q⟩⟩]
        exact Ev.now _
      · rw [decide_eq_false (fun q : touch2 a b c d e f g h => p3 q.2.2.1)]
        exact evn p3 (Ev.now _)
theorem tB_comm (a b c d e f g h : Int) : tB e f g h a b c d = tB a b c d e f g h := decide_eq_decide.2 (touch1_comm ..)
theorem tB_rev (a b c d e f g h : Int) : tB a b c d g h e f = tB a b c d e f g h := decide_eq_decide.2 (touch1_rev ..)
theorem tB_rev1 (a b c d e f g h : Int) : tB c d a b e f g h = tB a b c d e f g h := by rw [← tB_comm, tB_rev, tB_comm]
theorem touchB_in {a b c d e f g h : Int} (r1 : inR a b) (r2 : inR c d) (r3 : inR e f) (r4 : inR g h) : touchB a b c d e f g h = tB a b c d e f g h :=
  ev_uniq (Ev.of (screen_touch.mono a b c d e f g h) (touchB_eq a b c d e f g h)) (touch_ev r1 r2 r3 r4)

theorem known_ev : Ev (fun k => wigeonlaw02_known.f k) true := Ev.of wigeonlaw02_known.mono (k := 100) (by decide +kernel)

def okS (s : S55) : Bool := plB [⟨s.f0.f0, s.f0.f1⟩, ⟨s.f1.f0, s.f1.f1⟩] && !(s.f0.f0 == s.f1.f0 && s.f0.f1 == s.f1.f1)
def valR (l : List S55) : Int := if l.length > 12 then 3 else if l.all okS then 0 else 1
theorem valid_l0 (l : List S55) (hl : l.length ≤ 12) : ∀ d i : Nat, i + d = l.length → Ev (fun k => screen_Validate.l0 k l (l.length : Int) (i : Int)) (if (l.drop i).all okS then (0 : Int) else 1)
  | 0, i, h => by
    refine Ev.step (fun k => screen_Validate.l0.eq_2 ..) (evn (by omega) ?_)
    rw [List.drop_eq_nil_of_le (by omega)]; exact Ev.now _
  | d + 1, i, h => by
    have hlt : i < l.length := by omega
    have R := valid_l0 l hl d (i + 1) (by omega)
    refine Ev.step (fun k => screen_Validate.l0.eq_2 ..) (evp (by omega) (evp (by omega) (evp (by omega) (evs (place_eq _) ?_))))
    rw [rdX_at l i hlt, List.drop_eq_getElem_cons hlt, List.all_cons, w64 (by omega) (by omega)]
    unfold okS
    cases plB [⟨(l[i]).f0.f0, (l[i]).f0.f1⟩, ⟨(l[i]).f1.f0, (l[i]).f1.f1⟩]
    · exact evn (by decide) (by rw [Bool.false_and, Bool.false_and, if_neg (by decide)]; exact Ev.now _)
    · refine evp rfl ?_
      cases ((l[i]).f0.f0 == (l[i]).f1.f0 && (l[i]).f0.f1 == (l[i]).f1.f1)
      · exact evn (by decide) (by rw [Bool.not_false, Bool.true_and, Bool.true_and]; exact R)
      · exact evp rfl (by rw [Bool.not_true, Bool.true_and, Bool.false_and, if_neg (by decide)]; exact Ev.now _)
theorem valid_ev (l : List S55) : Ev (fun k => screen_Validate.f k l) (valR l) := by
  unfold screen_Validate.f valR
  by_cases h : l.length > 12
  · rw [if_pos h]; exact evp (by omega) (Ev.now _)
  · rw [if_neg h]; exact evn (by omega) (valid_l0 l (by omega) l.length 0 (by omega))
theorem rvalid_l0 (l : List S55) (hl : l.length ≤ 12) : ∀ d i : Nat, i + d = l.length → Ev (fun k => wigeonref02_Validate.l0 k l (i : Int)) (if (l.drop i).all okS then (0 : Int) else 1)
  | 0, i, h => by
    refine Ev.step (fun k => wigeonref02_Validate.l0.eq_2 ..) (evn (by omega) ?_)
    rw [List.drop_eq_nil_of_le (by omega)]; exact Ev.now _
  | d + 1, i, h => by
    have hlt : i < l.length := by omega
    have R := rvalid_l0 l hl d (i + 1) (by omega)
    refine Ev.step (fun k => wigeonref02_Validate.l0.eq_2 ..) (evp (by omega) (evp (by omega) (evs (isPoint_eq _ _) ?_)))
    rw [rdX_at l i hlt, List.drop_eq_getElem_cons hlt, List.all_cons, w64 (by omega) (by omega)]
    unfold okS plB
    rw [List.any_cons, List.any_cons, List.any_nil, Bool.or_false]
    cases farB ⟨(l[i]).f0.f0, (l[i]).f0.f1⟩
    · refine evp rfl (evs (isPoint_eq _ _) ?_)
      cases farB ⟨(l[i]).f1.f0, (l[i]).f1.f1⟩
      · refine evp rfl ?_
        cases ((l[i]).f0.f0 == (l[i]).f1.f0 && (l[i]).f0.f1 == (l[i]).f1.f1)
        · exact evn (by decide) R
        · exact evp rfl (Ev.now _)
      · exact evn (by decide) (Ev.now _)
    · exact evn (by decide) (Ev.now _)
theorem rvalid_ev (l : List S55) : Ev (fun k => wigeonref02_Validate.f k l) (valR l) := by
  unfold wigeonref02_Validate.f valR
  by_cases h : l.length > 12
  · rw [if_pos h]; exact evp (by omega) (Ev.now _)
  · rw [if_neg h]; exact evn (by omega) (rvalid_l0 l (by omega) l.length 0 (by omega))
theorem valR_ok {l : List S55} (h : valR l = 0) : l.length ≤ 12 ∧ ∀ s ∈ l, inR s.f0.f0 s.f0.f1 ∧ inR s.f1.f0 s.f1.f1 := by
  unfold valR at h
  by_cases h1 : l.length > 12
  · rw [if_pos h1] at h; exact absurd h (by decide)
  · rw [if_neg h1] at h
    by_cases h2 : l.all okS = true
    · refine ⟨by omega, fun s hs => ?_⟩
      have a := List.all_eq_true.1 h2 s hs
      unfold okS at a
      rw [Bool.and_eq_true] at a
      have b := plB_in a.1
      exact ⟨b ⟨s.f0.f0, s.f0.f1⟩ (by simp), b ⟨s.f1.f0, s.f1.f1⟩ (by simp)⟩
    · rw [if_neg h2] at h; exact absurd h (by decide)

def bxB (a b c d : Int) : Bool := plB [⟨a, b⟩, ⟨c, d⟩] && decide (0 ≤ c - a ∧ 0 ≤ d - b ∧ c - a < 21 ∧ d - b < 21)
def lkR (l : List S55) (eyes points : List S23) : Int := if valR l = 0 then (if eyes.length > 8 ∨ points.length > 16 then 3 else if plB eyes && plB points then 0 else 1) else valR l
def ckR (l : List S55) (eyes points : List S23) (a b c d : Int) : Int := if lkR l eyes points = 0 then (if bxB a b c d then 0 else 1) else lkR l eyes points
theorem lkR_v {l : List S55} {eyes points : List S23} (h : ¬ valR l = 0) : lkR l eyes points = valR l := if_neg h
theorem lkR_3 {l : List S55} {eyes points : List S23} (h : valR l = 0) (h2 : eyes.length > 8 ∨ points.length > 16) : lkR l eyes points = 3 := (if_pos h).trans (if_pos h2)
theorem lkR_1 {l : List S55} {eyes points : List S23} (h : valR l = 0) (h2 : ¬ (eyes.length > 8 ∨ points.length > 16)) (h3 : ¬ (plB eyes && plB points) = true) : lkR l eyes points = 1 := (if_pos h).trans ((if_neg h2).trans (if_neg h3))
theorem lkR_0 {l : List S55} {eyes points : List S23} (h : valR l = 0) (h2 : ¬ (eyes.length > 8 ∨ points.length > 16)) (h3 : (plB eyes && plB points) = true) : lkR l eyes points = 0 := (if_pos h).trans ((if_neg h2).trans (if_pos h3))
theorem lkR_ok {l : List S55} {eyes points : List S23} (h : lkR l eyes points = 0) : valR l = 0 ∧ eyes.length ≤ 8 ∧ points.length ≤ 16 ∧ plB eyes = true ∧ plB points = true := by
  by_cases h1 : valR l = 0
  · by_cases h2 : eyes.length > 8 ∨ points.length > 16
    · rw [lkR_3 h1 h2] at h; exact absurd h (by decide)
    · by_cases h3 : (plB eyes && plB points) = true
      · rw [Bool.and_eq_true] at h3; exact ⟨h1, by omega, by omega, h3.1, h3.2⟩
      · rw [lkR_1 h1 h2 h3] at h; exact absurd h (by decide)
  · rw [lkR_v h1] at h; exact absurd h h1
theorem ckR_l {l : List S55} {eyes points : List S23} {a b c d : Int} (h : ¬ lkR l eyes points = 0) : ckR l eyes points a b c d = lkR l eyes points := if_neg h
theorem ckR_0 {l : List S55} {eyes points : List S23} {a b c d : Int} (h : lkR l eyes points = 0) (h2 : bxB a b c d = true) : ckR l eyes points a b c d = 0 := (if_pos h).trans (if_pos h2)
theorem ckR_1 {l : List S55} {eyes points : List S23} {a b c d : Int} (h : lkR l eyes points = 0) (h2 : ¬ bxB a b c d = true) : ckR l eyes points a b c d = 1 := (if_pos h).trans (if_neg h2)
theorem ckR_z (l : List S55) (eyes points : List S23) : ckR l eyes points 0 0 0 0 = lkR l eyes points := by
  by_cases h : lkR l eyes points = 0
  · rw [ckR_0 h (by decide), h]
  · exact ckR_l h
theorem checked_ev (l : List S55) (eyes points : List S23) (a b c d : Int) : Ev (fun k => screen_checked.f k l eyes points a b c d) (ckR l eyes points a b c d) := by
  unfold screen_checked.f
  refine evb (valid_ev l) ?_
  by_cases h : valR l = 0
  · refine evp h ?_
    have J1 : ∀ x : Bool, lkR l eyes points = (if x then 1 else 0) → (x = false → True) → Ev (fun k => screen_checked.j1 k (x || !plB [⟨a, b⟩, ⟨c, d⟩]) a b c d) (ckR l eyes points a b c d) := by
      intro x hx _
      refine Ev.step (fun k => screen_checked.j1.eq_2 ..) ?_
      cases x
      · have hx : lkR l eyes points = 0 := hx
        rw [Bool.false_or]
        by_cases hp : plB [⟨a, b⟩, ⟨c, d⟩] = true
        · have q := plB_in hp
          have q1 : inR a b := q ⟨a, b⟩ (by simp)
          have q2 : inR c d := q ⟨c, d⟩ (by simp)
          unfold inR at q1 q2
          rw [hp, w64 (n := c - a) (by omega) (by omega), w64 (n := d - b) (by omega) (by omega)]
          refine evn (by decide) ?_
          have no : ¬ (0 ≤ c - a ∧ 0 ≤ d - b ∧ c - a < 21 ∧ d - b < 21) → ¬ bxB a b c d = true := fun z w => by
            unfold bxB at w; rw [Bool.and_eq_true, decide_eq_true_eq] at w; exact z w.2
          by_cases z1 : c - a < 0
          · rw [ckR_1 hx (no (by omega))]; exact evp z1 (Ev.now _)
          · refine evn z1 ?_
            by_cases z2 : d - b < 0
            · rw [ckR_1 hx (no (by omega))]; exact evp z2 (Ev.now _)
            · refine evn z2 ?_
              by_cases z3 : c - a ≥ 21
              · rw [ckR_1 hx (no (by omega))]; exact evp z3 (Ev.now _)
              · refine evn z3 ?_
                by_cases z4 : d - b ≥ 21
                · rw [ckR_1 hx (no (by omega))]; exact evp z4 (Ev.now _)
                · rw [ckR_0 hx (by unfold bxB; rw [hp, Bool.true_and]; exact decide_eq_true (by omega))]; exact evn z4 (Ev.now _)
        · rw [ckR_1 hx (fun w => by unfold bxB at w; rw [Bool.and_eq_true] at w; exact hp w.1)]
          rw [Bool.not_eq_true] at hp
          rw [hp]
          exact evp rfl (Ev.now _)
      · have hx : lkR l eyes points = 1 := hx
        rw [ckR_l (by rw [hx]; decide), hx, Bool.true_or]
        exact evp rfl (Ev.now _)
    have J0 : ∀ x : Bool, (x = true ↔ (eyes.length > 8 ∨ points.length > 16)) → Ev (fun k => screen_checked.j0 k eyes points x a b c d) (ckR l eyes points a b c d) := by
      intro x hx
      refine Ev.step (fun k => screen_checked.j0.eq_2 ..) ?_
      cases x
      · have nb : ¬ (eyes.length > 8 ∨ points.length > 16) := fun z => absurd (hx.2 z) (by decide)
        refine evn (by decide) (evs (place_eq _) ?_)
        by_cases p1 : plB eyes = true
        · refine evp p1 (evs (place_eq _) ?_)
          by_cases p2 : plB points = true
          · refine evp p2 (evs (place_eq _) ?_)
            have := J1 false (lkR_0 h nb (by rw [p1, p2]; rfl)) (fun _ => trivial)
            rwa [Bool.false_or] at this
          · exact evn p2 (J1 true (lkR_1 h nb (by rw [Bool.and_eq_true]; exact fun z => p2 z.2)) (fun _ => trivial))
        · exact evn p1 (J1 true (lkR_1 h nb (by rw [Bool.and_eq_true]; exact fun z => p1 z.1)) (fun _ => trivial))
      · have e := lkR_3 h (hx.1 rfl)
        rw [ckR_l (by rw [e]; decide), e]
        exact evp rfl (Ev.now _)
    by_cases h1 : eyes.length > 8
    · exact evp (by omega) (J0 true (by simp; omega))
    · refine evn (by omega) (J0 _ ?_)
      rw [decide_eq_true_eq]; omega
  · rw [ckR_l (by rw [lkR_v h]; exact h), lkR_v h]
    exact evn h (Ev.now _)
theorem looked_ev (l : List S55) (eyes points : List S23) (he : eyes.length ≤ 100000) (hp : points.length ≤ 100000) : Ev (fun k => wigeonref02_looked.f k l eyes points) (lkR l eyes points) := by
  unfold wigeonref02_looked.f
  refine evb (rvalid_ev l) ?_
  by_cases h : valR l = 0
  · refine evp h ?_
    have J0 : ∀ x : Bool, (x = true ↔ (eyes.length > 8 ∨ points.length > 16)) → Ev (fun k => wigeonref02_looked.j0 k eyes points x) (lkR l eyes points) := by
      intro x hx
      refine Ev.step (fun k => wigeonref02_looked.j0.eq_2 ..) ?_
      cases x
      · have nb : ¬ (eyes.length > 8 ∨ points.length > 16) := fun z => absurd (hx.2 z) (by decide)
        refine evn (by decide) (evb (arePoints_ev _ he) ?_)
        by_cases p1 : plB eyes = true
        · refine evp p1 (evb (arePoints_ev _ hp) ?_)
          by_cases p2 : plB points = true
          · rw [lkR_0 h nb (by rw [p1, p2]; rfl)]; exact evp p2 (Ev.now _)
          · rw [lkR_1 h nb (by rw [Bool.and_eq_true]; exact fun z => p2 z.2)]; exact evn p2 (Ev.now _)
        · rw [lkR_1 h nb (by rw [Bool.and_eq_true]; exact fun z => p1 z.1)]; exact evn p1 (Ev.now _)
      · rw [lkR_3 h (hx.1 rfl)]
        exact evp rfl (Ev.now _)
    by_cases h1 : eyes.length > 8
    · exact evp (by omega) (J0 true (by simp; omega))
    · refine evn (by omega) (J0 _ ?_)
      rw [decide_eq_true_eq]; omega
  · rw [lkR_v h]
    exact evn h (Ev.now _)

/-- the numbers of those of a list of which p holds -/
def idxs {α : Type} (p : α → Bool) : List α → Nat → List Int
  | [], _ => []
  | x :: l, i => if p x then (i : Int) :: idxs p l (i + 1) else idxs p l (i + 1)
theorem idxs_none {α : Type} (p : α → Bool) : ∀ (l : List α) (i : Nat), (((idxs p l i).length : Int) == 0) = !(l.any p)
  | [], _ => by simp [idxs]
  | x :: l, i => by
    have := idxs_none p l (i + 1)
    unfold idxs
    rw [List.any_cons]
    cases p x
    · rw [if_neg (by decide), Bool.false_or]; exact this
    · rw [if_pos rfl, Bool.true_or]
      simp; omega
def tS (a b c d : Int) (s : S55) : Bool := tB a b c d s.f0.f0 s.f0.f1 s.f1.f0 s.f1.f1
def sE (l : List S55) (a b c d : Int) : Bool := !(l.any (tS a b c d))
theorem sE_comm (l : List S55) (a b c d : Int) : sE l c d a b = sE l a b c d := by
  unfold sE
  congr 2
  funext s
  exact tB_rev1 ..
theorem any_congr {α : Type} {p q : α → Bool} : ∀ {l : List α}, (∀ x ∈ l, p x = q x) → l.any p = l.any q
  | [], _ => rfl
  | x :: l, h => by
    rw [List.any_cons, List.any_cons, h x List.mem_cons_self, any_congr (fun y hy => h y (List.mem_cons_of_mem _ hy))]
theorem sees_eq {l : List S55} {a b c d : Int} (h : valR l = 0) (r1 : inR a b) (r2 : inR c d) : screen_sees.f l a b c d = some (sE l a b c d) := by
  unfold screen_sees.f seesB sE
  rw [any_congr (q := tS a b c d) (fun s hs => touchB_in r1 r2 ((valR_ok h).2 s hs).1 ((valR_ok h).2 s hs).2)]
theorem cutters_l0 {l : List S55} {a b c d : Int} (h : valR l = 0) (r1 : inR a b) (r2 : inR c d) : ∀ (e i : Nat) (acc : List Int), i + e = l.length → acc.length ≤ i → Ev (fun k => wigeonref02_cutters.l0 k l acc (i : Int) a b c d) (acc ++ idxs (tS a b c d) (l.drop i) i)
  | 0, i, acc, hi, _ => by
    refine Ev.step (fun k => wigeonref02_cutters.l0.eq_2 ..) (evn (by omega) ?_)
    rw [List.drop_eq_nil_of_le (by omega)]; unfold idxs; rw [List.append_nil]; exact Ev.now _
  | e + 1, i, acc, hi, ha => by
    have hlt : i < l.length := by omega
    have hl := (valR_ok h).1
    refine Ev.step (fun k => wigeonref02_cutters.l0.eq_2 ..) (evp (by omega) (evp (by omega) ?_))
    rw [rdX_at l i hlt, List.drop_eq_getElem_cons hlt, w64 (by omega) (by omega)]
    obtain ⟨g1, g2⟩ := (valR_ok h).2 _ (List.getElem_mem hlt)
    refine evb (rtouch_ev r1 r2 g1 g2) ?_
    unfold idxs tS
    by_cases z : tB a b c d (l[i]).f0.f0 (l[i]).f0.f1 (l[i]).f1.f0 (l[i]).f1.f1 = true
    · rw [if_pos z]
      refine evp z (evp (by omega) ?_)
      have R := cutters_l0 h r1 r2 e (i + 1) (acc ++ [(i : Int)]) (by omega) (by simp; omega)
      rw [List.append_assoc, List.singleton_append] at R
      exact R
    · rw [if_neg z]
      exact evn z (cutters_l0 h r1 r2 e (i + 1) acc (by omega) (by omega))
theorem cutters_ev {l : List S55} {a b c d : Int} (h : valR l = 0) (r1 : inR a b) (r2 : inR c d) : Ev (fun k => wigeonref02_cutters.f k l a b c d) (idxs (tS a b c d) l 0) := by
  have := cutters_l0 h r1 r2 l.length 0 [] (by omega) (by simp)
  exact this
theorem rsees_ev {l : List S55} {a b c d : Int} (h : valR l = 0) (r1 : inR a b) (r2 : inR c d) : Ev (fun k => wigeonref02_sees.f k l a b c d) (sE l a b c d) := by
  unfold wigeonref02_sees.f
  refine evb (cutters_ev h r1 r2) ?_
  rw [idxs_none]; exact Ev.now _
theorem Long_eq (l : List S55) (e : List S23) : wigeonlaw02_Long.f l e = some (decide (l.length > 100 ∨ e.length > 100)) := by
  unfold wigeonlaw02_Long.f
  by_cases h : (l.length : Int) > 100
  · rw [if_pos h, decide_eq_true (by omega)]
  · rw [if_neg h]; exact congrArg some (decide_eq_decide.2 (by omega))

/-- the number whose ones are told by q -/
def rv (q : Nat → Bool) : Nat → Nat
  | 0 => 0
  | n + 1 => rv q n + (if q n then 2 ^ n else 0)
theorem rv_lt (q : Nat → Bool) : ∀ n, rv q n < 2 ^ n
  | 0 => by simp [rv]
  | n + 1 => by
    have := rv_lt q n
    unfold rv
    rw [Nat.pow_succ]
    split <;> omega
theorem rv_bit (q : Nat → Bool) : ∀ n k, k < n → (rv q n).testBit k = q k
  | 0, k, h => absurd h (by omega)
  | n + 1, k, h => by
    unfold rv
    by_cases e : k = n
    · subst e
      have lo := Nat.testBit_lt_two_pow (rv_lt q k)
      cases hq : q k
      · rw [if_neg (by decide), Nat.add_zero]; exact lo
      · rw [if_pos rfl, Nat.add_comm, Nat.testBit_two_pow_add_eq, lo]; rfl
    · have R := rv_bit q n k (by omega)
      cases hq : q n
      · rw [if_neg (by decide), Nat.add_zero]; exact R
      · rw [if_pos rfl, Nat.add_comm, Nat.testBit_two_pow_add_gt (by omega)]; exact R
theorem i64_small (n : Int) (h : 0 ≤ n) (h2 : n < 2 ^ 62) : IntKind.i64.wrap n = n := by
  rw [IntKind.wrap_i64]
  rw [show (2 : Int) ^ 62 = 4611686018427387904 from by decide] at h2
  omega
theorem pow_small {k : Nat} (h : k ≤ 16) : 2 ^ k ≤ 65536 := Nat.le_trans (Nat.pow_le_pow_right (by decide) h) (by decide)
theorem pow_int (k : Nat) : (2 : Int) ^ k = ((2 ^ k : Nat) : Int) := by rw [Int.natCast_pow]; rfl
theorem shl1 {k : Nat} (h : k ≤ 16) : shl .i64 1 (k : Int) = ((2 ^ k : Nat) : Int) := by
  unfold shl
  have := pow_small h
  rw [Int.toNat_natCast, show IntKind.i64.bits = 64 from rfl, Nat.min_eq_left (by omega), Int.one_mul, pow_int]
  refine i64_small _ (Int.natCast_nonneg _) ?_
  rw [show (2 : Int) ^ 62 = 4611686018427387904 from by decide]
  generalize 2 ^ k = z at *
  omega
theorem bits64 (a b : Nat) (ha : a < 2 ^ 62) (hb : b < 2 ^ 62) : Go.bits .and .i64 (a : Int) (b : Int) = ((a &&& b : Nat) : Int) ∧ Go.bits .or .i64 (a : Int) (b : Int) = ((a ||| b : Nat) : Int) := bits_nat .i64 62 (by decide) i64_small a b ha hb
theorem or_step (q : Nat → Bool) {k : Nat} (h : k < 16) (hq : q k = true) : Go.bits .or .i64 (rv q k : Int) (shl .i64 1 (k : Int)) = ((rv q (k + 1) : Nat) : Int) := by
  have a := rv_lt q k
  have b := pow_small (show k ≤ 16 by omega)
  rw [shl1 (by omega)]
  have c := bits64 (rv q k) (2 ^ k) (Nat.lt_of_lt_of_le (Nat.lt_of_lt_of_le a b) (by decide)) (Nat.lt_of_le_of_lt b (by decide))
  have d := Nat.two_pow_add_eq_or_of_lt a 1
  rw [Nat.mul_one] at d
  have e : rv q k ||| 2 ^ k = rv q (k + 1) := by
    rw [Nat.or_comm, ← d]
    show _ = rv q k + (if q k then 2 ^ k else 0)
    rw [hq, if_pos rfl, Nat.add_comm]
  rw [← e]; exact c.2
theorem bit_at (v k : Nat) (hv : v < 2 ^ 62) (hk : k ≤ 16) : Go.bits .and .i64 (shr .i64 (v : Int) (IntKind.u64.wrap (k : Int))) 1 = if v.testBit k then 1 else 0 := by
  have w : IntKind.u64.wrap (k : Int) = k := by
    simp only [IntKind.wrap, IntKind.bits, IntKind.signed, Bool.false_and]
    rw [if_neg (by decide)]
    omega
  rw [w]
  unfold shr
  rw [Int.toNat_natCast, show IntKind.i64.bits = 64 from rfl, Nat.min_eq_left (by omega), pow_int, ← Int.natCast_ediv]
  have lt : v / 2 ^ k < 2 ^ 62 := Nat.lt_of_le_of_lt (Nat.div_le_self _ _) hv
  have c := bits64 (v / 2 ^ k) 1 lt (by decide)
  have e : v / 2 ^ k &&& 1 = v / 2 ^ k % 2 := Nat.and_one_is_mod _
  rw [e] at c
  have f : ((v / 2 ^ k % 2 : Nat) : Int) = if v.testBit k then 1 else 0 := by
    rw [Nat.testBit_eq_decide_div_mod_eq]
    by_cases g : v / 2 ^ k % 2 = 1
    · rw [decide_eq_true g, if_pos rfl, g]; rfl
    · rw [decide_eq_false g, if_neg (by decide)]; omega
  rw [← f]
  exact c.1

/-- whether the i-th of points sees the k-th -/
def sq (l : List S55) (p : List S23) (i k : Nat) : Bool := sE l (rd_T23 p i).f0 (rd_T23 p i).f1 (rd_T23 p k).f0 (rd_T23 p k).f1
theorem sq_comm (l : List S55) (p : List S23) (i k : Nat) : sq l p i k = sq l p k i := sE_comm ..
def sgL (l : List S55) (p : List S23) : Nat → List Int
  | 0 => []
  | n + 1 => sgL l p n ++ [((rv (sq l p n) p.length : Nat) : Int)]
theorem sgL_len (l : List S55) (p : List S23) : ∀ n, (sgL l p n).length = n
  | 0 => rfl
  | n + 1 => by unfold sgL; rw [List.length_append, sgL_len l p n]; rfl
theorem rdP_in {p : List S23} (h : plB p = true) (i : Nat) (hi : i < p.length) : inR (rd_T23 p i).f0 (rd_T23 p i).f1 := by
  rw [rdP_at p i hi]; exact plB_in h _ (List.getElem_mem hi)
theorem mid_rd (a : List Int) (x : Int) (b : List Int) : rd (a ++ x :: b) (a.length : Nat) = x := by
  rw [rd_at _ _ (by simp)]; simp
theorem mid_set (a : List Int) (x y : Int) (b : List Int) : (a ++ x :: b).set a.length y = a ++ y :: b := by simp
theorem sights_l1 {l : List S55} {p : List S23} (h : valR l = 0) (hp : plB p = true) (h16 : p.length ≤ 16) (i : Nat) (hi : i < p.length) (z : List Int) (r : List Int)
    (K : Ev (fun k => screen_sights.l0 k l p (sgL l p (i + 1) ++ z) p (p.length : Int) ((i + 1 : Nat) : Int)) r) : ∀ (d k : Nat), k + d = p.length →
    Ev (fun n => screen_sights.l1 n l p (sgL l p i ++ ((rv (sq l p i) k : Nat) : Int) :: z) (i : Int) p (p.length : Int) (i : Int) p (p.length : Int) (k : Int) (rd_T23 p i).f0 (rd_T23 p i).f1) r
  | 0, k, hk => by
    obtain rfl : k = p.length := by omega
    refine Ev.step (fun k => screen_sights.l1.eq_2 ..) (evn (by omega) ?_)
    rw [w64 (by omega) (by omega)]
    unfold sgL at K
    rw [List.append_assoc, List.singleton_append] at K
    exact K
  | d + 1, k, hk => by
    have hlt : k < p.length := by omega
    have R := sights_l1 h hp h16 i hi z r K d (k + 1) (by omega)
    refine Ev.step (fun k => screen_sights.l1.eq_2 ..) (evp (by omega) (evp (by omega) (evp (by omega) (evs (sees_eq h (rdP_in hp i hi) (rdP_in hp k hlt)) ?_))))
    rw [w64 (n := (k : Int) + 1) (by omega) (by omega)]
    have L := sgL_len l p i
    by_cases q : sq l p i k = true
    · refine evp q (evp (by omega) (evp (by rw [List.length_append, L, List.length_cons]; omega) ?_))
      have e1 := mid_rd (sgL l p i) ((rv (sq l p i) k : Nat) : Int) z
      rw [L] at e1
      have e2 := mid_set (sgL l p i) ((rv (sq l p i) k : Nat) : Int) ((rv (sq l p i) (k + 1) : Nat) : Int) z
      rw [L] at e2
      rw [e1, or_step (sq l p i) (by omega) q, Int.toNat_natCast, e2]
      exact R
    · refine evn q ?_
      have e : rv (sq l p i) (k + 1) = rv (sq l p i) k := by
        show rv (sq l p i) k + (if sq l p i k then 2 ^ k else 0) = _
        rw [if_neg q, Nat.add_zero]
      rw [e] at R
      exact R
theorem sights_l0 {l : List S55} {p : List S23} (h : valR l = 0) (hp : plB p = true) (h16 : p.length ≤ 16) : ∀ (d i : Nat), i + d = p.length →
    Ev (fun k => screen_sights.l0 k l p (sgL l p i ++ List.replicate d 0) p (p.length : Int) (i : Int)) (sgL l p p.length)
  | 0, i, hi => by
    obtain rfl : i = p.length := by omega
    refine Ev.step (fun k => screen_sights.l0.eq_2 ..) (evn (by omega) ?_)
    rw [List.replicate_zero, List.append_nil]; exact Ev.now _
  | d + 1, i, hi => by
    have R := sights_l1 h hp h16 i (by omega) (List.replicate d 0) _ (sights_l0 h hp h16 d (i + 1) (by omega)) p.length 0 (by omega)
    refine Ev.step (fun k => screen_sights.l0.eq_2 ..) (evp (by omega) (evp (by omega) (evp (by omega) ?_)))
    rw [List.replicate_succ]
    exact R
theorem sights_ev {l : List S55} {p : List S23} (h : valR l = 0) (hp : plB p = true) (h16 : p.length ≤ 16) : Ev (fun k => screen_sights.f k l p) (sgL l p p.length) := by
  unfold screen_sights.f
  refine evp (by omega) (evp (by omega) ?_)
  rw [Int.toNat_natCast]
  exact sights_l0 h hp h16 p.length 0 (by omega)

theorem pts_in {l : List S55} {p : List S23} (h : lkR l [] p = 0) : valR l = 0 ∧ plB p = true ∧ p.length ≤ 16 := by
  obtain ⟨h1, _, h2, _, h3⟩ := lkR_ok h
  exact ⟨h1, h3, h2⟩

/-- what can be reached -/
inductive Rch (q : Nat → Nat → Bool) (n : Nat) (a : Nat) : Nat → Prop
  | here : a < n → Rch q n a a
  | step {b c : Nat} : Rch q n a b → c < n → q b c = true → Rch q n a c
theorem Rch.lt {q : Nat → Nat → Bool} {n a b : Nat} (h : Rch q n a b) : b < n := by
  cases h with
  | here h => exact h
  | step _ h _ => exact h
theorem Rch.lt1 {q : Nat → Nat → Bool} {n a b : Nat} (h : Rch q n a b) : a < n := by
  induction h with
  | here h => exact h
  | step _ _ _ ih => exact ih
theorem Rch.trans {q : Nat → Nat → Bool} {n a b c : Nat} (h : Rch q n a b) (k : Rch q n b c) : Rch q n a c := by
  induction k with
  | here _ => exact h
  | step _ hl hq ih => exact Rch.step ih hl hq
theorem Rch.symm {q : Nat → Nat → Bool} {n a b : Nat} (hs : ∀ x y, q x y = q y x) (h : Rch q n a b) : Rch q n b a := by
  induction h with
  | here h => exact Rch.here h
  | step r hl hq ih => exact Rch.trans (Rch.step (Rch.here hl) r.lt (by rw [hs]; exact hq)) ih
def IsMin (q : Nat → Nat → Bool) (n i : Nat) : Prop := ∀ m, m < i → ¬ Rch q n m i
open Classical in
noncomputable def cnt (P : Nat → Prop) : Nat → Nat
  | 0 => 0
  | n + 1 => cnt P n + (if P n then 1 else 0)
theorem cnt_yes {P : Nat → Prop} {n : Nat} (h : P n) : cnt P (n + 1) = cnt P n + 1 := by
  show cnt P n + _ = _
  rw [if_pos h]
theorem cnt_no {P : Nat → Prop} {n : Nat} (h : ¬ P n) : cnt P (n + 1) = cnt P n := by
  show cnt P n + _ = _
  rw [if_neg h, Nat.add_zero]
theorem cnt_le (P : Nat → Prop) : ∀ n, cnt P n ≤ n
  | 0 => Nat.le_refl _
  | n + 1 => by
    have := cnt_le P n
    by_cases h : P n
    · rw [cnt_yes h]; omega
    · rw [cnt_no h]; omega
/-- one pass over the members of a group -/
def gp (s : Nat → Nat) : Nat → Nat → Nat → Nat
  | _, 0, g => g
  | k, d + 1, g => gp s (k + 1) d (if g.testBit k then g ||| s k else g)
theorem gp_mono (s : Nat → Nat) : ∀ (d k g j : Nat), g.testBit j = true → (gp s k d g).testBit j = true
  | 0, _, _, _, h => h
  | d + 1, k, g, j, h => by
    refine gp_mono s d (k + 1) _ j ?_
    split
    · rw [Nat.testBit_or, h]; rfl
    · exact h
theorem gp_has (s : Nat → Nat) : ∀ (d k g j m : Nat), k ≤ j → j < k + d → g.testBit j = true → (s j).testBit m = true → (gp s k d g).testBit m = true
  | 0, k, g, j, m, h1, h2, _, _ => by omega
  | d + 1, k, g, j, m, h1, h2, h, hm => by
    unfold gp
    by_cases e : j = k
    · subst e
      rw [if_pos h]
      exact gp_mono s d (j + 1) _ m (by rw [Nat.testBit_or, hm, Bool.or_true])
    · refine gp_has s d (k + 1) _ j m (by omega) (by omega) ?_ hm
      split
      · rw [Nat.testBit_or, h]; rfl
      · exact h
theorem gp_in (s : Nat → Nat) (Q : Nat → Prop) (hQ : ∀ j m, Q j → (s j).testBit m = true → Q m) : ∀ (d k g : Nat), (∀ j, g.testBit j = true → Q j) → ∀ j, (gp s k d g).testBit j = true → Q j
  | 0, _, _, h => h
  | d + 1, k, g, h => by
    refine gp_in s Q hQ d (k + 1) _ ?_
    by_cases e : g.testBit k = true
    · rw [if_pos e]
      intro j hj
      rw [Nat.testBit_or, Bool.or_eq_true] at hj
      rcases hj with hj | hj
      · exact h j hj
      · exact hQ k j (h k e) hj
    · rw [if_neg e]; exact h
theorem gp_lt (s : Nat → Nat) (n : Nat) (hs : ∀ j, s j < 2 ^ n) : ∀ (d k g : Nat), g < 2 ^ n → gp s k d g < 2 ^ n
  | 0, _, _, h => h
  | d + 1, k, g, h => by
    refine gp_lt s n hs d (k + 1) _ ?_
    split
    · exact Nat.or_lt_two_pow h (hs k)
    · exact h
theorem gp_le (s : Nat → Nat) : ∀ (d k g : Nat), g ≤ gp s k d g
  | 0, _, _ => Nat.le_refl _
  | d + 1, k, g => by
    refine Nat.le_trans ?_ (gp_le s d (k + 1) _)
    split
    · exact Nat.left_le_or
    · exact Nat.le_refl _
theorem pow62 {n v : Nat} (h : n ≤ 16) (hv : v < 2 ^ n) : v < 2 ^ 62 := Nat.lt_of_lt_of_le (Nat.lt_of_lt_of_le hv (pow_small h)) (by decide)
theorem bit_at' (v k : Nat) (hv : v < 2 ^ 62) (hk : k ≤ 16) : Go.bits .and .i64 (shr .i64 (v : Int) (k : Int)) 1 = if v.testBit k then 1 else 0 := by
  have w : IntKind.u64.wrap (k : Int) = k := by
    simp only [IntKind.wrap, IntKind.bits, IntKind.signed, Bool.false_and]
    rw [if_neg (by decide)]
    omega
  have := bit_at v k hv hk
  rwa [w] at this
theorem sgL_at (l : List S55) (p : List S23) : ∀ (n i : Nat), i < n → rd (sgL l p n) (i : Int) = ((rv (sq l p i) p.length : Nat) : Int)
  | 0, i, h => absurd h (by omega)
  | n + 1, i, h => by
    have L := sgL_len l p n
    unfold sgL
    by_cases e : i = n
    · subst e
      have := mid_rd (sgL l p i) ((rv (sq l p i) p.length : Nat) : Int) []
      rw [L] at this; exact this
    · have R := sgL_at l p n i (by omega)
      rw [rd_at _ _ (by omega)] at R
      rw [rd_at _ _ (by rw [List.length_append, L]; simp; omega), List.getElem_append_left (by omega)]
      exact R
/-- who is seen from j -/
def sn (l : List S55) (p : List S23) (j : Nat) : Nat := rv (sq l p j) p.length
theorem Groups_l2 {l : List S55} {p : List S23} (h16 : p.length ≤ 16) (c D b i : Nat) (hD : D < 2 ^ p.length) (r : Int × Int) : ∀ (d k g : Nat), k + d = p.length → g < 2 ^ p.length →
    Ev (fun n => screen_Groups.l1 n p (sgL l p p.length) (c : Int) ((D ||| gp (sn l p) k d g : Nat) : Int) ((gp (sn l p) k d g : Nat) : Int) (b : Int) (p.length : Int) (i : Int)) r →
    Ev (fun n => screen_Groups.l2 n p (sgL l p p.length) (c : Int) (D : Int) (g : Int) (b : Int) (p.length : Int) (i : Int) (p.length : Int) (k : Int)) r
  | 0, k, g, hk, hg, K => by
    refine Ev.step (fun k => screen_Groups.l2.eq_2 ..) (evn (by omega) ?_)
    rw [(bits64 D g (pow62 h16 hD) (pow62 h16 hg)).2]
    exact K
  | d + 1, k, g, hk, hg, K => by
    have hlt : k < p.length := by omega
    refine Ev.step (fun k => screen_Groups.l2.eq_2 ..) (evp (by omega) (evp (by omega) ?_))
    rw [bit_at' g k (pow62 h16 hg) (by omega), w64 (by omega) (by omega)]
    unfold gp at K
    have sl : sn l p k < 2 ^ p.length := rv_lt _ _
    by_cases z : g.testBit k = true
    · rw [if_pos z] at K
      rw [if_pos z]
      refine evp rfl (evp (by rw [sgL_len]; omega) ?_)
      rw [sgL_at l p _ k hlt]
      have e := (bits64 g (sn l p k) (pow62 h16 hg) (pow62 h16 sl)).2
      change Ev (fun n => screen_Groups.l2 n p (sgL l p p.length) (c : Int) (D : Int) (Go.bits .or .i64 (g : Int) ((sn l p k : Nat) : Int)) (b : Int) (p.length : Int) (i : Int) (p.length : Int) ((k : Int) + 1)) r
      rw [e]
      exact Groups_l2 h16 c D b i hD r d (k + 1) _ (by omega) (Nat.or_lt_two_pow hg sl) K
    · rw [if_neg z] at K
      rw [if_neg z]
      exact evn (by decide) (Groups_l2 h16 c D b i hD r d (k + 1) _ (by omega) hg K)
theorem Groups_l1 {l : List S55} {p : List S23} (h16 : p.length ≤ 16) (c i : Nat) (hi : i < p.length) (D : Nat) (r : Int × Int) (Q : Nat → Prop) (hQ : ∀ j m, Q j → (sn l p j).testBit m = true → Q m)
    (K : ∀ D' : Nat, D' < 2 ^ p.length → (∀ j, D.testBit j = true → D'.testBit j = true) → (∀ j, D'.testBit j = true → D.testBit j = true ∨ Q j) → (∃ g : Nat, (∀ j m, g.testBit j = true → j < p.length → (sn l p j).testBit m = true → g.testBit m = true) ∧ g.testBit i = true ∧ ∀ j, g.testBit j = true → D'.testBit j = true) →
      Ev (fun n => screen_Groups.l0 n p (sgL l p p.length) (c : Int) (D' : Int) (p.length : Int) ((i + 1 : Nat) : Int)) r) :
    ∀ (f g b D' : Nat), 2 ^ p.length - g ≤ f → g < 2 ^ p.length → D' < 2 ^ p.length → g.testBit i = true → (∀ j, g.testBit j = true → Q j) → (∀ j, D.testBit j = true → D'.testBit j = true) → (∀ j, D'.testBit j = true → D.testBit j = true ∨ Q j) →
      (g = b → g = gp (sn l p) 0 p.length b ∧ ∀ j, g.testBit j = true → D'.testBit j = true) →
      Ev (fun n => screen_Groups.l1 n p (sgL l p p.length) (c : Int) (D' : Int) (g : Int) (b : Int) (p.length : Int) (i : Int)) r
  | 0, g, b, D', hf, hg, _, _, _, _, _, _ => by omega
  | f + 1, g, b, D', hf, hg, hD', hgi, hgQ, h1, h2, h3 => by
    refine Ev.step (fun k => screen_Groups.l1.eq_2 ..) ?_
    by_cases e : g = b
    · refine evp (by omega) ?_
      rw [w64 (by omega) (by omega)]
      obtain ⟨q1, q2⟩ := h3 e
      refine K D' hD' h1 h2 ⟨g, fun j m a b' z => ?_, hgi, q2⟩
      rw [q1]
      subst e
      exact gp_has _ _ _ _ j m (by omega) (by omega) a z
    · refine evn (by omega) ?_
      have lt : gp (sn l p) 0 p.length g < 2 ^ p.length := gp_lt _ _ (fun j => rv_lt _ _) _ _ _ hg
      have le := gp_le (sn l p) p.length 0 g
      refine Groups_l2 h16 c D' g i hD' r p.length 0 g (by omega) hg ?_
      have D2 : ∀ j, (D' ||| gp (sn l p) 0 p.length g).testBit j = true → D.testBit j = true ∨ Q j := by
        intro j hj
        rw [Nat.testBit_or, Bool.or_eq_true] at hj
        rcases hj with hj | hj
        · exact h2 j hj
        · exact Or.inr (gp_in _ Q hQ _ _ _ hgQ j hj)
      have D1 : ∀ j, D.testBit j = true → (D' ||| gp (sn l p) 0 p.length g).testBit j = true := fun j hj => by rw [Nat.testBit_or, h1 j hj]; rfl
      have D3 : ∀ j, (gp (sn l p) 0 p.length g).testBit j = true → (D' ||| gp (sn l p) 0 p.length g).testBit j = true := fun j hj => by rw [Nat.testBit_or, hj, Bool.or_true]
      by_cases same : gp (sn l p) 0 p.length g = g
      · -- the last look: nothing has changed
        refine Ev.step (fun k => screen_Groups.l1.eq_2 ..) (evp (by omega) ?_)
        rw [w64 (by omega) (by omega)]
        refine K _ (Nat.or_lt_two_pow hD' lt) D1 D2 ⟨g, fun j m a b' z => ?_, hgi, fun j hj => D3 j (by rw [same]; exact hj)⟩
        have := gp_has (sn l p) p.length 0 g j m (by omega) (by omega) a z
        rwa [same] at this
      · exact Groups_l1 h16 c i hi D r Q hQ K f _ g _ (by omega) lt (Nat.or_lt_two_pow hD' lt) (gp_mono _ _ _ _ _ hgi) (gp_in _ Q hQ _ _ _ hgQ) D1 D2 (fun z => absurd z same)
theorem sn_bit (l : List S55) (p : List S23) (j m : Nat) : (sn l p j).testBit m = true ↔ m < p.length ∧ sq l p j m = true := by
  unfold sn
  by_cases h : m < p.length
  · rw [rv_bit _ _ _ h]; exact ⟨fun z => ⟨h, z⟩, fun z => z.2⟩
  · rw [Nat.testBit_lt_two_pow (Nat.lt_of_lt_of_le (rv_lt _ _) (Nat.pow_le_pow_right (by decide) (by omega)))]
    exact ⟨fun z => absurd z (by decide), fun z => absurd z.1 h⟩
theorem Groups_l0 {l : List S55} {p : List S23} (h16 : p.length ≤ 16) : ∀ (d i D : Nat), i + d = p.length → D < 2 ^ p.length → (∀ j, j < i → D.testBit j = true) → (∀ j m, D.testBit j = true → j < p.length → (sn l p j).testBit m = true → D.testBit m = true) → (∀ j, D.testBit j = true → ∃ m, m < i ∧ Rch (sq l p) p.length m j) →
    Ev (fun n => screen_Groups.l0 n p (sgL l p p.length) ((cnt (IsMin (sq l p) p.length) i : Nat) : Int) (D : Int) (p.length : Int) (i : Int)) (((cnt (IsMin (sq l p) p.length) p.length : Nat) : Int), 0)
  | 0, i, D, hi, _, _, _, _ => by
    obtain rfl : i = p.length := by omega
    exact Ev.step (fun k => screen_Groups.l0.eq_2 ..) (evn (by omega) (Ev.now _))
  | d + 1, i, D, hi, hD, ha, hb, hc => by
    have cl := cnt_le (IsMin (sq l p) p.length) i
    refine Ev.step (fun k => screen_Groups.l0.eq_2 ..) (evp (by omega) (evp (by omega) ?_))
    rw [bit_at' D i (pow62 h16 hD) (by omega)]
    by_cases z : D.testBit i = true
    · rw [if_pos z]
      refine evp rfl ?_
      rw [w64 (by omega) (by omega)]
      have no : ¬ IsMin (sq l p) p.length i := fun y => by
        obtain ⟨m, m1, m2⟩ := hc i z
        exact y m m1 m2
      have R := Groups_l0 h16 d (i + 1) D (by omega) hD (fun j hj => by
        by_cases e : j = i
        · rw [e]; exact z
        · exact ha j (by omega)) hb (fun j hj => by
        obtain ⟨m, m1, m2⟩ := hc j hj
        exact ⟨m, by omega, m2⟩)
      rw [cnt_no no] at R
      exact R
    · rw [if_neg z]
      refine evn (by decide) ?_
      rw [w64 (by omega) (by omega), shl1 (by omega)]
      have reach : ∀ m j, Rch (sq l p) p.length m j → D.testBit m = true → D.testBit j = true := by
        intro m j h
        induction h with
        | here _ => exact id
        | step r hl hq ih => exact fun y => hb _ _ (ih y) r.lt ((sn_bit ..).2 ⟨hl, hq⟩)
      have yes : IsMin (sq l p) p.length i := fun m hm r => z (reach m i r (ha m hm))
      have K := fun R => Groups_l1 (l := l) h16 (cnt (IsMin (sq l p) p.length) i + 1) i (by omega) D (((cnt (IsMin (sq l p) p.length) p.length : Nat) : Int), 0) (fun j => Rch (sq l p) p.length i j) (fun j m a b => Rch.step a ((sn_bit ..).1 b).1 ((sn_bit ..).1 b).2) R (2 ^ p.length) (2 ^ i) 0 D (Nat.sub_le _ _) (Nat.pow_lt_pow_right (by decide) (by omega)) hD (Nat.testBit_two_pow_self) (fun j hj => by
          by_cases e : i = j
          · subst e; exact Rch.here (by omega)
          · rw [Nat.testBit_two_pow_of_ne e] at hj; exact absurd hj (by decide)) (fun _ y => y) (fun _ y => Or.inl y) (fun y => absurd y (by have := Nat.pow_pos (n := i) (show 0 < 2 by decide); omega))
      rw [show ((cnt (IsMin (sq l p) p.length) i : Nat) : Int) + 1 = ((cnt (IsMin (sq l p) p.length) i + 1 : Nat) : Int) by omega]
      refine K ?_
      intro D' hD' d1 d2 ⟨g, g1, g2, g3⟩
      have R := Groups_l0 h16 d (i + 1) D' (by omega) hD' (fun j hj => by
        by_cases e : j = i
        · rw [e]; exact g3 i g2
        · exact d1 j (ha j (by omega))) (fun j m a hl b => by
        rcases d2 j a with y | y
        · exact d1 m (hb j m y hl b)
        · refine g3 m (g1 j m ?_ hl b)
          clear a b
          induction y with
          | here _ => exact g2
          | step r hl' hq ih => exact g1 _ _ (ih r.lt) r.lt ((sn_bit ..).2 ⟨hl', hq⟩)) (fun j hj => by
        rcases d2 j hj with y | y
        · obtain ⟨m, m1, m2⟩ := hc j y
          exact ⟨m, by omega, m2⟩
        · exact ⟨i, by omega, y⟩)
      rw [cnt_yes yes] at R
      exact R

def up (l : List Nat) : List Int := l.map (fun z : Nat => (z : Int))
theorem up_len (l : List Nat) : (up l).length = l.length := List.length_map _
theorem up_set (l : List Nat) (i v : Nat) : (up l).set i (v : Int) = up (l.set i v) := by unfold up; rw [List.map_set]
theorem up_rd (l : List Nat) (i : Nat) (h : i < l.length) : rd (up l) (i : Int) = (l[i] : Int) := by
  rw [rd_at _ _ (by rw [up_len]; exact h)]; exact List.getElem_map _
theorem rGroups_l0 (l : List S55) (p : List S23) (hp : p.length ≤ 16) (r : Int × Int) (K : Ev (fun k => wigeonref02_Groups.l1 k l p (up (List.range p.length)) true) r) : ∀ (d i : Nat), i + d = p.length →
    Ev (fun k => wigeonref02_Groups.l0 k l p (up (List.range i) ++ List.replicate d 0) (i : Int)) r
  | 0, i, hi => by
    obtain rfl : i = p.length := by omega
    rw [List.replicate_zero, List.append_nil]
    exact Ev.step (fun k => wigeonref02_Groups.l0.eq_2 ..) (evn (by rw [up_len, List.length_range]; omega) K)
  | d + 1, i, hi => by
    have R := rGroups_l0 l p hp r K d (i + 1) (by omega)
    have L : (up (List.range i)).length = i := by rw [up_len, List.length_range]
    refine Ev.step (fun k => wigeonref02_Groups.l0.eq_2 ..) (evp (by rw [List.length_append, L, List.length_replicate]; omega) (evp (by omega) ?_))
    have e := mid_set (up (List.range i)) 0 (i : Int) (List.replicate d 0)
    rw [L] at e
    rw [w64 (by omega) (by omega), Int.toNat_natCast, List.replicate_succ, e]
    rw [List.range_succ] at R
    unfold up at *
    rw [List.map_append, List.map_singleton, List.append_assoc, List.singleton_append] at R
    exact R
def InvN (q : Nat → Nat → Bool) (n : Nat) (l : List Nat) : Prop := l.length = n ∧ ∀ (j : Nat) (h : j < l.length), l[j] ≤ j ∧ Rch q n j l[j]
theorem sum_set : ∀ (l : List Nat) (i v : Nat) (h : i < l.length), v < l[i] → (l.set i v).sum < l.sum
  | [], _, _, h, _ => absurd h (by simp)
  | x :: l, 0, v, h, hv => by
    have hv : v < x := hv
    simp only [List.set_cons_zero, List.sum_cons]; omega
  | x :: l, i + 1, v, h, hv => by
    have := sum_set l i v (by simpa using h) hv
    simp only [List.set_cons_succ, List.sum_cons]; omega
/-- how a look over all pairs stands -/
def Pass (q : Nat → Nat → Bool) (N0 N : List Nat) (ch : Bool) (i k : Nat) : Prop :=
  (ch = true ∧ N.sum < N0.sum) ∨ (ch = false ∧ N = N0 ∧ ∀ (a b : Nat) (ha : a < N0.length) (hb : b < N0.length), (a < i ∨ (a = i ∧ b < k)) → ¬ (N0[b] < N0[a] ∧ q a b = true))
theorem rGroups_l3 {l : List S55} {p : List S23} (h : valR l = 0) (hp : plB p = true) (h16 : p.length ≤ 16) (N0 : List Nat) (h0 : N0.length = p.length) (i : Nat) (hi : i < p.length) (r : Int × Int)
    (K : ∀ N ch, InvN (sq l p) p.length N → Pass (sq l p) N0 N ch (i + 1) 0 → Ev (fun n => wigeonref02_Groups.l2 n l p (up N) ch ((i + 1 : Nat) : Int)) r) : ∀ (d k : Nat) (N : List Nat) (ch : Bool), k + d = p.length → InvN (sq l p) p.length N → Pass (sq l p) N0 N ch i k →
    Ev (fun n => wigeonref02_Groups.l3 n l p (up N) ch (i : Int) (k : Int)) r
  | 0, k, N, ch, hk, hN, hP => by
    refine Ev.step (fun k => wigeonref02_Groups.l3.eq_2 ..) (evn (by omega) ?_)
    rw [w64 (by omega) (by omega)]
    refine K N ch hN ?_
    rcases hP with hP | ⟨e, e2, hP⟩
    · exact Or.inl hP
    · exact Or.inr ⟨e, e2, fun a b ha hb hab => hP a b ha hb (by omega)⟩
  | d + 1, k, N, ch, hk, hN, hP => by
    have hlt : k < p.length := by omega
    obtain ⟨nl, nq⟩ := hN
    refine Ev.step (fun k => wigeonref02_Groups.l3.eq_2 ..) (evp (by omega) (evp (by omega) (evp (by rw [up_len]; omega) (evp (by omega) (evp (by rw [up_len]; omega) ?_)))))
    rw [up_rd N k (by omega), up_rd N i (by omega), w64 (by omega) (by omega)]
    by_cases z : N[k]'(by omega) < N[i]'(by omega)
    · refine evp (by omega) (evp (by omega) (evb (rsees_ev h (rdP_in hp i hi) (rdP_in hp k hlt)) ?_))
      by_cases y : sq l p i k = true
      · refine evp y ?_
        rw [Int.toNat_natCast, up_set]
        refine rGroups_l3 h hp h16 N0 h0 i hi r K d (k + 1) _ true (by omega) ⟨by rw [List.length_set]; exact nl, fun j hj => ?_⟩ (Or.inl ⟨rfl, ?_⟩)
        · rw [List.length_set] at hj
          by_cases e : i = j
          · subst e
            rw [List.getElem_set_self]
            exact ⟨by have := (nq i (by omega)).1; omega, Rch.trans (Rch.step (Rch.here hi) hlt y) (nq k (by omega)).2⟩
          · rw [List.getElem_set_ne e]; exact nq j hj
        · have s := sum_set N i (N[k]'(by omega)) (by omega) z
          rcases hP with ⟨_, hP⟩ | ⟨_, e, _⟩
          · omega
          · have := congrArg List.sum e; omega
      · refine evn y (rGroups_l3 h hp h16 N0 h0 i hi r K d (k + 1) N ch (by omega) ⟨nl, nq⟩ ?_)
        rcases hP with hP | ⟨e, e2, hP⟩
        · exact Or.inl hP
        · refine Or.inr ⟨e, e2, fun a b ha hb hab => ?_⟩
          by_cases w : a = i ∧ b = k
          · obtain ⟨rfl, rfl⟩ := w; exact fun x => y x.2
          · exact hP a b ha hb (by omega)
    · refine evn (by omega) (rGroups_l3 h hp h16 N0 h0 i hi r K d (k + 1) N ch (by omega) ⟨nl, nq⟩ ?_)
      rcases hP with hP | ⟨e, e2, hP⟩
      · exact Or.inl hP
      · refine Or.inr ⟨e, e2, fun a b ha hb hab => ?_⟩
        by_cases w : a = i ∧ b = k
        · obtain ⟨rfl, rfl⟩ := w
          subst e2
          exact fun x => z x.1
        · exact hP a b ha hb (by omega)
theorem rGroups_l2 {l : List S55} {p : List S23} (h : valR l = 0) (hp : plB p = true) (h16 : p.length ≤ 16) (N0 : List Nat) (h0 : N0.length = p.length) (r : Int × Int)
    (K : ∀ N ch, InvN (sq l p) p.length N → Pass (sq l p) N0 N ch p.length 0 → Ev (fun n => wigeonref02_Groups.l1 n l p (up N) ch) r) : ∀ (d i : Nat) (N : List Nat) (ch : Bool), i + d = p.length → InvN (sq l p) p.length N → Pass (sq l p) N0 N ch i 0 →
    Ev (fun n => wigeonref02_Groups.l2 n l p (up N) ch (i : Int)) r
  | 0, i, N, ch, hi, hN, hP => by
    obtain rfl : i = p.length := by omega
    exact Ev.step (fun k => wigeonref02_Groups.l2.eq_2 ..) (evn (by omega) (K N ch hN hP))
  | d + 1, i, N, ch, hi, hN, hP => by
    refine Ev.step (fun k => wigeonref02_Groups.l2.eq_2 ..) (evp (by omega) ?_)
    exact rGroups_l3 h hp h16 N0 h0 i (by omega) r (fun N ch a b => rGroups_l2 h hp h16 N0 h0 r K d (i + 1) N ch (by omega) a b) p.length 0 N ch (by omega) hN hP
theorem fix_min {q : Nat → Nat → Bool} {n : Nat} {N : List Nat} (hs : ∀ a b, q a b = q b a) (hN : InvN q n N) (hf : ∀ (a b : Nat) (ha : a < N.length) (hb : b < N.length), ¬ (N[b] < N[a] ∧ q a b = true)) (i : Nat) (hi : i < N.length) : N[i] = i ↔ IsMin q n i := by
  obtain ⟨nl, nq⟩ := hN
  have same : ∀ a b, Rch q n a b → ∀ (ha : a < N.length) (hb : b < N.length), N[a] = N[b] := by
    intro a b h
    induction h with
    | here _ => intro _ _; rfl
    | step r hl hq ih =>
      intro ha hc
      rename_i b c
      have hb : b < N.length := by have := r.lt; omega
      have e := ih ha hb
      have f1 := hf b c hb hc
      have f2 := hf c b hc hb
      rw [hq] at f1
      rw [hs c b, hq] at f2
      rw [e]
      by_cases x : N[b] = N[c]
      · exact x
      · by_cases y : N[b] < N[c]
        · exact absurd ⟨y, rfl⟩ f2
        · exact absurd ⟨by omega, rfl⟩ f1
  constructor
  · intro e m hm r
    have hml : m < N.length := by have := r.lt1; omega
    have := same m i r hml hi
    have := (nq m hml).1
    omega
  · intro hmin
    obtain ⟨a, b⟩ := nq i hi
    by_cases e : N[i] = i
    · exact e
    · exact absurd (Rch.symm hs b) (hmin _ (by omega))
theorem rGroups_l4 {q : Nat → Nat → Bool} {n : Nat} {N : List Nat} (hn : n ≤ 16) (hl : N.length = n) (hm : ∀ (i : Nat) (hi : i < N.length), N[i] = i ↔ IsMin q n i) : ∀ (d i : Nat), i + d = n →
    Ev (fun k => wigeonref02_Groups.l4 k (up N) ((cnt (IsMin q n) i : Nat) : Int) (i : Int)) (((cnt (IsMin q n) n : Nat) : Int), 0)
  | 0, i, hi => by
    obtain rfl : i = n := by omega
    exact Ev.step (fun k => wigeonref02_Groups.l4.eq_2 ..) (evn (by rw [up_len]; omega) (Ev.now _))
  | d + 1, i, hi => by
    have R := rGroups_l4 hn hl hm d (i + 1) (by omega)
    have c := cnt_le (IsMin q n) i
    refine Ev.step (fun k => wigeonref02_Groups.l4.eq_2 ..) (evp (by rw [up_len]; omega) (evp (by omega) ?_))
    rw [up_rd N i (by omega), w64 (n := (i : Int) + 1) (by omega) (by omega)]
    by_cases z : N[i]'(by omega) = i
    · rw [cnt_yes ((hm i (by omega)).1 z)] at R
      rw [w64 (by omega) (by omega)]
      exact evp (by omega) R
    · rw [cnt_no (fun y => z ((hm i (by omega)).2 y))] at R
      exact evn (by omega) R
theorem rGroups_l1 {l : List S55} {p : List S23} (h : valR l = 0) (hp : plB p = true) (h16 : p.length ≤ 16) : ∀ (s : Nat) (N : List Nat), N.sum ≤ s → InvN (sq l p) p.length N →
    Ev (fun k => wigeonref02_Groups.l1 k l p (up N) true) (((cnt (IsMin (sq l p) p.length) p.length : Nat) : Int), 0) := by
  intro s
  induction s using Nat.strongRecOn with
  | ind s ih =>
    intro N hs hN
    refine Ev.step (fun k => wigeonref02_Groups.l1.eq_2 ..) (evp rfl ?_)
    refine rGroups_l2 h hp h16 N hN.1 _ ?_ p.length 0 N false (by omega) hN (Or.inr ⟨rfl, rfl, fun a b _ _ hab => by omega⟩)
    intro N' ch hN' hP
    rcases hP with ⟨rfl, lt⟩ | ⟨rfl, rfl, hf⟩
    · exact ih N'.sum (by omega) N' (Nat.le_refl _) hN'
    · refine Ev.step (fun k => wigeonref02_Groups.l1.eq_2 ..) (evn (by decide) ?_)
      exact rGroups_l4 h16 hN'.1 (fun i hi => fix_min (sq_comm l p) hN' (fun a b ha hb => hf a b ha hb (Or.inl (by have := hN'.1; omega))) i hi) p.length 0 (by omega)

theorem Groups_both (l : List S55) (p : List S23) (hl : p.length ≤ 100000) : ∃ r, Ev (fun k => screen_Groups.f k l p) r ∧ Ev (fun k => wigeonref02_Groups.f k l p) r := by
  by_cases h : lkR l [] p = 0
  · obtain ⟨h1, h2, h3⟩ := pts_in h
    refine ⟨(((cnt (IsMin (sq l p) p.length) p.length : Nat) : Int), 0), ?_, ?_⟩
    · unfold screen_Groups.f
      refine evb (checked_ev ..) ?_
      rw [ckR_z]
      refine evp h (evb (sights_ev h1 h2 h3) ?_)
      exact Groups_l0 h3 p.length 0 0 (by omega) (Nat.pow_pos (by decide)) (fun j hj => absurd hj (by omega)) (fun j m hj => by rw [Nat.zero_testBit] at hj; exact absurd hj (by decide)) (fun j hj => by rw [Nat.zero_testBit] at hj; exact absurd hj (by decide))
    · unfold wigeonref02_Groups.f
      refine evb (looked_ev _ _ _ (by simp) hl) (evp h (evp (by omega) (evp (by omega) ?_)))
      rw [Int.toNat_natCast]
      refine rGroups_l0 l p h3 _ ?_ p.length 0 (by omega)
      refine rGroups_l1 h1 h2 h3 _ _ (Nat.le_refl _) ⟨List.length_range, fun j hj => ?_⟩
      rw [List.length_range] at hj
      rw [List.getElem_range]
      exact ⟨Nat.le_refl _, Rch.here hj⟩
  · refine ⟨(0, lkR l [] p), ?_, ?_⟩
    · unfold screen_Groups.f
      refine evb (checked_ev ..) ?_
      rw [ckR_z]
      exact evn h (Ev.now _)
    · unfold wigeonref02_Groups.f
      exact evb (looked_ev _ _ _ (by simp) hl) (evn h (Ev.now _))

theorem ScreenGroups (a0 : List S55) (a1 : List S23) (h0 : (a0.length ≤ 9223372036854775807 ∧ ∀ x_ ∈ a0, (((Lit.int .i64 x_.f0.f0).wf = true) ∧ ((Lit.int .i64 x_.f0.f1).wf = true)) ∧ (((Lit.int .i64 x_.f1.f0).wf = true) ∧ ((Lit.int .i64 x_.f1.f1).wf = true)))) (h1 : (a1.length ≤ 9223372036854775807 ∧ ∀ x_ ∈ a1, ((Lit.int .i64 x_.f0).wf = true) ∧ ((Lit.int .i64 x_.f1).wf = true))) : ∃ k, wigeonlaw02_ScreenGroups.f k a0 a1 = some true := by
  refine Ev.rounds (g := fun k => wigeonlaw02_ScreenGroups.f k a0 a1) ?_
  unfold wigeonlaw02_ScreenGroups.f
  refine evs (Long_eq ..) ?_
  by_cases h : a0.length > 100 ∨ a1.length > 100
  · rw [decide_eq_true h]; exact evp rfl (evb known_ev (Ev.now _))
  · rw [decide_eq_false h]
    obtain ⟨r, r1, r2⟩ := Groups_both a0 a1 (by omega)
    exact evn (by decide) (evb r1 (evb r2 (evp rfl (evp rfl (evb known_ev (Ev.now _))))))

end Go.Proofs.Ytgkgednbmfinnaa.Pure

