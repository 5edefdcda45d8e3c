/- Of the text PureTopSights, what the row of TopSights reaches. -/
import Derived.Test.YtieffjkplaajdaaZTopSightsSWx36
namespace Go.Proofs.Ytieffjkplaajdaa.Pure
set_option linter.unusedVariables false
set_option linter.unusedSimpArgs false
open Go.RowKit Go.Proofs.Ytieffjkplaajdaa.SW Go.Proofs.YtieffjkplaajdaaW.PrintWords Go.Proofs.YtieffjkplaajdaaW.PrintLast Go.Proofs.YtieffjkplaajdaaW.PrintMore
theorem nn {a b : Int} (h : a ≤ 0) (k : b ≤ 0) : 0 ≤ a * b := by
  have := Int.mul_nonneg (show 0 ≤ -a by omega) (show 0 ≤ -b by omega)
  rw [Int.neg_mul, Int.mul_neg] at this; omega
/-- c lies between a and b, on the axes -/
def bet (ax ay bx b_y px py : Int) : Prop := min ax bx ≤ px ∧ px ≤ max ax bx ∧ min ay b_y ≤ py ∧ py ≤ max ay b_y
instance (a b c d e f : Int) : Decidable (bet a b c d e f) := inferInstanceAs (Decidable (_ ∧ _))
def sdI (ax ay bx b_y px py : Int) : Int := (bx - ax) * (py - ay) - (b_y - ay) * (px - ax)
theorem sd_swap (ax ay bx b_y px py : Int) : sdI bx b_y ax ay px py = - sdI ax ay bx b_y px py := by unfold sdI; grind
def touch1 (ax ay bx b_y cx cy dx dy : Int) : Prop :=
  (sdI ax ay bx b_y cx cy = 0 ∧ bet ax ay bx b_y cx cy) ∨ (sdI ax ay bx b_y dx dy = 0 ∧ bet ax ay bx b_y dx dy) ∨ (sdI cx cy dx dy ax ay = 0 ∧ bet cx cy dx dy ax ay) ∨ (sdI cx cy dx dy bx b_y = 0 ∧ bet cx cy dx dy bx b_y) ∨
    (sdI ax ay bx b_y cx cy * sdI ax ay bx b_y dx dy < 0 ∧ sdI cx cy dx dy ax ay * sdI cx cy dx dy bx b_y < 0)
def touch2 (ax ay bx b_y cx cy dx dy : Int) : Prop :=
  ¬ (max ax bx < min cx dx ∨ max cx dx < min ax bx) ∧ ¬ (max ay b_y < min cy dy ∨ max cy dy < min ay b_y) ∧ sdI ax ay bx b_y cx cy * sdI ax ay bx b_y dx dy ≤ 0 ∧ sdI cx cy dx dy ax ay * sdI cx cy dx dy bx b_y ≤ 0
theorem touch1_swap {ax ay bx b_y cx cy dx dy : Int} (h : touch1 cx cy dx dy ax ay bx b_y) : touch1 ax ay bx b_y cx cy dx dy := by
  rcases h with h | h | h | h | ⟨h1, h2⟩
  · exact Or.inr (Or.inr (Or.inl h))
  · exact Or.inr (Or.inr (Or.inr (Or.inl h)))
  · exact Or.inl h
  · exact Or.inr (Or.inl h)
  · exact Or.inr (Or.inr (Or.inr (Or.inr ⟨h2, h1⟩)))
theorem bet_flip {ax ay bx b_y px py : Int} (h : bet ax ay bx b_y px py) : bet bx b_y ax ay px py := by
  obtain ⟨h1, h2, h3, h4⟩ := h; exact ⟨by omega, by omega, by omega, by omega⟩
theorem touch1_flip {ax ay bx b_y cx cy dx dy : Int} (h : touch1 ax ay bx b_y dx dy cx cy) : touch1 ax ay bx b_y cx cy dx dy := by
  rcases h with h | h | h | h | ⟨h1, h2⟩
  · exact Or.inr (Or.inl h)
  · exact Or.inl h
  · refine Or.inr (Or.inr (Or.inl ⟨?_, bet_flip h.2⟩)); rw [sd_swap, h.1]; rfl
  · refine Or.inr (Or.inr (Or.inr (Or.inl ⟨?_, bet_flip h.2⟩))); rw [sd_swap, h.1]; rfl
  · refine Or.inr (Or.inr (Or.inr (Or.inr ⟨by rw [Int.mul_comm]; exact h1, ?_⟩)))
    rw [sd_swap dx dy cx cy ax ay, sd_swap dx dy cx cy bx b_y, Int.neg_mul_neg]; exact h2
theorem touch1_comm (ax ay bx b_y cx cy dx dy : Int) : touch1 cx cy dx dy ax ay bx b_y ↔ touch1 ax ay bx b_y cx cy dx dy := ⟨touch1_swap, touch1_swap⟩
theorem touch1_rev (ax ay bx b_y cx cy dx dy : Int) : touch1 ax ay bx b_y dx dy cx cy ↔ touch1 ax ay bx b_y cx cy dx dy := ⟨touch1_flip, touch1_flip⟩
namespace Bfs
variable {V : Type}
/-- reached in so many steps -/
def D (adj : V → V → Prop) (src : V) : Nat → V → Prop
  | 0, v => v = src
  | n + 1, v => D adj src n v ∨ ∃ u, D adj src n u ∧ adj u v
theorem D_up {adj : V → V → Prop} {src v : V} {n : Nat} (h : D adj src n v) : ∀ d, D adj src (n + d) v
  | 0 => h
  | d + 1 => Or.inl (D_up h d)
theorem D_le {adj : V → V → Prop} {src v : V} {n m : Nat} (h : D adj src n v) (hl : n ≤ m) : D adj src m v := by
  have := D_up h (m - n)
  rwa [show n + (m - n) = m by omega] at this
/-- exactly so many -/
def X (adj : V → V → Prop) (src : V) (n : Nat) (v : V) : Prop := D adj src n v ∧ ∀ m, m < n → ¬ D adj src m v
theorem X_uniq {adj : V → V → Prop} {src v : V} {n m : Nat} (h : X adj src n v) (k : X adj src m v) : n = m := by
  rcases Nat.lt_trichotomy n m with l | l | l
  · exact absurd h.1 (k.2 n l)
  · exact l
  · exact absurd k.1 (h.2 m l)
theorem X_ex {adj : V → V → Prop} {src v : V} : ∀ {n : Nat}, D adj src n v → ∃ m, m ≤ n ∧ X adj src m v
  | 0, h => ⟨0, Nat.le_refl _, h, fun _ hm => absurd hm (Nat.not_lt_zero _)⟩
  | n + 1, h => by
    by_cases c : D adj src n v
    · obtain ⟨m, hm, hx⟩ := X_ex c
      exact ⟨m, by omega, hx⟩
    · exact ⟨n + 1, Nat.le_refl _, h, fun m hm z => c (D_le z (by omega))⟩
/-- what is known when i of the found ones are done, and of the next one's neighbours those for which 'done' holds -/
structure Inv (adj : V → V → Prop) (src : V) (i : Nat) (done : V → Prop) (fo : List V) (ba : List (V × V)) (lv : List Nat) : Prop where
  len : lv.length = fo.length
  first : ∃ t, fo = src :: t
  back0 : ∀ q p, (q, p) ∈ ba → q ∈ fo ∧ p ∈ fo
  keys : ∀ v, v ∈ fo ↔ ∃ p, (v, p) ∈ ba
  nodup : (ba.map (·.1)).Nodup
  nd : fo.Nodup
  src_ : (src, src) ∈ ba
  par : ∀ q p, (q, p) ∈ ba → q ≠ src → adj p q ∧ ∀ n, X adj src n q → ∃ m, n = m + 1 ∧ X adj src m p
  mono : ∀ j k : Nat, j ≤ k → (hk : k < lv.length) → lv.getD j 0 ≤ lv.getD k 0
  near : ∀ j : Nat, j < lv.length → i < lv.length → lv.getD j 0 ≤ lv.getD i 0 + 1
  exact_ : ∀ (j : Nat) (hj : j < fo.length), X adj src (lv.getD j 0) fo[j]
  closed : ∀ (j : Nat) (hj : j < fo.length), j < i → ∀ u, adj fo[j] u → u ∈ fo
  part : ∀ (hi : i < fo.length) (u : V), adj fo[i] u → done u → u ∈ fo
variable {adj : V → V → Prop} {src : V} {i : Nat} {done : V → Prop} {fo : List V} {ba : List (V × V)} {lv : List Nat}
/-- what is nearer than the next one is done -/
theorem Inv.nearer (h : Inv adj src i done fo ba lv) (hi : i < fo.length) : ∀ (n : Nat) (u : V), D adj src n u → n < lv.getD i 0 → ∃ (j : Nat) (hj : j < fo.length), j < i ∧ fo[j] = u
  | 0, u, hd, hl => by
    obtain ⟨t, ht⟩ := h.first
    have hd : u = src := hd
    refine ⟨0, by omega, ?_, ?_⟩
    · rcases Nat.eq_zero_or_pos i with z | z
      · subst z
        have x := h.exact_ 0 hi
        have e : fo[0] = src := by simp [ht]
        rw [e] at x
        exact absurd rfl (x.2 0 hl)
      · exact z
    · subst hd; simp [ht]
  | n + 1, u, hd, hl => by
    rcases hd with hd | ⟨u', hd, ha⟩
    · exact h.nearer hi n u hd (by omega)
    · obtain ⟨j, hj, hji, e⟩ := h.nearer hi n u' hd (by omega)
      have m := h.closed j hj hji u (e ▸ ha)
      obtain ⟨k, hk, ek⟩ := List.getElem_of_mem m
      refine ⟨k, hk, ?_, ek⟩
      refine Nat.lt_of_not_le fun c => ?_
      have x := h.exact_ k hk
      rw [ek] at x
      have y : D adj src (n + 1) u := Or.inr ⟨u', hd, ha⟩
      have l1 := h.mono i k c (by rw [h.len]; exact hk)
      exact x.2 (n + 1) (by omega) y
/-- a new one has one step more -/
theorem Inv.fresh (h : Inv adj src i done fo ba lv) (hi : i < fo.length) {q : V} (ha : adj fo[i] q) (hq : q ∉ fo) : X adj src (lv.getD i 0 + 1) q := by
  refine ⟨Or.inr ⟨_, (h.exact_ i hi).1, ha⟩, fun m hm hd => ?_⟩
  obtain ⟨m', hm', x⟩ := X_ex hd
  cases m' with
  | zero =>
    obtain ⟨t, ht⟩ := h.first
    have : q = src := x.1
    exact hq (by rw [ht, this]; exact List.mem_cons_self ..)
  | succ n =>
    rcases x.1 with z | ⟨u, hu, hau⟩
    · exact x.2 n (by omega) z
    · obtain ⟨j, hj, hji, e⟩ := h.nearer hi n u hu (by omega)
      exact hq (h.closed j hj hji q (e ▸ hau))
theorem Inv.add (h : Inv adj src i done fo ba lv) (hi : i < fo.length) {q : V} (ha : adj fo[i] q) (hq : q ∉ fo) : Inv adj src i (fun u => done u ∨ u = q) (fo ++ [q]) ((q, fo[i]) :: ba) (lv ++ [lv.getD i 0 + 1]) := by
  have fr := h.fresh hi ha hq
  have hl := h.len
  have g1 : ∀ j, j < lv.length → (lv ++ [lv.getD i 0 + 1]).getD j 0 = lv.getD j 0 := fun j hj => by
    simp [List.getD_eq_getElem?_getD, List.getElem?_append_left hj]
  have g2 : (lv ++ [lv.getD i 0 + 1]).getD lv.length 0 = lv.getD i 0 + 1 := by
    rw [List.getD_eq_getElem?_getD, List.getElem?_append_right (Nat.le_refl _), Nat.sub_self]; rfl
  have f1 : ∀ (j : Nat) (hj : j < fo.length) (hj' : j < (fo ++ [q]).length), (fo ++ [q])[j] = fo[j] := fun j hj _ => List.getElem_append_left hj
  refine ⟨?_, ?_, ?_, ?_, ?_, ?_, ?_, ?_, ?_, ?_, ?_, ?_, ?_⟩
  · simp [hl]
  · obtain ⟨t, ht⟩ := h.first
    exact ⟨t ++ [q], by rw [ht]; rfl⟩
  · intro a b hab
    rcases List.mem_cons.1 hab with e | hab
    · injection e with e1 e2
      subst e1; subst e2
      exact ⟨List.mem_append_right _ (List.mem_singleton.2 rfl), List.mem_append_left _ (List.getElem_mem hi)⟩
    · obtain ⟨x, y⟩ := h.back0 a b hab
      exact ⟨List.mem_append_left _ x, List.mem_append_left _ y⟩
  · intro v
    rw [List.mem_append, List.mem_singleton, h.keys]
    constructor
    · rintro (⟨p, hp⟩ | rfl)
      · exact ⟨p, List.mem_cons_of_mem _ hp⟩
      · exact ⟨_, List.mem_cons_self ..⟩
    · rintro ⟨p, hp⟩
      rcases List.mem_cons.1 hp with e | hp
      · injection e with e1 _; exact Or.inr e1
      · exact Or.inl ⟨p, hp⟩
  · rw [List.map_cons, List.nodup_cons]
    refine ⟨fun m => ?_, h.nodup⟩
    obtain ⟨⟨a, b⟩, hab, e⟩ := List.mem_map.1 m
    have e : a = q := e
    subst e
    exact hq (h.back0 a b hab).1
  · rw [List.nodup_append]
    refine ⟨h.nd, by simp, fun a ha' b hb' e => ?_⟩
    rw [List.mem_singleton] at hb'
    exact hq (by rw [← hb', ← e]; exact ha')
  · exact List.mem_cons_of_mem _ h.src_
  · intro a b hab hne
    rcases List.mem_cons.1 hab with e | hab
    · injection e with e1 e2
      subst e1; subst e2
      exact ⟨ha, fun n hn => ⟨_, X_uniq hn fr, h.exact_ i hi⟩⟩
    · exact h.par a b hab hne
  · intro j k hjk hk
    rw [List.length_append, List.length_singleton] at hk
    rcases Nat.lt_or_ge k lv.length with c | c
    · rw [g1 j (by omega), g1 k c]; exact h.mono j k hjk c
    · obtain rfl : k = lv.length := by omega
      rw [g2]
      rcases Nat.lt_or_ge j lv.length with d | d
      · rw [g1 j d]; exact h.near j d (by omega)
      · obtain rfl : j = lv.length := by omega
        rw [g2]; exact Nat.le_refl _
  · intro j hj _
    rw [g1 i (by omega)]
    rw [List.length_append, List.length_singleton] at hj
    rcases Nat.lt_or_ge j lv.length with c | c
    · rw [g1 j c]; exact h.near j c (by omega)
    · obtain rfl : j = lv.length := by omega
      rw [g2]; exact Nat.le_refl _
  · intro j hj
    rw [List.length_append, List.length_singleton] at hj
    rcases Nat.lt_or_ge j fo.length with c | c
    · rw [f1 j c, g1 j (by omega)]; exact h.exact_ j c
    · obtain rfl : j = fo.length := by omega
      have e1 : (fo ++ [q])[fo.length]'(by simp) = q := by simp
      have e2 : (lv ++ [lv.getD i 0 + 1]).getD fo.length 0 = lv.getD i 0 + 1 := by rw [← hl]; exact g2
      rw [e1, e2]
      exact fr
  · intro j hj hji u hu
    rw [f1 j (by omega)] at hu
    exact List.mem_append_left _ (h.closed j (by omega) hji u hu)
  · intro hi' u hu hd
    rw [f1 i hi] at hu
    rcases hd with hd | rfl
    · exact List.mem_append_left _ (h.part hi u hu hd)
    · exact List.mem_append_right _ (List.mem_singleton.2 rfl)
theorem Inv.skip (h : Inv adj src i done fo ba lv) {q : V} (hq : ∀ hi : i < fo.length, adj fo[i] q → q ∈ fo) : Inv adj src i (fun u => done u ∨ u = q) fo ba lv :=
  ⟨h.len, h.first, h.back0, h.keys, h.nodup, h.nd, h.src_, h.par, h.mono, h.near, h.exact_, h.closed, fun hi u hu hd => by
    rcases hd with hd | rfl
    · exact h.part hi u hu hd
    · exact hq hi hu⟩
theorem Inv.next (h : Inv adj src i done fo ba lv) (hi : i < fo.length) (all : ∀ u, adj fo[i] u → done u) : Inv adj src (i + 1) (fun _ => False) fo ba lv :=
  ⟨h.len, h.first, h.back0, h.keys, h.nodup, h.nd, h.src_, h.par, h.mono, fun j hj hi' => by
    have := h.near j hj (by omega)
    have := h.mono i (i + 1) (by omega) hi'
    omega, h.exact_, fun j hj hji u hu => by
    rcases Nat.lt_or_ge j i with c | c
    · exact h.closed j hj c u hu
    · obtain rfl : j = i := by omega
      exact h.part hi u hu (all u hu), fun _ _ _ hd => hd.elim⟩
theorem Inv.start : Inv adj src 0 (fun _ => False) [src] [(src, src)] [0] := by
  refine ⟨rfl, ⟨[], rfl⟩, ?_, ?_, by simp, by simp, by simp, ?_, ?_, ?_, ?_, fun j hj hji => absurd hji (Nat.not_lt_zero _), fun _ _ _ hd => hd.elim⟩
  · intro q p h
    simp at h; simp [h]
  · intro v; simp [eq_comm]
  · intro q p h hne
    simp at h; exact absurd h.1 hne
  · intro j k hjk hk
    simp at hk; subst hk
    obtain rfl : j = 0 := by omega
    simp
  · intro j hj _
    simp at hj; subst hj; simp
  · intro j hj
    simp at hj; subst hj
    exact ⟨rfl, fun _ hm => absurd hm (Nat.not_lt_zero _)⟩
/-- at the end all that can be reached is found -/
theorem Inv.all (h : Inv adj src i done fo ba lv) (hi : fo.length ≤ i) : ∀ (n : Nat) (u : V), D adj src n u → u ∈ fo
  | 0, u, hd => by
    obtain ⟨t, ht⟩ := h.first
    have : u = src := hd
    rw [ht, this]; exact List.mem_cons_self ..
  | n + 1, u, hd => by
    rcases hd with hd | ⟨u', hd, ha⟩
    · exact h.all hi n u hd
    · obtain ⟨j, hj, e⟩ := List.getElem_of_mem (h.all hi n u' hd)
      exact h.closed j hj (by omega) u (e ▸ ha)
theorem Inv.reach (h : Inv adj src i done fo ba lv) {v : V} (hv : v ∈ fo) : ∃ n, X adj src n v := by
  obtain ⟨j, hj, e⟩ := List.getElem_of_mem hv
  exact ⟨_, e ▸ h.exact_ j hj⟩
end Bfs

theorem evp {α : Type} {c : Prop} [Decidable c] {f g : Nat → Option α} {r : α} (h : c) (k : Ev f r) : Ev (fun n => if c then f n else g n) r :=
  Ev.congr (fun _ => if_pos h) k
theorem evn {α : Type} {c : Prop} [Decidable c] {f g : Nat → Option α} {r : α} (h : ¬ c) (k : Ev g r) : Ev (fun n => if c then f n else g n) r :=
  Ev.congr (fun _ => if_neg h) k
theorem evb {α β : Type} {g : Nat → Option α} {f : Nat → α → Option β} {a : α} {r : β} (h : Ev g a) (k : Ev (fun n => f n a) r) : Ev (fun n => (g n).bind (f n)) r := Ev.bind h k
theorem evs {α β : Type} {x : Option α} {f : Nat → α → Option β} {a : α} {r : β} (h : x = some a) (k : Ev (fun n => f n a) r) : Ev (fun n => x.bind (f n)) r := by
  subst h; exact k
theorem ev_uniq {α : Type} {g : Nat → Option α} {r s : α} (h : Ev g r) (k : Ev g s) : r = s := by
  obtain ⟨a, h⟩ := h
  obtain ⟨b, k⟩ := k
  have x := h (max a b) (by omega)
  have y := k (max a b) (by omega)
  rw [x] at y; exact Option.some.inj y
theorem w64 {n : Int} (h : -9223372036854775808 ≤ n) (h2 : n ≤ 9223372036854775807) : wrap64 n = n := by unfold wrap64; omega
theorem rdP_at (l : List S25) (i : Nat) (h : i < l.length) : rd_T25 l (i : Int) = l[i] := by
  simp [rd_T25, List.getD_eq_getElem?_getD, List.getElem?_eq_getElem h]
theorem rdX_at (l : List S48) (i : Nat) (h : i < l.length) : rd_T48 l (i : Int) = l[i] := by
  simp [rd_T48, List.getD_eq_getElem?_getD, List.getElem?_eq_getElem h]
theorem mn_eq (a b : Int) : mn a b = min a b := by unfold mn; split <;> omega
theorem mx_eq (a b : Int) : mx a b = max a b := by unfold mx; split <;> omega
theorem mulb {x y a b : Int} (h1 : -a ≤ x) (h2 : x ≤ a) (h3 : -b ≤ y) (h4 : y ≤ b) : -(a * b) ≤ x * y ∧ x * y ≤ a * b := by
  have p1 := Int.mul_nonneg (show 0 ≤ a - x by omega) (show 0 ≤ b + y by omega)
  have p2 := Int.mul_nonneg (show 0 ≤ a + x by omega) (show 0 ≤ b - y by omega)
  have p3 := Int.mul_nonneg (show 0 ≤ a - x by omega) (show 0 ≤ b - y by omega)
  have p4 := Int.mul_nonneg (show 0 ≤ a + x by omega) (show 0 ≤ b + y by omega)
  have e1 : (a - x) * (b + y) + (a + x) * (b - y) = 2 * (a * b) - 2 * (x * y) := by grind
  have e2 : (a - x) * (b - y) + (a + x) * (b + y) = 2 * (a * b) + 2 * (x * y) := by grind
  omega

def inR (a b : Int) : Prop := -100 ≤ a ∧ a ≤ 100 ∧ -100 ≤ b ∧ b ≤ 100
theorem far_in (p : S25) : farB p = false ↔ inR p.f0 p.f1 := by
  unfold farB inR
  simp only [Bool.or_eq_false_iff, decide_eq_false_iff_not]
  omega
def plB (l : List S25) : Bool := !(l.any farB)
theorem place_eq (l : List S25) : screen_place.f l = some (plB l) := rfl
theorem plB_in {l : List S25} (h : plB l = true) : ∀ p ∈ l, inR p.f0 p.f1 := by
  intro p hp
  unfold plB at h
  rw [Bool.not_eq_true', List.any_eq_false] at h
  exact (far_in p).1 (by simpa using h p hp)
def isg (x : Int) : Int := if x < 0 then -1 else if x > 0 then 1 else 0
theorem isg_0 (x : Int) : isg x = 0 ↔ x = 0 := by
  unfold isg
  split
  · omega
  · split <;> omega
theorem isg_mul (x y : Int) : wrap64 (isg x * isg y) < 0 ↔ x * y < 0 := by
  have e : wrap64 (isg x * isg y) = isg x * isg y := by
    have h (z : Int) : isg z = -1 ∨ isg z = 0 ∨ isg z = 1 := by
      unfold isg
      split
      · omega
      · split <;> omega
    rcases h x with h1 | h1 | h1 <;> rcases h y with h2 | h2 | h2 <;> rw [h1, h2] <;> (unfold wrap64; omega)
  rw [e]
  unfold isg
  by_cases x1 : x < 0
  · rw [if_pos x1]
    by_cases y1 : y < 0
    · rw [if_pos y1]; have := nn (show x ≤ 0 by omega) (show y ≤ 0 by omega); omega
    · rw [if_neg y1]
      by_cases y2 : y > 0
      · rw [if_pos y2]; have := Int.mul_pos (show 0 < -x by omega) y2; rw [Int.neg_mul] at this; omega
      · rw [if_neg y2]; obtain rfl : y = 0 := by omega
        simp
  · rw [if_neg x1]
    by_cases x2 : x > 0
    · rw [if_pos x2]
      by_cases y1 : y < 0
      · rw [if_pos y1]; have := Int.mul_pos x2 (show 0 < -y by omega); rw [Int.mul_neg] at this; omega
      · rw [if_neg y1]
        by_cases y2 : y > 0
        · rw [if_pos y2]; have := Int.mul_pos x2 y2; omega
        · rw [if_neg y2]; obtain rfl : y = 0 := by omega
          simp
    · rw [if_neg x2]; obtain rfl : x = 0 := by omega
      simp
theorem sdI_b {a b c d e f : Int} (h1 : inR a b) (h2 : inR c d) (h3 : inR e f) : wrap64 (wrap64 (wrap64 (c - a) * wrap64 (f - b)) - wrap64 (wrap64 (d - b) * wrap64 (e - a))) = sdI a b c d e f ∧ -80000 ≤ sdI a b c d e f ∧ sdI a b c d e f ≤ 80000 := by
  unfold inR at *
  rw [w64 (n := c - a) (by omega) (by omega), w64 (n := f - b) (by omega) (by omega), w64 (n := d - b) (by omega) (by omega), w64 (n := e - a) (by omega) (by omega)]
  have p := mulb (x := c - a) (y := f - b) (a := 200) (b := 200) (by omega) (by omega) (by omega) (by omega)
  have q := mulb (x := d - b) (y := e - a) (a := 200) (b := 200) (by omega) (by omega) (by omega) (by omega)
  unfold sdI
  generalize (c - a) * (f - b) = x at *
  generalize (d - b) * (e - a) = y at *
  rw [w64 (n := x) (by omega) (by omega), w64 (n := y) (by omega) (by omega), w64 (by omega) (by omega)]
  omega
theorem side_eq {a b c d e f : Int} (h1 : inR a b) (h2 : inR c d) (h3 : inR e f) : screen_side.f a b c d e f = some (isg (sdI a b c d e f)) := by
  unfold screen_side.f
  rw [(sdI_b h1 h2 h3).1]
  generalize sdI a b c d e f = x
  unfold cmp_Compare_int.f cmp_isNaN_int.f isg
  simp only [Option.bind_some]
  by_cases h : x < 0
  · simp [h]
  · by_cases h2 : x > 0
    · simp [h, h2]
    · simp [h, h2]
theorem between_eq (a b c d e f : Int) : screen_between.f a b c d e f = some (decide (bet a b c d e f)) := by
  unfold screen_between.f bet
  rw [mn_eq, mx_eq, mn_eq, mx_eq]
  by_cases h1 : min a c ≤ e
  · by_cases h2 : e ≤ max a c
    · by_cases h3 : min b d ≤ f
      · simp [h1, h2, h3]
      · simp [h1, h2, h3]
    · simp [h1, h2]
  · simp [h1]

instance (a b c d e f g h : Int) : Decidable (touch1 a b c d e f g h) := inferInstanceAs (Decidable (_ ∨ _))
instance (a b c d e f g h : Int) : Decidable (touch2 a b c d e f g h) := inferInstanceAs (Decidable (_ ∧ _))
def tB (a b c d e f g h : Int) : Bool := decide (touch1 a b c d e f g h)
theorem touch_ev {a b c d e f g h : Int} (r1 : inR a b) (r2 : inR c d) (r3 : inR e f) (r4 : inR g h) : Ev (fun k => screen_touch.f k a b c d e f g h) (tB a b c d e f g h) := by
  have eq : tB a b c d e f g h = (decide (sdI a b c d e f = 0 ∧ bet a b c d e f) || (decide (sdI a b c d g h = 0 ∧ bet a b c d g h) || (decide (sdI e f g h a b = 0 ∧ bet e f g h a b) || (decide (sdI e f g h c d = 0 ∧ bet e f g h c d) || decide (sdI a b c d e f * sdI a b c d g h < 0 ∧ sdI e f g h a b * sdI e f g h c d < 0))))) := by
    rw [show tB a b c d e f g h = decide ((sdI a b c d e f = 0 ∧ bet a b c d e f) ∨ ((sdI a b c d g h = 0 ∧ bet a b c d g h) ∨ ((sdI e f g h a b = 0 ∧ bet e f g h a b) ∨ ((sdI e f g h c d = 0 ∧ bet e f g h c d) ∨ (sdI a b c d e f * sdI a b c d g h < 0 ∧ sdI e f g h a b * sdI e f g h c d < 0))))) from decide_eq_decide.2 Iff.rfl]
    simp only [Bool.decide_or]
  have J3 : Ev (fun k => screen_touch.j3 k a b c d e f g h) (decide (sdI a b c d e f * sdI a b c d g h < 0 ∧ sdI e f g h a b * sdI e f g h c d < 0)) := by
    refine Ev.step (fun k => screen_touch.j3.eq_2 ..) (evs (side_eq r1 r2 r3) (evs (side_eq r1 r2 r4) ?_))
    by_cases q : sdI a b c d e f * sdI a b c d g h < 0
    · refine evp ((isg_mul _ _).2 q) (evs (side_eq r3 r4 r1) (evs (side_eq r3 r4 r2) ?_))
      rw [show decide (sdI a b c d e f * sdI a b c d g h < 0 ∧ sdI e f g h a b * sdI e f g h c d < 0) = decide (wrap64 (isg (sdI e f g h a b) * isg (sdI e f g h c d)) < 0) from decide_eq_decide.2 (by rw [isg_mul]; simp [q])]
      exact Ev.now _
    · refine evn (fun z => q ((isg_mul _ _).1 z)) ?_
      rw [decide_eq_false (fun z => q z.1)]; exact Ev.now _
  have J2 : ∀ x : Bool, Ev (fun k => screen_touch.j2 k x a b c d e f g h) (x || (decide (sdI e f g h c d = 0 ∧ bet e f g h c d) || decide (sdI a b c d e f * sdI a b c d g h < 0 ∧ sdI e f g h a b * sdI e f g h c d < 0))) := by
    intro x
    refine Ev.step (fun k => screen_touch.j2.eq_2 ..) ?_
    cases x
    · refine evn (by decide) (evs (side_eq r3 r4 r2) ?_)
      rw [Bool.false_or]
      by_cases z : sdI e f g h c d = 0
      · refine evp ((isg_0 _).2 z) (evs (between_eq ..) ?_)
        by_cases y : bet e f g h c d
        · rw [decide_eq_true y, show decide (sdI e f g h c d = 0 ∧ bet e f g h c d) = true from decide_eq_true ⟨z, y⟩]
          exact evp rfl (Ev.now _)
        · rw [decide_eq_false y, show decide (sdI e f g h c d = 0 ∧ bet e f g h c d) = false from decide_eq_false (fun q => y q.2), Bool.false_or]
          exact evn (by decide) J3
      · rw [show decide (sdI e f g h c d = 0 ∧ bet e f g h c d) = false from decide_eq_false (fun q => z q.1), Bool.false_or]
        exact evn (fun q => z ((isg_0 _).1 q)) J3
    · exact evp rfl (Ev.now _)
  have J1 : ∀ x : Bool, Ev (fun k => screen_touch.j1 k x a b c d e f g h) (x || (decide (sdI e f g h a b = 0 ∧ bet e f g h a b) || (decide (sdI e f g h c d = 0 ∧ bet e f g h c d) || decide (sdI a b c d e f * sdI a b c d g h < 0 ∧ sdI e f g h a b * sdI e f g h c d < 0)))) := by
    intro x
    refine Ev.step (fun k => screen_touch.j1.eq_2 ..) ?_
    cases x
    · refine evn (by decide) (evs (side_eq r3 r4 r1) ?_)
      rw [Bool.false_or]
      by_cases z : sdI e f g h a b = 0
      · refine evp ((isg_0 _).2 z) (evs (between_eq ..) ?_)
        rw [show decide (sdI e f g h a b = 0 ∧ bet e f g h a b) = decide (bet e f g h a b) from decide_eq_decide.2 (by simp [z])]
        exact J2 _
      · rw [show decide (sdI e f g h a b = 0 ∧ bet e f g h a b) = false from decide_eq_false (fun q => z q.1)]
        exact evn (fun q => z ((isg_0 _).1 q)) (J2 false)
    · exact evp rfl (Ev.now _)
  have J0 : ∀ x : Bool, Ev (fun k => screen_touch.j0 k x a b c d e f g h) (x || (decide (sdI a b c d g h = 0 ∧ bet a b c d g h) || (decide (sdI e f g h a b = 0 ∧ bet e f g h a b) || (decide (sdI e f g h c d = 0 ∧ bet e f g h c d) || decide (sdI a b c d e f * sdI a b c d g h < 0 ∧ sdI e f g h a b * sdI e f g h c d < 0))))) := by
    intro x
    refine Ev.step (fun k => screen_touch.j0.eq_2 ..) ?_
    cases x
    · refine evn (by decide) (evs (side_eq r1 r2 r4) ?_)
      rw [Bool.false_or]
      by_cases z : sdI a b c d g h = 0
      · refine evp ((isg_0 _).2 z) (evs (between_eq ..) ?_)
        rw [show decide (sdI a b c d g h = 0 ∧ bet a b c d g h) = decide (bet a b c d g h) from decide_eq_decide.2 (by simp [z])]
        exact J1 _
      · rw [show decide (sdI a b c d g h = 0 ∧ bet a b c d g h) = false from decide_eq_false (fun q => z q.1)]
        exact evn (fun q => z ((isg_0 _).1 q)) (J1 false)
    · exact evp rfl (Ev.now _)
  rw [eq]
  unfold screen_touch.f
  refine evs (side_eq r1 r2 r3) ?_
  by_cases z : sdI a b c d e f = 0
  · refine evp ((isg_0 _).2 z) (evs (between_eq ..) ?_)
    rw [show decide (sdI a b c d e f = 0 ∧ bet a b c d e f) = decide (bet a b c d e f) from decide_eq_decide.2 (by simp [z])]
    exact J0 _
  · rw [show decide (sdI a b c d e f = 0 ∧ bet a b c d e f) = false from decide_eq_false (fun q => z q.1)]
    exact evn (fun q => z ((isg_0 _).1 q)) (J0 false)
theorem tB_comm (a b c d e f g h : Int) : tB e f g h a b c d = tB a b c d e f g h := decide_eq_decide.2 (touch1_comm ..)
theorem tB_rev (a b c d e f g h : Int) : tB a b c d g h e f = tB a b c d e f g h := decide_eq_decide.2 (touch1_rev ..)
theorem tB_rev1 (a b c d e f g h : Int) : tB c d a b e f g h = tB a b c d e f g h := by rw [← tB_comm, tB_rev, tB_comm]
theorem touchB_in {a b c d e f g h : Int} (r1 : inR a b) (r2 : inR c d) (r3 : inR e f) (r4 : inR g h) : touchB a b c d e f g h = tB a b c d e f g h :=
  ev_uniq (Ev.of (screen_touch.mono a b c d e f g h) (touchB_eq a b c d e f g h)) (touch_ev r1 r2 r3 r4)

def okS (s : S48) : Bool := plB [⟨s.f0.f0, s.f0.f1⟩, ⟨s.f1.f0, s.f1.f1⟩] && !(s.f0.f0 == s.f1.f0 && s.f0.f1 == s.f1.f1)
def valR (l : List S48) : Int := if l.length > 12 then 3 else if l.all okS then 0 else 1
theorem valid_l0 (l : List S48) (hl : l.length ≤ 12) : ∀ d i : Nat, i + d = l.length → Ev (fun k => screen_Validate.l0 k l (l.length : Int) (i : Int)) (if (l.drop i).all okS then (0 : Int) else 1)
  | 0, i, h => by
    refine Ev.step (fun k => screen_Validate.l0.eq_2 ..) (evn (by omega) ?_)
    rw [List.drop_eq_nil_of_le (by omega)]; exact Ev.now _
  | d + 1, i, h => by
    have hlt : i < l.length := by omega
    have R := valid_l0 l hl d (i + 1) (by omega)
    refine Ev.step (fun k => screen_Validate.l0.eq_2 ..) (evp (by omega) (evp (by omega) (evp (by omega) (evs (place_eq _) ?_))))
    rw [rdX_at l i hlt, List.drop_eq_getElem_cons hlt, List.all_cons, w64 (by omega) (by omega)]
    unfold okS
    cases plB [⟨(l[i]).f0.f0, (l[i]).f0.f1⟩, ⟨(l[i]).f1.f0, (l[i]).f1.f1⟩]
    · exact evn (by decide) (by rw [Bool.false_and, Bool.false_and, if_neg (by decide)]; exact Ev.now _)
    · refine evp rfl ?_
      cases ((l[i]).f0.f0 == (l[i]).f1.f0 && (l[i]).f0.f1 == (l[i]).f1.f1)
      · exact evn (by decide) (by rw [Bool.not_false, Bool.true_and, Bool.true_and]; exact R)
      · exact evp rfl (by rw [Bool.not_true, Bool.true_and, Bool.false_and, if_neg (by decide)]; exact Ev.now _)
theorem valid_ev (l : List S48) : Ev (fun k => screen_Validate.f k l) (valR l) := by
  unfold screen_Validate.f valR
  by_cases h : l.length > 12
  · rw [if_pos h]; exact evp (by omega) (Ev.now _)
  · rw [if_neg h]; exact evn (by omega) (valid_l0 l (by omega) l.length 0 (by omega))
theorem valR_ok {l : List S48} (h : valR l = 0) : l.length ≤ 12 ∧ ∀ s ∈ l, inR s.f0.f0 s.f0.f1 ∧ inR s.f1.f0 s.f1.f1 := by
  unfold valR at h
  by_cases h1 : l.length > 12
  · rw [if_pos h1] at h; exact absurd h (by decide)
  · rw [if_neg h1] at h
    by_cases h2 : l.all okS = true
    · refine ⟨by omega, fun s hs => ?_⟩
      have a := List.all_eq_true.1 h2 s hs
      unfold okS at a
      rw [Bool.and_eq_true] at a
      have b := plB_in a.1
      exact ⟨b ⟨s.f0.f0, s.f0.f1⟩ (by simp), b ⟨s.f1.f0, s.f1.f1⟩ (by simp)⟩
    · rw [if_neg h2] at h; exact absurd h (by decide)

def bxB (a b c d : Int) : Bool := plB [⟨a, b⟩, ⟨c, d⟩] && decide (0 ≤ c - a ∧ 0 ≤ d - b ∧ c - a < 21 ∧ d - b < 21)
def lkR (l : List S48) (eyes points : List S25) : Int := if valR l = 0 then (if eyes.length > 8 ∨ points.length > 16 then 3 else if plB eyes && plB points then 0 else 1) else valR l
def ckR (l : List S48) (eyes points : List S25) (a b c d : Int) : Int := if lkR l eyes points = 0 then (if bxB a b c d then 0 else 1) else lkR l eyes points
theorem lkR_v {l : List S48} {eyes points : List S25} (h : ¬ valR l = 0) : lkR l eyes points = valR l := if_neg h
theorem lkR_3 {l : List S48} {eyes points : List S25} (h : valR l = 0) (h2 : eyes.length > 8 ∨ points.length > 16) : lkR l eyes points = 3 := (if_pos h).trans (if_pos h2)
theorem lkR_1 {l : List S48} {eyes points : List S25} (h : valR l = 0) (h2 : ¬ (eyes.length > 8 ∨ points.length > 16)) (h3 : ¬ (plB eyes && plB points) = true) : lkR l eyes points = 1 := (if_pos h).trans ((if_neg h2).trans (if_neg h3))
theorem lkR_0 {l : List S48} {eyes points : List S25} (h : valR l = 0) (h2 : ¬ (eyes.length > 8 ∨ points.length > 16)) (h3 : (plB eyes && plB points) = true) : lkR l eyes points = 0 := (if_pos h).trans ((if_neg h2).trans (if_pos h3))
theorem lkR_ok {l : List S48} {eyes points : List S25} (h : lkR l eyes points = 0) : valR l = 0 ∧ eyes.length ≤ 8 ∧ points.length ≤ 16 ∧ plB eyes = true ∧ plB points = true := by
  by_cases h1 : valR l = 0
  · by_cases h2 : eyes.length > 8 ∨ points.length > 16
    · rw [lkR_3 h1 h2] at h; exact absurd h (by decide)
    · by_cases h3 : (plB eyes && plB points) = true
      · rw [Bool.and_eq_true] at h3; exact ⟨h1, by omega, by omega, h3.1, h3.2⟩
      · rw [lkR_1 h1 h2 h3] at h; exact absurd h (by decide)
  · rw [lkR_v h1] at h; exact absurd h h1
theorem ckR_l {l : List S48} {eyes points : List S25} {a b c d : Int} (h : ¬ lkR l eyes points = 0) : ckR l eyes points a b c d = lkR l eyes points := if_neg h
theorem ckR_0 {l : List S48} {eyes points : List S25} {a b c d : Int} (h : lkR l eyes points = 0) (h2 : bxB a b c d = true) : ckR l eyes points a b c d = 0 := (if_pos h).trans (if_pos h2)
theorem ckR_1 {l : List S48} {eyes points : List S25} {a b c d : Int} (h : lkR l eyes points = 0) (h2 : ¬ bxB a b c d = true) : ckR l eyes points a b c d = 1 := (if_pos h).trans (if_neg h2)
theorem ckR_z (l : List S48) (eyes points : List S25) : ckR l eyes points 0 0 0 0 = lkR l eyes points := by
  by_cases h : lkR l eyes points = 0
  · rw [ckR_0 h (by decide), h]
  · exact ckR_l h
theorem ckR_ok {l : List S48} {eyes points : List S25} {a b c d : Int} (h : ckR l eyes points a b c d = 0) : lkR l eyes points = 0 ∧ bxB a b c d = true := by
  by_cases h1 : lkR l eyes points = 0
  · by_cases h2 : bxB a b c d = true
    · exact ⟨h1, h2⟩
    · rw [ckR_1 h1 h2] at h; exact absurd h (by decide)
  · rw [ckR_l h1] at h; exact absurd h h1
theorem checked_ev (l : List S48) (eyes points : List S25) (a b c d : Int) : Ev (fun k => screen_checked.f k l eyes points a b c d) (ckR l eyes points a b c d) := by
  unfold screen_checked.f
  refine evb (valid_ev l) ?_
  by_cases h : valR l = 0
  · refine evp h ?_
    have J1 : ∀ x : Bool, lkR l eyes points = (if x then 1 else 0) → (x = false → True) → Ev (fun k => screen_checked.j1 k (x || !plB [⟨a, b⟩, ⟨c, d⟩]) a b c d) (ckR l eyes points a b c d) := by
      intro x hx _
      refine Ev.step (fun k => screen_checked.j1.eq_2 ..) ?_
      cases x
      · have hx : lkR l eyes points = 0 := hx
        rw [Bool.false_or]
        by_cases hp : plB [⟨a, b⟩, ⟨c, d⟩] = true
        · have q := plB_in hp
          have q1 : inR a b := q ⟨a, b⟩ (by simp)
          have q2 : inR c d := q ⟨c, d⟩ (by simp)
          unfold inR at q1 q2
          rw [hp, w64 (n := c - a) (by omega) (by omega), w64 (n := d - b) (by omega) (by omega)]
          refine evn (by decide) ?_
          have no : ¬ (0 ≤ c - a ∧ 0 ≤ d - b ∧ c - a < 21 ∧ d - b < 21) → ¬ bxB a b c d = true := fun z w => by
            unfold bxB at w; rw [Bool.and_eq_true, decide_eq_true_eq] at w; exact z w.2
          by_cases z1 : c - a < 0
          · rw [ckR_1 hx (no (by omega))]; exact evp z1 (Ev.now _)
          · refine evn z1 ?_
            by_cases z2 : d - b < 0
            · rw [ckR_1 hx (no (by omega))]; exact evp z2 (Ev.now _)
            · refine evn z2 ?_
              by_cases z3 : c - a ≥ 21
              · rw [ckR_1 hx (no (by omega))]; exact evp z3 (Ev.now _)
              · refine evn z3 ?_
                by_cases z4 : d - b ≥ 21
                · rw [ckR_1 hx (no (by omega))]; exact evp z4 (Ev.now _)
                · rw [ckR_0 hx (by unfold bxB; rw [hp, Bool.true_and]; exact decide_eq_true (by omega))]; exact evn z4 (Ev.now _)
        · rw [ckR_1 hx (fun w => by unfold bxB at w; rw [Bool.and_eq_true] at w; exact hp w.1)]
          rw [Bool.not_eq_true] at hp
          rw [hp]
          exact evp rfl (Ev.now _)
      · have hx : lkR l eyes points = 1 := hx
        rw [ckR_l (by rw [hx]; decide), hx, Bool.true_or]
        exact evp rfl (Ev.now _)
    have J0 : ∀ x : Bool, (x = true ↔ (eyes.length > 8 ∨ points.length > 16)) → Ev (fun k => screen_checked.j0 k eyes points x a b c d) (ckR l eyes points a b c d) := by
      intro x hx
      refine Ev.step (fun k => screen_checked.j0.eq_2 ..) ?_
      cases x
      · have nb : ¬ (eyes.length > 8 ∨ points.length > 16) := fun z => absurd (hx.2 z) (by decide)
        refine evn (by decide) (evs (place_eq _) ?_)
        by_cases p1 : plB eyes = true
        · refine evp p1 (evs (place_eq _) ?_)
          by_cases p2 : plB points = true
          · refine evp p2 (evs (place_eq _) ?_)
            have := J1 false (lkR_0 h nb (by rw [p1, p2]; rfl)) (fun _ => trivial)
            rwa [Bool.false_or] at this
          · exact evn p2 (J1 true (lkR_1 h nb (by rw [Bool.and_eq_true]; exact fun z => p2 z.2)) (fun _ => trivial))
        · exact evn p1 (J1 true (lkR_1 h nb (by rw [Bool.and_eq_true]; exact fun z => p1 z.1)) (fun _ => trivial))
      · have e := lkR_3 h (hx.1 rfl)
        rw [ckR_l (by rw [e]; decide), e]
        exact evp rfl (Ev.now _)
    by_cases h1 : eyes.length > 8
    · exact evp (by omega) (J0 true (by simp; omega))
    · refine evn (by omega) (J0 _ ?_)
      rw [decide_eq_true_eq]; omega
  · rw [ckR_l (by rw [lkR_v h]; exact h), lkR_v h]
    exact evn h (Ev.now _)
def tS (a b c d : Int) (s : S48) : Bool := tB a b c d s.f0.f0 s.f0.f1 s.f1.f0 s.f1.f1
def sE (l : List S48) (a b c d : Int) : Bool := !(l.any (tS a b c d))
theorem sE_comm (l : List S48) (a b c d : Int) : sE l c d a b = sE l a b c d := by
  unfold sE
  congr 2
  funext s
  exact tB_rev1 ..
theorem any_congr {α : Type} {p q : α → Bool} : ∀ {l : List α}, (∀ x ∈ l, p x = q x) → l.any p = l.any q
  | [], _ => rfl
  | x :: l, h => by
    rw [List.any_cons, List.any_cons, h x List.mem_cons_self, any_congr (fun y hy => h y (List.mem_cons_of_mem _ hy))]
theorem sees_eq {l : List S48} {a b c d : Int} (h : valR l = 0) (r1 : inR a b) (r2 : inR c d) : screen_sees.f l a b c d = some (sE l a b c d) := by
  unfold screen_sees.f seesB sE
  rw [any_congr (q := tS a b c d) (fun s hs => touchB_in r1 r2 ((valR_ok h).2 s hs).1 ((valR_ok h).2 s hs).2)]
theorem Long_eq (l : List S48) (e : List S25) : wigeonlaw02_Long.f l e = some (decide (l.length > 100 ∨ e.length > 100)) := by
  unfold wigeonlaw02_Long.f
  by_cases h : (l.length : Int) > 100
  · rw [if_pos h, decide_eq_true (by omega)]
  · rw [if_neg h]; exact congrArg some (decide_eq_decide.2 (by omega))

def hidE (l : List S48) (eyes : List S25) (a b : Int) : Bool := !(eyes.any fun e => sE l e.f0 e.f1 a b)
theorem hidden_eq {l : List S48} {eyes : List S25} {a b : Int} (h : valR l = 0) (he : plB eyes = true) (r : inR a b) : screen_hidden.f l eyes a b = some (hidE l eyes a b) := by
  unfold screen_hidden.f hidB hidE
  rw [any_congr (q := fun e => sE l e.f0 e.f1 a b) (fun e hm => Option.some.inj (sees_eq h (plB_in he e hm) r))]
theorem one_in {l : List S48} {eyes : List S25} {a b : Int} (h : lkR l eyes [⟨a, b⟩] = 0) : valR l = 0 ∧ eyes.length ≤ 8 ∧ plB eyes = true ∧ inR a b := by
  obtain ⟨h1, h2, _, h3, h4⟩ := lkR_ok h
  exact ⟨h1, h2, h3, plB_in h4 ⟨a, b⟩ (by simp)⟩
def HdR (l : List S48) (eyes : List S25) (a b : Int) : Bool × Int := if lkR l eyes [⟨a, b⟩] = 0 then (hidE l eyes a b, 0) else (false, lkR l eyes [⟨a, b⟩])
theorem HdR_0 {l : List S48} {eyes : List S25} {a b : Int} (h : lkR l eyes [⟨a, b⟩] = 0) : HdR l eyes a b = (hidE l eyes a b, 0) := if_pos h
theorem HdR_n {l : List S48} {eyes : List S25} {a b : Int} (h : ¬ lkR l eyes [⟨a, b⟩] = 0) : HdR l eyes a b = (false, lkR l eyes [⟨a, b⟩]) := if_neg h
theorem Hidden_ev (l : List S48) (eyes : List S25) (a b : Int) : Ev (fun k => screen_Hidden.f k l eyes a b) (HdR l eyes a b) := by
  unfold screen_Hidden.f
  refine evb (checked_ev ..) ?_
  rw [ckR_z]
  by_cases h : lkR l eyes [⟨a, b⟩] = 0
  · rw [HdR_0 h]
    obtain ⟨h1, h2, h3, r⟩ := one_in h
    exact evp h (evs (hidden_eq h1 h3 r) (Ev.now _))
  · rw [HdR_n h]; exact evn h (Ev.now _)

def dcol (p : Int → Int → Bool) (x : Int) : Nat → Int → List S25
  | 0, _ => []
  | d + 1, y => if p x y then ⟨x, y⟩ :: dcol p x d (y + 1) else dcol p x d (y + 1)
def drow (p : Int → Int → Bool) (h : Nat) (lo : Int) : Nat → Int → List S25
  | 0, _ => []
  | w + 1, x => dcol p x h lo ++ drow p h lo w (x + 1)
theorem dcol_len (p : Int → Int → Bool) (x : Int) : ∀ (d : Nat) (y : Int), (dcol p x d y).length ≤ d
  | 0, _ => by simp [dcol]
  | d + 1, y => by
    have := dcol_len p x d (y + 1)
    unfold dcol; split <;> simp <;> omega
theorem Dark_l1 {l : List S48} {eyes : List S25} (h : valR l = 0) (he : plB eyes = true) (lx ly hx hy : Int) (r1 : inR lx ly) (r2 : inR hx hy) (x : Int) (x1 : lx ≤ x) (x2 : x ≤ hx) (r : Int × Int) : ∀ (d : Nat) (y n : Int), y + d = hy + 1 → ly ≤ y → 0 ≤ n → n + d ≤ 1000000 →
    Ev (fun k => screen_Dark.l0 k l eyes (n + ((dcol (hidE l eyes) x d y).length : Nat)) (wrap64 (x + 1)) lx ly hx hy) r → Ev (fun k => screen_Dark.l1 k l eyes n x y lx ly hx hy) r
  | 0, y, n, hd, _, _, _, K => by
    refine Ev.step (fun k => screen_Dark.l1.eq_2 ..) (evn (by omega) ?_)
    simpa [dcol] using K
  | d + 1, y, n, hd, hl, hn, hb, K => by
    have rr : inR x y := by unfold inR at *; omega
    refine Ev.step (fun k => screen_Dark.l1.eq_2 ..) (evp (by omega) (evs (hidden_eq h he rr) ?_))
    have L := dcol_len (hidE l eyes) x d (y + 1)
    unfold inR at rr
    rw [w64 (n := y + 1) (by omega) (by omega)]
    unfold dcol at K
    by_cases z : hidE l eyes x y = true
    · rw [if_pos z] at K
      rw [w64 (n := n + 1) (by omega) (by omega)]
      refine evp z (Dark_l1 h he lx ly hx hy r1 r2 x x1 x2 r d (y + 1) (n + 1) (by omega) (by omega) (by omega) (by omega) ?_)
      rw [List.length_cons] at K
      rw [show n + 1 + ((dcol (hidE l eyes) x d (y + 1)).length : Int) = n + ((dcol (hidE l eyes) x d (y + 1)).length + 1 : Nat) by omega]
      exact K
    · rw [if_neg z] at K
      exact evn z (Dark_l1 h he lx ly hx hy r1 r2 x x1 x2 r d (y + 1) n (by omega) (by omega) (by omega) (by omega) K)
theorem Dark_l0 {l : List S48} {eyes : List S25} (h : valR l = 0) (he : plB eyes = true) (lx ly hx hy : Int) (r1 : inR lx ly) (r2 : inR hx hy) (g : Nat) (hg : ly + g = hy + 1) (w : Nat) : ∀ (x n : Int), x + w = hx + 1 → lx ≤ x → 0 ≤ n → n + 1000 * w ≤ 201000 →
    Ev (fun k => screen_Dark.l0 k l eyes n x lx ly hx hy) (n + (((drow (hidE l eyes) g ly w x).length : Nat) : Int), (0 : Int)) := by
  induction w with
  | zero =>
    intro x n hw _ _ _
    refine Ev.step (fun k => screen_Dark.l0.eq_2 ..) (evn (by omega) ?_)
    rw [show n + (((drow (hidE l eyes) g ly 0 x).length : Nat) : Int) = n by simp [drow]]; exact Ev.now _
  | succ w ih =>
    intro x n hw hl hn hb
    have L := dcol_len (hidE l eyes) x g ly
    unfold inR at r1 r2
    refine Ev.step (fun k => screen_Dark.l0.eq_2 ..) (evp (by omega) (Dark_l1 h he lx ly hx hy (by unfold inR; omega) (by unfold inR; omega) x hl (by omega) _ g ly n (by omega) (by omega) hn (by omega) ?_))
    rw [w64 (n := x + 1) (by omega) (by omega)]
    have R := ih (x + 1) (n + (((dcol (hidE l eyes) x g ly).length : Nat) : Int)) (by omega) (by omega) (by omega) (by omega)
    rw [show n + (((drow (hidE l eyes) g ly (w + 1) x).length : Nat) : Int) = n + (((dcol (hidE l eyes) x g ly).length : Nat) : Int) + (((drow (hidE l eyes) g ly w (x + 1)).length : Nat) : Int) by simp only [drow, List.length_append]; omega]
    exact R
def DkR (l : List S48) (eyes : List S25) (a b c d : Int) : Int × Int := if ckR l eyes [] a b c d = 0 then ((((drow (hidE l eyes) (d + 1 - b).toNat b (c + 1 - a).toNat a).length : Nat) : Int), 0) else (0, ckR l eyes [] a b c d)
theorem DkR_0 {l : List S48} {eyes : List S25} {a b c d : Int} (h : ckR l eyes [] a b c d = 0) : DkR l eyes a b c d = ((((drow (hidE l eyes) (d + 1 - b).toNat b (c + 1 - a).toNat a).length : Nat) : Int), 0) := if_pos h
theorem DkR_n {l : List S48} {eyes : List S25} {a b c d : Int} (h : ¬ ckR l eyes [] a b c d = 0) : DkR l eyes a b c d = (0, ckR l eyes [] a b c d) := if_neg h
theorem box_in {l : List S48} {eyes p : List S25} {a b c d : Int} (h : ckR l eyes p a b c d = 0) : valR l = 0 ∧ eyes.length ≤ 8 ∧ plB eyes = true ∧ inR a b ∧ inR c d ∧ a ≤ c ∧ b ≤ d := by
  obtain ⟨h1, h2⟩ := ckR_ok h
  obtain ⟨v, e8, _, pe, _⟩ := lkR_ok h1
  unfold bxB at h2
  rw [Bool.and_eq_true, decide_eq_true_eq] at h2
  have q := plB_in h2.1
  exact ⟨v, e8, pe, q ⟨a, b⟩ (by simp), q ⟨c, d⟩ (by simp), by omega, by omega⟩
theorem Dark_ev (l : List S48) (eyes : List S25) (a b c d : Int) : Ev (fun k => screen_Dark.f k l eyes a b c d) (DkR l eyes a b c d) := by
  unfold screen_Dark.f
  refine evb (checked_ev ..) ?_
  by_cases h : ckR l eyes [] a b c d = 0
  · rw [DkR_0 h]
    obtain ⟨v, e8, pe, r1, r2, ac, bd⟩ := box_in h
    have R := Dark_l0 v pe a b c d r1 r2 (d + 1 - b).toNat (by omega) (c + 1 - a).toNat a 0 (by omega) (by omega) (by omega) (by unfold inR at r1 r2; omega)
    rw [Int.zero_add] at R
    exact evp h R
  · rw [DkR_n h]; exact evn h (Ev.now _)

def inB (a b c d p q : Int) : Bool := decide (a ≤ p ∧ p ≤ c ∧ b ≤ q ∧ q ≤ d)
theorem inside_eq (a b c d p q : Int) : screen_inside.f a b c d p q = some (inB a b c d p q) := by
  unfold screen_inside.f inB
  by_cases h1 : a ≤ p
  · rw [if_pos h1]
    by_cases h2 : p ≤ c
    · rw [if_pos h2]
      by_cases h3 : b ≤ q
      · rw [if_pos h3]; exact congrArg some (decide_eq_decide.2 (by omega))
      · rw [if_neg h3]; exact congrArg some (decide_eq_false (by omega)).symm
    · rw [if_neg h2]; exact congrArg some (decide_eq_false (by omega)).symm
  · rw [if_neg h1]; exact congrArg some (decide_eq_false (by omega)).symm
def stB (a b c d : Int) : Bool := (a - c) * (a - c) + (b - d) * (b - d) == 1
theorem sq_cases (x : Int) : (x = 0 ∧ x * x = 0) ∨ ((x = 1 ∨ x = -1) ∧ x * x = 1) ∨ ((2 ≤ x ∨ x ≤ -2) ∧ 4 ≤ x * x) := by
  by_cases h : x = 0
  · subst h; exact Or.inl ⟨rfl, rfl⟩
  by_cases h1 : x = 1
  · subst h1; exact Or.inr (Or.inl ⟨Or.inl rfl, rfl⟩)
  by_cases h2 : x = -1
  · subst h2; exact Or.inr (Or.inl ⟨Or.inr rfl, rfl⟩)
  refine Or.inr (Or.inr ⟨by omega, ?_⟩)
  by_cases p : 0 ≤ x
  · have := Int.mul_nonneg (show 0 ≤ x - 2 by omega) (show 0 ≤ x + 2 by omega)
    have e : (x - 2) * (x + 2) = x * x - 4 := by grind
    omega
  · have := nn (show x - 2 ≤ 0 by omega) (show x + 2 ≤ 0 by omega)
    have e : (x - 2) * (x + 2) = x * x - 4 := by grind
    omega
theorem isStep_eq {a b c d : Int} (h1 : inR a b) (h2 : inR c d) : screen_isStep.f a b c d = some (stB a b c d) := by
  unfold screen_isStep.f stB
  unfold inR at h1 h2
  have p := mulb (x := a - c) (y := a - c) (a := 200) (b := 200) (by omega) (by omega) (by omega) (by omega)
  have q := mulb (x := b - d) (y := b - d) (a := 200) (b := 200) (by omega) (by omega) (by omega) (by omega)
  rw [w64 (n := a - c) (by omega) (by omega), w64 (n := b - d) (by omega) (by omega)]
  generalize (a - c) * (a - c) = x at *
  generalize (b - d) * (b - d) = y at *
  rw [w64 (n := x) (by omega) (by omega), w64 (n := y) (by omega) (by omega), w64 (by omega) (by omega)]
def cw (l : List S48) (eyes : List S25) (a b c d : Int) (way : List S25) : Nat → Nat → Int × Int
  | 0, _ => ((way.length : Int) - 1, 0)
  | n + 1, i =>
    if inB a b c d (rd_T25 way i).f0 (rd_T25 way i).f1 then
      if hidE l eyes (rd_T25 way i).f0 (rd_T25 way i).f1 then
        if i = 0 then cw l eyes a b c d way n (i + 1)
        else if stB (rd_T25 way (i - 1 : Nat)).f0 (rd_T25 way (i - 1 : Nat)).f1 (rd_T25 way i).f0 (rd_T25 way i).f1 then
          if sE l (rd_T25 way (i - 1 : Nat)).f0 (rd_T25 way (i - 1 : Nat)).f1 (rd_T25 way i).f0 (rd_T25 way i).f1 then cw l eyes a b c d way n (i + 1) else (i, 12)
        else (i, 13)
      else (i, 11)
    else (i, 1)
theorem inB_R {a b c d p q : Int} (h1 : inR a b) (h2 : inR c d) (h : inB a b c d p q = true) : inR p q := by
  unfold inB at h; rw [decide_eq_true_eq] at h; unfold inR at *; omega
theorem CheckWay_l0 {l : List S48} {eyes : List S25} {a b c d : Int} (way : List S25) (h : valR l = 0) (he : plB eyes = true) (r1 : inR a b) (r2 : inR c d) (hw : way.length ≤ 1000) : ∀ (n i : Nat), i + n = way.length → (i ≠ 0 → inR (rd_T25 way (i - 1 : Nat)).f0 (rd_T25 way (i - 1 : Nat)).f1) →
    Ev (fun k => screen_CheckWay.l0 k l eyes way way (way.length : Int) (i : Int) a b c d) (cw l eyes a b c d way n i)
  | 0, i, hi, _ => by
    refine Ev.step (fun k => screen_CheckWay.l0.eq_2 ..) (evn (by omega) ?_)
    rw [w64 (by omega) (by omega)]; exact Ev.now _
  | n + 1, i, hi, hp => by
    have R := CheckWay_l0 way h he r1 r2 hw n (i + 1) (by omega)
    refine Ev.step (fun k => screen_CheckWay.l0.eq_2 ..) (evp (by omega) (evp (by omega) (evp (by omega) (evs (inside_eq ..) ?_))))
    rw [w64 (n := (i : Int) + 1) (by omega) (by omega)]
    unfold cw
    by_cases z1 : inB a b c d (rd_T25 way i).f0 (rd_T25 way i).f1 = true
    · have rr := inB_R r1 r2 z1
      rw [if_pos z1]
      refine evp z1 (evs (hidden_eq h he rr) ?_)
      by_cases z2 : hidE l eyes (rd_T25 way i).f0 (rd_T25 way i).f1 = true
      · rw [if_pos z2]
        refine evp z2 ?_
        have R := R (fun _ => by rw [Nat.add_sub_cancel]; exact rr)
        by_cases z3 : i = 0
        · rw [if_pos z3]; exact evp (by omega) R
        · rw [if_neg z3]
          rw [w64 (n := (i : Int) - 1) (by omega) (by omega), show (i : Int) - 1 = ((i - 1 : Nat) : Int) by omega]
          refine evn (by omega) (evp (by omega) (evp (by omega) (evs (isStep_eq (hp z3) rr) ?_)))
          by_cases z4 : stB (rd_T25 way (i - 1 : Nat)).f0 (rd_T25 way (i - 1 : Nat)).f1 (rd_T25 way i).f0 (rd_T25 way i).f1 = true
          · rw [if_pos z4]
            refine evp z4 (evs (sees_eq h (hp z3) rr) ?_)
            by_cases z5 : sE l (rd_T25 way (i - 1 : Nat)).f0 (rd_T25 way (i - 1 : Nat)).f1 (rd_T25 way i).f0 (rd_T25 way i).f1 = true
            · rw [if_pos z5]; exact evp z5 R
            · rw [if_neg z5]; exact evn z5 (Ev.now _)
          · rw [if_neg z4]; exact evn z4 (Ev.now _)
      · rw [if_neg z2]; exact evn z2 (Ev.now _)
    · rw [if_neg z1]; exact evn z1 (Ev.now _)
def CwR (l : List S48) (eyes : List S25) (a b c d : Int) (way : List S25) : Int × Int := if ckR l eyes [] a b c d = 0 then (if way.length = 0 then (0, 13) else cw l eyes a b c d way way.length 0) else (0, ckR l eyes [] a b c d)
theorem CwR_n {l : List S48} {eyes : List S25} {a b c d : Int} {way : List S25} (h : ¬ ckR l eyes [] a b c d = 0) : CwR l eyes a b c d way = (0, ckR l eyes [] a b c d) := if_neg h
theorem CwR_e {l : List S48} {eyes : List S25} {a b c d : Int} {way : List S25} (h : ckR l eyes [] a b c d = 0) (h2 : way.length = 0) : CwR l eyes a b c d way = (0, 13) := (if_pos h).trans (if_pos h2)
theorem CwR_w {l : List S48} {eyes : List S25} {a b c d : Int} {way : List S25} (h : ckR l eyes [] a b c d = 0) (h2 : ¬ way.length = 0) : CwR l eyes a b c d way = cw l eyes a b c d way way.length 0 := (if_pos h).trans (if_neg h2)
theorem CheckWay_ev (l : List S48) (eyes : List S25) (a b c d : Int) (way : List S25) (hw : way.length ≤ 1000) : Ev (fun k => screen_CheckWay.f k l eyes a b c d way) (CwR l eyes a b c d way) := by
  unfold screen_CheckWay.f
  refine evb (checked_ev ..) ?_
  by_cases h : ckR l eyes [] a b c d = 0
  · refine evp h ?_
    obtain ⟨v, e8, pe, r1, r2, ac, bd⟩ := box_in h
    by_cases h2 : way.length = 0
    · rw [CwR_e h h2]; exact evp (by omega) (Ev.now _)
    · rw [CwR_w h h2]; exact evn (by omega) (CheckWay_l0 way v pe r1 r2 hw way.length 0 (by omega) (fun z => absurd rfl z))
  · rw [CwR_n h]; exact evn h (Ev.now _)

/-- a point of the box that no watcher sees -/
def okP (l : List S48) (eyes : List S25) (a b c d : Int) (p : S25) : Prop := inB a b c d p.f0 p.f1 = true ∧ hidE l eyes p.f0 p.f1 = true
/-- one step, hidden -/
def adjP (l : List S48) (eyes : List S25) (a b c d : Int) (p q : S25) : Prop := okP l eyes a b c d p ∧ okP l eyes a b c d q ∧ stB p.f0 p.f1 q.f0 q.f1 = true ∧ sE l p.f0 p.f1 q.f0 q.f1 = true
theorem dcol_mem (p : Int → Int → Bool) (x : Int) (q : S25) : ∀ (d : Nat) (y : Int), q ∈ dcol p x d y ↔ q.f0 = x ∧ y ≤ q.f1 ∧ q.f1 < y + d ∧ p q.f0 q.f1 = true
  | 0, y => by simp [dcol]; omega
  | d + 1, y => by
    have ih := dcol_mem p x q d (y + 1)
    unfold dcol
    by_cases z : p x y = true
    · rw [if_pos z, List.mem_cons, ih]
      constructor
      · rintro (rfl | ⟨h1, h2, h3, h4⟩)
        · exact ⟨rfl, Int.le_refl _, by show y < y + _; omega, z⟩
        · exact ⟨h1, by omega, by omega, h4⟩
      · rintro ⟨h1, h2, h3, h4⟩
        by_cases e : q.f1 = y
        · left; cases q; simp at h1 e; rw [h1, e]
        · exact Or.inr ⟨h1, by omega, by omega, h4⟩
    · rw [if_neg z, ih]
      constructor
      · rintro ⟨h1, h2, h3, h4⟩; exact ⟨h1, by omega, by omega, h4⟩
      · rintro ⟨h1, h2, h3, h4⟩
        have e : q.f1 ≠ y := fun e => z (by rw [← h1, ← e]; exact h4)
        exact ⟨h1, by omega, by omega, h4⟩
theorem drow_mem (p : Int → Int → Bool) (g : Nat) (lo : Int) (q : S25) : ∀ (w : Nat) (x : Int), q ∈ drow p g lo w x ↔ x ≤ q.f0 ∧ q.f0 < x + w ∧ lo ≤ q.f1 ∧ q.f1 < lo + g ∧ p q.f0 q.f1 = true
  | 0, x => by simp [drow]; omega
  | w + 1, x => by
    have ih := drow_mem p g lo q w (x + 1)
    unfold drow
    rw [List.mem_append, dcol_mem, ih]
    constructor
    · rintro (⟨h1, h2, h3, h4⟩ | ⟨h1, h2, h3, h4, h5⟩)
      · exact ⟨by omega, by omega, h2, h3, h4⟩
      · exact ⟨by omega, by omega, h3, h4, h5⟩
    · rintro ⟨h1, h2, h3, h4, h5⟩
      by_cases e : q.f0 = x
      · exact Or.inl ⟨e, h3, h4, h5⟩
      · exact Or.inr ⟨by omega, by omega, h3, h4, h5⟩
/-- by (X, Y) -/
def ltP (p q : S25) : Prop := p.f0 < q.f0 ∨ (p.f0 = q.f0 ∧ p.f1 < q.f1)
theorem dcol_sorted (p : Int → Int → Bool) (x : Int) : ∀ (d : Nat) (y : Int), (dcol p x d y).Pairwise ltP
  | 0, y => by simp [dcol]
  | d + 1, y => by
    have ih := dcol_sorted p x d (y + 1)
    unfold dcol
    by_cases z : p x y = true
    · rw [if_pos z]
      refine List.Pairwise.cons (fun q hq => ?_) ih
      rw [dcol_mem] at hq
      exact Or.inr ⟨hq.1.symm, by show y < q.f1; omega⟩
    · rw [if_neg z]; exact ih
theorem drow_sorted (p : Int → Int → Bool) (g : Nat) (lo : Int) : ∀ (w : Nat) (x : Int), (drow p g lo w x).Pairwise ltP
  | 0, x => by simp [drow]
  | w + 1, x => by
    have ih := drow_sorted p g lo w (x + 1)
    unfold drow
    rw [List.pairwise_append]
    refine ⟨dcol_sorted _ _ _ _, ih, fun q hq r hr => Or.inl ?_⟩
    rw [dcol_mem] at hq
    rw [drow_mem] at hr
    omega
theorem drow_len (p : Int → Int → Bool) (g : Nat) (lo : Int) : ∀ (w : Nat) (x : Int), (drow p g lo w x).length ≤ g * w
  | 0, x => by simp [drow]
  | w + 1, x => by
    have ih := drow_len p g lo w (x + 1)
    have := dcol_len p x g lo
    unfold drow
    rw [List.length_append, Nat.mul_succ]; omega
def cneg (st : List Int) : Nat := st.countP (fun x => decide (x < 0))
/-- what stands within a round: of the pairs those for which 'dn' holds are done -/
structure RI (adj : S25 → S25 → Prop) (src : S25) (pts : List S25) (n c0 : Nat) (dn : Nat → Nat → Prop) (st : List Int) (grew : Bool) : Prop where
  len : st.length = pts.length
  old : ∀ (i : Nat) (hi : i < pts.length) (hs : i < st.length) (m : Nat), m ≤ n → Bfs.X adj src m pts[i] → st[i] = (m : Int)
  new : ∀ (i : Nat) (hi : i < pts.length) (hs : i < st.length), ¬ Bfs.D adj src n pts[i] → st[i] = -1 ∨ (st[i] = (n : Int) + 1 ∧ Bfs.D adj src (n + 1) pts[i])
  done : ∀ (i j : Nat) (hi : i < pts.length) (hj : j < pts.length) (hs : j < st.length), dn i j → Bfs.X adj src n pts[i] → adj pts[i] pts[j] → 0 ≤ st[j]
  still : grew = false → ∀ (i : Nat) (hi : i < pts.length) (hs : i < st.length), ¬ Bfs.D adj src n pts[i] → st[i] = -1
  cnt : cneg st + (if grew = true then 1 else 0) ≤ c0
theorem cneg_set (st : List Int) (k : Nat) (hk : k < st.length) (v : Int) (h0 : st[k] < 0) (hv : 0 ≤ v) : cneg (st.set k v) + 1 = cneg st := by
  have hp : 0 < cneg st := List.countP_pos_iff.2 ⟨st[k], List.getElem_mem hk, by simpa using h0⟩
  unfold cneg at *
  rw [List.countP_set hk]
  have e1 : (decide (st[k] < 0)) = true := decide_eq_true h0
  have e2 : (decide (v < 0)) = false := decide_eq_false (by omega)
  simp only [e1, e2, if_true]
  simp
  omega
/-- whether one stands exactly so far is told by its number -/
theorem RI.told {adj : S25 → S25 → Prop} {src : S25} {pts : List S25} {n c0 : Nat} {dn : Nat → Nat → Prop} {st : List Int} {grew : Bool} (h : RI adj src pts n c0 dn st grew) (i : Nat) (hi : i < pts.length) (hs : i < st.length) : st[i] = (n : Int) ↔ Bfs.X adj src n pts[i] := by
  constructor
  · intro e
    by_cases z : Bfs.D adj src n pts[i]
    · obtain ⟨m, hm, hx⟩ := Bfs.X_ex z
      have := h.old i hi hs m hm hx
      have : m = n := by omega
      rw [← this]; exact hx
    · rcases h.new i hi hs z with q | ⟨q, _⟩ <;> omega
  · intro hx; exact h.old i hi hs n (Nat.le_refl _) hx
theorem RI.low {adj : S25 → S25 → Prop} {src : S25} {pts : List S25} {n c0 : Nat} {dn : Nat → Nat → Prop} {st : List Int} {grew : Bool} (h : RI adj src pts n c0 dn st grew) (i : Nat) (hi : i < pts.length) (hs : i < st.length) (hl : st[i] < 0) : ¬ Bfs.D adj src n pts[i] := by
  intro z
  obtain ⟨m, hm, hx⟩ := Bfs.X_ex z
  have := h.old i hi hs m hm hx
  omega
theorem RI.put {adj : S25 → S25 → Prop} {src : S25} {pts : List S25} {n c0 : Nat} {dn : Nat → Nat → Prop} {st : List Int} {grew : Bool} (h : RI adj src pts n c0 dn st grew) (i k : Nat) (hi : i < pts.length) (hk : k < pts.length) (hs : k < st.length) (hx : Bfs.X adj src n pts[i]) (ha : adj pts[i] pts[k]) (hl : st[k] < 0) : RI adj src pts n c0 (fun i' j' => dn i' j' ∨ (i' = i ∧ j' = k)) (st.set k ((n : Int) + 1)) true := by
  have nd := h.low k hk hs hl
  have dd : Bfs.D adj src (n + 1) pts[k] := Or.inr ⟨_, hx.1, ha⟩
  refine ⟨by rw [List.length_set]; exact h.len, ?_, ?_, ?_, fun e => by simp at e, ?_⟩
  · intro j hj hjs m hm hxm
    rw [List.getElem_set]
    by_cases e : k = j
    · subst e; exact absurd (Bfs.D_le hxm.1 hm) nd
    · rw [if_neg e]; exact h.old j hj (by rw [List.length_set] at hjs; exact hjs) m hm hxm
  · intro j hj hjs hnd
    rw [List.getElem_set]
    by_cases e : k = j
    · subst e; rw [if_pos rfl]; exact Or.inr ⟨rfl, dd⟩
    · rw [if_neg e]; exact h.new j hj (by rw [List.length_set] at hjs; exact hjs) hnd
  · intro i' j hi' hj hjs hd hx' ha'
    rw [List.getElem_set]
    by_cases e : k = j
    · rw [if_pos e]; omega
    · rw [if_neg e]
      rcases hd with hd | ⟨_, hd⟩
      · exact h.done i' j hi' hj (by rw [List.length_set] at hjs; exact hjs) hd hx' ha'
      · exact absurd hd.symm e
  · have := cneg_set st k hs ((n : Int) + 1) hl (by omega)
    have := h.cnt
    rw [if_pos rfl]
    omega

section
variable {l : List S48} {eyes : List S25} {a b c d : Int} {src : S25} {pts : List S25}
end

/-- the numbers up to a round -/
structure Rf (adj : S25 → S25 → Prop) (src : S25) (pts : List S25) (n : Nat) (st : List Int) : Prop where
  len : st.length = pts.length
  old : ∀ (i : Nat) (hi : i < pts.length) (hs : i < st.length) (m : Nat), m ≤ n → Bfs.X adj src m pts[i] → st[i] = (m : Int)
  new : ∀ (i : Nat) (hi : i < pts.length) (hs : i < st.length), ¬ Bfs.D adj src n pts[i] → st[i] = -1
/-- the numbers at the end -/
structure Fin_ (adj : S25 → S25 → Prop) (src : S25) (pts : List S25) (st : List Int) : Prop where
  len : st.length = pts.length
  is : ∀ (i : Nat) (hi : i < pts.length) (hs : i < st.length) (m : Nat), Bfs.X adj src m pts[i] → st[i] = (m : Int)
  no : ∀ (i : Nat) (hi : i < pts.length) (hs : i < st.length), (∀ m, ¬ Bfs.D adj src m pts[i]) → st[i] = -1
theorem D_ok {l : List S48} {eyes : List S25} {a b c d : Int} {src : S25} (hs : okP l eyes a b c d src) : ∀ (n : Nat) (p : S25), Bfs.D (adjP l eyes a b c d) src n p → okP l eyes a b c d p
  | 0, p, h => by have h : p = src := h; rw [h]; exact hs
  | n + 1, p, h => by
    rcases h with h | ⟨u, _, h⟩
    · exact D_ok hs n p h
    · exact h.2.1
theorem RI.rest {l : List S48} {eyes : List S25} {a b c d : Int} {src : S25} {pts : List S25} {n c0 : Nat} {dn : Nat → Nat → Prop} {st : List Int} {grew : Bool} (hp : ∀ q, q ∈ pts ↔ okP l eyes a b c d q) (h : RI (adjP l eyes a b c d) src pts n c0 dn st grew) (all : ∀ i j, i < pts.length → dn i j) : Rf (adjP l eyes a b c d) src pts (n + 1) st := by
  refine ⟨h.len, ?_, ?_⟩
  · intro i hi hs m hm hx
    by_cases e : m ≤ n
    · exact h.old i hi hs m e hx
    · obtain rfl : m = n + 1 := by omega
      have nd := hx.2 n (by omega)
      rcases h.new i hi hs nd with q | ⟨q, _⟩
      · rcases hx.1 with z | ⟨u, hu, ha⟩
        · exact absurd z nd
        · obtain ⟨j, hj, ej⟩ := List.getElem_of_mem ((hp u).2 ha.1)
          obtain ⟨m', hm', hx'⟩ := Bfs.X_ex hu
          have e' : m' = n := by
            by_cases t : m' < n
            · have up : Bfs.D (adjP l eyes a b c d) src (m' + 1) pts[i] := Or.inr ⟨u, hx'.1, ha⟩
              exact absurd (Bfs.D_le up (by omega)) nd
            · omega
          subst e'
          have := h.done j i hj hi hs (all j i hj) (by rw [ej]; exact hx') (by rw [ej]; exact ha)
          omega
      · rw [q]; rfl
  · intro i hi hs hnd
    rcases h.new i hi hs (fun z => hnd (Or.inl z)) with q | ⟨_, q⟩
    · exact q
    · exact absurd q hnd
section
variable {l : List S48} {eyes : List S25} {a b c d : Int} {src : S25} {pts : List S25}
end

theorem pts_of {l : List S48} {eyes p : List S25} {a b c d : Int} (hb : ckR l eyes p a b c d = 0) : (∀ q, q ∈ drow (hidE l eyes) (d + 1 - b).toNat b (c + 1 - a).toNat a ↔ okP l eyes a b c d q) ∧ (drow (hidE l eyes) (d + 1 - b).toNat b (c + 1 - a).toNat a).length ≤ 100000 ∧ (drow (hidE l eyes) (d + 1 - b).toNat b (c + 1 - a).toNat a).Pairwise ltP := by
  obtain ⟨hv, h8, he, r1, r2, hac, hbd⟩ := box_in hb
  unfold inR at r1 r2
  refine ⟨fun q => ?_, ?_, drow_sorted _ _ _ _ _⟩
  · rw [drow_mem]
    unfold okP inB
    rw [decide_eq_true_eq]
    constructor
    · rintro ⟨h1, h2, h3, h4, h5⟩; exact ⟨⟨by omega, by omega, by omega, by omega⟩, h5⟩
    · rintro ⟨⟨h1, h2, h3, h4⟩, h5⟩; exact ⟨by omega, by omega, by omega, by omega, h5⟩
  · exact Nat.le_trans (drow_len _ _ _ _ _) (Nat.le_trans (Nat.mul_le_mul (show (d + 1 - b).toNat ≤ 201 by omega) (show (c + 1 - a).toNat ≤ 201 by omega)) (by decide))
theorem nodup_le : ∀ (xs ys : List S25), xs.Nodup → (∀ x ∈ xs, x ∈ ys) → xs.length ≤ ys.length
  | [], _, _, _ => Nat.zero_le _
  | x :: t, ys, h, hs => by
    classical
    rw [List.nodup_cons] at h
    have hx : x ∈ ys := hs x (List.mem_cons_self ..)
    have hn := nodup_le t (ys.erase x) h.2 (fun y hy => (List.mem_erase_of_ne (fun e : y = x => h.1 (by rw [← e]; exact hy))).2 (hs y (List.mem_cons_of_mem _ hy)))
    have hl := List.length_erase_of_mem hx
    have hp := List.length_pos_of_mem hx
    rw [List.length_cons]; omega
theorem bGet_some {ba : Back} {q p : P2} (h : bGet ba q = some p) : (q, p) ∈ ba := by
  unfold bGet at h
  obtain ⟨e, he, rfl⟩ := Option.map_eq_some_iff.1 h
  have h1 := List.find?_some he
  have h2 := List.mem_of_find?_eq_some he
  have h1 := of_decide_eq_true h1
  have : e.1 = q := pt_ext.1 h1
  rw [← this]; exact h2
theorem bGet_mem {ba : Back} {q p : P2} (h : (q, p) ∈ ba) : (bGet ba q).isSome = true := by
  unfold bGet
  rw [Option.isSome_map, List.find?_isSome]
  exact ⟨(q, p), h, decide_eq_true ⟨rfl, rfl⟩⟩
theorem ptOk_in {p : S25} (h : -1000 ≤ p.f0 ∧ p.f0 ≤ 1000 ∧ -1000 ≤ p.f1 ∧ p.f1 ≤ 1000) : ptOk p := by
  have mi : IntKind.i64.min = -9223372036854775808 := by decide
  have ma : IntKind.i64.max = 9223372036854775807 := by decide
  unfold ptOk Lit.wf
  simp only [mi, ma, Bool.and_eq_true, decide_eq_true_eq]
  omega
theorem eyesF_eq {l : List S48} {q : S25} (h : valR l = 0) (r : inR q.f0 q.f1) : ∀ (eyes : List S25), plB eyes = true → eyesF l q eyes = some (!hidE l eyes q.f0 q.f1)
  | [], _ => by simp [eyesF, hidE]
  | e :: t, he => by
    have hin := plB_in he
    have ht : plB t = true := by
      unfold plB at he ⊢; rw [List.any_cons, Bool.not_or, Bool.and_eq_true] at he; exact he.2
    have ih := eyesF_eq h r t ht
    unfold eyesF
    rw [sees_eq h (hin e (List.mem_cons_self ..)) r, Option.bind_some, ih]
    unfold hidE
    rw [List.any_cons]
    cases sE l e.f0 e.f1 q.f0 q.f1 <;> simp
theorem stB_dirs {p q : S25} : stB p.f0 p.f1 q.f0 q.f1 = true ↔ ∃ d ∈ dirs, q = ⟨p.f0 + d.f0, p.f1 + d.f1⟩ := by
  unfold stB
  rw [beq_iff_eq]
  have s1 := sq_cases (p.f0 - q.f0)
  have s2 := sq_cases (p.f1 - q.f1)
  constructor
  · intro h
    generalize (p.f0 - q.f0) * (p.f0 - q.f0) = x at *
    generalize (p.f1 - q.f1) * (p.f1 - q.f1) = y at *
    have : (q.f0 = p.f0 + 1 ∧ q.f1 = p.f1) ∨ (q.f0 = p.f0 - 1 ∧ q.f1 = p.f1) ∨ (q.f0 = p.f0 ∧ q.f1 = p.f1 + 1) ∨ (q.f0 = p.f0 ∧ q.f1 = p.f1 - 1) := by omega
    rcases this with ⟨h1, h2⟩ | ⟨h1, h2⟩ | ⟨h1, h2⟩ | ⟨h1, h2⟩
    · exact ⟨⟨1, 0⟩, by simp [dirs], pt_ext.1 ⟨by simpa using h1, by simpa using h2⟩⟩
    · exact ⟨⟨-1, 0⟩, by simp [dirs], pt_ext.1 ⟨by simp; omega, by simpa using h2⟩⟩
    · exact ⟨⟨0, 1⟩, by simp [dirs], pt_ext.1 ⟨by simpa using h1, by simpa using h2⟩⟩
    · exact ⟨⟨0, -1⟩, by simp [dirs], pt_ext.1 ⟨by simpa using h1, by simp; omega⟩⟩
  · rintro ⟨d, hd, rfl⟩
    have e1 : p.f0 - (p.f0 + d.f0) = -d.f0 := by omega
    have e2 : p.f1 - (p.f1 + d.f1) = -d.f1 := by omega
    show (p.f0 - (p.f0 + d.f0)) * (p.f0 - (p.f0 + d.f0)) + (p.f1 - (p.f1 + d.f1)) * (p.f1 - (p.f1 + d.f1)) = 1
    rw [e1, e2]
    simp [dirs] at hd
    rcases hd with rfl | rfl | rfl | rfl <;> decide
section
variable {l : List S48} {eyes : List S25} {a b c d : Int} {src : S25} {pts : List S25}
/-- all that is found is hidden, and there are not too many -/
theorem found_ok (ho : okP l eyes a b c d src) {i : Nat} {dn : S25 → Prop} {fo : List S25} {ba : Back} {lv : List Nat} (H : Bfs.Inv (adjP l eyes a b c d) src i dn fo ba lv) (hp : ∀ q, q ∈ pts ↔ okP l eyes a b c d q) : (∀ v ∈ fo, okP l eyes a b c d v) ∧ fo.length ≤ pts.length ∧ ba.length ≤ pts.length := by
  have hk : ∀ v ∈ fo, okP l eyes a b c d v := fun v hv => by
    obtain ⟨n, hx⟩ := H.reach hv
    exact D_ok ho n v hx.1
  have h1 := nodup_le fo pts H.nd (fun v hv => (hp v).2 (hk v hv))
  refine ⟨hk, h1, ?_⟩
  have h2 := nodup_le (ba.map (·.1)) fo H.nodup (fun v hv => by
    obtain ⟨⟨x, y⟩, he, rfl⟩ := List.mem_map.1 hv
    exact (H.back0 x y he).1)
  rw [List.length_map] at h2
  omega
theorem try_step (h : valR l = 0) (he : plB eyes = true) (r1 : inR a b) (r2 : inR c d) (hp : ∀ q, q ∈ pts ↔ okP l eyes a b c d q) (hN : pts.length ≤ 100000) (ho : okP l eyes a b c d src)
    {i : Nat} {dn : S25 → Prop} {s : List P2 × Back} {lv : List Nat} (H : Bfs.Inv (adjP l eyes a b c d) src i dn s.1 s.2 lv) (hi : i < s.1.length) (q : P2) (hst : stB s.1[i].f0 s.1[i].f1 q.f0 q.f1 = true) (hq : -1000 ≤ q.f0 ∧ q.f0 ≤ 1000 ∧ -1000 ≤ q.f1 ∧ q.f1 ≤ 1000) :
    ∃ s' lv', tryF l eyes a b c d s.1[i] q s = some s' ∧ Bfs.Inv (adjP l eyes a b c d) src i (fun u => dn u ∨ u = q) s'.1 s'.2 lv' ∧ s'.1[i]? = some s.1[i] := by
  obtain ⟨hk, hf, hb⟩ := found_ok ho H hp
  have okI := hk _ (List.getElem_mem hi)
  have inI : inR s.1[i].f0 s.1[i].f1 := inB_R r1 r2 okI.1
  unfold tryF
  rw [if_pos ⟨ptOk_in hq, by omega, by omega⟩]
  have same : ∀ x : Option (List P2 × Back), x = some s → (∀ hi : i < s.1.length, adjP l eyes a b c d s.1[i] q → q ∈ s.1) → ∃ s' lv', x = some s' ∧ Bfs.Inv (adjP l eyes a b c d) src i (fun u => dn u ∨ u = q) s'.1 s'.2 lv' ∧ s'.1[i]? = some s.1[i] :=
    fun x hx hh => ⟨s, lv, hx, H.skip hh, List.getElem?_eq_getElem hi⟩
  by_cases z : (bGet s.2 q).isSome = true
  · rw [if_pos z]
    refine same _ rfl fun _ _ => ?_
    obtain ⟨p, hpq⟩ := Option.isSome_iff_exists.1 z
    exact (H.back0 q p (bGet_some hpq)).1
  rw [if_neg z, inside_eq, Option.bind_some]
  by_cases y : inB a b c d q.f0 q.f1 = true
  · have inQ := inB_R r1 r2 y
    rw [if_pos y, sees_eq h inI inQ, Option.bind_some]
    by_cases x : sE l s.1[i].f0 s.1[i].f1 q.f0 q.f1 = true
    · rw [if_pos x, eyesF_eq h inQ eyes he, Option.bind_some]
      by_cases w : hidE l eyes q.f0 q.f1 = true
      · rw [w, if_neg (by decide)]
        refine ⟨_, _, rfl, H.add hi ⟨okI, ⟨y, w⟩, hst, x⟩ (fun hm => z ?_), ?_⟩
        · obtain ⟨p, hpq⟩ := (H.keys q).1 hm
          exact bGet_mem hpq
        · show (s.1 ++ [q])[i]? = _
          rw [List.getElem?_append_left hi]; exact List.getElem?_eq_getElem hi
      · rw [Bool.not_eq_true] at w
        rw [w, if_pos (by decide)]
        exact same _ rfl fun _ ha => absurd ha.2.1.2 (by rw [w]; decide)
    · rw [if_neg x]
      exact same _ rfl fun _ ha => absurd ha.2.2.2 x
  · rw [if_neg y]
    exact same _ rfl fun _ ha => absurd ha.2.1.1 y
theorem dirs_step (h : valR l = 0) (he : plB eyes = true) (r1 : inR a b) (r2 : inR c d) (hp : ∀ q, q ∈ pts ↔ okP l eyes a b c d q) (hN : pts.length ≤ 100000) (ho : okP l eyes a b c d src) {i : Nat} (p : S25) (okI : okP l eyes a b c d p) :
    ∀ (ds : List S25) (_ : ∀ x ∈ ds, x ∈ dirs) {dn : S25 → Prop} {s : List P2 × Back} {lv : List Nat} (H : Bfs.Inv (adjP l eyes a b c d) src i dn s.1 s.2 lv) (hi : s.1[i]? = some p),
    ∃ s' lv' dn', dirsF l eyes a b c d p ds s = some s' ∧ Bfs.Inv (adjP l eyes a b c d) src i dn' s'.1 s'.2 lv' ∧ (∀ u, (dn u ∨ ∃ e ∈ ds, u = (⟨p.f0 + e.f0, p.f1 + e.f1⟩ : S25)) → dn' u) ∧ s'.1[i]? = some p
  | [], _, dn, s, lv, H, hi => ⟨s, lv, dn, rfl, H, fun u hu => by
      rcases hu with hu | ⟨e, he, _⟩
      · exact hu
      · simp at he, hi⟩
  | e :: t, hd, dn, s, lv, H, hi => by
    have inI : inR p.f0 p.f1 := inB_R r1 r2 okI.1
    obtain ⟨hi', ei⟩ := List.getElem?_eq_some_iff.1 hi
    have hed := hd e (List.mem_cons_self ..)
    have hb : -1 ≤ e.f0 ∧ e.f0 ≤ 1 ∧ -1 ≤ e.f1 ∧ e.f1 ≤ 1 := by
      simp [dirs] at hed
      rcases hed with rfl | rfl | rfl | rfl <;> decide
    unfold inR at inI
    have ew : (⟨wrap64 (p.f0 + e.f0), wrap64 (p.f1 + e.f1)⟩ : S25) = ⟨p.f0 + e.f0, p.f1 + e.f1⟩ := by rw [w64 (by omega) (by omega), w64 (by omega) (by omega)]
    obtain ⟨s', lv', h1, h2, h3⟩ := try_step h he r1 r2 hp hN ho H hi' ⟨p.f0 + e.f0, p.f1 + e.f1⟩ (by rw [ei]; exact stB_dirs.2 ⟨e, hed, rfl⟩) (by show -1000 ≤ p.f0 + e.f0 ∧ p.f0 + e.f0 ≤ 1000 ∧ -1000 ≤ p.f1 + e.f1 ∧ p.f1 + e.f1 ≤ 1000; omega)
    rw [ei] at h1 h3
    obtain ⟨s2, lv2, dn2, g1, g2, g3, g4⟩ := dirs_step h he r1 r2 hp hN ho p okI t (fun x hx => hd x (List.mem_cons_of_mem _ hx)) h2 h3
    refine ⟨s2, lv2, dn2, ?_, g2, ?_, g4⟩
    · unfold dirsF
      rw [ew, h1, Option.bind_some]; exact g1
    · intro u hu
      refine g3 u ?_
      rcases hu with hu | ⟨x, hx, hu⟩
      · exact Or.inl (Or.inl hu)
      · rcases List.mem_cons.1 hx with rfl | hx
        · exact Or.inl (Or.inr hu)
        · exact Or.inr ⟨x, hx, hu⟩
theorem spread_loop (h : valR l = 0) (he : plB eyes = true) (r1 : inR a b) (r2 : inR c d) (hp : ∀ q, q ∈ pts ↔ okP l eyes a b c d q) (hN : pts.length ≤ 100000) (ho : okP l eyes a b c d src) :
    ∀ (e i : Nat) (s : List P2 × Back) (lv : List Nat), pts.length ≤ i + e → Bfs.Inv (adjP l eyes a b c d) src i (fun _ => False) s.1 s.2 lv →
    ∃ s' i' lv', Ev (fun k => spreadF l eyes a b c d k i s) s' ∧ Bfs.Inv (adjP l eyes a b c d) src i' (fun _ => False) s'.1 s'.2 lv' ∧ s'.1.length ≤ i'
  | e, i, s, lv, hl, H => by
    by_cases z : i < s.1.length
    · obtain ⟨hk, hf, hb⟩ := found_ok ho H hp
      match e with
      | 0 => omega
      | e + 1 =>
        obtain ⟨s1, lv1, dn1, g1, g2, g3, g4⟩ := dirs_step h he r1 r2 hp hN ho s.1[i] (hk _ (List.getElem_mem z)) dirs (fun _ hx => hx) H (List.getElem?_eq_getElem z)
        obtain ⟨z1, e1⟩ := List.getElem?_eq_some_iff.1 g4
        obtain ⟨s2, i2, lv2, k1, k2, k3⟩ := spread_loop h he r1 r2 hp hN ho e (i + 1) s1 lv1 (by omega) (g2.next z1 (fun u hu => g3 u (Or.inr (stB_dirs.1 (by rw [e1] at hu; exact hu.2.2.1)))))
        refine ⟨s2, i2, lv2, Ev.step (fun k => spreadF.eq_2 ..) ?_, k2, k3⟩
        have : (fun k => if h : i < s.1.length then (dirsF l eyes a b c d s.1[i] dirs s).bind fun s => spreadF l eyes a b c d k (i + 1) s else some s) = fun k => spreadF l eyes a b c d k (i + 1) s1 := by
          funext k; rw [dif_pos z, g1, Option.bind_some]
        rw [this]; exact k1
    · refine ⟨s, i, lv, Ev.step (fun k => spreadF.eq_2 ..) ?_, H, by omega⟩
      have : (fun k : Nat => if h : i < s.1.length then (dirsF l eyes a b c d s.1[i] dirs s).bind fun s => spreadF l eyes a b c d k (i + 1) s else some s) = fun k => some s := by
        funext k; rw [dif_neg z]
      rw [this]; exact Ev.now _
end

theorem X_list {adj : S25 → S25 → Prop} {src : S25} : ∀ (n : Nat) (v : S25), Bfs.X adj src n v → ∃ L : List S25, L.Nodup ∧ L.length = n + 1 ∧ ∀ x ∈ L, ∃ m, m ≤ n ∧ Bfs.X adj src m x
  | 0, v, h => ⟨[v], by simp, rfl, fun x hx => ⟨0, Nat.le_refl _, by rw [List.mem_singleton.1 hx]; exact h⟩⟩
  | n + 1, v, h => by
    rcases h.1 with z | ⟨u, hu, ha⟩
    · exact absurd z (h.2 n (by omega))
    · have hx : Bfs.X adj src n u := ⟨hu, fun m hm z => h.2 (m + 1) (by omega) (Or.inr ⟨u, z, ha⟩)⟩
      obtain ⟨L, h1, h2, h3⟩ := X_list n u hx
      refine ⟨v :: L, List.nodup_cons.2 ⟨fun hm => ?_, h1⟩, by rw [List.length_cons, h2], fun x hx => ?_⟩
      · obtain ⟨m, hm1, hm2⟩ := h3 v hm
        have := Bfs.X_uniq hm2 h
        omega
      · rcases List.mem_cons.1 hx with rfl | hx
        · exact ⟨n + 1, Nat.le_refl _, h⟩
        · obtain ⟨m, hm1, hm2⟩ := h3 x hx
          exact ⟨m, by omega, hm2⟩
theorem X_few {l : List S48} {eyes : List S25} {a b c d : Int} {src : S25} {pts : List S25} (hp : ∀ q, q ∈ pts ↔ okP l eyes a b c d q) (ho : okP l eyes a b c d src) {n : Nat} {v : S25} (h : Bfs.X (adjP l eyes a b c d) src n v) : n + 1 ≤ pts.length := by
  obtain ⟨L, h1, h2, h3⟩ := X_list n v h
  rw [← h2]
  refine nodup_le L pts h1 fun x hx => ?_
  obtain ⟨m, _, hm⟩ := h3 x hx
  exact (hp x).2 (D_ok ho m x hm.1)
def WalkTo (adj : S25 → S25 → Prop) (src : S25) : S25 → List S25 → Prop
  | v, [] => v = src
  | v, p :: w => adj p v ∧ WalkTo adj src p w
structure Good (adj : S25 → S25 → Prop) (src t : S25) (L : List S25) (n : Nat) : Prop where
  len : L.length = n + 1
  first : L[0]? = some src
  last : L[n]? = some t
  step : ∀ (i : Nat) (x y : S25), L[i]? = some x → L[i + 1]? = some y → adj x y
theorem walk_good {adj : S25 → S25 → Prop} {src : S25} : ∀ (w : List S25) (v : S25), WalkTo adj src v w → Good adj src v (v :: w).reverse w.length
  | [], v, h => by
    have h : v = src := h
    subst h
    exact ⟨rfl, rfl, rfl, fun i x y h1 h2 => by simp at h2⟩
  | p :: w, v, h => by
    obtain ⟨ha, hw⟩ := h
    have g := walk_good w p hw
    rw [List.reverse_cons]
    generalize (p :: w).reverse = L at g
    have hl := g.len
    refine ⟨by simp [hl], ?_, ?_, ?_⟩
    · rw [List.getElem?_append_left (by omega)]; exact g.first
    · rw [List.length_cons, List.getElem?_append_right (by omega), hl, Nat.sub_self]; rfl
    · intro i x y h1 h2
      by_cases z : i + 1 < L.length
      · rw [List.getElem?_append_left (by omega)] at h1
        rw [List.getElem?_append_left z] at h2
        exact g.step i x y h1 h2
      · have hi : i + 1 = L.length := by
          obtain ⟨q, _⟩ := List.getElem?_eq_some_iff.1 h2
          simp at q; omega
        rw [List.getElem?_append_left (by omega)] at h1
        rw [hi, List.getElem?_append_right (Nat.le_refl _), Nat.sub_self] at h2
        have e : i = w.length := by omega
        rw [e, g.last] at h1
        simp at h1 h2
        rw [← h1, ← h2]; exact ha
theorem way_go {l : List S48} {eyes : List S25} {a b c d : Int} {src : S25} (r1 : inR a b) (r2 : inR c d) (ho : okP l eyes a b c d src) {i : Nat} {dn : S25 → Prop} {fo : List S25} {ba : Back} {lv : List Nat} (H : Bfs.Inv (adjP l eyes a b c d) src i dn fo ba lv) :
    ∀ (n : Nat) (v : S25) (way : List S25), v ∈ fo → Bfs.X (adjP l eyes a b c d) src n v → way.length + n ≤ 100000 → ∃ w, Ev (fun k => wayF ba src.f0 src.f1 k v way) (way ++ w) ∧ w.length = n ∧ WalkTo (adjP l eyes a b c d) src v w
  | 0, v, way, hv, hx, hl => by
    have e : v = src := hx.1
    refine ⟨[], Ev.step (fun k => wayF.eq_2 ..) (evp (by rw [e]; exact ⟨rfl, rfl⟩) ?_), rfl, e⟩
    rw [List.append_nil]; exact Ev.now _
  | n + 1, v, way, hv, hx, hl => by
    have ne : v ≠ src := fun e => hx.2 0 (by omega) e
    obtain ⟨p0, hp0⟩ := (H.keys v).1 hv
    obtain ⟨p, hp⟩ := Option.isSome_iff_exists.1 (bGet_mem hp0)
    have hm := bGet_some hp
    obtain ⟨ha, hpx⟩ := H.par v p hm ne
    obtain ⟨m, em, hxm⟩ := hpx (n + 1) hx
    obtain rfl : m = n := by omega
    obtain ⟨w, h1, h2, h3⟩ := way_go r1 r2 ho H m p (way ++ [p]) (H.back0 v p hm).2 hxm (by simp; omega)
    have hin := inB_R r1 r2 (D_ok ho _ v hx.1).1
    unfold inR at hin
    refine ⟨p :: w, Ev.step (fun k => wayF.eq_2 ..) (evn (fun q => ne (pt_ext.1 q)) (evp ⟨ptOk_in (by omega), by omega⟩ ?_)), by rw [List.length_cons, h2], ha, h3⟩
    rw [hp, Option.getD_some]
    rw [List.append_assoc, List.singleton_append] at h1
    exact h1

theorem rev_l0 : ∀ (e : Nat) (x : List S25) (i : Nat), x.length ≤ 100000 → x.length ≤ 2 * i + 1 + 2 * e → i ≤ 100000 →
    ∃ R, Ev (fun k => api_Point_25.l0 k x (i : Int) ((x.length : Int) - 1 - i)) R ∧ R.length = x.length ∧ ∀ j, j < x.length → R[j]? = if i ≤ j ∧ j + i + 1 ≤ x.length then x[x.length - 1 - j]? else x[j]?
  | e, x, i, hN, he, hiN => by
    by_cases z : 2 * i + 1 < x.length
    · match e with
      | 0 => omega
      | e + 1 =>
        have eh : ((x.length : Int) - 1 - i) = ((x.length - 1 - i : Nat) : Int) := by omega
        have hi : i < x.length := by omega
        have hh : x.length - 1 - i < x.length := by omega
        obtain ⟨R, h1, h2, h3⟩ := rev_l0 e ((x.set i x[x.length - 1 - i]).set (x.length - 1 - i) x[i]) (i + 1) (by simp; exact hN) (by simp; omega) (by omega)
        simp only [List.length_set] at h1 h2 h3
        refine ⟨R, Ev.step (fun k => api_Point_25.l0.eq_2 ..) (evp (by omega) (evp (by omega) (evp (by omega) (evp (by omega) (evp (by omega) ?_))))), h2, ?_⟩
        · rw [eh, rdP_at _ _ hi, rdP_at _ _ hh, Int.toNat_natCast, Int.toNat_natCast, w64 (n := (i : Int) + 1) (by omega) (by omega), w64 (by omega) (by omega)]
          have e2 : ((x.length - 1 - i : Nat) : Int) - 1 = (x.length : Int) - 1 - ((i + 1 : Nat) : Int) := by omega
          rw [e2]; exact h1
        · intro j hj
          rw [h3 j hj]
          simp only [List.getElem?_set, List.length_set]
          by_cases q1 : i + 1 ≤ j ∧ j + (i + 1) + 1 ≤ x.length
          · rw [if_pos q1, if_neg (by omega), if_neg (by omega), if_pos (by omega)]
          · rw [if_neg q1]
            by_cases q2 : j = i
            · subst q2
              rw [if_neg (by omega), if_pos rfl, if_pos hi, if_pos (by omega)]
              exact (List.getElem?_eq_getElem hh).symm
            · by_cases q3 : j = x.length - 1 - i
              · rw [if_pos q3.symm, if_pos hh, if_pos (by omega)]
                have e3 : x.length - 1 - j = i := by omega
                rw [e3]; exact (List.getElem?_eq_getElem hi).symm
              · rw [if_neg (by omega), if_neg (by omega), if_neg (by omega)]
    · refine ⟨x, Ev.step (fun k => api_Point_25.l0.eq_2 ..) (evn (by omega) (Ev.now _)), rfl, fun j hj => ?_⟩
      by_cases q : i ≤ j ∧ j + i + 1 ≤ x.length
      · rw [if_pos q]
        have e3 : x.length - 1 - j = j := by omega
        rw [e3]
      · rw [if_neg q]
theorem rev_ev (x : List S25) (hN : x.length ≤ 100000) : Ev (fun k => api_Point_25.f k x) x.reverse := by
  obtain ⟨R, h1, h2, h3⟩ := rev_l0 x.length x 0 hN (by omega) (by omega)
  have e : R = x.reverse := by
    refine List.ext_getElem? fun j => ?_
    by_cases z : j < x.length
    · rw [h3 j z, if_pos (by omega), List.getElem?_reverse z]
    · rw [List.getElem?_eq_none (by omega), List.getElem?_eq_none (by simp; omega)]
  unfold api_Point_25.f
  rw [w64 (by omega) (by omega), ← e]
  have e2 : (x.length : Int) - 1 - ((0 : Nat) : Int) = (x.length : Int) - 1 := by omega
  rw [e2] at h1
  exact h1

def plcR (l : List S48) (eyes : List S25) (a b c d : Int) (ps : List S25) : Int := if ckR l eyes ps a b c d = 0 then (if ps.all (fun p => inB a b c d p.f0 p.f1) then 0 else 4) else ckR l eyes ps a b c d
theorem plcR_n {l : List S48} {eyes : List S25} {a b c d : Int} {ps : List S25} (h : ¬ ckR l eyes ps a b c d = 0) : plcR l eyes a b c d ps = ckR l eyes ps a b c d := if_neg h
theorem plcR_0 {l : List S48} {eyes : List S25} {a b c d : Int} {ps : List S25} (h : ckR l eyes ps a b c d = 0) : plcR l eyes a b c d ps = if ps.all (fun p => inB a b c d p.f0 p.f1) then 0 else 4 := if_pos h
theorem plcR_ok {l : List S48} {eyes : List S25} {a b c d : Int} {ps : List S25} (h : plcR l eyes a b c d ps = 0) : ckR l eyes ps a b c d = 0 ∧ ∀ p ∈ ps, inB a b c d p.f0 p.f1 = true := by
  by_cases z : ckR l eyes ps a b c d = 0
  · rw [plcR_0 z] at h
    by_cases y : ps.all (fun p => inB a b c d p.f0 p.f1) = true
    · exact ⟨z, fun p hp => List.all_eq_true.1 y p hp⟩
    · rw [if_neg y] at h; exact absurd h (by decide)
  · rw [plcR_n z] at h; exact absurd h z
theorem ends_l0 (a b c d : Int) (ps : List S25) (hN : ps.length ≤ 100000) : ∀ e i : Nat, i + e = ps.length → Ev (fun k => screen_ends.l0 k ps (ps.length : Int) (i : Int) a b c d) (if (ps.drop i).all (fun p => inB a b c d p.f0 p.f1) then 0 else 4)
  | 0, i, he => by
    rw [List.drop_of_length_le (by omega)]
    exact Ev.step (fun k => screen_ends.l0.eq_2 ..) (evn (by omega) (Ev.now _))
  | e + 1, i, he => by
    have hi : i < ps.length := by omega
    have ih := ends_l0 a b c d ps hN e (i + 1) (by omega)
    rw [List.drop_eq_getElem_cons hi, List.all_cons]
    refine Ev.step (fun k => screen_ends.l0.eq_2 ..) (evp (by omega) (evp (by omega) (evp (by omega) ?_)))
    rw [rdP_at _ _ hi]
    refine evs (inside_eq ..) ?_
    by_cases z : inB a b c d ps[i].f0 ps[i].f1 = true
    · rw [z, Bool.true_and]
      refine evp rfl ?_
      rw [w64 (n := (i : Int) + 1) (by omega) (by omega)]
      exact ih
    · rw [Bool.not_eq_true] at z
      rw [z, Bool.false_and]
      exact evn (by decide) (Ev.now _)
theorem ends_ev (l : List S48) (eyes : List S25) (a b c d : Int) (ps : List S25) (hN : ps.length ≤ 100000) : Ev (fun k => screen_ends.f k l eyes a b c d ps) (plcR l eyes a b c d ps) := by
  unfold screen_ends.f
  refine evb (checked_ev ..) ?_
  by_cases z : ckR l eyes ps a b c d = 0
  · rw [plcR_0 z]
    exact evp z (by simpa using ends_l0 a b c d ps hN ps.length 0 (by omega))
  · rw [plcR_n z]; exact evn z (Ev.now _)
theorem ckR_nil {l : List S48} {eyes ps : List S25} {a b c d : Int} (h : ckR l eyes ps a b c d = 0) : ckR l eyes [] a b c d = 0 := by
  obtain ⟨h1, h2⟩ := ckR_ok h
  obtain ⟨h3, h4, h5, h6, h7⟩ := lkR_ok h1
  exact ckR_0 (lkR_0 h3 (by simp; omega) (by rw [h6]; rfl)) h2

theorem X_small {l : List S48} {eyes : List S25} {a b c d : Int} {src : S25} (hb : bxB a b c d = true) (ho : okP l eyes a b c d src) {n : Nat} {v : S25} (h : Bfs.X (adjP l eyes a b c d) src n v) : n + 1 ≤ 441 := by
  unfold bxB at hb
  rw [Bool.and_eq_true, decide_eq_true_eq] at hb
  obtain ⟨_, h1, h2, h3, h4⟩ := hb
  have hp : ∀ q, q ∈ drow (hidE l eyes) (d + 1 - b).toNat b (c + 1 - a).toNat a ↔ okP l eyes a b c d q := by
    intro q
    rw [drow_mem]
    unfold okP inB
    rw [decide_eq_true_eq]
    constructor
    · rintro ⟨h1, h2, h3, h4, h5⟩; exact ⟨⟨by omega, by omega, by omega, by omega⟩, h5⟩
    · rintro ⟨⟨h1, h2, h3, h4⟩, h5⟩; exact ⟨by omega, by omega, by omega, by omega, h5⟩
  refine Nat.le_trans (X_few hp ho h) (Nat.le_trans (drow_len _ _ _ _ _) (Nat.le_trans (Nat.mul_le_mul (show (d + 1 - b).toNat ≤ 21 by omega) (show (c + 1 - a).toNat ≤ 21 by omega)) (by decide)))
theorem cw_good {l : List S48} {eyes : List S25} {a b c d : Int} {src t : S25} {L : List S25} {n : Nat} (ho : okP l eyes a b c d src) (g : Good (adjP l eyes a b c d) src t L n) : ∀ m i : Nat, i + m = L.length → cw l eyes a b c d L m i = ((n : Int), 0)
  | 0, i, h => by
    unfold cw
    have := g.len
    exact Prod.ext (by show (L.length : Int) - 1 = n; omega) rfl
  | m + 1, i, h => by
    have hi : i < L.length := by omega
    have ih := cw_good ho g m (i + 1) (by omega)
    have e1 : rd_T25 L ((i : Nat) : Int) = L[i] := rdP_at _ _ hi
    unfold cw
    by_cases z : i = 0
    · subst z
      have e2 : L[0] = src := by
        have := g.first
        rw [List.getElem?_eq_getElem hi] at this
        exact Option.some.inj this
      rw [e1, e2, if_pos ho.1, if_pos ho.2, if_pos rfl]
      exact ih
    · have hp : i - 1 < L.length := by omega
      have e3 : i - 1 + 1 = i := by omega
      have ha := g.step (i - 1) L[i - 1] L[i] (List.getElem?_eq_getElem hp) (by rw [e3]; exact List.getElem?_eq_getElem hi)
      have e4 : rd_T25 L ((i - 1 : Nat) : Int) = L[i - 1] := rdP_at _ _ hp
      rw [e1, e4, if_pos ha.2.1.1, if_pos ha.2.1.2, if_neg z, if_pos ha.2.2.1, if_pos ha.2.2.2]
      exact ih
theorem D_trans {V : Type} {adj : V → V → Prop} {s t : V} {m : Nat} (h : Bfs.D adj s m t) : ∀ (n : Nat) (q : V), Bfs.D adj t n q → Bfs.D adj s (m + n) q
  | 0, q, k => by have k : q = t := k; rw [k]; exact h
  | n + 1, q, k => by
    rcases k with k | ⟨u, hu, ha⟩
    · exact Or.inl (D_trans h n q k)
    · exact Or.inr ⟨u, D_trans h n u hu, ha⟩
theorem D_symm {V : Type} {adj : V → V → Prop} (sy : ∀ p q, adj p q → adj q p) {s : V} : ∀ (n : Nat) (t : V), Bfs.D adj s n t → Bfs.D adj t n s
  | 0, t, h => by have h : t = s := h; rw [h]; exact (rfl : s = s)
  | n + 1, t, h => by
    rcases h with h | ⟨u, hu, ha⟩
    · exact Or.inl (D_symm sy n t h)
    · have h1 : Bfs.D adj t 1 u := Or.inr ⟨t, rfl, sy _ _ ha⟩
      have := D_trans h1 n s (D_symm sy n u hu)
      rwa [Nat.add_comm] at this
theorem adjP_symm {l : List S48} {eyes : List S25} {a b c d : Int} (p q : S25) (h : adjP l eyes a b c d p q) : adjP l eyes a b c d q p := by
  obtain ⟨h1, h2, h3, h4⟩ := h
  refine ⟨h2, h1, ?_, by rw [sE_comm]; exact h4⟩
  unfold stB at h3 ⊢
  rw [show (q.f0 - p.f0) * (q.f0 - p.f0) = (p.f0 - q.f0) * (p.f0 - q.f0) by rw [← Int.neg_sub, Int.neg_mul_neg], show (q.f1 - p.f1) * (q.f1 - p.f1) = (p.f1 - q.f1) * (p.f1 - q.f1) by rw [← Int.neg_sub, Int.neg_mul_neg]]
  exact h3
theorem ltP_asymm {p q : S25} (h : ltP p q) (k : ltP q p) : False := by unfold ltP at h k; omega
theorem ptSort_sorted {l : List S25} (hn : l.Nodup) : (ptSort l).Pairwise ltP := by
  have h1 : (ptSort l).Pairwise (fun x y => (!(ltOf ptCmp) y x) = true) := by
    refine List.pairwise_mergeSort (fun x y z h1 h2 => ?_) (fun x y => ?_) l
    · rw [ptLt] at *
      simp only [Bool.not_eq_true', decide_eq_false_iff_not] at *
      omega
    · rw [ptLt, ptLt]
      simp only [Bool.or_eq_true, Bool.not_eq_true', decide_eq_false_iff_not]
      omega
  have h2 : (ptSort l).Nodup := (List.mergeSort_perm l _).nodup_iff.2 hn
  refine (List.Pairwise.and h1 h2).imp (fun {x y} h => ?_)
  obtain ⟨h3, h4⟩ := h
  rw [ptLt] at h3
  simp only [Bool.not_eq_true', decide_eq_false_iff_not] at h3
  have h5 : ¬ (x.f0 = y.f0 ∧ x.f1 = y.f1) := fun e => h4 (pt_ext.1 e)
  unfold ltP
  omega
theorem ptSort_mem {l : List S25} {q : S25} : q ∈ ptSort l ↔ q ∈ l := List.mem_mergeSort
theorem sReach_ev (l : List S48) (eyes : List S25) (a b c d : Int) (s : S25) (hp : plcR l eyes a b c d [s] = 0) :
    ∃ L : List S25, Ev (fun k => screen_Reach.f k l eyes a b c d s.f0 s.f1) (L, 0) ∧ L.length ≤ 100000 ∧ L.Pairwise ltP ∧ ∀ q, q ∈ L ↔ okP l eyes a b c d s ∧ ∃ m, Bfs.D (adjP l eyes a b c d) s m q := by
  obtain ⟨hc, hin⟩ := plcR_ok hp
  obtain ⟨hv, h8, he, r1, r2, hac, hbd⟩ := box_in hc
  have sB := hin s (by simp)
  have sI := inB_R r1 r2 sB
  have sO : ptOk s := ptOk_in (by unfold inR at sI; omega)
  have E1 : Ev (fun k => screen_ends.f k l eyes a b c d [⟨s.f0, s.f1⟩]) 0 := by
    have := ends_ev l eyes a b c d [⟨s.f0, s.f1⟩] (by simp)
    rwa [show plcR l eyes a b c d [⟨s.f0, s.f1⟩] = 0 from hp] at this
  obtain ⟨D2, D3, D5⟩ := pts_of hc
  generalize drow (hidE l eyes) (d + 1 - b).toNat b (c + 1 - a).toNat a = pts at D2 D3 D5
  by_cases so : hidE l eyes s.f0 s.f1 = true
  · have ho : okP l eyes a b c d s := ⟨sB, so⟩
    obtain ⟨S, i', lv, W1, W2, W3⟩ := spread_loop hv he r1 r2 D2 D3 ho pts.length 0 ([s], [(s, s)]) [0] (by omega) Bfs.Inv.start
    have SP : Ev (fun k => screen_spread.f k l eyes a b c d s.f0 s.f1) S := by
      unfold screen_spread.f
      exact evs (hidden_eq hv he sI) (evp so (evp sO W1))
    obtain ⟨g1, g2, g3⟩ := found_ok ho W2 D2
    refine ⟨ptSort S.1, ?_, by rw [ptSort_length]; omega, ptSort_sorted W2.nd, fun q => ?_⟩
    · unfold screen_Reach.f
      exact evb E1 (evp rfl (evb SP (evp (by omega) (Ev.now _))))
    · rw [ptSort_mem]
      constructor
      · intro m
        obtain ⟨n, hx⟩ := W2.reach m
        exact ⟨ho, n, hx.1⟩
      · rintro ⟨_, n, hd⟩; exact W2.all W3 n q hd
  · have SP : Ev (fun k => screen_spread.f k l eyes a b c d s.f0 s.f1) ([], []) := by
      unfold screen_spread.f
      exact evs (hidden_eq hv he sI) (evn so (Ev.now _))
    refine ⟨[], ?_, by simp, by simp, fun q => ⟨fun m => absurd m (by simp), fun ⟨ho, _⟩ => absurd ho.2 so⟩⟩
    unfold screen_Reach.f
    refine evb E1 (evp rfl (evb SP (evp (by simp) ?_)))
    rw [show ptSort [] = ([] : List S25) by simp [ptSort]]
    exact Ev.now _
def mp (c : S25 → S25) (l : List S48) : List S48 := l.map fun s => (⟨c s.f0, c s.f1⟩ : S48)
def chR (c : S25 → S25) (l : List S48) : List S48 × Int := if valR (mp c l) = 0 then (mp c l, 0) else ([], valR (mp c l))
theorem chR_0 {c : S25 → S25} {l : List S48} (h : valR (mp c l) = 0) : chR c l = (mp c l, 0) := if_pos h
def endR (r : List S48) : List S48 × Int := if valR r = 0 then (r, 0) else ([], valR r)
theorem endR_0 {r : List S48} (h : valR r = 0) : endR r = (r, 0) := if_pos h
theorem endR_n {r : List S48} (h : ¬ valR r = 0) : endR r = ([], valR r) := if_neg h
theorem changed_l0 (qf : Int → Int → Option (Int × Int)) (c : S25 → S25) (hq : ∀ x y, qf x y = some ((c ⟨x, y⟩).f0, (c ⟨x, y⟩).f1)) (l : List S48) (hl : l.length ≤ 1000) : ∀ (d i : Nat) (acc : List S48), i + d = l.length → acc.length = i →
    Ev (fun k => screen_changed.l0 qf k acc l (l.length : Int) (i : Int)) (endR (acc ++ mp c (l.drop i)))
  | 0, i, acc, h, ha => by
    refine Ev.step (fun k => screen_changed.l0.eq_2 ..) (evn (by omega) (evb (valid_ev acc) ?_))
    rw [List.drop_eq_nil_of_le (by omega), show mp c [] = [] from rfl, List.append_nil]
    by_cases q : valR acc = 0
    · rw [endR_0 q]; exact evp q (Ev.now _)
    · rw [endR_n q]; exact evn q (Ev.now _)
  | d + 1, i, acc, h, ha => by
    have hlt : i < l.length := by omega
    have R := changed_l0 qf c hq l hl d (i + 1) (acc ++ [(⟨c (l[i]).f0, c (l[i]).f1⟩ : S48)]) (by omega) (by rw [List.length_append, List.length_singleton]; omega)
    refine Ev.step (fun k => screen_changed.l0.eq_2 ..) (evp (by omega) (evp (by omega) (evp (by omega) (evs (hq _ _) (evs (hq _ _) (evp (by omega) ?_))))))
    rw [rdX_at l i hlt, List.drop_eq_getElem_cons hlt, w64 (by omega) (by omega)]
    rw [List.append_assoc] at R
    exact R
theorem changed_ev (qf : Int → Int → Option (Int × Int)) (c : S25 → S25) (hq : ∀ x y, qf x y = some ((c ⟨x, y⟩).f0, (c ⟨x, y⟩).f1)) (l : List S48) (hl : l.length ≤ 1000) : Ev (fun k => screen_changed.f qf k l 0) (chR c l) :=
  changed_l0 qf c hq l hl l.length 0 [] (by omega) rfl
def trn (p : S25) : S25 := ⟨wrap64 (-p.f1), p.f0⟩
def TuR (l : List S48) : List S48 × Int := if valR l = 0 then chR trn l else ([], valR l)
theorem TuR_0 {l : List S48} (h : valR l = 0) : TuR l = chR trn l := if_pos h
theorem TuR_n {l : List S48} (h : ¬ valR l = 0) : TuR l = ([], valR l) := if_neg h
theorem Turn_ev (l : List S48) : Ev (fun k => screen_Turn.f k l) (TuR l) := by
  unfold screen_Turn.f
  refine evb (valid_ev l) ?_
  by_cases h : valR l = 0
  · rw [TuR_0 h]
    exact evp h (evb (changed_ev screen_Turn_1.f trn (fun _ _ => rfl) l (by have := (valR_ok h).1; omega)) (Ev.now _))
  · rw [TuR_n h]; exact evn h (Ev.now _)
def bigB (a b : Int) : Prop := max a b > 200 ∨ min a b < -200
instance (a b : Int) : Decidable (bigB a b) := inferInstanceAs (Decidable (_ ∨ _))
theorem valR_iff (l : List S48) : valR l = 0 ↔ l.length ≤ 12 ∧ ∀ s ∈ l, okS s = true := by
  unfold valR
  by_cases h1 : l.length > 12
  · rw [if_pos h1]; constructor
    · intro h; exact absurd h (by decide)
    · intro h; omega
  · rw [if_neg h1]
    by_cases h2 : l.all okS = true
    · rw [if_pos h2]; exact ⟨fun _ => ⟨by omega, List.all_eq_true.1 h2⟩, fun _ => rfl⟩
    · rw [if_neg h2]; constructor
      · intro h; exact absurd h (by decide)
      · intro h; exact absurd (List.all_eq_true.2 h.2) h2
theorem plB_2 (p q : S25) : plB [p, q] = true ↔ inR p.f0 p.f1 ∧ inR q.f0 q.f1 := by
  rw [← far_in, ← far_in]
  unfold plB
  rw [List.any_cons, List.any_cons, List.any_nil, Bool.or_false]
  cases farB p <;> cases farB q <;> simp
theorem okS_iff (s : S48) : okS s = true ↔ inR s.f0.f0 s.f0.f1 ∧ inR s.f1.f0 s.f1.f1 ∧ ¬ (s.f0.f0 = s.f1.f0 ∧ s.f0.f1 = s.f1.f1) := by
  unfold okS
  rw [Bool.and_eq_true, plB_2]
  simp [and_assoc]
  intro _ _
  omega
theorem bet_turn (a b c d e f : Int) : bet (-b) a (-d) c (-f) e ↔ bet a b c d e f := by unfold bet; omega
theorem sdI_turn (a b c d e f : Int) : sdI (-b) a (-d) c (-f) e = sdI a b c d e f := by unfold sdI; grind
theorem tB_turn (a b c d e f g h : Int) : tB (-b) a (-d) c (-f) e (-h) g = tB a b c d e f g h := decide_eq_decide.2 (by
  unfold touch1
  rw [sdI_turn, sdI_turn, sdI_turn, sdI_turn, bet_turn, bet_turn, bet_turn, bet_turn])
theorem any_mp (c : S25 → S25) (p : S48 → Bool) (l : List S48) : (mp c l).any p = l.any fun s => p ⟨c s.f0, c s.f1⟩ := by unfold mp; rw [List.any_map]; rfl
theorem trn_in {p : S25} (h : inR p.f0 p.f1) : trn p = ⟨-p.f1, p.f0⟩ ∧ inR (trn p).f0 (trn p).f1 := by
  have e : trn p = ⟨-p.f1, p.f0⟩ := by unfold trn; rw [w64 (by unfold inR at h; omega) (by unfold inR at h; omega)]
  refine ⟨e, ?_⟩
  rw [e]; unfold inR at h ⊢; dsimp only; omega
theorem val_turn {l : List S48} (h : valR l = 0) : valR (mp trn l) = 0 := by
  obtain ⟨h1, h2⟩ := (valR_iff l).1 h
  refine (valR_iff _).2 ⟨by unfold mp; rw [List.length_map]; exact h1, fun s hs => ?_⟩
  obtain ⟨t, ht, rfl⟩ := List.mem_map.1 hs
  obtain ⟨r1, r2, r3⟩ := (okS_iff t).1 (h2 t ht)
  obtain ⟨e1, i1⟩ := trn_in r1
  obtain ⟨e2, i2⟩ := trn_in r2
  refine (okS_iff _).2 ⟨i1, i2, ?_⟩
  rw [e1, e2]; dsimp only; omega
theorem sE_turn {l : List S48} {a b c d : Int} (h : valR l = 0) : sE (mp trn l) (-b) a (-d) c = sE l a b c d := by
  unfold sE
  rw [any_mp]
  congr 1
  refine any_congr fun s hs => ?_
  obtain ⟨_, q⟩ := valR_ok h
  unfold tS
  rw [(trn_in (q s hs).1).1, (trn_in (q s hs).2).1]
  exact tB_turn ..
theorem sWay_ev (l : List S48) (eyes : List S25) (a b c d : Int) (s t : S25) (hp : plcR l eyes a b c d [s, t] = 0) :
    (∃ (L : List S25) (n : Nat), Ev (fun k => screen_Way.f k l eyes a b c d s.f0 s.f1 t.f0 t.f1) (L, true, 0) ∧ n ≤ 900 ∧ okP l eyes a b c d s ∧ Good (adjP l eyes a b c d) s t L n ∧ Bfs.X (adjP l eyes a b c d) s n t) ∨
    (Ev (fun k => screen_Way.f k l eyes a b c d s.f0 s.f1 t.f0 t.f1) ([], false, 0) ∧ (okP l eyes a b c d s → ∀ n, ¬ Bfs.D (adjP l eyes a b c d) s n t)) := by
  obtain ⟨hc, hin⟩ := plcR_ok hp
  obtain ⟨hv, h8, he, r1, r2, hac, hbd⟩ := box_in hc
  have hbx := (ckR_ok hc).2
  have sB := hin s (by simp)
  have tB' := hin t (by simp)
  have sI := inB_R r1 r2 sB
  have tI := inB_R r1 r2 tB'
  have sO : ptOk s := ptOk_in (by unfold inR at sI; omega)
  have tO : ptOk t := ptOk_in (by unfold inR at tI; omega)
  have E1 : Ev (fun k => screen_ends.f k l eyes a b c d [⟨s.f0, s.f1⟩, ⟨t.f0, t.f1⟩]) 0 := by
    have := ends_ev l eyes a b c d [⟨s.f0, s.f1⟩, ⟨t.f0, t.f1⟩] (by simp)
    rwa [show plcR l eyes a b c d [⟨s.f0, s.f1⟩, ⟨t.f0, t.f1⟩] = 0 from hp] at this
  obtain ⟨D2, D3, D5⟩ := pts_of hc
  generalize drow (hidE l eyes) (d + 1 - b).toNat b (c + 1 - a).toNat a = pts at D2 D3 D5
  by_cases so : hidE l eyes s.f0 s.f1 = true
  · have ho : okP l eyes a b c d s := ⟨sB, so⟩
    obtain ⟨S, i', lv, W1, W2, W3⟩ := spread_loop hv he r1 r2 D2 D3 ho pts.length 0 ([s], [(s, s)]) [0] (by omega) Bfs.Inv.start
    have SP : Ev (fun k => screen_spread.f k l eyes a b c d s.f0 s.f1) S := by
      unfold screen_spread.f
      exact evs (hidden_eq hv he sI) (evp so (evp sO W1))
    by_cases y : ∃ m, Bfs.D (adjP l eyes a b c d) s m t
    · obtain ⟨m, hm⟩ := y
      obtain ⟨n, _, hx⟩ := Bfs.X_ex hm
      have tf := W2.all W3 n t hx.1
      have hn := X_few D2 ho hx
      obtain ⟨w, Y1, Y2, Y3⟩ := way_go r1 r2 ho W2 n t [t] tf hx (by simp; omega)
      have g := walk_good w t Y3
      rw [Y2] at g
      refine Or.inl ⟨_, n, ?_, ?_, ho, g, hx⟩
      · unfold screen_Way.f
        obtain ⟨p, hp0⟩ := (W2.keys t).1 tf
        exact evb E1 (evp rfl (evb SP (evp tO (evp (bGet_mem hp0) (evb Y1 (evb (rev_ev _ (by simp; omega)) (Ev.now _)))))))
      · have := X_small hbx ho hx
        omega
    · refine Or.inr ⟨?_, fun _ n hx => y ⟨n, hx⟩⟩
      unfold screen_Way.f
      refine evb E1 (evp rfl (evb SP (evp tO (evn (fun q => ?_) (Ev.now _)))))
      obtain ⟨p, hp0⟩ := Option.isSome_iff_exists.1 q
      have tf := (W2.back0 t p (bGet_some hp0)).1
      obtain ⟨n, hx⟩ := W2.reach tf
      exact y ⟨n, hx.1⟩
  · have SP : Ev (fun k => screen_spread.f k l eyes a b c d s.f0 s.f1) ([], []) := by
      unfold screen_spread.f
      exact evs (hidden_eq hv he sI) (evn so (Ev.now _))
    refine Or.inr ⟨?_, fun ho => absurd ho.2 so⟩
    unfold screen_Way.f
    exact evb E1 (evp rfl (evb SP (evp tO (evn (by simp [bGet]) (Ev.now _)))))
theorem sWay_err (l : List S48) (eyes : List S25) (a b c d : Int) (s t : S25) (hp : ¬ plcR l eyes a b c d [s, t] = 0) : Ev (fun k => screen_Way.f k l eyes a b c d s.f0 s.f1 t.f0 t.f1) ([], false, plcR l eyes a b c d [s, t]) := by
  unfold screen_Way.f
  exact evb (ends_ev _ _ _ _ _ _ _ (by simp)) (evn hp (Ev.now _))
theorem Steps_ev {l : List S48} {eyes : List S25} {a b c d s0 s1 t0 t1 : Int} {L : List S25} {ok : Bool} {e : Int} (n : Nat) (hn : n ≤ 900) (hl : L.length = n + 1 ∨ (L = [] ∧ n = 0)) (h : Ev (fun k => screen_Way.f k l eyes a b c d s0 s1 t0 t1) (L, ok, e)) : Ev (fun k => screen_Steps.f k l eyes a b c d s0 s1 t0 t1) ((n : Int), ok, e) := by
  unfold screen_Steps.f
  refine evb h ?_
  have : mx 0 (wrap64 ((L.length : Int) - 1)) = (n : Int) := by
    rcases hl with q | ⟨q, r⟩
    · rw [w64 (by omega) (by omega), mx_eq]; omega
    · have z : (L.length : Int) = 0 := by rw [q]; rfl
      rw [z, r, w64 (by omega) (by omega), mx_eq]
      rfl
  rw [this]
  exact Ev.now _
/-- what the steps are -/
def StepsIs (adj : S25 → S25 → Prop) (oks : Prop) (s t : S25) (n : Nat) (ok : Bool) : Prop := (ok = true ∧ oks ∧ Bfs.X adj s n t) ∨ (ok = false ∧ n = 0 ∧ (oks → ∀ m, ¬ Bfs.D adj s m t))
theorem sSteps_ev (l : List S48) (eyes : List S25) (a b c d : Int) (s t : S25) (hp : plcR l eyes a b c d [s, t] = 0) :
    ∃ (n : Nat) (ok : Bool), n ≤ 900 ∧ Ev (fun k => screen_Steps.f k l eyes a b c d s.f0 s.f1 t.f0 t.f1) ((n : Int), ok, 0) ∧ StepsIs (adjP l eyes a b c d) (okP l eyes a b c d s) s t n ok := by
  rcases sWay_ev l eyes a b c d s t hp with ⟨L, n, W, hn, ho, g, hx⟩ | ⟨W, no⟩
  · exact ⟨n, true, hn, Steps_ev n hn (Or.inl g.len) W, Or.inl ⟨rfl, ho, hx⟩⟩
  · exact ⟨0, false, by omega, Steps_ev 0 (by omega) (Or.inr ⟨rfl, rfl⟩) W, Or.inr ⟨rfl, rfl, no⟩⟩
theorem sSteps_err (l : List S48) (eyes : List S25) (a b c d : Int) (s t : S25) (hp : ¬ plcR l eyes a b c d [s, t] = 0) : Ev (fun k => screen_Steps.f k l eyes a b c d s.f0 s.f1 t.f0 t.f1) (0, false, plcR l eyes a b c d [s, t]) :=
  Steps_ev 0 (by omega) (Or.inr ⟨rfl, rfl⟩) (sWay_err l eyes a b c d s t hp)
theorem StepsIs.uniq {adj : S25 → S25 → Prop} {oks : Prop} {s t : S25} {n m : Nat} {x y : Bool} (h : StepsIs adj oks s t n x) (k : StepsIs adj oks s t m y) : n = m ∧ x = y := by
  rcases h with ⟨h1, h2, h3⟩ | ⟨h1, h2, h3⟩ <;> rcases k with ⟨k1, k2, k3⟩ | ⟨k1, k2, k3⟩
  · exact ⟨Bfs.X_uniq h3 k3, by rw [h1, k1]⟩
  · exact absurd h3.1 (k3 h2 n)
  · exact absurd k3.1 (h3 k2 m)
  · exact ⟨by rw [h2, k2], by rw [h1, k1]⟩
theorem X_symm {V : Type} {adj : V → V → Prop} (sy : ∀ p q, adj p q → adj q p) {s t : V} {n : Nat} (h : Bfs.X adj s n t) : Bfs.X adj t n s := ⟨D_symm sy n t h.1, fun m hm q => h.2 m hm (D_symm sy m s q)⟩
theorem StepsIs.symm {l : List S48} {eyes : List S25} {a b c d : Int} {s t : S25} {n : Nat} {x : Bool} (h : StepsIs (adjP l eyes a b c d) (okP l eyes a b c d s) s t n x) : StepsIs (adjP l eyes a b c d) (okP l eyes a b c d t) t s n x := by
  rcases h with ⟨h1, h2, h3⟩ | ⟨h1, h2, h3⟩
  · exact Or.inl ⟨h1, D_ok h2 n t h3.1, X_symm adjP_symm h3⟩
  · refine Or.inr ⟨h1, h2, fun ho m hd => h3 (D_ok ho m s hd) m (D_symm adjP_symm m s hd)⟩
theorem plB_perm (s t : S25) : plB [s, t] = plB [t, s] := by
  unfold plB
  simp only [List.any_cons, List.any_nil]
  cases farB s <;> cases farB t <;> rfl
theorem plcR_swap (l : List S48) (eyes : List S25) (a b c d : Int) (s t : S25) : plcR l eyes a b c d [s, t] = plcR l eyes a b c d [t, s] := by
  have e : ([s, t].all fun p => inB a b c d p.f0 p.f1) = ([t, s].all fun p => inB a b c d p.f0 p.f1) := by
    simp only [List.all_cons, List.all_nil]
    cases inB a b c d s.f0 s.f1 <;> cases inB a b c d t.f0 t.f1 <;> rfl
  unfold plcR ckR lkR
  rw [plB_perm s t, e]
  rfl
theorem plcR_one {l : List S48} {eyes : List S25} {a b c d : Int} {s t : S25} (hp : plcR l eyes a b c d [s, t] = 0) : plcR l eyes a b c d [s] = 0 := by
  obtain ⟨hc, hin⟩ := plcR_ok hp
  obtain ⟨hv, h8, he, r1, r2, hac, hbd⟩ := box_in hc
  have ht := hin s (by simp)
  have tI := inB_R r1 r2 ht
  have tP : plB [s] = true := by unfold plB; rw [List.any_cons, List.any_nil, (far_in s).2 tI]; rfl
  have hc2 : ckR l eyes [s] a b c d = 0 := ckR_0 (lkR_0 hv (by simp; omega) (by rw [he, tP]; rfl)) (ckR_ok hc).2
  rw [plcR_0 hc2, List.all_cons, List.all_nil, ht]
  rfl
theorem in_any {L : List S25} {t : S25} : L.any (fun q => q.f0 == t.f0 && q.f1 == t.f1) = true ↔ t ∈ L := by
  rw [List.any_eq_true]
  constructor
  · rintro ⟨q, m, h⟩
    rw [Bool.and_eq_true, beq_iff_eq, beq_iff_eq] at h
    rw [← pt_ext.1 h]; exact m
  · intro m; exact ⟨t, m, by simp⟩
theorem good_D {adj : S25 → S25 → Prop} {src t : S25} {L : List S25} {n : Nat} (g : Good adj src t L n) : ∀ i : Nat, i ≤ n → ∀ x, L[i]? = some x → Bfs.D adj src i x := by
  intro i
  induction i with
  | zero => intro _ x hx; rw [g.first] at hx; exact (Option.some.inj hx).symm
  | succ i ih =>
    intro hi x hx
    have hl := g.len
    have h1 : i < L.length := by omega
    exact Or.inr ⟨L[i], ih (by omega) _ (List.getElem?_eq_getElem h1), g.step i _ _ (List.getElem?_eq_getElem h1) hx⟩

theorem there_l0 (M : List S25) (hM : M.length ≤ 100000) (x y : Int) : ∀ (e i : Nat), i + e = M.length → Ev (fun k => wigeontop_there.l0 k M (i : Int) x y) ((M.drop i).any (fun q => q.f0 == x && q.f1 == y))
  | 0, i, hi => by
    rw [List.drop_of_length_le (by omega)]
    exact Ev.step (fun k => wigeontop_there.l0.eq_2 ..) (evn (by omega) (Ev.now _))
  | e + 1, i, hi => by
    have hil : i < M.length := by omega
    rw [List.drop_eq_getElem_cons hil, List.any_cons]
    refine Ev.step (fun k => wigeontop_there.l0.eq_2 ..) (evp (by omega) (evp (by omega) ?_))
    rw [rdP_at M i hil]
    by_cases z : (M[i].f0 == x && M[i].f1 == y) = true
    · refine evp z ?_
      rw [z]; exact Ev.now _
    · refine evn z ?_
      rw [Bool.eq_false_iff.2 z, Bool.false_or]
      rw [w64 (by omega) (by omega)]
      exact there_l0 M hM x y e (i + 1) (by omega)
theorem there_yes {M : List S25} (hM : M.length ≤ 100000) {t : S25} (h : t ∈ M) : Ev (fun k => wigeontop_there.f k M t.f0 t.f1) true := by
  have := there_l0 M hM t.f0 t.f1 M.length 0 (by omega)
  rw [List.drop_zero, in_any.2 h] at this
  exact this
theorem there_no {M : List S25} (hM : M.length ≤ 100000) {t : S25} (h : ¬ t ∈ M) : Ev (fun k => wigeontop_there.f k M t.f0 t.f1) false := by
  have := there_l0 M hM t.f0 t.f1 M.length 0 (by omega)
  rw [List.drop_zero, Bool.eq_false_iff.2 (fun q => h (in_any.1 q))] at this
  exact this

def tr (p : S25) : S25 := ⟨-p.f1, p.f0⟩
theorem trn_tr {p : S25} (h : inR p.f0 p.f1) : trn p = tr p := (trn_in h).1
theorem D_iso {adj adj' : S25 → S25 → Prop} {f g : S25 → S25} (fg : ∀ v, f (g v) = v) (gf : ∀ v, g (f v) = v) (h : ∀ p q, adj' (f p) (f q) ↔ adj p q) (s : S25) : ∀ (n : Nat) (t : S25), Bfs.D adj' (f s) n (f t) ↔ Bfs.D adj s n t
  | 0, t => ⟨fun (q : f t = f s) => by have := congrArg g q; rw [gf, gf] at this; exact this, fun (q : t = s) => by rw [q]; exact (rfl : f s = f s)⟩
  | n + 1, t => by
    constructor
    · rintro (q | ⟨u, hu, ha⟩)
      · exact Or.inl ((D_iso fg gf h s n t).1 q)
      · refine Or.inr ⟨g u, (D_iso fg gf h s n (g u)).1 (by rw [fg]; exact hu), (h _ _).1 (by rw [fg]; exact ha)⟩
    · rintro (q | ⟨u, hu, ha⟩)
      · exact Or.inl ((D_iso fg gf h s n t).2 q)
      · exact Or.inr ⟨f u, (D_iso fg gf h s n u).2 hu, (h _ _).2 ha⟩
theorem inB_tr (a b c d : Int) (p : S25) : inB (-d) a (-b) c (tr p).f0 (tr p).f1 = inB a b c d p.f0 p.f1 := by
  unfold inB tr
  exact decide_eq_decide.2 (by simp only []; omega)
theorem hid_tr {l : List S48} {eyes : List S25} (h : valR l = 0) (he : plB eyes = true) (p : S25) : hidE (mp trn l) (eyes.map trn) (tr p).f0 (tr p).f1 = hidE l eyes p.f0 p.f1 := by
  unfold hidE
  rw [List.any_map]
  congr 1
  refine any_congr (fun e m => ?_)
  have r := plB_in he e m
  show sE (mp trn l) (trn e).f0 (trn e).f1 (tr p).f0 (tr p).f1 = _
  rw [trn_tr r]
  exact sE_turn h
theorem stB_tr (p q : S25) : stB (tr p).f0 (tr p).f1 (tr q).f0 (tr q).f1 = stB p.f0 p.f1 q.f0 q.f1 := by
  unfold stB tr
  simp only []
  rw [show (-p.f1 - -q.f1) * (-p.f1 - -q.f1) = (p.f1 - q.f1) * (p.f1 - q.f1) by rw [show -p.f1 - -q.f1 = -(p.f1 - q.f1) by omega, Int.neg_mul_neg], Int.add_comm]
theorem okP_tr {l : List S48} {eyes : List S25} {a b c d : Int} (h : valR l = 0) (he : plB eyes = true) (p : S25) : okP (mp trn l) (eyes.map trn) (-d) a (-b) c (tr p) ↔ okP l eyes a b c d p := by
  unfold okP; rw [inB_tr, hid_tr h he]
theorem adjP_tr {l : List S48} {eyes : List S25} {a b c d : Int} (h : valR l = 0) (he : plB eyes = true) (p q : S25) : adjP (mp trn l) (eyes.map trn) (-d) a (-b) c (tr p) (tr q) ↔ adjP l eyes a b c d p q := by
  unfold adjP
  rw [okP_tr h he, okP_tr h he, stB_tr, show sE (mp trn l) (tr p).f0 (tr p).f1 (tr q).f0 (tr q).f1 = sE l p.f0 p.f1 q.f0 q.f1 from sE_turn h]
def rt (p : S25) : S25 := ⟨p.f1, -p.f0⟩
theorem tr_rt (p : S25) : tr (rt p) = p := by cases p; simp [tr, rt]
theorem rt_tr (p : S25) : rt (tr p) = p := by cases p; simp [tr, rt]
theorem StepsIs.turn {l : List S48} {eyes : List S25} {a b c d : Int} (h : valR l = 0) (he : plB eyes = true) {s t : S25} {n : Nat} {x : Bool} (k : StepsIs (adjP l eyes a b c d) (okP l eyes a b c d s) s t n x) :
    StepsIs (adjP (mp trn l) (eyes.map trn) (-d) a (-b) c) (okP (mp trn l) (eyes.map trn) (-d) a (-b) c (tr s)) (tr s) (tr t) n x := by
  have iso := D_iso (adj := adjP l eyes a b c d) (adj' := adjP (mp trn l) (eyes.map trn) (-d) a (-b) c) tr_rt rt_tr (adjP_tr h he) s
  rcases k with ⟨k1, k2, k3⟩ | ⟨k1, k2, k3⟩
  · exact Or.inl ⟨k1, (okP_tr h he s).2 k2, (iso n t).2 k3.1, fun m hm q => k3.2 m hm ((iso m t).1 q)⟩
  · exact Or.inr ⟨k1, k2, fun ho m q => k3 ((okP_tr h he s).1 ho) m ((iso m t).1 q)⟩
theorem plB_tr {eyes : List S25} (he : plB eyes = true) : plB (eyes.map trn) = true := by
  unfold plB
  rw [Bool.not_eq_true', List.any_map, List.any_eq_false]
  intro e m
  have r := plB_in he e m
  have q := (far_in (trn e)).2 (trn_in r).2
  simpa using q
theorem plcR_tr {l : List S48} {eyes : List S25} {a b c d : Int} {s t : S25} (hp : plcR l eyes a b c d [s, t] = 0) : plcR (mp trn l) (eyes.map trn) (-d) a (-b) c [tr s, tr t] = 0 := by
  obtain ⟨hc, hin⟩ := plcR_ok hp
  obtain ⟨hv, h8, he, r1, r2, hac, hbd⟩ := box_in hc
  have sB := hin s (by simp)
  have tB' := hin t (by simp)
  have sI := inB_R r1 r2 sB
  have tI := inB_R r1 r2 tB'
  have hb := (ckR_ok hc).2
  unfold bxB at hb
  rw [Bool.and_eq_true, decide_eq_true_eq] at hb
  have pq : plB [tr s, tr t] = true := (plB_2 _ _).2 ⟨by unfold tr inR at *; simp only []; omega, by unfold tr inR at *; simp only []; omega⟩
  have bx : bxB (-d) a (-b) c = true := by
    unfold bxB
    rw [Bool.and_eq_true, decide_eq_true_eq]
    exact ⟨(plB_2 _ _).2 ⟨by unfold inR at *; simp only []; omega, by unfold inR at *; simp only []; omega⟩, by omega⟩
  have ck : ckR (mp trn l) (eyes.map trn) [tr s, tr t] (-d) a (-b) c = 0 := ckR_0 (lkR_0 (val_turn hv) (by simp; omega) (by rw [plB_tr he, pq]; rfl)) bx
  rw [plcR_0 ck, List.all_cons, List.all_cons, List.all_nil, inB_tr, inB_tr, sB, tB']
  rfl

theorem hid_drop {l : List S48} {eyes : List S25} {x y : Int} (h : hidE l eyes x y = true) : hidE l (eyes.drop 1) x y = true := by
  unfold hidE at *
  rw [Bool.not_eq_true', List.any_eq_false] at *
  exact fun e m => h e (List.mem_of_mem_drop m)
theorem okP_drop {l : List S48} {eyes : List S25} {a b c d : Int} {p : S25} (h : okP l eyes a b c d p) : okP l (eyes.drop 1) a b c d p := ⟨h.1, hid_drop h.2⟩
theorem D_drop {l : List S48} {eyes : List S25} {a b c d : Int} {s : S25} : ∀ (n : Nat) (t : S25), Bfs.D (adjP l eyes a b c d) s n t → Bfs.D (adjP l (eyes.drop 1) a b c d) s n t
  | 0, t, h => h
  | n + 1, t, h => by
    rcases h with h | ⟨u, hu, ha⟩
    · exact Or.inl (D_drop n t h)
    · exact Or.inr ⟨u, D_drop n u hu, okP_drop ha.1, okP_drop ha.2.1, ha.2.2⟩
theorem ck_drop {l : List S48} {eyes p : List S25} {a b c d : Int} (h : ckR l eyes p a b c d = 0) : ckR l (eyes.drop 1) p a b c d = 0 := by
  obtain ⟨h1, h2⟩ := ckR_ok h
  obtain ⟨h3, h4, h5, h6, h7⟩ := lkR_ok h1
  have : plB (eyes.drop 1) = true := by
    unfold plB at h6 ⊢
    rw [Bool.not_eq_true', List.any_eq_false] at *
    exact fun e m => h6 e (List.mem_of_mem_drop m)
  exact ckR_0 (lkR_0 h3 (by simp; omega) (by rw [this, h7]; rfl)) h2
theorem plc_drop {l : List S48} {eyes : List S25} {a b c d : Int} {s : S25} (h : plcR l eyes a b c d [s] = 0) : plcR l (eyes.drop 1) a b c d [s] = 0 := by
  obtain ⟨hc, hin⟩ := plcR_ok h
  rw [plcR_0 (ck_drop hc), List.all_cons, List.all_nil, hin s (by simp)]
  rfl

theorem top_l2 (l' : List S48) (eyes : List S25) (a b c d : Int) (s t : S25) (n : Nat) (ok : Bool) (he : eyes.length ≤ 100000) (H : Ev (fun k => screen_Steps.f k l' (eyes.map trn) (wrap64 (-d)) a (wrap64 (-b)) c (trn s).f0 (trn s).f1 (trn t).f0 (trn t).f1) ((n : Int), ok, 0)) :
    ∀ (e i : Nat) (out : List S25), i + e = eyes.length → out ++ (eyes.drop i).map trn = eyes.map trn → out.length ≤ i → Ev (fun k => wigeontop_TopSights.l2 k (n : Int) ok l' 0 out (i : Int) eyes a b c d s.f0 s.f1 t.f0 t.f1) true
  | 0, i, out, hi, ho, hl => by
    rw [List.drop_of_length_le (by omega), List.map_nil, List.append_nil] at ho
    subst ho
    refine Ev.step (fun k => wigeontop_TopSights.l2.eq_2 ..) (evn (by omega) (evs (a := ((trn s).f0, (trn s).f1)) rfl (evs (a := ((trn t).f0, (trn t).f1)) rfl (evb H (evp rfl (evp rfl (evp rfl ?_)))))))
    simp only [beq_self_eq_true]
    exact Ev.now _
  | e + 1, i, out, hi, ho, hl => by
    have hil : i < eyes.length := by omega
    refine Ev.step (fun k => wigeontop_TopSights.l2.eq_2 ..) (evp (by omega) (evp (by omega) ?_))
    rw [rdP_at eyes i hil]
    refine evs (a := ((trn eyes[i]).f0, (trn eyes[i]).f1)) rfl (evp (by omega) ?_)
    rw [show wrap64 ((i : Int) + 1) = ((i + 1 : Nat) : Int) by rw [w64 (by omega) (by omega)]; rfl]
    refine top_l2 l' eyes a b c d s t n ok he H e (i + 1) (out ++ [trn eyes[i]]) (by omega) ?_ (by simp; omega)
    rw [List.drop_eq_getElem_cons hil, List.map_cons] at ho
    rw [List.append_assoc]
    exact ho
section
variable {l : List S48} {eyes : List S25} {a b c d : Int} {s t : S25}
theorem top_j8 (hp : plcR l eyes a b c d [s, t] = 0) (n : Nat) (ok : Bool) (hn : n ≤ 900) (K : StepsIs (adjP l eyes a b c d) (okP l eyes a b c d s) s t n ok) : Ev (fun k => wigeontop_TopSights.j8 k l (n : Int) ok eyes a b c d s.f0 s.f1 t.f0 t.f1) true := by
  obtain ⟨hc, hin⟩ := plcR_ok hp
  obtain ⟨hv, h8, he, r1, r2, hac, hbd⟩ := box_in hc
  have sI := inB_R r1 r2 (hin s (by simp))
  have tI := inB_R r1 r2 (hin t (by simp))
  obtain ⟨n', ok', hn', S, K'⟩ := sSteps_ev (mp trn l) (eyes.map trn) (-d) a (-b) c (tr s) (tr t) (plcR_tr hp)
  obtain ⟨rfl, rfl⟩ := (K.turn hv he).uniq K'
  rw [← trn_tr sI, ← trn_tr tI] at S
  have e1 : wrap64 (-d) = -d := w64 (by unfold inR at r2; omega) (by unfold inR at r2; omega)
  have e2 : wrap64 (-b) = -b := w64 (by unfold inR at r1; omega) (by unfold inR at r1; omega)
  have T := Turn_ev l
  rw [TuR_0 hv, chR_0 (val_turn hv)] at T
  refine Ev.step (fun k => wigeontop_TopSights.j8.eq_2 ..) (evb T ?_)
  exact top_l2 (mp trn l) eyes a b c d s t n ok (by omega) (by rw [e1, e2]; exact S) eyes.length 0 [] (by omega) (by simp) (by simp)
theorem top_l1 (M N : List S25) (n : Nat) (ok : Bool) (hM : M.length ≤ 100000) (hN : N.length ≤ 100000) (sub : ∀ q ∈ M, q ∈ N) (H : Ev (fun k => wigeontop_TopSights.j8 k l (n : Int) ok eyes a b c d s.f0 s.f1 t.f0 t.f1) true) : ∀ (e i : Nat), i + e = M.length → Ev (fun k => wigeontop_TopSights.l1 k l (n : Int) ok M N (i : Int) eyes a b c d s.f0 s.f1 t.f0 t.f1) true
  | 0, i, hi => Ev.step (fun k => wigeontop_TopSights.l1.eq_2 ..) (evn (by omega) H)
  | e + 1, i, hi => by
    have hil : i < M.length := by omega
    refine Ev.step (fun k => wigeontop_TopSights.l1.eq_2 ..) (evp (by omega) (evp (by omega) ?_))
    rw [rdP_at M i hil]
    refine evb (there_yes hN (sub _ (List.getElem_mem hil))) (evp rfl ?_)
    rw [show wrap64 ((i : Int) + 1) = ((i + 1 : Nat) : Int) by rw [w64 (by omega) (by omega)]; rfl]
    exact top_l1 M N n ok hM hN sub H e (i + 1) (by omega)
theorem top_j5 (hp : plcR l eyes a b c d [s, t] = 0) (n : Nat) (ok : Bool) (M : List S25) (hM : M.length ≤ 100000) (hS : M.Pairwise ltP) (mem : ∀ q, q ∈ M ↔ okP l eyes a b c d s ∧ ∃ m, Bfs.D (adjP l eyes a b c d) s m q) (H : Ev (fun k => wigeontop_TopSights.j8 k l (n : Int) ok eyes a b c d s.f0 s.f1 t.f0 t.f1) true) :
    Ev (fun k => wigeontop_TopSights.j5 k l (n : Int) ok M eyes a b c d s.f0 s.f1 t.f0 t.f1) true := by
  have hp1 := plcR_one hp
  obtain ⟨hc, hin⟩ := plcR_ok hp1
  have hc0 := ckR_nil hc
  obtain ⟨hv, h8, he, r1, r2, hac, hbd⟩ := box_in hc
  refine Ev.step (fun k => wigeontop_TopSights.j5.eq_2 ..) ?_
  by_cases z : (eyes.length : Int) > 0
  · refine evp z (evs rfl (evp (by omega) (evs rfl (evp (by simp; omega) (evs rfl ?_)))))
    rw [List.nil_append]
    have A := Dark_ev l eyes a b c d
    have B := Dark_ev l (eyes.drop 1) a b c d
    rw [DkR_0 hc0] at A
    rw [DkR_0 (ck_drop hc0)] at B
    obtain ⟨N, l1, l2, l3, l4⟩ := sReach_ev l (eyes.drop 1) a b c d s (plc_drop hp1)
    obtain ⟨P1, P2, P3⟩ := pts_of hc0
    obtain ⟨Q1, Q2, Q3⟩ := pts_of (ck_drop hc0)
    have nd : ∀ X : List S25, X.Pairwise ltP → X.Nodup := fun X h => h.imp (fun {x y} k e => by subst e; exact ltP_asymm k k)
    have c1 : (drow (hidE l eyes) (d + 1 - b).toNat b (c + 1 - a).toNat a).length ≤ (drow (hidE l (eyes.drop 1)) (d + 1 - b).toNat b (c + 1 - a).toNat a).length := nodup_le _ _ (nd _ P3) (fun q m => (Q1 q).2 (okP_drop ((P1 q).1 m)))
    have c2 : M.length ≤ (drow (hidE l eyes) (d + 1 - b).toNat b (c + 1 - a).toNat a).length := nodup_le _ _ (nd _ hS) (fun q m => by
      obtain ⟨ho, k, hk⟩ := (mem q).1 m
      exact (P1 q).2 (D_ok ho k q hk))
    refine evb A (evb B (evb l1 (evp rfl (evp rfl (evp rfl (evn (by simp only []; omega) ?_))))))
    rw [show decide ((M.length : Int) > (((drow (hidE l eyes) (d + 1 - b).toNat b (c + 1 - a).toNat a).length : Nat) : Int)) = false from decide_eq_false (by omega)]
    refine Ev.step (fun k => wigeontop_TopSights.j6.eq_2 ..) (evn (by simp) (top_l1 M N n ok hM l2 (fun q m => ?_) H M.length 0 (by omega)))
    obtain ⟨ho, k, hk⟩ := (mem q).1 m
    exact (l4 q).2 ⟨okP_drop ho, k, D_drop k q hk⟩
  · exact evn z H
theorem top_l0 (hp : plcR l eyes a b c d [s, t] = 0) (n : Nat) (ok : Bool) (M L : List S25) (hM : M.length ≤ 100000) (hL : L.length ≤ 1000) (hin : ∀ q ∈ L, okP l eyes a b c d q ∧ q ∈ M) (H : Ev (fun k => wigeontop_TopSights.j5 k l (n : Int) ok M eyes a b c d s.f0 s.f1 t.f0 t.f1) true) : ∀ (e i : Nat), i + e = L.length → Ev (fun k => wigeontop_TopSights.l0 k l (n : Int) ok M L (i : Int) eyes a b c d s.f0 s.f1 t.f0 t.f1) true
  | 0, i, hi => Ev.step (fun k => wigeontop_TopSights.l0.eq_2 ..) (evn (by omega) H)
  | e + 1, i, hi => by
    have hil : i < L.length := by omega
    obtain ⟨ho, hm⟩ := hin _ (List.getElem_mem hil)
    obtain ⟨hc, _⟩ := plcR_ok hp
    obtain ⟨hv, h8, he, r1, r2, hac, hbd⟩ := box_in hc
    have qI := inB_R r1 r2 ho.1
    have qP : plB [(⟨L[i].f0, L[i].f1⟩ : S25)] = true := by unfold plB; rw [List.any_cons, List.any_nil, (far_in ⟨L[i].f0, L[i].f1⟩).2 qI]; rfl
    have hd := Hidden_ev l eyes L[i].f0 L[i].f1
    rw [HdR_0 (lkR_0 hv (by simp; omega) (by rw [he, qP]; rfl)), ho.2] at hd
    refine Ev.step (fun k => wigeontop_TopSights.l0.eq_2 ..) (evp (by omega) (evp (by omega) ?_))
    rw [rdP_at L i hil]
    refine evb hd (evp rfl (evp rfl (evb (there_yes hM hm) (evp rfl ?_))))
    rw [show wrap64 ((i : Int) + 1) = ((i + 1 : Nat) : Int) by rw [w64 (by omega) (by omega)]; rfl]
    exact top_l0 hp n ok M L hM hL hin H e (i + 1) (by omega)
theorem top_j1 (hp : plcR l eyes a b c d [s, t] = 0) (n : Nat) (ok : Bool) (hn : n ≤ 900) (K : StepsIs (adjP l eyes a b c d) (okP l eyes a b c d s) s t n ok) : Ev (fun k => wigeontop_TopSights.j1 k l (n : Int) ok 0 false eyes a b c d s.f0 s.f1 t.f0 t.f1) true := by
  obtain ⟨hc, hin⟩ := plcR_ok hp
  have J8 := top_j8 hp n ok hn K
  obtain ⟨M, m1, m2, m3, m4⟩ := sReach_ev l eyes a b c d s (plcR_one hp)
  have J5 := top_j5 hp n ok M m2 m3 m4 J8
  refine Ev.step (fun k => wigeontop_TopSights.j1.eq_2 ..) (evn (by simp) (evp rfl (evb m1 ?_)))
  rcases sWay_ev l eyes a b c d s t hp with ⟨L, n', W, hn', ho, g, hx⟩ | ⟨W, no⟩
  · obtain ⟨rfl, rfl⟩ := K.uniq (Or.inl ⟨rfl, ho, hx⟩)
    have hl := g.len
    have tm : t ∈ M := (m4 t).2 ⟨ho, n, hx.1⟩
    have C := CheckWay_ev l eyes a b c d L (by omega)
    rw [CwR_w (ckR_nil hc) (by omega), cw_good ho g L.length 0 (by omega)] at C
    refine evb W (evp rfl (evp rfl (evn (by simp) (evb (there_yes m2 tm) ?_))))
    refine Ev.step (fun k => wigeontop_TopSights.j2.eq_2 ..) (evn (by simp) (evp rfl (evb C (evp rfl (evp rfl ?_)))))
    rw [show ((L.length : Int) != wrap64 ((n : Int) + 1)) = false by rw [w64 (by omega) (by omega), hl]; simp]
    refine Ev.step (fun k => wigeontop_TopSights.j3.eq_2 ..) (evn (by simp) (top_l0 hp n true M L m2 (by omega) (fun q m => ?_) J5 L.length 0 (by omega)))
    obtain ⟨i, hi, rfl⟩ := List.getElem_of_mem m
    have := good_D g i (by omega) _ (List.getElem?_eq_getElem hi)
    exact ⟨D_ok ho i _ this, (m4 _).2 ⟨ho, i, this⟩⟩
  · obtain ⟨rfl, rfl⟩ := K.uniq (Or.inr ⟨rfl, rfl, no⟩)
    have tm : ¬ t ∈ M := fun q => by
      obtain ⟨ho, m, hm⟩ := (m4 t).1 q
      exact no ho m hm
    refine evb W (evp rfl (evp rfl (evn (by simp) (evb (there_no m2 tm) ?_))))
    exact Ev.step (fun k => wigeontop_TopSights.j2.eq_2 ..) (evn (by simp) (evn (by simp) J5))
end
theorem TopSights (a0 : List S48) (a1_0 : List S25) (a1_1_0_0 : Int) (a1_1_0_1 : Int) (a1_1_1_0 : Int) (a1_1_1_1 : Int) (a1_2_0 : Int) (a1_2_1 : Int) (a1_3_0 : Int) (a1_3_1 : Int) (h0 : (a0.length ≤ 9223372036854775807 ∧ ∀ x_ ∈ a0, (((Lit.int .i64 x_.f0.f0).wf = true) ∧ ((Lit.int .i64 x_.f0.f1).wf = true)) ∧ (((Lit.int .i64 x_.f1.f0).wf = true) ∧ ((Lit.int .i64 x_.f1.f1).wf = true)))) (h1_0 : (a1_0.length ≤ 9223372036854775807 ∧ ∀ x_ ∈ a1_0, ((Lit.int .i64 x_.f0).wf = true) ∧ ((Lit.int .i64 x_.f1).wf = true))) (h1_1_0_0 : (Lit.int .i64 a1_1_0_0).wf = true) (h1_1_0_1 : (Lit.int .i64 a1_1_0_1).wf = true) (h1_1_1_0 : (Lit.int .i64 a1_1_1_0).wf = true) (h1_1_1_1 : (Lit.int .i64 a1_1_1_1).wf = true) (h1_2_0 : (Lit.int .i64 a1_2_0).wf = true) (h1_2_1 : (Lit.int .i64 a1_2_1).wf = true) (h1_3_0 : (Lit.int .i64 a1_3_0).wf = true) (h1_3_1 : (Lit.int .i64 a1_3_1).wf = true) : ∃ k, wigeontop_TopSights.f k a0 a1_0 a1_1_0_0 a1_1_0_1 a1_1_1_0 a1_1_1_1 a1_2_0 a1_2_1 a1_3_0 a1_3_1 = some true := by
  refine Ev.rounds (g := fun k => wigeontop_TopSights.f k a0 a1_0 a1_1_0_0 a1_1_0_1 a1_1_1_0 a1_1_1_1 a1_2_0 a1_2_1 a1_3_0 a1_3_1) ?_
  clear h0 h1_0 h1_1_0_0 h1_1_0_1 h1_1_1_0 h1_1_1_1 h1_2_0 h1_2_1 h1_3_0 h1_3_1
  unfold wigeontop_TopSights.f
  have B : Ev (fun k => screen_Sees.f k [(⟨⟨0, 0⟩, ⟨2, 0⟩⟩ : S48)] 1 1 3 1) (true, 0) := Ev.of (fun k => screen_Sees.mono _ _ _ _ _ k) (k := 100) (by decide +kernel)
  refine evb B (evp rfl (Ev.step (fun k => wigeontop_TopSights.j0.eq_2 ..) (evn (by simp) (evs (Long_eq ..) ?_))))
  by_cases h : a0.length > 100 ∨ a1_0.length > 100
  · rw [decide_eq_true h]; exact evp rfl (Ev.now _)
  · rw [decide_eq_false h]
    refine evn (by decide) ?_
    by_cases hp : plcR a0 a1_0 a1_1_0_0 a1_1_0_1 a1_1_1_0 a1_1_1_1 [⟨a1_2_0, a1_2_1⟩, ⟨a1_3_0, a1_3_1⟩] = 0
    · obtain ⟨n, ok, hn, P, K⟩ := sSteps_ev a0 a1_0 a1_1_0_0 a1_1_0_1 a1_1_1_0 a1_1_1_1 ⟨a1_2_0, a1_2_1⟩ ⟨a1_3_0, a1_3_1⟩ hp
      have hp2 : plcR a0 a1_0 a1_1_0_0 a1_1_0_1 a1_1_1_0 a1_1_1_1 [⟨a1_3_0, a1_3_1⟩, ⟨a1_2_0, a1_2_1⟩] = 0 := by rw [plcR_swap]; exact hp
      obtain ⟨n', ok', hn', P', K'⟩ := sSteps_ev a0 a1_0 a1_1_0_0 a1_1_0_1 a1_1_1_0 a1_1_1_1 ⟨a1_3_0, a1_3_1⟩ ⟨a1_2_0, a1_2_1⟩ hp2
      obtain ⟨rfl, rfl⟩ := K.symm.uniq K'
      refine evb P (evb P' (evn (by simp) (evp rfl ?_)))
      simp only [bne_self_eq_false]
      exact top_j1 hp n ok hn K
    · have hp2 : ¬ plcR a0 a1_0 a1_1_0_0 a1_1_0_1 a1_1_1_0 a1_1_1_1 [⟨a1_3_0, a1_3_1⟩, ⟨a1_2_0, a1_2_1⟩] = 0 := by rw [plcR_swap]; exact hp
      have e1 : (plcR a0 a1_0 a1_1_0_0 a1_1_0_1 a1_1_1_0 a1_1_1_1 [⟨a1_2_0, a1_2_1⟩, ⟨a1_3_0, a1_3_1⟩] == 0) = false := beq_eq_false_iff_ne.2 hp
      have e2 : (plcR a0 a1_0 a1_1_0_0 a1_1_0_1 a1_1_1_0 a1_1_1_1 [⟨a1_3_0, a1_3_1⟩, ⟨a1_2_0, a1_2_1⟩] == 0) = false := beq_eq_false_iff_ne.2 hp2
      refine evb (sSteps_err a0 a1_0 a1_1_0_0 a1_1_0_1 a1_1_1_0 a1_1_1_1 ⟨a1_2_0, a1_2_1⟩ ⟨a1_3_0, a1_3_1⟩ hp) (evb (sSteps_err a0 a1_0 a1_1_0_0 a1_1_0_1 a1_1_1_0 a1_1_1_1 ⟨a1_3_0, a1_3_1⟩ ⟨a1_2_0, a1_2_1⟩ hp2) (evn (by rw [e1, e2]; decide) (evp rfl ?_)))
      simp only [bne_self_eq_false]
      exact Ev.step (fun k => wigeontop_TopSights.j1.eq_2 ..) (evn (by simp) (evn hp (evp rfl (Ev.now _))))

end Go.Proofs.Ytieffjkplaajdaa.Pure

