/- Of the text PureTopCounts, what the row of TopCounts reaches. -/
import Derived.Test.YtkmhccllligcmaaDoorZTopCountsCHx19
namespace Go.Proofs.YtkmhccllligcmaaDoor.Pure
set_option linter.unusedVariables false
set_option linter.unusedSimpArgs false
open Go.RowKit Go.Proofs.YtkmhccllligcmaaDoor.CH Go.Proofs.YtkmhccllligcmaaDoorW.PrintWords Go.Proofs.YtkmhccllligcmaaDoorW.PrintLast Go.Proofs.YtkmhccllligcmaaDoorW.PrintMore
namespace Cnt
/-- binomial coefficients by Pascal's triangle -/
def ch : Nat → Nat → Nat
  | _, 0 => 1
  | 0, _ + 1 => 0
  | n + 1, k + 1 => ch n k + ch n (k + 1)
@[simp] theorem ch_zero (n : Nat) : ch n 0 = 1 := by cases n <;> rfl
@[simp] theorem ch_zs (k : Nat) : ch 0 (k + 1) = 0 := rfl
theorem ch_ss (n k : Nat) : ch (n + 1) (k + 1) = ch n k + ch n (k + 1) := rfl
theorem ch_gt : ∀ (n k : Nat), n < k → ch n k = 0
  | 0, 0, h => by omega
  | 0, k + 1, _ => rfl
  | n + 1, 0, h => by omega
  | n + 1, k + 1, h => by rw [ch_ss, ch_gt n k (by omega), ch_gt n (k + 1) (by omega)]
theorem ch_pos : ∀ (n k : Nat), k ≤ n → 0 < ch n k
  | n, 0, _ => by simp
  | 0, k + 1, h => by omega
  | n + 1, k + 1, h => by rw [ch_ss]; have := ch_pos n k (by omega); omega
theorem ch_mono (n k : Nat) : ch n k ≤ ch (n + 1) k := by
  cases k with
  | zero => simp
  | succ k => rw [ch_ss]; omega
theorem ch_le : ∀ (d n k : Nat), ch n k ≤ ch (n + d) k
  | 0, _, _ => Nat.le_refl _
  | d + 1, n, k => Nat.le_trans (ch_le d n k) (ch_mono _ _)
/-- a row of the triangle as a list -/
def nx : Nat → List Nat → List Nat
  | a, [] => [a]
  | a, b :: l => (a + b) :: nx b l
def rowOf : Nat → List Nat
  | 0 => [1]
  | n + 1 => nx 0 (rowOf n)
theorem nx_get : ∀ (l : List Nat) (a i : Nat), (nx a l).getD i 0 = (if i = 0 then a else l.getD (i - 1) 0) + l.getD i 0
  | [], a, 0 => by simp [nx]
  | [], a, i + 1 => by simp [nx]
  | b :: l, a, 0 => by simp [nx]
  | b :: l, a, 1 => by
    have := nx_get l b 0; simp [nx] at this ⊢; omega
  | b :: l, a, i + 2 => by
    have := nx_get l b (i + 1)
    simp only [nx, List.getD_cons_succ] at this ⊢
    rw [this]; simp
theorem rowOf_get : ∀ (n k : Nat), (rowOf n).getD k 0 = ch n k
  | 0, 0 => rfl
  | 0, k + 1 => rfl
  | n + 1, 0 => by simp only [rowOf]; rw [nx_get, rowOf_get n 0]; simp
  | n + 1, k + 1 => by simp only [rowOf]; rw [nx_get, rowOf_get n (k + 1), if_neg (by omega), Nat.add_sub_cancel, rowOf_get n k, ch_ss]
theorem row60 : ∀ x ∈ rowOf 60, x ≤ 118264581564861424 := by decide +kernel
theorem ch_bound (n k : Nat) (h : n ≤ 60) : ch n k ≤ 118264581564861424 := by
  have h1 := ch_le (60 - n) n k
  rw [show n + (60 - n) = 60 from by omega, ← rowOf_get 60 k] at h1
  refine Nat.le_trans h1 ?_
  by_cases e : k < (rowOf 60).length
  · rw [List.getD_eq_getElem?_getD, List.getElem?_eq_getElem e]; exact row60 _ (List.getElem_mem e)
  · rw [List.getD_eq_getElem?_getD, List.getElem?_eq_none (by omega)]; simp
/-- sums -/
def sm (f : Nat → Nat) : Nat → Nat
  | 0 => 0
  | n + 1 => sm f n + f n
theorem sm_congr {f g : Nat → Nat} : ∀ n, (∀ i, i < n → f i = g i) → sm f n = sm g n
  | 0, _ => rfl
  | n + 1, h => by rw [sm, sm, sm_congr n (fun i hi => h i (by omega)), h n (by omega)]
theorem sm_add (f g : Nat → Nat) : ∀ n, sm (fun i => f i + g i) n = sm f n + sm g n
  | 0 => rfl
  | n + 1 => by simp only [sm]; rw [sm_add f g n]; omega
theorem sm_shift (f : Nat → Nat) : ∀ n, sm f (n + 1) = f 0 + sm (fun i => f (i + 1)) n
  | 0 => by simp [sm]
  | n + 1 => by rw [sm, sm_shift f n, sm]; omega
theorem sm_mul (a : Nat) (f : Nat → Nat) : ∀ n, sm (fun i => a * f i) n = a * sm f n
  | 0 => rfl
  | n + 1 => by simp only [sm]; rw [sm_mul a f n, Nat.mul_add]
theorem sm_le (f : Nat → Nat) : ∀ n i, i < n → f i ≤ sm f n
  | 0, i, h => by omega
  | n + 1, i, h => by
    rw [sm]
    by_cases e : i = n
    · subst e; omega
    · have := sm_le f n i (by omega); omega
theorem sm_mono (f : Nat → Nat) : ∀ d n, sm f n ≤ sm f (n + d)
  | 0, n => Nat.le_refl _
  | d + 1, n => by have := sm_mono f d n; rw [Nat.add_succ, sm]; omega
/-- Vandermonde -/
theorem vander : ∀ (m r c : Nat), sm (fun i => ch m i * ch r (c - i)) (c + 1) = ch (m + r) c
  | 0, r, c => by
    rw [sm_shift]
    have : sm (fun i => ch 0 (i + 1) * ch r (c - (i + 1))) c = sm (fun i => 0 * i) c := sm_congr c (fun i _ => by simp)
    rw [this, sm_mul]; simp
  | m + 1, r, 0 => by simp [sm]
  | m + 1, r, c + 1 => by
    rw [show m + 1 + r = (m + r) + 1 from by omega, ch_ss, ← vander m r c, ← vander m r (c + 1), sm_shift (n := c + 1), sm_shift (n := c + 1)]
    have : sm (fun i => ch (m + 1) (i + 1) * ch r (c + 1 - (i + 1))) (c + 1) = sm (fun i => ch m i * ch r (c - i) + ch m (i + 1) * ch r (c + 1 - (i + 1))) (c + 1) :=
      sm_congr _ (fun i _ => by rw [ch_ss, Nat.add_mul, show c + 1 - (i + 1) = c - i from by omega])
    rw [this, sm_add]; simp; omega
end Cnt
namespace Cnt
def fact : Nat → Nat
  | 0 => 1
  | n + 1 => (n + 1) * fact n
/-- the ways, at all numbers -/
def wN (b m c i : Nat) : Nat := if i ≤ c then ch m i * ch (b - m) (c - i) else 0
theorem wN_zero (b m c i : Nat) (h : m < i ∨ c < i ∨ b - m < c - i) : wN b m c i = 0 := by
  unfold wN
  by_cases h1 : i ≤ c
  · rw [if_pos h1]
    rcases h with h | h | h
    · rw [ch_gt m i h]; simp
    · omega
    · rw [ch_gt _ _ h]; simp
  · rw [if_neg h1]
theorem wN_all (b m c : Nat) (hm : m ≤ b) : sm (wN b m c) (c + 1) = ch b c := by
  rw [sm_congr (g := fun i => ch m i * ch (b - m) (c - i)) (c + 1) (fun i hi => by unfold wN; rw [if_pos (by omega)]), vander m (b - m) c, show m + (b - m) = b by omega]
theorem sm_rest (f : Nat → Nat) (n : Nat) (h : ∀ i, n ≤ i → f i = 0) : ∀ d, sm f (n + d) = sm f n
  | 0 => rfl
  | d + 1 => by rw [← Nat.add_assoc, sm, h (n + d) (by omega), sm_rest f n h d]; rfl
theorem few_le (b m c n : Nat) (hm : m ≤ b) : sm (wN b m c) n ≤ ch b c := by
  have h1 := sm_mono (wN b m c) (c + 1) n
  rw [Nat.add_comm n (c + 1), sm_rest _ (c + 1) (fun i hi => wN_zero b m c i (by omega)) n, wN_all b m c hm] at h1
  exact h1
end Cnt
namespace Cnt
/-- the ways and all choices -/
def W (m c r n : Nat) : Nat := ch m r * ch (n - m) (c - r)
end Cnt

theorem evp {α : Type} {c : Prop} [Decidable c] {f g : Nat → Option α} {r : α} (h : c) (k : Ev f r) : Ev (fun n => if c then f n else g n) r :=
  Ev.congr (fun _ => if_pos h) k
theorem evn {α : Type} {c : Prop} [Decidable c] {f g : Nat → Option α} {r : α} (h : ¬ c) (k : Ev g r) : Ev (fun n => if c then f n else g n) r :=
  Ev.congr (fun _ => if_neg h) k
theorem evb {α β : Type} {g : Nat → Option α} {f : Nat → α → Option β} {a : α} {r : β} (h : Ev g a) (k : Ev (fun n => f n a) r) : Ev (fun n => (g n).bind (f n)) r := Ev.bind h k
theorem evs {α β : Type} {x : Option α} {f : Nat → α → Option β} {a : α} {r : β} (h : x = some a) (k : Ev (fun n => f n a) r) : Ev (fun n => x.bind (f n)) r := by
  subst h; exact k
theorem w64 {n : Int} (h : -9223372036854775808 ≤ n) (h2 : n ≤ 9223372036854775807) : wrap64 n = n := by unfold wrap64; omega
theorem rd_at (l : List Int) (i : Nat) (h : i < l.length) : rd l (i : Int) = l[i] := by
  simp [rd, List.getD_eq_getElem?_getD, List.getElem?_eq_getElem h]
def inB (x : Int) : Bool := decide (0 ≤ x ∧ x ≤ 60)
/-- binomial coefficients of whole numbers -/
def bin (n k : Int) : Int := if 0 ≤ k ∧ k ≤ n then ((Cnt.ch n.toNat k.toNat : Nat) : Int) else 0
theorem bin_nn (n k : Nat) : bin n k = (Cnt.ch n k : Nat) := by
  unfold bin
  by_cases h : k ≤ n
  · rw [if_pos (by omega)]; simp
  · rw [if_neg (by omega), Cnt.ch_gt n k (by omega)]; rfl
theorem bin_lo (n k : Int) : 0 ≤ bin n k := by unfold bin; split <;> omega
/-- the ways -/
def wys (b m c r : Int) : Int := bin m r * bin (b - m) (c - r)
theorem wys_lo (b m c r : Int) : 0 ≤ wys b m c r := Int.mul_nonneg (bin_lo _ _) (bin_lo _ _)
theorem wys_zero (b m c r : Int) (h : r < 0 ∨ m < r ∨ c < r ∨ b - m < c - r) : wys b m c r = 0 := by
  unfold wys bin
  by_cases h1 : 0 ≤ r ∧ r ≤ m
  · rw [if_neg (show ¬ (0 ≤ c - r ∧ c - r ≤ b - m) by omega)]; simp
  · rw [if_neg h1]; simp
theorem wys_nat (b m c r : Nat) (h : m ≤ b) (h2 : r ≤ c) : wys b m c r = ((Cnt.ch m r * Cnt.ch (b - m) (c - r) : Nat) : Int) := by
  unfold wys
  rw [show (b : Int) - m = ((b - m : Nat) : Int) by omega, show (c : Int) - r = ((c - r : Nat) : Int) by omega, bin_nn, bin_nn]; simp
theorem wys_hi (b m c r : Int) (h0 : 0 ≤ m) (h : m ≤ b) (hb : b ≤ 60) : wys b m c r ≤ 118264581564861424 := by
  by_cases h1 : r < 0 ∨ m < r ∨ c < r ∨ b - m < c - r
  · rw [wys_zero _ _ _ _ h1]; omega
  · obtain ⟨b, rfl⟩ := Int.eq_ofNat_of_zero_le (show 0 ≤ b by omega)
    obtain ⟨m, rfl⟩ := Int.eq_ofNat_of_zero_le (show 0 ≤ m by omega)
    obtain ⟨c, rfl⟩ := Int.eq_ofNat_of_zero_le (show 0 ≤ c by omega)
    obtain ⟨r, rfl⟩ := Int.eq_ofNat_of_zero_le (show 0 ≤ r by omega)
    rw [wys_nat _ _ _ _ (by omega) (by omega)]
    have v := Cnt.vander m (b - m) c
    have l := Cnt.sm_le (fun i => Cnt.ch m i * Cnt.ch (b - m) (c - i)) (c + 1) r (by omega)
    rw [v, show m + (b - m) = b by omega] at l
    have := Cnt.ch_bound b c (by omega)
    omega

theorem count_within_eq (a b c : Int) : count_within.f a b c = some (decide (b ≤ a ∧ a ≤ c)) := by
  unfold count_within.f
  by_cases h : a ≥ b
  · rw [if_pos h]; have : (b ≤ a ∧ a ≤ c) ↔ a ≤ c := by omega
    simp [this]
  · rw [if_neg h]; have : ¬ (b ≤ a ∧ a ≤ c) := by omega
    simp [this]
theorem examine_l0 (l : List Int) (hl : l.length ≤ 1000) : ∀ d i : Nat, i + d = l.length → Ev (fun k => count_examine.l0 k l (l.length : Int) (i : Int)) (if (l.drop i).all inB then (0 : Int) else 1)
  | 0, i, h => by
    refine Ev.step (fun k => count_examine.l0.eq_2 ..) (evn (by omega) ?_)
    rw [List.drop_eq_nil_of_le (by omega)]
    exact Ev.now _
  | d + 1, i, h => by
    refine Ev.step (fun k => count_examine.l0.eq_2 ..) (evp (by omega) (evp (by omega) (evp (by omega) (evs (count_within_eq ..) ?_))))
    rw [rd_at l i (by omega), List.drop_eq_getElem_cons (show i < l.length by omega), List.all_cons]
    by_cases hc : 0 ≤ l[i] ∧ l[i] ≤ 60
    · refine evp (by simpa using hc) ?_
      rw [show inB l[i] = true from by simpa [inB] using hc, Bool.true_and, w64 (by omega) (by omega)]
      exact examine_l0 l hl d (i + 1) (by omega)
    · refine evn (by simpa using hc) ?_
      rw [show inB l[i] = false from by simpa [inB] using hc, Bool.false_and]
      exact Ev.now _
theorem examine_ev (l : List Int) (hl : l.length ≤ 1000) : Ev (fun k => count_examine.f k l) (if l.all inB then (0 : Int) else 1) := by
  have := examine_l0 l hl l.length 0 (by omega)
  exact this
theorem examine_ok (l : List Int) (hl : l.length ≤ 1000) (h : l.all inB = true) : Ev (fun k => count_examine.f k l) (0 : Int) := by
  have := examine_ev l hl; rwa [if_pos h] at this
theorem examine_no (l : List Int) (hl : l.length ≤ 1000) (h : ¬ l.all inB = true) : Ev (fun k => count_examine.f k l) (1 : Int) := by
  have := examine_ev l hl; rwa [if_neg h] at this

def rowL (f : Nat → Nat) (k : Nat) : List Int := (List.range (k + 1)).map fun j => ((f j : Nat) : Int)
theorem rowL_length (f : Nat → Nat) (k : Nat) : (rowL f k).length = k + 1 := by simp [rowL]
theorem rowL_rd (f : Nat → Nat) (k i : Nat) (h : i ≤ k) : rd (rowL f k) (i : Int) = (f i : Nat) := by
  rw [rd_at _ _ (by rw [rowL_length]; omega)]; simp [rowL]
theorem rowL_congr (f g : Nat → Nat) (k : Nat) (h : ∀ j, j ≤ k → f j = g j) : rowL f k = rowL g k := by
  unfold rowL
  refine List.map_congr_left fun j hj => ?_
  rw [h j (by have := List.mem_range.1 hj; omega)]
theorem rowL_set (f : Nat → Nat) (k i v : Nat) : (rowL f k).set i ((v : Nat) : Int) = rowL (fun j => if j = i then v else f j) k := by
  refine List.ext_getElem (by simp [rowL]) fun j h1 h2 => ?_
  rw [List.getElem_set]
  simp only [rowL, List.getElem_map, List.getElem_range]
  by_cases e : i = j
  · subst e; simp
  · rw [if_neg e, if_neg (fun h => e h.symm)]
theorem rowL_start (k : Nat) : (List.replicate (k + 1) (0 : Int)).set 0 1 = rowL (Cnt.ch 0) k := by
  refine List.ext_getElem (by simp [rowL]) fun j h1 h2 => ?_
  rw [List.getElem_set]
  simp only [rowL, List.getElem_map, List.getElem_range, List.getElem_replicate]
  cases j with
  | zero => simp
  | succ j => simp
def mixR (t i j : Nat) : Nat := if i < j then Cnt.ch (t + 1) j else Cnt.ch t j
theorem binomial_l1 (k t n : Nat) (hk : k ≤ 60) (ht : t < 60) (r : Int) (H : Ev (fun K => count_binomial.l0 K (k : Int) (rowL (Cnt.ch (t + 1)) k) (n : Int) ((t + 1 : Nat) : Int)) r) :
    ∀ i : Nat, i ≤ k → Ev (fun K => count_binomial.l1 K (k : Int) (rowL (mixR t i) k) (i : Int) (n : Int) (t : Int)) r
  | 0, _ => by
    refine Ev.step (fun K => count_binomial.l1.eq_2 ..) (evn (by omega) ?_)
    rw [w64 (by omega) (by omega), rowL_congr (mixR t 0) (Cnt.ch (t + 1)) k]
    · exact H
    · intro j _
      unfold mixR
      cases j with
      | zero => simp
      | succ j => rw [if_pos (by omega)]
  | i + 1, h => by
    refine Ev.step (fun K => count_binomial.l1.eq_2 ..) (evp (by omega) (evp (by omega) (evp (by rw [rowL_length]; omega) ?_)))
    rw [show ((i + 1 : Nat) : Int) - 1 = (i : Int) by omega, w64 (by omega) (by omega)]
    refine evp (by omega) (evp (by rw [rowL_length]; omega) ?_)
    have b1 := Cnt.ch_bound (t + 1) (i + 1) (by omega)
    have e1 := Cnt.ch_ss t i
    have m1 : mixR t (i + 1) (i + 1) = Cnt.ch t (i + 1) := by simp [mixR]
    have m2 : mixR t (i + 1) i = Cnt.ch t i := by simp [mixR, show ¬ i + 1 < i by omega]
    rw [rowL_rd _ _ _ (by omega), rowL_rd _ _ _ (by omega), m1, m2, w64 (by omega) (by omega), show ((i + 1 : Nat) : Int).toNat = i + 1 by omega,
      show ((Cnt.ch t (i + 1) : Nat) : Int) + ((Cnt.ch t i : Nat) : Int) = ((Cnt.ch (t + 1) (i + 1) : Nat) : Int) by omega, rowL_set,
      rowL_congr _ (mixR t i) k]
    · exact binomial_l1 k t n hk ht r H i (by omega)
    · intro j _
      unfold mixR
      by_cases e : j = i + 1
      · subst e; rw [if_pos rfl, if_pos (by omega)]
      · rw [if_neg e]
        by_cases e2 : i + 1 < j
        · rw [if_pos e2, if_pos (by omega)]
        · rw [if_neg e2, if_neg (by omega)]
theorem binomial_l0 (k n : Nat) (hn : n ≤ 60) (hk : k ≤ n) : ∀ d t : Nat, t + d = n → Ev (fun K => count_binomial.l0 K (k : Int) (rowL (Cnt.ch t) k) (n : Int) (t : Int)) ((Cnt.ch n k : Nat) : Int)
  | 0, t, h => by
    obtain rfl : t = n := by omega
    refine Ev.step (fun K => count_binomial.l0.eq_2 ..) (evn (by omega) (evp (by omega) (evp (by rw [rowL_length]; omega) ?_)))
    rw [rowL_rd _ _ _ (by omega)]
    exact Ev.now _
  | d + 1, t, h => by
    refine Ev.step (fun K => count_binomial.l0.eq_2 ..) (evp (by omega) ?_)
    have := binomial_l1 k t n (by omega) (by omega) _ (binomial_l0 k n hn hk d (t + 1) (by omega)) k (Nat.le_refl _)
    rwa [rowL_congr (mixR t k) (Cnt.ch t) k (fun j hj => by simp [mixR, show ¬ k < j by omega])] at this
theorem binomial_ev (n k : Int) (hn : n ≤ 60) : Ev (fun K => count_binomial.f K n k) (bin n k) := by
  unfold count_binomial.f
  refine evs (count_within_eq ..) ?_
  by_cases h : 0 ≤ k ∧ k ≤ n
  · refine evp (by simpa using h) ?_
    obtain ⟨k, rfl⟩ := Int.eq_ofNat_of_zero_le h.1
    obtain ⟨n, rfl⟩ := Int.eq_ofNat_of_zero_le (show 0 ≤ n by omega)
    rw [w64 (by omega) (by omega), show ((k : Int) + 1).toNat = k + 1 by omega]
    refine evp (by omega) (evp (by omega) (evs rfl (evp (by first | (simp; done) | (simp; omega)) ?_)))
    rw [show (0 : Int).toNat = 0 from rfl, rowL_start, bin_nn]
    exact binomial_l0 k n (by omega) (by omega) n 0 (by omega)
  · refine evn (by simpa using h) ?_
    unfold bin; rw [if_neg h]
    exact Ev.now _

theorem ways_ev (b m c r : Int) (h0 : 0 ≤ m) (h : m ≤ b) (hb : b ≤ 60) (hr : -1 ≤ r) (hr2 : r ≤ 60) (hc : 0 ≤ c) (hc2 : c ≤ 60) : Ev (fun K => count_catch_ways.f K b m c r) (wys b m c r) := by
  unfold count_catch_ways.f
  have l := wys_lo b m c r
  have u := wys_hi b m c r h0 h hb
  rw [w64 (n := b - m) (by omega) (by omega), w64 (n := c - r) (by omega) (by omega)]
  refine evb (binomial_ev _ _ (by omega)) (evb (binomial_ev _ _ (by omega)) ?_)
  show Ev (fun _ => some (wrap64 (wys b m c r))) (wys b m c r)
  rw [w64 (by omega) (by omega)]
  exact Ev.now _

def bst (m c r : Int) : Nat → Int → Int
  | 0, n => n
  | d + 1, n => if (n + 1) * r < m * c then bst m c r d (n + 1) else n
theorem mul_small {a b : Int} (h1 : 0 ≤ a) (h2 : a ≤ 61) (h3 : 0 ≤ b) (h4 : b ≤ 60) : 0 ≤ a * b ∧ a * b ≤ 3660 :=
  ⟨Int.mul_nonneg h1 h3, by
    have := Int.mul_le_mul h2 h4 h3 (by omega : (0 : Int) ≤ 61)
    omega⟩
theorem best_l0 (m c r : Int) (hm : 0 ≤ m ∧ m ≤ 60) (hc : 0 ≤ c ∧ c ≤ 60) (hr : 0 ≤ r ∧ r ≤ 60) : ∀ (d : Nat) (n : Int), 0 ≤ n → n + d = 60 → Ev (fun k => count_Best.l0 k m c r n) (bst m c r d n, true, 0)
  | 0, n, h0, h => Ev.step (fun k => count_Best.l0.eq_2 ..) (evn (by omega) (Ev.now _))
  | d + 1, n, h0, h => by
    refine Ev.step (fun k => count_Best.l0.eq_2 ..) (evp (by omega) ?_)
    have a := mul_small (a := n + 1) (b := r) (by omega) (by omega) hr.1 hr.2
    have b := mul_small (a := m) (b := c) (by omega) (by omega) hc.1 hc.2
    rw [w64 (n := n + 1) (by omega) (by omega), w64 (n := (n + 1) * r) (by omega) (by omega), w64 (n := m * c) (by omega) (by omega)]
    unfold bst
    by_cases hh : (n + 1) * r < m * c
    · rw [if_pos hh]; exact evp hh (best_l0 m c r hm hc hr d (n + 1) (by omega) (by omega))
    · rw [if_neg hh]; exact evn hh (Ev.now _)
theorem bst_char (m c r : Int) : ∀ (d : Nat) (n : Int), n + d = 60 → n ≤ bst m c r d n ∧ bst m c r d n ≤ 60 ∧ (n < bst m c r d n → bst m c r d n * r < m * c) ∧ (bst m c r d n < 60 → ¬ (bst m c r d n + 1) * r < m * c)
  | 0, n, h => ⟨Int.le_refl _, by simp [bst]; omega, by simp [bst], by simp [bst]; omega⟩
  | d + 1, n, h => by
    unfold bst
    by_cases hh : (n + 1) * r < m * c
    · rw [if_pos hh]
      obtain ⟨h1, h2, h3, h4⟩ := bst_char m c r d (n + 1) (by omega)
      refine ⟨by omega, h2, fun _ => ?_, h4⟩
      by_cases e : bst m c r d (n + 1) = n + 1
      · rw [e]; exact hh
      · exact h3 (by omega)
    · rw [if_neg hh]
      exact ⟨Int.le_refl _, by omega, fun h => absurd h (by omega), fun _ => hh⟩
/-- the three ways of Best -/
theorem Best_arg (m c r : Int) (h : ¬ ((0 ≤ m ∧ m ≤ 60) ∧ (0 ≤ c ∧ c ≤ 60) ∧ (0 ≤ r ∧ r ≤ 60))) : Ev (fun k => count_Best.f k m c r) (0, false, 1) := by
  unfold count_Best.f
  exact evb (examine_no _ (by simp) (by simpa [inB] using h)) (evn (by decide) (Ev.now _))
theorem mn_eq (a b : Int) : mn a b = min a b := by unfold mn; split <;> omega
theorem Best_none (m c r : Int) (hm : 0 ≤ m ∧ m ≤ 60) (hc : 0 ≤ c ∧ c ≤ 60) (hr : 0 ≤ r ∧ r ≤ 60) (h : m < r ∨ c < r ∨ 60 < m + c - r) : Ev (fun k => count_Best.f k m c r) (0, false, 0) := by
  unfold count_Best.f
  refine evb (examine_ok _ (by simp) (by simp [inB, hm, hc, hr])) (evp rfl ?_)
  rw [w64 (n := m + c) (by omega) (by omega), w64 (n := m + c - r) (by omega) (by omega)]
  by_cases h1 : r > mn m c
  · exact evp h1 (Ev.step (fun k => count_Best.j0.eq_2 ..) (evp rfl (Ev.now _)))
  · have : 60 < m + c - r := by rw [mn_eq] at h1; omega
    exact evn h1 (Ev.step (fun k => count_Best.j0.eq_2 ..) (evp (by simpa using this) (Ev.now _)))
theorem Best_some (m c r : Int) (hm : 0 ≤ m ∧ m ≤ 60) (hc : 0 ≤ c ∧ c ≤ 60) (hr : 0 ≤ r ∧ r ≤ 60) (h1 : r ≤ m) (h2 : r ≤ c) (h3 : m + c - r ≤ 60) :
    Ev (fun k => count_Best.f k m c r) (bst m c r (60 - (m + c - r)).toNat (m + c - r), true, 0) := by
  unfold count_Best.f
  refine evb (examine_ok _ (by simp) (by simp [inB, hm, hc, hr])) (evp rfl ?_)
  rw [w64 (n := m + c) (by omega) (by omega), w64 (n := m + c - r) (by omega) (by omega)]
  refine evn (by rw [mn_eq]; omega) (Ev.step (fun k => count_Best.j0.eq_2 ..) (evn (by simpa using h3) ?_))
  exact best_l0 m c r hm hc hr _ _ (by omega) (by omega)

theorem wys_wN (b m c i : Nat) (hm : m ≤ b) : wys b m c i = ((Cnt.wN b m c i : Nat) : Int) := by
  unfold Cnt.wN
  by_cases h : i ≤ c
  · rw [if_pos h, wys_nat _ _ _ _ hm h]
  · rw [if_neg h, wys_zero _ _ _ _ (by omega)]; rfl
theorem inB4 (a b c d : Nat) (h1 : a ≤ 60) (h2 : b ≤ 60) (h3 : c ≤ 60) (h4 : d ≤ 60) : ([(a : Int), b, c, d] : List Int).all inB = true := by
  simp [inB]; omega
def In3 (b c d : Int) : Prop := (0 ≤ b ∧ b ≤ 60) ∧ (0 ≤ c ∧ c ≤ 60) ∧ (0 ≤ d ∧ d ≤ 60)
theorem notB3 (b c d : Int) (h : ¬ In3 b c d) : ¬ ([b, c, d] : List Int).all inB = true := by
  simpa [inB, In3] using h
theorem tdivN (a b : Nat) : Int.tdiv (a : Int) (b : Int) = ((a / b : Nat) : Int) := rfl
theorem tmodN (a b : Nat) : Int.tmod (a : Int) (b : Int) = ((a % b : Nat) : Int) := rfl
theorem w64N (n : Nat) (h : n ≤ 9223372036854775807) : wrap64 (n : Int) = n := w64 (by omega) (by omega)
theorem divle (a b : Nat) : a / b ≤ a := Nat.div_le_self a b

theorem fits_ok (b m c r : Nat) (hb : b ≤ 60) (hm : m ≤ b) (hc : c ≤ b) (hr : r ≤ 60) : Ev (fun k => count_catch_fits.f k b m c r) (0 : Int) := by
  unfold count_catch_fits.f
  exact evb (examine_ok _ (by simp) (inB4 _ _ _ _ hb (by omega) (by omega) hr)) (evp rfl (evn (by omega) (evn (by omega) (Ev.now _))))

theorem divisor_l0 : ∀ (n b a : Nat), b < n → a ≤ 9223372036854775807 → b ≤ 9223372036854775807 → Ev (fun k => count_divisor.l0 k (a : Int) (b : Int)) ((Nat.gcd a b : Nat) : Int)
  | 0, b, a, h, _, _ => by omega
  | n + 1, b, a, h, ha, hb => by
    refine Ev.step (fun k => count_divisor.l0.eq_2 ..) ?_
    by_cases h0 : b = 0
    · subst h0
      refine evp rfl ?_
      rw [Nat.gcd_zero_right, w64 (by omega) (by omega), show mx (a : Int) (-(a : Int)) = a by unfold mx; split <;> omega]
      exact Ev.now _
    · refine evn (by omega) ?_
      rw [tmodN, Nat.gcd_comm a b, Nat.gcd_rec b a, Nat.gcd_comm]
      have := Nat.mod_lt a (show 0 < b by omega)
      exact divisor_l0 n (a % b) b (by omega) (by omega) (by omega)
theorem divisor_ev (a b : Nat) (ha : a ≤ 9223372036854775807) (hb : b ≤ 9223372036854775807) : Ev (fun k => count_divisor.f k (a : Int) (b : Int)) ((Nat.gcd a b : Nat) : Int) := divisor_l0 (b + 1) b a (by omega) ha hb

theorem fraction_ev (a b : Nat) (ha : a ≤ 9223372036854775807) (hb : b ≤ 9223372036854775807) (h : 0 < b) :
    Ev (fun k => count_fraction.f k (a : Int) (b : Int)) (((a / Nat.gcd a b : Nat) : Int), ((b / Nat.gcd a b : Nat) : Int)) := by
  unfold count_fraction.f
  have hg := Nat.gcd_pos_of_pos_right a h
  have h1 := divle a (Nat.gcd a b)
  have h2 := divle b (Nat.gcd a b)
  refine evb (divisor_ev a b ha hb) (evn (by omega) ?_)
  rw [tdivN, tdivN, w64N _ (Nat.le_trans h1 ha), w64N _ (Nat.le_trans h2 hb)]
  exact Ev.now _

theorem all_ev (b m c r : Nat) (hb : b ≤ 60) : Ev (fun k => count_catch_all.f k b m c r) ((Cnt.ch b c : Nat) : Int) := by
  unfold count_catch_all.f
  refine evb (binomial_ev _ _ (by omega)) ?_
  rw [bin_nn]; exact Ev.now _

theorem few_l0 (b m c : Nat) (hb : b ≤ 60) (hm : m ≤ b) (hc : c ≤ b) : ∀ (n s : Nat), n ≤ 61 → s + Cnt.sm (Cnt.wN b m c) n ≤ 118264581564861424 →
    Ev (fun k => count_catch_few.l0 k (s : Int) b m c ((n : Int) - 1)) ((s + Cnt.sm (Cnt.wN b m c) n : Nat) : Int)
  | 0, s, _, _ => Ev.step (fun k => count_catch_few.l0.eq_2 ..) (evn (by omega) (Ev.now _))
  | n + 1, s, hn, hs => by
    have e : Cnt.sm (Cnt.wN b m c) (n + 1) = Cnt.sm (Cnt.wN b m c) n + Cnt.wN b m c n := rfl
    refine Ev.step (fun k => count_catch_few.l0.eq_2 ..) (evp (by omega) ?_)
    rw [show ((n + 1 : Nat) : Int) - 1 = (n : Int) by omega]
    refine evb (ways_ev b m c n (by omega) (by omega) (by omega) (by omega) (by omega) (by omega) (by omega)) ?_
    rw [wys_wN b m c n hm, w64 (n := (s : Int) + _) (by omega) (by omega), w64 (n := (n : Int) - 1) (by omega) (by omega),
      show (s : Int) + ((Cnt.wN b m c n : Nat) : Int) = ((s + Cnt.wN b m c n : Nat) : Int) by omega,
      show s + Cnt.sm (Cnt.wN b m c) (n + 1) = s + Cnt.wN b m c n + Cnt.sm (Cnt.wN b m c) n by omega]
    exact few_l0 b m c hb hm hc n (s + Cnt.wN b m c n) (by omega) (by omega)
theorem few_ev (b m c n : Nat) (hb : b ≤ 60) (hm : m ≤ b) (hc : c ≤ b) (hn : n ≤ 61) : Ev (fun k => count_catch_few.f k b m c ((n : Int) - 1)) ((Cnt.sm (Cnt.wN b m c) n : Nat) : Int) := by
  unfold count_catch_few.f
  have h1 := Cnt.few_le b m c n hm
  have h2 := Cnt.ch_bound b c hb
  have := few_l0 b m c hb hm hc n 0 hn (by omega)
  rwa [Nat.zero_add] at this

/-- on which days a bird was caught -/
def hb (s : ByteArray) : List Bool := s.data.toList.map (fun b => b == 49)
theorem hb_len (s : ByteArray) : (hb s).length = s.size := by simp [hb]
theorem rdOf_at (l : List ByteArray) (i : Nat) (h : i < l.length) : rdOf ByteArray.empty l (i : Int) = l[i] := by
  simp [rdOf, List.getD_eq_getElem?_getD, List.getElem?_eq_getElem h]
theorem bt_val (s : ByteArray) (i : Nat) (h : i < s.size) : bt s (i : Int) = ((s.data.toList[i]'(by simpa using h)).toNat : Int) := by
  unfold bt
  rw [dif_pos (by simpa using h)]
  rfl
theorem bt_49 (s : ByteArray) (i : Nat) (h : i < s.size) : (bt s (i : Int) = 49) ↔ (hb s).getD i false = true := by
  have hl : i < s.data.toList.length := by simpa using h
  rw [bt_val s i h]
  have e : (hb s).getD i false = (s.data.toList[i] == 49) := by
    unfold hb
    rw [List.getD_eq_getElem?_getD, List.getElem?_map, List.getElem?_eq_getElem hl]
    rfl
  rw [e, beq_iff_eq]
  constructor
  · intro q; exact UInt8.toNat_inj.1 (by show _ = 49; omega)
  · intro q; rw [q]; rfl
/-- caught from day i on, ahead of day j -/
def cau (h : List Bool) (i j : Nat) : Bool := ((h.drop i).take (j - i)).any id
theorem cau_nil (h : List Bool) (i j : Nat) (k : j ≤ i) : cau h i j = false := by
  unfold cau; rw [show j - i = 0 by omega]; simp
theorem cau_step (h : List Bool) (i j : Nat) (k : i < j) (hl : i < h.length) : cau h i j = (h.getD i false || cau h (i + 1) j) := by
  unfold cau
  rw [List.drop_eq_getElem_cons hl, show j - i = (j - (i + 1)) + 1 by omega, List.take_succ_cons, List.any_cons]
  rw [List.getD_eq_getElem?_getD, List.getElem?_eq_getElem hl]
  rfl
theorem cau_end (h : List Bool) (i : Nat) : ∀ (n j : Nat), j = i + n → j < h.length → cau h i (j + 1) = (cau h i j || h.getD j false)
  | 0, j, e, hl => by
    obtain rfl : j = i := by omega
    rw [cau_step h j (j + 1) (by omega) hl, cau_nil _ _ _ (Nat.le_refl _), cau_nil _ _ _ (Nat.le_refl _), Bool.or_false, Bool.false_or]
  | n + 1, j, e, hl => by
    rw [cau_step h i (j + 1) (by omega) (by omega), cau_step h i j (by omega) (by omega), cau_end h (i + 1) n j (by omega) hl, Bool.or_assoc]
theorem idx_lo (c : UInt8) : ∀ l : List UInt8, -1 ≤ Lib.indexByte l c
  | [] => by simp [Lib.indexByte]
  | b :: l => by
    have := idx_lo c l
    unfold Lib.indexByte
    split
    · omega
    · split <;> omega
theorem idx_any : ∀ l : List UInt8, decide (0 ≤ Lib.indexByte l 49) = l.any (fun b => b == 49)
  | [] => by simp [Lib.indexByte]
  | b :: l => by
    have ih := idx_any l
    have lo := idx_lo 49 l
    unfold Lib.indexByte
    rw [List.any_cons]
    by_cases h : (b == 49) = true
    · rw [if_pos h, h]; simp
    · rw [if_neg h, Bool.eq_false_iff.2 h, Bool.false_or, ← ih]
      by_cases z : (Lib.indexByte l 49 == -1) = true
      · rw [if_pos z]
        have z' : Lib.indexByte l 49 = -1 := by simpa using z
        rw [z']
      · rw [if_neg z]
        have z' : Lib.indexByte l 49 ≠ -1 := by simpa using z
        exact decide_eq_decide.2 (by omega)
theorem contains_eq (a : ByteArray) : strings_Contains.f a (⟨#[49]⟩ : ByteArray) = some ((hb a).any id) := by
  unfold strings_Contains.f
  rw [if_pos rfl, idx_any]
  unfold hb
  rw [List.any_map]
  rfl
theorem hb_extract (s : ByteArray) (a b : Nat) : hb (s.extract a b) = ((hb s).drop a).take (b - a) := by
  unfold hb
  rw [← Lib.toList_data, Lib.extract_toList, ← List.map_drop, ← List.map_take]
theorem contains_cut (s : ByteArray) (a b : Nat) : strings_Contains.f (s.extract a b) (⟨#[49]⟩ : ByteArray) = some (cau (hb s) a b) := by
  rw [contains_eq, hb_extract]; rfl

theorem on_eq (s : ByteArray) (d : Nat) (h : d < s.size) : count_bird_on.f s (d : Int) = some ((hb s).getD d false) := by
  unfold count_bird_on.f
  rw [if_pos (by omega), if_pos (by omega)]
  have := bt_49 s d h
  by_cases z : bt s (d : Int) = 49
  · rw [z, this.1 z]; rfl
  · rw [Bool.eq_false_iff.2 (fun q => z (this.2 q))]; simpa using z
theorem ahead_eq (s : ByteArray) (d : Nat) (h : d ≤ s.size) : count_bird_ahead.f s (d : Int) = some (cau (hb s) 0 d) := by
  unfold count_bird_ahead.f
  rw [if_pos (by omega), if_pos (by omega), Int.toNat_natCast, contains_cut]
  rfl
theorem later_eq (s : ByteArray) (d : Nat) (hs : s.size ≤ 1000) (h : d < s.size) : count_bird_later.f s (d : Int) = some (cau (hb s) (d + 1) s.size) := by
  unfold count_bird_later.f
  have e : wrap64 ((d : Int) + 1) = ((d + 1 : Nat) : Int) := by rw [w64 (by omega) (by omega)]; rfl
  rw [e, if_pos (by omega), if_pos (by omega), Int.toNat_natCast, contains_cut]
  rfl
theorem c1_eq (s : ByteArray) (d : Nat) (h : d < s.size) : count_Catches_1.f s (d : Int) = some ((hb s).getD d false && cau (hb s) 0 d) := by
  unfold count_Catches_1.f
  rw [on_eq s d h, ahead_eq s d (by omega)]
  cases (hb s).getD d false <;> rfl
def aliveB (h : List Bool) (d : Nat) : Bool := h.getD d false || (cau h 0 d && cau h (d + 1) h.length)
def freshB (h : List Bool) (d : Nat) : Bool := h.getD d false && !cau h 0 d
theorem alive_eq (s : ByteArray) (d : Nat) (hs : s.size ≤ 1000) (h : d < s.size) : count_bird_alive.f s (d : Int) = some (aliveB (hb s) d) := by
  unfold count_bird_alive.f aliveB
  rw [on_eq s d h, ahead_eq s d (by omega), later_eq s d hs h, hb_len]
  cases (hb s).getD d false <;> cases cau (hb s) 0 d <;> rfl
theorem fresh_eq (s : ByteArray) (d : Nat) (h : d < s.size) : count_bird_fresh.f s (d : Int) = some (freshB (hb s) d) := by
  unfold count_bird_fresh.f freshB
  rw [on_eq s d h, ahead_eq s d (by omega)]
  cases (hb s).getD d false <;> cases cau (hb s) 0 d <;> rfl

def okB (s : ByteArray) : Bool := s.data.toList.all (fun b => b == 48 || b == 49)
def dys (l : List ByteArray) : Nat := (l.headD ByteArray.empty).size
def vhs (n : Nat) : List ByteArray → Int
  | [] => 0
  | s :: l => if s.size > 8 then 3 else if s.size = n ∧ okB s = true then (if (hb s).any id = true then vhs n l else 8) else 1
def vhR (l : List ByteArray) : Int := if l.length > 60 then 3 else vhs (dys l) l
theorem days_eq (l : List ByteArray) : count_days.f l = some (dys l : Int) := by
  unfold count_days.f dys
  cases l with
  | nil => rfl
  | cons s l =>
    rw [if_neg (by simp <;> omega), if_pos (by simp <;> omega)]
    rfl
theorem dropWhile_nil {α : Type} (p : α → Bool) : ∀ l : List α, (l.dropWhile p).isEmpty = l.all p
  | [] => rfl
  | x :: l => by
    rw [List.dropWhile_cons, List.all_cons]
    cases h : p x
    · simp
    · simpa using dropWhile_nil p l
theorem dropWhile_all {α : Type} (p : α → Bool) (l : List α) (h : l.all p = true) : l.dropWhile p = [] := by
  have := dropWhile_nil p l
  rw [h] at this
  exact List.isEmpty_iff.1 this
theorem trim_eq (s : ByteArray) (hs : s.size ≤ 1000) : ∃ r, strings_Trim.f s (⟨#[48, 49]⟩ : ByteArray) = some r ∧ (r.toList != ([] : List UInt8)) = !okB s := by
  refine ⟨⟨(Lib.trimS s.data.toList [48, 49]).toArray⟩, by unfold strings_Trim.f; rw [if_pos ⟨rfl, by omega⟩], ?_⟩
  rw [Lib.toList_data]
  show (((Lib.trimS s.data.toList [48, 49]).toArray).toList != ([] : List UInt8)) = _
  rw [List.toList_toArray]
  have cp : (fun b : UInt8 => [48, 49].contains b) = fun b => b == 48 || b == 49 := by
    funext b; simp [List.contains, List.elem]
    cases h1 : b == 48 <;> cases h2 : b == 49 <;> simp_all
  unfold Lib.trimS Lib.trimLeftS Lib.trimRightS okB
  rw [cp]
  by_cases h : s.data.toList.all (fun b => b == 48 || b == 49) = true
  · have z := dropWhile_all (fun b : UInt8 => b == 48 || b == 49) s.data.toList.reverse (by rw [List.all_reverse]; exact h)
    rw [h, z]; rfl
  · rw [Bool.eq_false_iff.2 h]
    have h1 : (s.data.toList.reverse.dropWhile (fun b => b == 48 || b == 49)).isEmpty = false := by rw [dropWhile_nil, List.all_reverse]; exact Bool.eq_false_iff.2 h
    -- its first one is neither
    obtain ⟨x, t, e⟩ : ∃ x t, s.data.toList.reverse.dropWhile (fun b => b == 48 || b == 49) = x :: t := by
      cases q : s.data.toList.reverse.dropWhile (fun b => b == 48 || b == 49) with
      | nil => rw [q] at h1; cases h1
      | cons x t => exact ⟨x, t, rfl⟩
    have hx : (x == 48 || x == 49) = false := by
      have := List.head?_dropWhile_not (fun b : UInt8 => b == 48 || b == 49) s.data.toList.reverse
      rw [e] at this
      simpa using this
    have h2 : ((x :: t).reverse.dropWhile (fun b => b == 48 || b == 49)).isEmpty = false := by
      rw [dropWhile_nil, List.all_reverse, List.all_cons, hx]; rfl
    rw [e]
    cases q : (x :: t).reverse.dropWhile (fun b => b == 48 || b == 49) with
    | nil => rw [q] at h2; cases h2
    | cons => rfl

theorem vh_l0 (L : List ByteArray) (hL : L.length ≤ 60) : ∀ (d i : Nat), i + d = L.length → Ev (fun k => count_ValidateHistories.l0 k L L (L.length : Int) (i : Int)) (vhs (dys L) (L.drop i))
  | 0, i, h => by
    rw [List.drop_of_length_le (by omega)]
    exact Ev.step (fun k => count_ValidateHistories.l0.eq_2 ..) (evn (by omega) (Ev.now _))
  | d + 1, i, h => by
    have hi : i < L.length := by omega
    have R := vh_l0 L hL d (i + 1) (by omega)
    have ws : wrap64 ((i : Int) + 1) = ((i + 1 : Nat) : Int) := by rw [w64 (by omega) (by omega)]; rfl
    rw [List.drop_eq_getElem_cons hi]
    refine Ev.step (fun k => count_ValidateHistories.l0.eq_2 ..) (evp (by omega) (evp (by omega) (evp (by omega) ?_)))
    rw [rdOf_at L i hi]
    generalize L[i] = s at *
    unfold vhs
    by_cases z : s.size > 8
    · rw [if_pos z]; exact evp (by omega) (Ev.now _)
    · rw [if_neg z]
      refine evn (by omega) (evs (days_eq L) ?_)
      have J : ∀ b : Bool, Ev (fun k => count_ValidateHistories.j1 k L s L (L.length : Int) (i : Int) b) (if b = true then 1 else (if (hb s).any id = true then vhs (dys L) (L.drop (i + 1)) else 8)) := fun b => by
        refine Ev.step (fun k => count_ValidateHistories.j1.eq_2 ..) ?_
        cases b with
        | true => exact evp rfl (Ev.now _)
        | false =>
          refine evn (by simp) (evs (contains_eq s) ?_)
          rw [if_neg (by simp)]
          by_cases y : (hb s).any id = true
          · rw [if_pos y]; refine evp y ?_; rw [ws]; exact R
          · rw [if_neg y]; exact evn y (Ev.now _)
      by_cases y : s.size = dys L
      · obtain ⟨r, e1, e2⟩ := trim_eq s (by omega)
        refine evp (by omega) (evs e1 ?_)
        rw [e2]
        have := J (!okB s)
        by_cases q : okB s = true
        · rw [if_pos ⟨y, q⟩]
          rw [q] at this ⊢
          simpa using this
        · rw [if_neg (fun k => q k.2)]
          rw [Bool.eq_false_iff.2 q] at this ⊢
          simpa using this
      · rw [if_neg (fun k => y k.1)]
        exact evn (by omega) (by simpa using J true)
theorem vh_ev (L : List ByteArray) (hL : L.length ≤ 1000) : Ev (fun k => count_ValidateHistories.f k L) (vhR L) := by
  unfold count_ValidateHistories.f vhR
  by_cases h : L.length > 60
  · rw [if_pos h]; exact evp (by omega) (Ev.now _)
  · rw [if_neg h]; exact evn (by omega) (by simpa using vh_l0 L (by omega) L.length 0 (by omega))
/-- histories that are right -/
structure Good (L : List ByteArray) : Prop where
  few : L.length ≤ 60
  size : ∀ s ∈ L, s.size = dys L
  some_ : ∀ s ∈ L, (hb s).any id = true
  days : dys L ≤ 8
theorem vhs_good (n : Nat) : ∀ l : List ByteArray, vhs n l = 0 → ∀ s ∈ l, s.size = n ∧ s.size ≤ 8 ∧ (hb s).any id = true
  | [], _, s, m => by simp at m
  | x :: l, h, s, m => by
    unfold vhs at h
    by_cases a : x.size > 8
    · rw [if_pos a] at h; cases h
    · rw [if_neg a] at h
      by_cases b : x.size = n ∧ okB x = true
      · rw [if_pos b] at h
        by_cases c : (hb x).any id = true
        · rw [if_pos c] at h
          rcases List.mem_cons.1 m with e | m
          · subst e; exact ⟨b.1, by omega, c⟩
          · exact vhs_good n l h s m
        · rw [if_neg c] at h; cases h
      · rw [if_neg b] at h; cases h
theorem vhR_good {L : List ByteArray} (h : vhR L = 0) : Good L := by
  unfold vhR at h
  by_cases a : L.length > 60
  · rw [if_pos a] at h; cases h
  · rw [if_neg a] at h
    have g := vhs_good _ _ h
    refine ⟨by omega, fun s m => (g s m).1, fun s m => (g s m).2.2, ?_⟩
    cases L with
    | nil => decide
    | cons s l => exact (g s (by simp)).2.1

theorem totO_count (q : ByteArray → Int → Option Bool) (day : Int) (p : ByteArray → Bool) : ∀ (l : List ByteArray) (z : Nat), (∀ s ∈ l, q s day = some (p s)) → z + l.length ≤ 10000 → totO (oneIf q day) l (z : Int) = some ((z + l.countP p : Nat) : Int)
  | [], z, _, _ => by simp [totO]
  | s :: l, z, h, hl => by
    have hs := h s (by simp)
    simp only [List.length_cons] at hl
    unfold totO oneIf
    rw [hs]
    simp only [Option.bind_some]
    by_cases y : p s = true
    · rw [if_pos y, show wrap64 ((z : Int) + 1) = ((z + 1 : Nat) : Int) by rw [w64 (by omega) (by omega)]; rfl]
      have ih := totO_count q day p l (z + 1) (fun t m => h t (by simp [m])) (by omega)
      unfold oneIf at ih
      rw [ih, List.countP_cons_of_pos y]
      congr 2; omega
    · rw [if_neg y, show wrap64 ((z : Int) + 0) = ((z : Nat) : Int) by rw [w64 (by omega) (by omega)]; omega]
      have ih := totO_count q day p l z (fun t m => h t (by simp [m])) (by omega)
      unfold oneIf at ih
      rw [ih, List.countP_cons_of_neg y]
/-- how many birds are something on a day -/
def cn (P : List Bool → Nat → Bool) (L : List ByteArray) (d : Nat) : Nat := L.countP (fun s => P (hb s) d)
theorem cn_le (P : List Bool → Nat → Bool) (L : List ByteArray) (d : Nat) : cn P L d ≤ L.length := List.countP_le_length
theorem numF_ev {q : ByteArray → Int → Option Bool} {P : List Bool → Nat → Bool} {L : List ByteArray} (G : Good L) {d : Nat} (h : ∀ s ∈ L, q s (d : Int) = some (P (hb s) d)) : numF q L (d : Int) = some ((cn P L d : Nat) : Int) := by
  have := totO_count q d (fun s => P (hb s) d) L 0 h (by have := G.few; omega)
  unfold numF
  rw [show ((0 : Nat) : Int) = 0 from rfl] at this
  rw [this, Nat.zero_add]
  rfl
/-- day by day -/
def dly (P : List Bool → Nat → Bool) (L : List ByteArray) : List Int := (List.range (dys L)).map fun d => ((cn P L d : Nat) : Int)
theorem dly_len (P : List Bool → Nat → Bool) (L : List ByteArray) : (dly P L).length = dys L := by simp [dly]
theorem dly_rd (P : List Bool → Nat → Bool) (L : List ByteArray) (d : Nat) (h : d < dys L) : rd (dly P L) (d : Int) = (cn P L d : Nat) := by
  rw [rd_at _ _ (by rw [dly_len]; exact h)]; simp [dly]

theorem daily_l0 {q : ByteArray → Int → Option Bool} {P : List Bool → Nat → Bool} {L : List ByteArray} (G : Good L) (h : ∀ d, d < dys L → ∀ s ∈ L, q s (d : Int) = some (P (hb s) d)) :
    ∀ (e i : Nat) (out : List Int), i + e = dys L → out.length ≤ i → Ev (fun k => count_daily.l0 q k L out (dys L : Int) (i : Int)) (out ++ (List.range' i e).map (fun d => ((cn P L d : Nat) : Int)), 0)
  | 0, i, out, hi, ho => by
    rw [List.range'_zero, List.map_nil, List.append_nil]
    exact Ev.step (fun k => count_daily.l0.eq_2 ..) (evn (by omega) (Ev.now _))
  | e + 1, i, out, hi, ho => by
    have d8 := G.days
    have R := daily_l0 G h e (i + 1) (out ++ [((cn P L i : Nat) : Int)]) (by omega) (by simp; omega)
    rw [List.append_assoc] at R
    rw [List.range'_succ, List.map_cons]
    refine Ev.step (fun k => count_daily.l0.eq_2 ..) (evp (by omega) (evs (numF_ev G (h i (by omega))) (evp (by omega) ?_)))
    rw [show wrap64 ((i : Int) + 1) = ((i + 1 : Nat) : Int) by rw [w64 (by omega) (by omega)]; rfl]
    exact R
theorem daily_ev {q : ByteArray → Int → Option Bool} {P : List Bool → Nat → Bool} {L : List ByteArray} (h0 : vhR L = 0) (h : ∀ d, d < dys L → ∀ s ∈ L, q s (d : Int) = some (P (hb s) d)) : Ev (fun k => count_daily.f q k L) (dly P L, 0) := by
  have G := vhR_good h0
  have V := vh_ev L (by have := G.few; omega)
  rw [h0] at V
  unfold count_daily.f
  refine evb V (evp rfl (evs (days_eq L) ?_))
  have := daily_l0 G h (dys L) 0 [] (by omega) (by simp)
  unfold dly
  rw [List.range_eq_range']
  simpa using this
theorem alive_at {L : List ByteArray} (G : Good L) : ∀ d, d < dys L → ∀ s ∈ L, count_bird_alive.f s (d : Int) = some (aliveB (hb s) d) := fun d hd s m => alive_eq s d (by have := G.size s m; have := G.days; omega) (by have := G.size s m; omega)
theorem fresh_at {L : List ByteArray} (G : Good L) : ∀ d, d < dys L → ∀ s ∈ L, count_bird_fresh.f s (d : Int) = some (freshB (hb s) d) := fun d hd s m => fresh_eq s d (by have := G.size s m; omega)
theorem Alive_ev {L : List ByteArray} (h0 : vhR L = 0) : Ev (fun k => count_Alive.f k L) (dly aliveB L, 0) := by
  unfold count_Alive.f daily_alive.f
  exact evb (daily_ev h0 (alive_at (vhR_good h0))) (Ev.now _)
theorem First_ev {L : List ByteArray} (h0 : vhR L = 0) : Ev (fun k => count_First.f k L) (dly freshB L, 0) := by
  unfold count_First.f daily_fresh.f
  exact evb (daily_ev h0 (fresh_at (vhR_good h0))) (Ev.now _)
def onB (h : List Bool) (d : Nat) : Bool := h.getD d false
def aheadB (h : List Bool) (d : Nat) : Bool := cau h 0 d
def againB (h : List Bool) (d : Nat) : Bool := h.getD d false && cau h 0 d
def ctc (L : List ByteArray) : List S42 := (List.range (dys L)).map fun d => ⟨(cn aheadB L d : Nat), (cn onB L d : Nat), (cn againB L d : Nat)⟩
theorem ctc_len (L : List ByteArray) : (ctc L).length = dys L := by simp [ctc]
theorem Catches_l0 {L : List ByteArray} (G : Good L) :
    ∀ (e i : Nat) (out : List S42), i + e = dys L → out.length ≤ i → Ev (fun k => count_Catches.l0 k L out (dys L : Int) (i : Int)) (out ++ (List.range' i e).map (fun d => (⟨(cn aheadB L d : Nat), (cn onB L d : Nat), (cn againB L d : Nat)⟩ : S42)), 0)
  | 0, i, out, hi, ho => by
    rw [List.range'_zero, List.map_nil, List.append_nil]
    exact Ev.step (fun k => count_Catches.l0.eq_2 ..) (evn (by omega) (Ev.now _))
  | e + 1, i, out, hi, ho => by
    have d8 := G.days
    have R := Catches_l0 G e (i + 1) (out ++ [⟨(cn aheadB L i : Nat), (cn onB L i : Nat), (cn againB L i : Nat)⟩]) (by omega) (by simp; omega)
    rw [List.append_assoc] at R
    rw [List.range'_succ, List.map_cons]
    have A : number_ahead.f L (i : Int) = some ((cn aheadB L i : Nat) : Int) := numF_ev G (fun s m => ahead_eq s i (by have := G.size s m; omega))
    have B : number_on.f L (i : Int) = some ((cn onB L i : Nat) : Int) := numF_ev G (fun s m => on_eq s i (by have := G.size s m; omega))
    have C : number_c1.f L (i : Int) = some ((cn againB L i : Nat) : Int) := numF_ev G (fun s m => c1_eq s i (by have := G.size s m; omega))
    refine Ev.step (fun k => count_Catches.l0.eq_2 ..) (evp (by omega) (evs A (evs B (evs C (evp (by omega) ?_)))))
    rw [show wrap64 ((i : Int) + 1) = ((i + 1 : Nat) : Int) by rw [w64 (by omega) (by omega)]; rfl]
    exact R
theorem Catches_ev {L : List ByteArray} (h0 : vhR L = 0) : Ev (fun k => count_Catches.f k L) (ctc L, 0) := by
  have G := vhR_good h0
  have V := vh_ev L (by have := G.few; omega)
  rw [h0] at V
  unfold count_Catches.f
  refine evb V (evp rfl (evs (days_eq L) ?_))
  have := Catches_l0 G (dys L) 0 [] (by omega) (by simp)
  unfold ctc
  rw [List.range_eq_range']
  simpa using this
theorem Catches_err {L : List ByteArray} (hL : L.length ≤ 1000) (h0 : ¬ vhR L = 0) : Ev (fun k => count_Catches.f k L) ([], vhR L) := by
  unfold count_Catches.f
  exact evb (vh_ev L hL) (evn h0 (Ev.now _))

theorem w1 (i : Nat) (h : i ≤ 100000) : wrap64 ((i : Int) + 1) = ((i + 1 : Nat) : Int) := by rw [w64 (by omega) (by omega)]; rfl

/-- the first and the last day -/
structure Ends (h : List Bool) (f t : Nat) : Prop where
  ft : f ≤ t
  tl : t < h.length
  hf : h.getD f false = true
  ht : h.getD t false = true
  lo : ∀ d, d < f → h.getD d false = false
  hi : ∀ d, t < d → h.getD d false = false
instance (b c d : Int) : Decidable (In3 b c d) := by unfold In3; exact inferInstance
def vday (x : S42) : Int := if In3 x.f0 x.f1 x.f2 then (if x.f0 < x.f2 ∨ x.f1 < x.f2 then 8 else 0) else 1
def vdays : List S42 → Int
  | [] => 0
  | x :: l => if vday x = 0 then vdays l else vday x
theorem rdS (l : List S42) (i : Nat) (h : i < l.length) : rd_T42 l (i : Int) = l[i] := by
  simp [rd_T42, List.getD_eq_getElem?_getD, List.getElem?_eq_getElem h]
theorem vd_l0 (l : List S42) (hl : l.length ≤ 8) : ∀ d i : Nat, i + d = l.length → Ev (fun k => count_ValidateDays.l0 k l (l.length : Int) (i : Int)) (vdays (l.drop i))
  | 0, i, h => by
    refine Ev.step (fun k => count_ValidateDays.l0.eq_2 ..) (evn (by omega) ?_)
    rw [List.drop_eq_nil_of_le (by omega)]
    exact Ev.now _
  | d + 1, i, h => by
    refine Ev.step (fun k => count_ValidateDays.l0.eq_2 ..) (evp (by omega) (evp (by omega) (evp (by omega) ?_)))
    rw [rdS l i (by omega), List.drop_eq_getElem_cons (show i < l.length by omega)]
    have R := vd_l0 l hl d (i + 1) (by omega)
    generalize l[i] = x at *
    unfold vdays vday
    by_cases h3 : In3 x.f0 x.f1 x.f2
    · rw [if_pos h3]
      have h3' := h3
      obtain ⟨a, b, c⟩ := h3'
      refine evb (examine_ok _ (by simp) (by simp [inB, a, b, c])) (evp rfl ?_)
      by_cases h : x.f0 < x.f2 ∨ x.f1 < x.f2
      · rw [if_pos h, if_neg (by decide)]
        exact evp (by rw [mn_eq]; omega) (Ev.now _)
      · rw [if_neg h, if_pos rfl]
        refine evn (by rw [mn_eq]; omega) ?_
        rw [w64 (by omega) (by omega)]; exact R
    · rw [if_neg h3, if_neg (by decide)]
      exact evb (examine_no _ (by simp) (notB3 _ _ _ h3)) (evn (by decide) (Ev.now _))
def vAll (l : List S42) : Int := if l.length > 8 then 3 else vdays l
theorem vd_ev (l : List S42) (hl : l.length ≤ 100) : Ev (fun k => count_ValidateDays.f k l) (vAll l) := by
  unfold count_ValidateDays.f vAll
  by_cases h : l.length > 8
  · rw [if_pos h]; exact evp (by omega) (Ev.now _)
  · rw [if_neg h]; exact evn (by omega) (vd_l0 l (by omega) l.length 0 (by omega))
theorem AtMost_ok (b m c r : Nat) (hb : b ≤ 60) (hm : m ≤ b) (hc : c ≤ b) (hr : r ≤ 60) :
    Ev (fun k => count_AtMost.f k b m c r) (((Cnt.sm (Cnt.wN b m c) (r + 1) / Nat.gcd (Cnt.sm (Cnt.wN b m c) (r + 1)) (Cnt.ch b c) : Nat) : Int), ((Cnt.ch b c / Nat.gcd (Cnt.sm (Cnt.wN b m c) (r + 1)) (Cnt.ch b c) : Nat) : Int), 0) := by
  unfold count_AtMost.f
  have h1 := Cnt.few_le b m c (r + 1) hm
  have h2 := Cnt.ch_bound b c hb
  have h3 := Cnt.ch_pos b c hc
  have f := few_ev b m c (r + 1) hb hm hc (by omega)
  rw [show ((r + 1 : Nat) : Int) - 1 = (r : Int) by omega] at f
  exact evb (fits_ok _ _ _ _ hb hm hc hr) (evp rfl (evb f (evb (all_ev b m c r hb) (evb (fraction_ev _ _ (by omega) (by omega) h3) (Ev.now _)))))
theorem In4n (n m c r : Nat) (h : n + 1 ≤ 60) (hm : m ≤ 60) (hc : c ≤ 60) (hr : r ≤ 60) : ([((n + 1 : Nat) : Int), m, c, r] : List Int).all inB = true := inB4 (n + 1) m c r h hm hc hr
theorem prodN (a b : Nat) : (a : Int) * (b : Int) = ((a * b : Nat) : Int) := (Int.natCast_mul a b).symm
theorem prod60 (a b : Nat) (ha : a ≤ 60) (hb : b ≤ 60) : a * b ≤ 3600 := Nat.mul_le_mul ha hb
theorem Odds_j (n m c r : Nat) (hn : n + 1 ≤ 60) (hm : m ≤ n) (hc : c ≤ n) (hr : r ≤ 60) (v : Int × Int × Int) (h : Ev (fun k => count_Odds.j0 k ((n + 1 : Nat) : Int) m c r false) v) : Ev (fun k => count_Odds.f k ((n + 1 : Nat) : Int) m c r) v := by
  unfold count_Odds.f
  refine evb (examine_ok _ (by simp) (In4n n m c r hn (by omega) (by omega) hr)) (evp rfl (evn (by omega) ?_))
  rw [show decide ((c : Int) ≥ ((n + 1 : Nat) : Int)) = false from decide_eq_false (by omega)]; exact h
theorem odds_alg (a m c r : Int) : (a - m) * (a - c) - a * (a + r - m - c) = m * c - a * r := by
  have e1 : (a - m) * (a - c) = a * a - a * c - m * a + m * c := by rw [Int.sub_mul, Int.mul_sub, Int.mul_sub]; omega
  have e2 : a * (a + r - m - c) = a * a + a * r - a * m - a * c := by rw [Int.mul_sub, Int.mul_sub, Int.mul_add]
  rw [e1, e2, Int.mul_comm m a]
  omega
theorem odds_lt {A B C D : Nat} (h : (B : Int) - A = (D : Int) - C) : A < B ↔ C < D := by omega
theorem odds_key (n m c r : Nat) (hm : m ≤ n) (hc : c ≤ n) (h3 : m + c ≤ n + r) : ((n + 1) * (n + 1 + r - m - c) < (n + 1 - m) * (n + 1 - c)) ↔ (n + 1) * r < m * c := by
  refine odds_lt ?_
  rw [Int.natCast_mul, Int.natCast_mul, Int.natCast_mul, Int.natCast_mul]
  have e1 : ((n + 1 + r - m - c : Nat) : Int) = ((n + 1 : Nat) : Int) + r - m - c := by omega
  have e2 : ((n + 1 - m : Nat) : Int) = ((n + 1 : Nat) : Int) - m := by omega
  have e3 : ((n + 1 - c : Nat) : Int) = ((n + 1 : Nat) : Int) - c := by omega
  rw [e1, e2, e3]
  exact odds_alg _ _ _ _
theorem Odds_val (n m c r : Nat) (hn : n + 1 ≤ 60) (hm : m ≤ n) (hc : c ≤ n) (h1 : r ≤ m) (h2 : r ≤ c) (h3 : m + c ≤ n + r) :
    ∃ x y : Nat, Ev (fun k => count_Odds.f k ((n + 1 : Nat) : Int) m c r) ((x : Int), (y : Int), 0) ∧ 0 < y ∧ (y < x ↔ (n + 1) * r < m * c) := by
  have w0 : 0 < Cnt.wN n m c r := by unfold Cnt.wN; rw [if_pos h2]; exact Nat.mul_pos (Cnt.ch_pos _ _ h1) (Cnt.ch_pos _ _ (by omega))
  have hN := prod60 (n + 1 - m) (n + 1 - c) (by omega) (by omega)
  have hD := prod60 (n + 1) (n + 1 + r - m - c) (by omega) (by omega)
  have hD0 : 0 < (n + 1) * (n + 1 + r - m - c) := Nat.mul_pos (by omega) (by omega)
  have i1 : wrap64 (((n + 1 : Nat) : Int) - m) = ((n + 1 - m : Nat) : Int) := by rw [w64 (by omega) (by omega)]; omega
  have i2 : wrap64 (((n + 1 : Nat) : Int) - c) = ((n + 1 - c : Nat) : Int) := by rw [w64 (by omega) (by omega)]; omega
  have i3 : wrap64 (wrap64 (((n + 1 - m : Nat) : Int) - c) + r) = ((n + 1 + r - m - c : Nat) : Int) := by
    rw [w64 (n := ((n + 1 - m : Nat) : Int) - c) (by omega) (by omega), w64 (by omega) (by omega)]; omega
  have i4 : wrap64 (((n + 1 - m : Nat) : Int) * ((n + 1 - c : Nat) : Int)) = (((n + 1 - m) * (n + 1 - c) : Nat) : Int) := by rw [prodN, w64N _ (by omega)]
  have i5 : wrap64 (((n + 1 : Nat) : Int) * ((n + 1 + r - m - c : Nat) : Int)) = (((n + 1) * (n + 1 + r - m - c) : Nat) : Int) := by rw [prodN, w64N _ (by omega)]
  have key := odds_key n m c r hm hc h3
  generalize (n + 1 - m) * (n + 1 - c) = N at *
  generalize (n + 1) * (n + 1 + r - m - c) = D at *
  have E1 : Ev (fun k => count_Odds.j0 k ((n + 1 : Nat) : Int) m c r false) (((N / Nat.gcd N D : Nat) : Int), ((D / Nat.gcd N D : Nat) : Int), 0) := by
    refine Ev.step (fun k => count_Odds.j0.eq_2 ..) (evn (by decide) ?_)
    rw [w64 (n := ((n + 1 : Nat) : Int) - 1) (by omega) (by omega), show ((n + 1 : Nat) : Int) - 1 = (n : Int) by omega]
    refine evb (ways_ev n m c r (by omega) (by omega) (by omega) (by omega) (by omega) (by omega) (by omega)) (evn (by rw [wys_wN n m c r hm]; exact Int.natCast_ne_zero.2 (Nat.pos_iff_ne_zero.1 w0)) ?_)
    rw [i1, i2, i3, i4, i5]
    exact evb (fraction_ev _ _ (Nat.le_trans hN (by decide)) (Nat.le_trans hD (by decide)) hD0) (Ev.now _)
  have g : 0 < Nat.gcd N D := Nat.gcd_pos_of_pos_right _ hD0
  have d1 := Nat.mul_div_cancel' (Nat.gcd_dvd_left N D)
  have d2 := Nat.mul_div_cancel' (Nat.gcd_dvd_right N D)
  have F1 := Odds_j n m c r hn hm hc (by omega) _ E1
  have py : 0 < D / Nat.gcd N D := Nat.div_pos (Nat.le_of_dvd hD0 (Nat.gcd_dvd_right _ _)) g
  have lt := Nat.mul_lt_mul_left (b := D / Nat.gcd N D) (c := N / Nat.gcd N D) g
  rw [d1, d2] at lt
  exact ⟨_, _, F1, py, lt.symm.trans key⟩
theorem count_le {p q : ByteArray → Bool} {L : List ByteArray} (h : ∀ s ∈ L, p s = true → q s = true) : L.countP p ≤ L.countP q := List.countP_mono_left h
theorem on_split {L : List ByteArray} (d : Nat) : cn onB L d = cn againB L d + cn freshB L d := by
  unfold cn
  induction L with
  | nil => rfl
  | cons s l ih =>
    rw [List.countP_cons, List.countP_cons, List.countP_cons, ih]
    unfold onB againB freshB
    cases (hb s).getD d false <;> cases cau (hb s) 0 d <;> simp <;> omega
theorem ahead_next {L : List ByteArray} (G : Good L) (d : Nat) (hd : d < dys L) : cn aheadB L (d + 1) = cn aheadB L d + cn freshB L d := by
  have key : ∀ l : List ByteArray, (∀ s ∈ l, s.size = dys L) → l.countP (fun s => aheadB (hb s) (d + 1)) = l.countP (fun s => aheadB (hb s) d) + l.countP (fun s => freshB (hb s) d) := by
    intro l
    induction l with
    | nil => intro _; rfl
    | cons s l ih =>
      intro hs
      rw [List.countP_cons, List.countP_cons, List.countP_cons, ih (fun t m => hs t (by simp [m]))]
      have e : aheadB (hb s) (d + 1) = (aheadB (hb s) d || (hb s).getD d false) := cau_end (hb s) 0 d d (by omega) (by rw [hb_len, hs s (by simp)]; exact hd)
      have e2 : freshB (hb s) d = ((hb s).getD d false && !aheadB (hb s) d) := rfl
      rw [e, e2]
      cases aheadB (hb s) d <;> cases (hb s).getD d false <;> simp <;> omega
  exact key L G.size
theorem ahead_zero (L : List ByteArray) : cn aheadB L 0 = 0 := by
  unfold cn aheadB
  rw [List.countP_eq_zero]
  intro s _
  rw [cau_nil _ _ _ (Nat.le_refl _)]
  decide
theorem ahead_all {L : List ByteArray} (G : Good L) : cn aheadB L (dys L) = L.length := by
  unfold cn aheadB
  rw [List.countP_eq_length]
  intro s m
  have hs := G.size s m
  have := G.some_ s m
  unfold cau
  rw [List.drop_zero, Nat.sub_zero, List.take_of_length_le (by rw [hb_len, hs]; exact Nat.le_refl _)]
  exact this
theorem on_alive {L : List ByteArray} (d : Nat) : cn onB L d ≤ cn aliveB L d := count_le (fun s _ h => by unfold onB at h; unfold aliveB; rw [h]; rfl)
theorem alive_ahead {L : List ByteArray} (G : Good L) (d : Nat) (hd : d < dys L) : cn aliveB L d ≤ cn aheadB L (d + 1) := count_le (fun s m h => by
  unfold aheadB
  rw [cau_end (hb s) 0 d d (by omega) (by rw [hb_len, G.size s m]; exact hd)]
  unfold aliveB at h
  cases a : (hb s).getD d false <;> cases b : cau (hb s) 0 d <;> simp_all)
theorem again_on {L : List ByteArray} (d : Nat) : cn againB L d ≤ cn onB L d := count_le (fun s _ h => by unfold againB at h; unfold onB; simp at h; simpa using h.1)
theorem again_ahead {L : List ByteArray} (d : Nat) : cn againB L d ≤ cn aheadB L d := count_le (fun s _ h => by unfold againB at h; unfold aheadB; simp at h; exact h.2)
theorem ctc_rd (L : List ByteArray) (d : Nat) (h : d < dys L) : rd_T42 (ctc L) (d : Int) = ⟨(cn aheadB L d : Nat), (cn onB L d : Nat), (cn againB L d : Nat)⟩ := by
  have h' : d < (ctc L).length := by rw [ctc_len]; exact h
  simp only [rd_T42, List.getD_eq_getElem?_getD, Int.toNat_natCast, List.getElem?_eq_getElem h']
  simp [ctc]
theorem vdays_ok : ∀ l : List S42, (∀ x ∈ l, vday x = 0) → vdays l = 0
  | [], _ => rfl
  | x :: l, h => by
    unfold vdays
    rw [if_pos (h x (by simp))]
    exact vdays_ok l (fun y m => h y (by simp [m]))
theorem ctc_valid {L : List ByteArray} (G : Good L) : vAll (ctc L) = 0 := by
  unfold vAll
  rw [if_neg (by rw [ctc_len]; have := G.days; omega)]
  refine vdays_ok _ (fun x hx => ?_)
  obtain ⟨d, _, rfl⟩ := List.mem_map.1 hx
  have f60 := G.few
  have a := cn_le aheadB L d
  have b := cn_le onB L d
  have c := again_on (L := L) d
  have e := again_ahead (L := L) d
  unfold vday
  rw [if_pos (by unfold In3; simp only []; omega), if_neg (by simp only []; omega)]
theorem top_l1 {L : List ByteArray} (G : Good L) : ∀ (e i : Nat), i + e = dys L → Ev (fun k => wigeontop_TopCounts.l1 k L (ctc L) (dly aliveB L) (dly freshB L) ((cn aheadB L i : Nat) : Int) (i : Int)) true
  | 0, i, hi => by
    have f60 := G.few
    obtain rfl : i = dys L := by omega
    refine Ev.step (fun k => wigeontop_TopCounts.l1.eq_2 ..) (evn (by rw [ctc_len]; omega) ?_)
    rw [ahead_all G, beq_self_eq_true]
    exact Ev.now _
  | e + 1, i, hi => by
    have hil : i < dys L := by omega
    have d8 := G.days
    have f60 := G.few
    have c1 := cn_le aheadB L (i + 1)
    have c2 := cn_le onB L i
    have R := top_l1 G e (i + 1) (by omega)
    have x1 := on_split (L := L) i
    have x2 := on_alive (L := L) i
    have x3 := alive_ahead G i hil
    have x4 := ahead_next G i hil
    refine Ev.step (fun k => wigeontop_TopCounts.l1.eq_2 ..) (evp (by rw [ctc_len]; omega) (evp (by omega) (evp (by rw [dly_len]; omega) ?_)))
    rw [ctc_rd L i hil, dly_rd freshB L i hil, dly_rd aliveB L i hil]
    rw [w64 (n := ((cn againB L i : Nat) : Int) + ((cn freshB L i : Nat) : Int)) (by omega) (by omega), w64 (n := ((cn aheadB L i : Nat) : Int) + ((cn freshB L i : Nat) : Int)) (by omega) (by omega), w64 (n := (i : Int) + 1) (by omega) (by omega)]
    refine evp (by simp only []; omega) (evp (by rw [dly_len]; omega) (evn (by simp only []; omega) (evn (by omega) ?_)))
    rw [x4] at R
    exact R
theorem top_j4 (L : List ByteArray) (hL : L.length ≤ 1000) : Ev (fun k => wigeontop_TopCounts.j4 k L) true := by
  by_cases v : vhR L = 0
  · have G := vhR_good v
    have V := vd_ev (ctc L) (by rw [ctc_len]; have := G.days; omega)
    rw [ctc_valid G] at V
    have T := top_l1 G (dys L) 0 (by omega)
    rw [ahead_zero] at T
    refine Ev.step (fun k => wigeontop_TopCounts.j4.eq_2 ..) (evb (Catches_ev v) (evp rfl (evb (Alive_ev v) (evb (First_ev v) (evp rfl (evp rfl (evp (by simp [dly_len, ctc_len]) (evp (by simp [dly_len, ctc_len]) (evb V ?_)))))))))
    exact Ev.step (fun k => wigeontop_TopCounts.j5.eq_2 ..) (evn (by simp) T)
  · exact Ev.step (fun k => wigeontop_TopCounts.j4.eq_2 ..) (evb (Catches_err hL v) (evn v (Ev.now _)))
theorem top_l0 (L : List ByteArray) (hL : L.length ≤ 1000) (m c r b : Nat) (hm : m ≤ 60) (hc : c ≤ 60) (h1 : r ≤ m) (h2 : r ≤ c) (hb0 : m + c ≤ b + r) (hb : b ≤ 60) (up : m + c < b + r → b * r < m * c) (st : b < 60 → ¬ (b + 1) * r < m * c) :
    ∀ (e n : Nat), n + e = 60 → m + c ≤ n + r → Ev (fun k => wigeontop_TopCounts.l0 k L m c r b ((n + 1 : Nat) : Int)) true
  | 0, n, hn, hl => by
    have A := AtMost_ok b m c c hb (by omega) (by omega) hc
    have p := Cnt.ch_pos b c (by omega)
    rw [Cnt.wN_all b m c (by omega), Nat.gcd_self, Nat.div_self p] at A
    exact Ev.step (fun k => wigeontop_TopCounts.l0.eq_2 ..) (evn (by omega) (evb A (evp rfl (evn (by decide) (top_j4 L hL)))))
  | e + 1, n, hn, hl => by
    obtain ⟨x, y, O, hy, hxy⟩ := Odds_val n m c r (by omega) (by omega) (by omega) h1 h2 hl
    have iff : y < x ↔ n + 1 ≤ b := by
      rw [hxy]
      constructor
      · intro q
        by_cases z : n + 1 ≤ b
        · exact z
        · exact absurd q (fun q => st (by omega) (Nat.lt_of_le_of_lt (Nat.mul_le_mul_right r (show b + 1 ≤ n + 1 by omega)) q))
      · intro q
        exact Nat.lt_of_le_of_lt (Nat.mul_le_mul_right r q) (up (by omega))
    refine Ev.step (fun k => wigeontop_TopCounts.l0.eq_2 ..) (evp (by omega) (evb O (evp rfl (evn (by simp only []; omega) (evn ?_ ?_)))))
    · have : (decide ((x : Int) > (y : Int))) = decide (((n + 1 : Nat) : Int) ≤ (b : Int)) := decide_eq_decide.2 (by omega)
      simp only []
      rw [this]
      simp
    · rw [show wrap64 (((n + 1 : Nat) : Int) + 1) = ((n + 1 + 1 : Nat) : Int) by rw [w64 (by omega) (by omega)]; rfl]
      exact top_l0 L hL m c r b hm hc h1 h2 hb0 hb up st e (n + 1) (by omega) (by omega)
theorem TopCounts (a0_0 : Int) (a0_1 : Int) (a0_2 : Int) (a0_3 : Int) (a1 : List ByteArray) (h0_0 : (Lit.int .i64 a0_0).wf = true) (h0_1 : (Lit.int .i64 a0_1).wf = true) (h0_2 : (Lit.int .i64 a0_2).wf = true) (h0_3 : (Lit.int .i64 a0_3).wf = true) (h1 : (a1.length ≤ 9223372036854775807 ∧ ∀ x_ ∈ a1, x_.size ≤ 9223372036854775807)) : ∃ k, wigeontop_TopCounts.f k a0_0 a0_1 a0_2 a0_3 a1 = some true := by
  refine Ev.rounds (g := fun k => wigeontop_TopCounts.f k a0_0 a0_1 a0_2 a0_3 a1) ?_
  obtain ⟨hl, _⟩ := h1
  unfold wigeontop_TopCounts.f
  have B : Ev (fun k => count_Binomial.f k 6 3) (20, 0) := Ev.of (fun k => count_Binomial.mono 6 3 k) (k := 100) (by decide +kernel)
  refine evb B (evp rfl (Ev.step (fun k => wigeontop_TopCounts.j0.eq_2 ..) (evn (by simp) ?_)))
  by_cases h : (a1.length : Int) > 200
  · exact evp h (Ev.now _)
  · refine evn h ?_
    have hL : a1.length ≤ 1000 := by omega
    have J4 : ∀ b : Int, Ev (fun k => wigeontop_TopCounts.j1 k a1 a0_1 a0_2 a0_3 b false) true := fun b =>
      Ev.step (fun k => wigeontop_TopCounts.j1.eq_2 ..) (evn (by simp) (top_j4 a1 hL))
    by_cases hin : (0 ≤ a0_1 ∧ a0_1 ≤ 60) ∧ (0 ≤ a0_2 ∧ a0_2 ≤ 60) ∧ (0 ≤ a0_3 ∧ a0_3 ≤ 60)
    · by_cases hs : a0_3 ≤ a0_1 ∧ a0_3 ≤ a0_2 ∧ a0_1 + a0_2 - a0_3 ≤ 60
      · obtain ⟨x1, x2, x3⟩ := hin
        have S := Best_some a0_1 a0_2 a0_3 x1 x2 x3 hs.1 hs.2.1 hs.2.2
        have C := bst_char a0_1 a0_2 a0_3 (60 - (a0_1 + a0_2 - a0_3)).toNat (a0_1 + a0_2 - a0_3) (by omega)
        generalize bst a0_1 a0_2 a0_3 (60 - (a0_1 + a0_2 - a0_3)).toNat (a0_1 + a0_2 - a0_3) = bb at S C
        obtain ⟨c1, c2, c3, c4⟩ := C
        obtain ⟨m, rfl⟩ : ∃ m : Nat, a0_1 = m := ⟨a0_1.toNat, by omega⟩
        obtain ⟨c, rfl⟩ : ∃ m : Nat, a0_2 = m := ⟨a0_2.toNat, by omega⟩
        obtain ⟨r, rfl⟩ : ∃ m : Nat, a0_3 = m := ⟨a0_3.toNat, by omega⟩
        obtain ⟨b, rfl⟩ : ∃ m : Nat, bb = m := ⟨bb.toNat, by omega⟩
        have e1 : wrap64 (wrap64 ((m : Int) + c) - r) = ((m + c - r : Nat) : Int) := by rw [w64 (n := (m : Int) + c) (by omega) (by omega), w64 (by omega) (by omega)]; omega
        have nc : ∀ u v w x : Nat, ((u : Int) * v < (w : Int) * x) ↔ u * v < w * x := fun u v w x => by rw [← Int.natCast_mul, ← Int.natCast_mul]; omega
        have T := top_l0 a1 hL m c r b (by omega) (by omega) (by omega) (by omega) (by omega) (by omega) (fun q => (nc _ _ _ _).1 (c3 (by omega))) (fun q k => c4 (by omega) (by rw [show (b : Int) + 1 = ((b + 1 : Nat) : Int) from rfl]; exact (nc _ _ _ _).2 k)) (60 - (m + c - r)) (m + c - r) (by omega) (by omega)
        refine evb S (evp rfl (Ev.step (fun k => wigeontop_TopCounts.j1.eq_2 ..) (evp rfl ?_)))
        rw [e1]
        refine evn (by simp only []; omega) (Ev.step (fun k => wigeontop_TopCounts.j2.eq_2 ..) (evn (by simp only [decide_eq_true_eq]; omega) ?_))
        rw [show wrap64 (((m + c - r : Nat) : Int) + 1) = ((m + c - r + 1 : Nat) : Int) by rw [w64 (by omega) (by omega)]; rfl]
        exact T
      · exact evb (Best_none a0_1 a0_2 a0_3 hin.1 hin.2.1 hin.2.2 (by omega)) (evp rfl (J4 _))
    · exact evb (Best_arg a0_1 a0_2 a0_3 hin) (evn (by decide) (J4 _))

end Go.Proofs.YtkmhccllligcmaaDoor.Pure

