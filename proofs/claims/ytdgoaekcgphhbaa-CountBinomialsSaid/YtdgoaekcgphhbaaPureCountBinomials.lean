/- The plain law behind the row: what the printed functions of this law compute answers true, for every input that the row lets in. -/
import Derived.Test.YtdgoaekcgphhbaaPCountBinomialsx4
namespace Go.Proofs.Ytdgoaekcgphhbaa.Pure
open Go.RowKit Go.Proofs.Ytdgoaekcgphhbaa.PCountBinomials Go.Proofs.YtdgoaekcgphhbaaW.PrintWords Go.Proofs.YtdgoaekcgphhbaaW.PrintLast
namespace Cnt
/-- binomial coefficients by Pascal's triangle -/
def ch : Nat → Nat → Nat
  | _, 0 => 1
  | 0, _ + 1 => 0
  | n + 1, k + 1 => ch n k + ch n (k + 1)
@[simp] theorem ch_zero (n : Nat) : ch n 0 = 1 := by cases n <;> rfl
@[simp] theorem ch_zs (k : Nat) : ch 0 (k + 1) = 0 := rfl
theorem ch_ss (n k : Nat) : ch (n + 1) (k + 1) = ch n k + ch n (k + 1) := rfl
theorem ch_gt : ∀ (n k : Nat), n < k → ch n k = 0
  | 0, 0, h => by omega
  | 0, k + 1, _ => rfl
  | n + 1, 0, h => by omega
  | n + 1, k + 1, h => by rw [ch_ss, ch_gt n k (by omega), ch_gt n (k + 1) (by omega)]
theorem ch_self (n : Nat) : ch n n = 1 := by
  induction n with
  | zero => rfl
  | succ n ih => rw [ch_ss, ih, ch_gt n (n + 1) (by omega)]
theorem ch_pos : ∀ (n k : Nat), k ≤ n → 0 < ch n k
  | n, 0, _ => by simp
  | 0, k + 1, h => by omega
  | n + 1, k + 1, h => by rw [ch_ss]; have := ch_pos n k (by omega); omega
/-- absorption: k * C(n,k) = n * C(n-1,k-1) -/
theorem ch_absorb : ∀ (n k : Nat), (k + 1) * ch (n + 1) (k + 1) = (n + 1) * ch n k
  | 0, 0 => by simp [ch]
  | 0, k + 1 => by simp [ch]
  | n + 1, 0 => by
    have h := ch_absorb n 0
    rw [ch_ss (n + 1) 0]; simp at h ⊢; omega
  | n + 1, k + 1 => by
    have h1 := ch_absorb n k
    have h2 := ch_absorb n (k + 1)
    rw [ch_ss (n + 1) (k + 1)]
    have e1 : (k + 1 + 1) * (ch (n + 1) (k + 1) + ch (n + 1) (k + 1 + 1)) = (k + 1) * ch (n + 1) (k + 1) + ch (n + 1) (k + 1) + (k + 1 + 1) * ch (n + 1) (k + 1 + 1) := by
      rw [Nat.mul_add, Nat.succ_mul (k + 1)]
    rw [e1, h1, h2]
    have e2 : (n + 1 + 1) * ch (n + 1) (k + 1) = (n + 1) * ch (n + 1) (k + 1) + ch (n + 1) (k + 1) := Nat.succ_mul _ _
    rw [e2, ch_ss n k, Nat.mul_add]; omega
/-- the next one of a row -/
theorem ch_next : ∀ (n k : Nat), (k + 1) * ch n (k + 1) = (n - k) * ch n k
  | 0, k => by simp
  | n + 1, 0 => by have := ch_absorb n 0; simp at this ⊢; omega
  | n + 1, k + 1 => by
    by_cases h : k ≤ n
    · have h1 := ch_next n k
      have h2 := ch_next n (k + 1)
      have ha := ch_absorb n k
      rw [ch_ss n (k + 1), ch_ss n k, Nat.mul_add, h2]
      obtain ⟨d, rfl⟩ : ∃ d, n = k + d := ⟨n - k, by omega⟩
      simp only [show k + d - k = d from by omega, show k + d + 1 - (k + 1) = d from by omega] at *
      rw [Nat.mul_add]
      have : (k + 1 + 1) * ch (k + d) (k + 1) = (k + 1) * ch (k + d) (k + 1) + ch (k + d) (k + 1) := Nat.succ_mul _ _
      rw [this, h1]
      cases d with
      | zero => simp [ch_gt k (k + 1) (by omega)]
      | succ d => 
        rw [show k + (d + 1) - (k + 1) = d from by omega]
        have : (d + 1) * ch (k + (d + 1)) (k + 1) = d * ch (k + (d + 1)) (k + 1) + ch (k + (d + 1)) (k + 1) := Nat.succ_mul _ _
        omega
    · rw [ch_gt (n + 1) (k + 1 + 1) (by omega), show n + 1 - (k + 1) = 0 from by omega]; simp
theorem ch_symm : ∀ (n k : Nat), k ≤ n → ch n (n - k) = ch n k
  | n, 0, _ => by simp [ch_self]
  | 0, k + 1, h => by omega
  | n + 1, k + 1, h => by
    rw [ch_ss, show n + 1 - (k + 1) = n - k from by omega]
    by_cases e : k = n
    · subst e; simp [ch_self, ch_gt k (k + 1) (by omega)]
    · obtain ⟨d, hd⟩ : ∃ d, n - k = d + 1 := ⟨n - k - 1, by omega⟩
      rw [hd, ch_ss, ← hd, ch_symm n k (by omega), show d = n - (k + 1) from by omega, ch_symm n (k + 1) (by omega)]; omega
theorem ch_mono (n k : Nat) : ch n k ≤ ch (n + 1) k := by
  cases k with
  | zero => simp
  | succ k => rw [ch_ss]; omega
theorem ch_le : ∀ (d n k : Nat), ch n k ≤ ch (n + d) k
  | 0, _, _ => Nat.le_refl _
  | d + 1, n, k => Nat.le_trans (ch_le d n k) (ch_mono _ _)
/-- a row of the triangle as a list -/
def nx : Nat → List Nat → List Nat
  | a, [] => [a]
  | a, b :: l => (a + b) :: nx b l
def rowOf : Nat → List Nat
  | 0 => [1]
  | n + 1 => nx 0 (rowOf n)
theorem nx_get : ∀ (l : List Nat) (a i : Nat), (nx a l).getD i 0 = (if i = 0 then a else l.getD (i - 1) 0) + l.getD i 0
  | [], a, 0 => by simp [nx]
  | [], a, i + 1 => by simp [nx]
  | b :: l, a, 0 => by simp [nx]
  | b :: l, a, 1 => by
    have := nx_get l b 0; simp [nx] at this ⊢; omega
  | b :: l, a, i + 2 => by
    have := nx_get l b (i + 1)
    simp only [nx, List.getD_cons_succ] at this ⊢
    rw [this]; simp
theorem rowOf_get : ∀ (n k : Nat), (rowOf n).getD k 0 = ch n k
  | 0, 0 => rfl
  | 0, k + 1 => rfl
  | n + 1, 0 => by simp only [rowOf]; rw [nx_get, rowOf_get n 0]; simp
  | n + 1, k + 1 => by simp only [rowOf]; rw [nx_get, rowOf_get n (k + 1), if_neg (by omega), Nat.add_sub_cancel, rowOf_get n k, ch_ss]
def big : Nat := 118264581564861424
theorem row60 : ∀ x ∈ rowOf 60, x ≤ 118264581564861424 := by decide +kernel
theorem ch_bound (n k : Nat) (h : n ≤ 60) : ch n k ≤ 118264581564861424 := by
  have h1 := ch_le (60 - n) n k
  rw [show n + (60 - n) = 60 from by omega, ← rowOf_get 60 k] at h1
  refine Nat.le_trans h1 ?_
  by_cases e : k < (rowOf 60).length
  · rw [List.getD_eq_getElem?_getD, List.getElem?_eq_getElem e]; exact row60 _ (List.getElem_mem e)
  · rw [List.getD_eq_getElem?_getD, List.getElem?_eq_none (by omega)]; simp
/-- sums -/
def sm (f : Nat → Nat) : Nat → Nat
  | 0 => 0
  | n + 1 => sm f n + f n
theorem sm_congr {f g : Nat → Nat} : ∀ n, (∀ i, i < n → f i = g i) → sm f n = sm g n
  | 0, _ => rfl
  | n + 1, h => by rw [sm, sm, sm_congr n (fun i hi => h i (by omega)), h n (by omega)]
theorem sm_add (f g : Nat → Nat) : ∀ n, sm (fun i => f i + g i) n = sm f n + sm g n
  | 0 => rfl
  | n + 1 => by simp only [sm]; rw [sm_add f g n]; omega
theorem sm_shift (f : Nat → Nat) : ∀ n, sm f (n + 1) = f 0 + sm (fun i => f (i + 1)) n
  | 0 => by simp [sm]
  | n + 1 => by rw [sm, sm_shift f n, sm]; omega
theorem sm_mul (a : Nat) (f : Nat → Nat) : ∀ n, sm (fun i => a * f i) n = a * sm f n
  | 0 => rfl
  | n + 1 => by simp only [sm]; rw [sm_mul a f n, Nat.mul_add]
theorem sm_le (f : Nat → Nat) : ∀ n i, i < n → f i ≤ sm f n
  | 0, i, h => by omega
  | n + 1, i, h => by
    rw [sm]
    by_cases e : i = n
    · subst e; omega
    · have := sm_le f n i (by omega); omega
theorem sm_mono (f : Nat → Nat) : ∀ d n, sm f n ≤ sm f (n + d)
  | 0, n => Nat.le_refl _
  | d + 1, n => by have := sm_mono f d n; rw [Nat.add_succ, sm]; omega
/-- Vandermonde -/
theorem vander : ∀ (m r c : Nat), sm (fun i => ch m i * ch r (c - i)) (c + 1) = ch (m + r) c
  | 0, r, c => by
    rw [sm_shift]
    have : sm (fun i => ch 0 (i + 1) * ch r (c - (i + 1))) c = sm (fun i => 0 * i) c := sm_congr c (fun i _ => by simp)
    rw [this, sm_mul]; simp
  | m + 1, r, 0 => by simp [sm]
  | m + 1, r, c + 1 => by
    rw [show m + 1 + r = (m + r) + 1 from by omega, ch_ss, ← vander m r c, ← vander m r (c + 1), sm_shift (n := c + 1), sm_shift (n := c + 1)]
    have : sm (fun i => ch (m + 1) (i + 1) * ch r (c + 1 - (i + 1))) (c + 1) = sm (fun i => ch m i * ch r (c - i) + ch m (i + 1) * ch r (c + 1 - (i + 1))) (c + 1) :=
      sm_congr _ (fun i _ => by rw [ch_ss, Nat.add_mul, show c + 1 - (i + 1) = c - i from by omega])
    rw [this, sm_add]; simp; omega
end Cnt

-- base
theorem evp {α : Type} {c : Prop} [Decidable c] {f g : Nat → Option α} {r : α} (h : c) (k : Ev f r) : Ev (fun n => if c then f n else g n) r :=
  Ev.congr (fun _ => if_pos h) k
theorem evn {α : Type} {c : Prop} [Decidable c] {f g : Nat → Option α} {r : α} (h : ¬ c) (k : Ev g r) : Ev (fun n => if c then f n else g n) r :=
  Ev.congr (fun _ => if_neg h) k
theorem evb {α β : Type} {g : Nat → Option α} {f : Nat → α → Option β} {a : α} {r : β} (h : Ev g a) (k : Ev (fun n => f n a) r) : Ev (fun n => (g n).bind (f n)) r := Ev.bind h k
theorem evs {α β : Type} {x : Option α} {f : Nat → α → Option β} {a : α} {r : β} (h : x = some a) (k : Ev (fun n => f n a) r) : Ev (fun n => x.bind (f n)) r := by
  subst h; exact k
theorem w64 {n : Int} (h : -9223372036854775808 ≤ n) (h2 : n ≤ 9223372036854775807) : wrap64 n = n := by unfold wrap64; omega
theorem rd_at (l : List Int) (i : Nat) (h : i < l.length) : rd l (i : Int) = l[i] := by
  simp [rd, List.getD_eq_getElem?_getD, List.getElem?_eq_getElem h]
def inB (x : Int) : Bool := decide (0 ≤ x ∧ x ≤ 60)
/-- binomial coefficients of whole numbers -/
def bin (n k : Int) : Int := if 0 ≤ k ∧ k ≤ n then ((Cnt.ch n.toNat k.toNat : Nat) : Int) else 0
theorem bin_nn (n k : Nat) : bin n k = (Cnt.ch n k : Nat) := by
  unfold bin
  by_cases h : k ≤ n
  · rw [if_pos (by omega)]; simp
  · rw [if_neg (by omega), Cnt.ch_gt n k (by omega)]; rfl
theorem bin_lo (n k : Int) : 0 ≤ bin n k := by unfold bin; split <;> omega
theorem bin_hi (n k : Int) (h : n ≤ 60) : bin n k ≤ 118264581564861424 := by
  unfold bin; split
  · have := Cnt.ch_bound n.toNat k.toNat (by omega); omega
  · omega
theorem bin_pos (n k : Int) (h : 0 ≤ k) (h' : k ≤ n) : 0 < bin n k := by
  unfold bin; rw [if_pos ⟨h, h'⟩]; have := Cnt.ch_pos n.toNat k.toNat (by omega); omega
/-- the ways -/
def wys (b m c r : Int) : Int := bin m r * bin (b - m) (c - r)
theorem wys_lo (b m c r : Int) : 0 ≤ wys b m c r := Int.mul_nonneg (bin_lo _ _) (bin_lo _ _)
theorem wys_zero (b m c r : Int) (h : r < 0 ∨ m < r ∨ c < r ∨ b - m < c - r) : wys b m c r = 0 := by
  unfold wys bin
  by_cases h1 : 0 ≤ r ∧ r ≤ m
  · rw [if_neg (show ¬ (0 ≤ c - r ∧ c - r ≤ b - m) by omega)]; simp
  · rw [if_neg h1]; simp
theorem wys_nat (b m c r : Nat) (h : m ≤ b) (h2 : r ≤ c) : wys b m c r = ((Cnt.ch m r * Cnt.ch (b - m) (c - r) : Nat) : Int) := by
  unfold wys
  rw [show (b : Int) - m = ((b - m : Nat) : Int) by omega, show (c : Int) - r = ((c - r : Nat) : Int) by omega, bin_nn, bin_nn]; simp
theorem wys_hi (b m c r : Int) (h0 : 0 ≤ m) (h : m ≤ b) (hb : b ≤ 60) : wys b m c r ≤ 118264581564861424 := by
  by_cases h1 : r < 0 ∨ m < r ∨ c < r ∨ b - m < c - r
  · rw [wys_zero _ _ _ _ h1]; omega
  · obtain ⟨b, rfl⟩ := Int.eq_ofNat_of_zero_le (show 0 ≤ b by omega)
    obtain ⟨m, rfl⟩ := Int.eq_ofNat_of_zero_le (show 0 ≤ m by omega)
    obtain ⟨c, rfl⟩ := Int.eq_ofNat_of_zero_le (show 0 ≤ c by omega)
    obtain ⟨r, rfl⟩ := Int.eq_ofNat_of_zero_le (show 0 ≤ r by omega)
    rw [wys_nat _ _ _ _ (by omega) (by omega)]
    have v := Cnt.vander m (b - m) c
    have l := Cnt.sm_le (fun i => Cnt.ch m i * Cnt.ch (b - m) (c - i)) (c + 1) r (by omega)
    rw [v, show m + (b - m) = b by omega] at l
    have := Cnt.ch_bound b c (by omega)
    omega

-- examine
theorem count_within_eq (a b c : Int) : count_within.f a b c = some (decide (b ≤ a ∧ a ≤ c)) := by
  unfold count_within.f
  by_cases h : a ≥ b
  · rw [if_pos h]; have : (b ≤ a ∧ a ≤ c) ↔ a ≤ c := by omega
    simp [this]
  · rw [if_neg h]; have : ¬ (b ≤ a ∧ a ≤ c) := by omega
    simp [this]
theorem examine_l0 (l : List Int) (hl : l.length ≤ 1000) : ∀ d i : Nat, i + d = l.length → Ev (fun k => count_examine.l0 k l (l.length : Int) (i : Int)) (if (l.drop i).all inB then (0 : Int) else 1)
  | 0, i, h => by
    refine Ev.step (fun k => count_examine.l0.eq_2 ..) (evn (by omega) ?_)
    rw [List.drop_eq_nil_of_le (by omega)]
    exact Ev.now _
  | d + 1, i, h => by
    refine Ev.step (fun k => count_examine.l0.eq_2 ..) (evp (by omega) (evp (by omega) (evp (by omega) (evs (count_within_eq ..) ?_))))
    rw [rd_at l i (by omega), List.drop_eq_getElem_cons (show i < l.length by omega), List.all_cons]
    by_cases hc : 0 ≤ l[i] ∧ l[i] ≤ 60
    · refine evp (by simpa using hc) ?_
      rw [show inB l[i] = true from by simpa [inB] using hc, Bool.true_and, w64 (by omega) (by omega)]
      exact examine_l0 l hl d (i + 1) (by omega)
    · refine evn (by simpa using hc) ?_
      rw [show inB l[i] = false from by simpa [inB] using hc, Bool.false_and]
      exact Ev.now _
theorem examine_ev (l : List Int) (hl : l.length ≤ 1000) : Ev (fun k => count_examine.f k l) (if l.all inB then (0 : Int) else 1) := by
  have := examine_l0 l hl l.length 0 (by omega)
  exact this
theorem examine_ok (l : List Int) (hl : l.length ≤ 1000) (h : l.all inB = true) : Ev (fun k => count_examine.f k l) (0 : Int) := by
  have := examine_ev l hl; rwa [if_pos h] at this
theorem examine_no (l : List Int) (hl : l.length ≤ 1000) (h : ¬ l.all inB = true) : Ev (fun k => count_examine.f k l) (1 : Int) := by
  have := examine_ev l hl; rwa [if_neg h] at this

-- areBirds
theorem ref_within_eq (a b c : Int) : wigeonref06_within.f a b c = some (decide (b ≤ a ∧ a ≤ c)) := by
  unfold wigeonref06_within.f
  by_cases h : a ≥ b
  · rw [if_pos h]; have : (b ≤ a ∧ a ≤ c) ↔ a ≤ c := by omega
    simp [this]
  · rw [if_neg h]; have : ¬ (b ≤ a ∧ a ≤ c) := by omega
    simp [this]
theorem birds_l0 (l : List Int) (hl : l.length ≤ 1000) : ∀ d i : Nat, i + d = l.length → Ev (fun k => wigeonref06_areBirds.l0 k l (i : Int)) ((l.drop i).all inB)
  | 0, i, h => by
    refine Ev.step (fun k => wigeonref06_areBirds.l0.eq_2 ..) (evn (by omega) ?_)
    rw [List.drop_eq_nil_of_le (by omega)]
    exact Ev.now _
  | d + 1, i, h => by
    refine Ev.step (fun k => wigeonref06_areBirds.l0.eq_2 ..) (evp (by omega) (evp (by omega) (evs (ref_within_eq ..) ?_)))
    rw [rd_at l i (by omega), List.drop_eq_getElem_cons (show i < l.length by omega), List.all_cons]
    by_cases hc : 0 ≤ l[i] ∧ l[i] ≤ 60
    · refine evp (by simpa using hc) ?_
      rw [show inB l[i] = true from by simpa [inB] using hc, Bool.true_and, w64 (by omega) (by omega)]
      exact birds_l0 l hl d (i + 1) (by omega)
    · refine evn (by simpa using hc) ?_
      rw [show inB l[i] = false from by simpa [inB] using hc, Bool.false_and]
      exact Ev.now _
theorem birds_ev (l : List Int) (hl : l.length ≤ 1000) : Ev (fun k => wigeonref06_areBirds.f k l) (l.all inB) := birds_l0 l hl l.length 0 (by omega)
theorem birds_ok (l : List Int) (hl : l.length ≤ 1000) (h : l.all inB = true) : Ev (fun k => wigeonref06_areBirds.f k l) true := by
  have := birds_ev l hl; rwa [h] at this
theorem birds_no (l : List Int) (hl : l.length ≤ 1000) (h : ¬ l.all inB = true) : Ev (fun k => wigeonref06_areBirds.f k l) false := by
  have := birds_ev l hl; rwa [show l.all inB = false from by simpa using h] at this

-- binomial
def rowL (f : Nat → Nat) (k : Nat) : List Int := (List.range (k + 1)).map fun j => ((f j : Nat) : Int)
theorem rowL_length (f : Nat → Nat) (k : Nat) : (rowL f k).length = k + 1 := by simp [rowL]
theorem rowL_rd (f : Nat → Nat) (k i : Nat) (h : i ≤ k) : rd (rowL f k) (i : Int) = (f i : Nat) := by
  rw [rd_at _ _ (by rw [rowL_length]; omega)]; simp [rowL]
theorem rowL_congr (f g : Nat → Nat) (k : Nat) (h : ∀ j, j ≤ k → f j = g j) : rowL f k = rowL g k := by
  unfold rowL
  refine List.map_congr_left fun j hj => ?_
  rw [h j (by have := List.mem_range.1 hj; omega)]
theorem rowL_set (f : Nat → Nat) (k i v : Nat) : (rowL f k).set i ((v : Nat) : Int) = rowL (fun j => if j = i then v else f j) k := by
  refine List.ext_getElem (by simp [rowL]) fun j h1 h2 => ?_
  rw [List.getElem_set]
  simp only [rowL, List.getElem_map, List.getElem_range]
  by_cases e : i = j
  · subst e; simp
  · rw [if_neg e, if_neg (fun h => e h.symm)]
theorem rowL_start (k : Nat) : (List.replicate (k + 1) (0 : Int)).set 0 1 = rowL (Cnt.ch 0) k := by
  refine List.ext_getElem (by simp [rowL]) fun j h1 h2 => ?_
  rw [List.getElem_set]
  simp only [rowL, List.getElem_map, List.getElem_range, List.getElem_replicate]
  cases j with
  | zero => simp
  | succ j => simp
def mixR (t i j : Nat) : Nat := if i < j then Cnt.ch (t + 1) j else Cnt.ch t j
theorem binomial_l1 (k t n : Nat) (hk : k ≤ 60) (ht : t < 60) (r : Int) (H : Ev (fun K => count_binomial.l0 K (k : Int) (rowL (Cnt.ch (t + 1)) k) (n : Int) ((t + 1 : Nat) : Int)) r) :
    ∀ i : Nat, i ≤ k → Ev (fun K => count_binomial.l1 K (k : Int) (rowL (mixR t i) k) (i : Int) (n : Int) (t : Int)) r
  | 0, _ => by
    refine Ev.step (fun K => count_binomial.l1.eq_2 ..) (evn (by omega) ?_)
    rw [w64 (by omega) (by omega), rowL_congr (mixR t 0) (Cnt.ch (t + 1)) k]
    · exact H
    · intro j _
      unfold mixR
      cases j with
      | zero => simp
      | succ j => rw [if_pos (by omega)]
  | i + 1, h => by
    refine Ev.step (fun K => count_binomial.l1.eq_2 ..) (evp (by omega) (evp (by omega) (evp (by rw [rowL_length]; omega) ?_)))
    rw [show ((i + 1 : Nat) : Int) - 1 = (i : Int) by omega, w64 (by omega) (by omega)]
    refine evp (by omega) (evp (by rw [rowL_length]; omega) ?_)
    have b1 := Cnt.ch_bound (t + 1) (i + 1) (by omega)
    have e1 := Cnt.ch_ss t i
    have m1 : mixR t (i + 1) (i + 1) = Cnt.ch t (i + 1) := by simp [mixR]
    have m2 : mixR t (i + 1) i = Cnt.ch t i := by simp [mixR, show ¬ i + 1 < i by omega]
    rw [rowL_rd _ _ _ (by omega), rowL_rd _ _ _ (by omega), m1, m2, w64 (by omega) (by omega), show ((i + 1 : Nat) : Int).toNat = i + 1 by omega,
      show ((Cnt.ch t (i + 1) : Nat) : Int) + ((Cnt.ch t i : Nat) : Int) = ((Cnt.ch (t + 1) (i + 1) : Nat) : Int) by omega, rowL_set,
      rowL_congr _ (mixR t i) k]
    · exact binomial_l1 k t n hk ht r H i (by omega)
    · intro j _
      unfold mixR
      by_cases e : j = i + 1
      · subst e; rw [if_pos rfl, if_pos (by omega)]
      · rw [if_neg e]
        by_cases e2 : i + 1 < j
        · rw [if_pos e2, if_pos (by omega)]
        · rw [if_neg e2, if_neg (by omega)]
theorem binomial_l0 (k n : Nat) (hn : n ≤ 60) (hk : k ≤ n) : ∀ d t : Nat, t + d = n → Ev (fun K => count_binomial.l0 K (k : Int) (rowL (Cnt.ch t) k) (n : Int) (t : Int)) ((Cnt.ch n k : Nat) : Int)
  | 0, t, h => by
    obtain rfl : t = n := by omega
    refine Ev.step (fun K => count_binomial.l0.eq_2 ..) (evn (by omega) (evp (by omega) (evp (by rw [rowL_length]; omega) ?_)))
    rw [rowL_rd _ _ _ (by omega)]
    exact Ev.now _
  | d + 1, t, h => by
    refine Ev.step (fun K => count_binomial.l0.eq_2 ..) (evp (by omega) ?_)
    have := binomial_l1 k t n (by omega) (by omega) _ (binomial_l0 k n hn hk d (t + 1) (by omega)) k (Nat.le_refl _)
    rwa [rowL_congr (mixR t k) (Cnt.ch t) k (fun j hj => by simp [mixR, show ¬ k < j by omega])] at this
theorem binomial_ev (n k : Int) (hn : n ≤ 60) : Ev (fun K => count_binomial.f K n k) (bin n k) := by
  unfold count_binomial.f
  refine evs (count_within_eq ..) ?_
  by_cases h : 0 ≤ k ∧ k ≤ n
  · refine evp (by simpa using h) ?_
    obtain ⟨k, rfl⟩ := Int.eq_ofNat_of_zero_le h.1
    obtain ⟨n, rfl⟩ := Int.eq_ofNat_of_zero_le (show 0 ≤ n by omega)
    rw [w64 (by omega) (by omega), show ((k : Int) + 1).toNat = k + 1 by omega]
    refine evp (by omega) (evp (by omega) (evs rfl (evp (by first | (simp; done) | (simp; omega)) ?_)))
    rw [show (0 : Int).toNat = 0 from rfl, rowL_start, bin_nn]
    exact binomial_l0 k n (by omega) (by omega) n 0 (by omega)
  · refine evn (by simpa using h) ?_
    unfold bin; rw [if_neg h]
    exact Ev.now _

-- refbinomial
theorem refbin_l0 (n k : Nat) (hn : n ≤ 60) (hk : k ≤ n) : ∀ d i : Nat, i + d = min k (n - k) → Ev (fun K => wigeonref06_binomial.l0 K (n : Int) (k : Int) ((Cnt.ch n i : Nat) : Int) (i : Int)) ((Cnt.ch n k : Nat) : Int)
  | 0, i, h => by
    refine Ev.step (fun K => wigeonref06_binomial.l0.eq_2 ..) ?_
    rw [w64 (by omega) (by omega)]
    refine evn (by unfold mn; split <;> omega) ?_
    have : Cnt.ch n i = Cnt.ch n k := by
      by_cases e : k ≤ n - k
      · rw [show i = k by omega]
      · rw [show i = n - k by omega, Cnt.ch_symm n k hk]
    rw [this]; exact Ev.now _
  | d + 1, i, h => by
    refine Ev.step (fun K => wigeonref06_binomial.l0.eq_2 ..) ?_
    have b := Cnt.ch_bound n (i + 1) hn
    have e := Cnt.ch_next n i
    have e1 : ((Cnt.ch n i : Nat) : Int) * ((n : Int) - i) = ((i + 1 : Nat) : Int) * ((Cnt.ch n (i + 1) : Nat) : Int) := by
      rw [show (n : Int) - i = ((n - i : Nat) : Int) by omega, Int.mul_comm, ← Int.natCast_mul, ← Int.natCast_mul, e]
    have hi : i + 1 ≤ 30 := by omega
    have e2 : ((i + 1 : Nat) : Int) * ((Cnt.ch n (i + 1) : Nat) : Int) ≤ 30 * 118264581564861424 := by
      have : (i + 1) * Cnt.ch n (i + 1) ≤ 30 * 118264581564861424 := Nat.mul_le_mul hi b
      rw [← Int.natCast_mul]; omega
    have e3 : 0 ≤ ((i + 1 : Nat) : Int) * ((Cnt.ch n (i + 1) : Nat) : Int) := Int.mul_nonneg (by omega) (by omega)
    rw [w64 (n := (n : Int) - k) (by omega) (by omega), w64 (n := (i : Int) + 1) (by omega) (by omega), w64 (n := (n : Int) - i) (by omega) (by omega), e1, w64 (n := ((i + 1 : Nat) : Int) * ((Cnt.ch n (i + 1) : Nat) : Int)) (by omega) (by omega),
      show (i : Int) + 1 = ((i + 1 : Nat) : Int) by omega, Int.mul_tdiv_cancel_left _ (by omega), w64 (n := ((Cnt.ch n (i + 1) : Nat) : Int)) (by omega) (by omega)]
    refine evp (by unfold mn; split <;> omega) (evn (by omega) ?_)
    exact refbin_l0 n k hn hk d (i + 1) (by omega)
theorem refbin_ev (n k : Int) (hn : n ≤ 60) : Ev (fun K => wigeonref06_binomial.f K n k) (bin n k) := by
  unfold wigeonref06_binomial.f
  by_cases h0 : k < 0
  · refine evp h0 (Ev.step (fun K => wigeonref06_binomial.j0.eq_2 ..) (evp rfl ?_))
    unfold bin; rw [if_neg (by omega)]; exact Ev.now _
  · refine evn h0 (Ev.step (fun K => wigeonref06_binomial.j0.eq_2 ..) ?_)
    by_cases h : k > n
    · refine evp (by simpa using h) ?_
      unfold bin; rw [if_neg (by omega)]; exact Ev.now _
    · refine evn (by simpa using h) ?_
      obtain ⟨k, rfl⟩ := Int.eq_ofNat_of_zero_le (show 0 ≤ k by omega)
      obtain ⟨n, rfl⟩ := Int.eq_ofNat_of_zero_le (show 0 ≤ n by omega)
      rw [bin_nn]
      have := refbin_l0 n k (by omega) (by omega) (min k (n - k)) 0 (by omega)
      rwa [Cnt.ch_zero] at this

-- ways
theorem ways_ev (b m c r : Int) (h0 : 0 ≤ m) (h : m ≤ b) (hb : b ≤ 60) (hr : -1 ≤ r) (hr2 : r ≤ 60) (hc : 0 ≤ c) (hc2 : c ≤ 60) : Ev (fun K => count_catch_ways.f K b m c r) (wys b m c r) := by
  unfold count_catch_ways.f
  have l := wys_lo b m c r
  have u := wys_hi b m c r h0 h hb
  rw [w64 (n := b - m) (by omega) (by omega), w64 (n := c - r) (by omega) (by omega)]
  refine evb (binomial_ev _ _ (by omega)) (evb (binomial_ev _ _ (by omega)) ?_)
  show Ev (fun _ => some (wrap64 (wys b m c r))) (wys b m c r)
  rw [w64 (by omega) (by omega)]
  exact Ev.now _

-- known
theorem known_at : wigeonlaw06_known.f 100 = some true := by decide +kernel
theorem known_ev : Ev (fun k => wigeonlaw06_known.f k) true := Ev.of wigeonlaw06_known.mono known_at

theorem Binomial_ok (n k : Int) (hn : 0 ≤ n ∧ n ≤ 60) (hk : 0 ≤ k ∧ k ≤ 60) : Ev (fun K => count_Binomial.f K n k) (bin n k, 0) := by
  unfold count_Binomial.f
  refine evb (examine_ok _ (by simp) (by simp [inB, hn, hk])) (evp rfl (evb (binomial_ev _ _ hn.2) (Ev.now _)))
theorem Binomial_no (n k : Int) (h : ¬ ((0 ≤ n ∧ n ≤ 60) ∧ (0 ≤ k ∧ k ≤ 60))) : Ev (fun K => count_Binomial.f K n k) (0, 1) := by
  unfold count_Binomial.f
  exact evb (examine_no _ (by simp) (by simpa [inB] using h)) (evn (by decide) (Ev.now _))
theorem refBinomial_ok (n k : Int) (hn : 0 ≤ n ∧ n ≤ 60) (hk : 0 ≤ k ∧ k ≤ 60) : Ev (fun K => wigeonref06_Binomial.f K n k) (bin n k, 0) := by
  unfold wigeonref06_Binomial.f
  refine evb (birds_ok _ (by simp) (by simp [inB, hn, hk])) (evp rfl (evb (refbin_ev _ _ hn.2) (Ev.now _)))
theorem refBinomial_no (n k : Int) (h : ¬ ((0 ≤ n ∧ n ≤ 60) ∧ (0 ≤ k ∧ k ≤ 60))) : Ev (fun K => wigeonref06_Binomial.f K n k) (0, 1) := by
  unfold wigeonref06_Binomial.f
  exact evb (birds_no _ (by simp) (by simpa [inB] using h)) (evn (by decide) (Ev.now _))
theorem CountBinomials : wigeonlaw06_CountBinomials.Pure := by
  intro n k _ _
  refine Ev.rounds (g := fun K => wigeonlaw06_CountBinomials.f K n k) ?_
  unfold wigeonlaw06_CountBinomials.f
  by_cases h : (0 ≤ n ∧ n ≤ 60) ∧ (0 ≤ k ∧ k ≤ 60)
  · obtain ⟨hn, hk⟩ := h
    refine evb (Binomial_ok n k hn hk) (evb (refBinomial_ok n k hn hk) (evp rfl (Ev.step (fun K => wigeonlaw06_CountBinomials.j0.eq_2 ..) (evn (by simp) (evp rfl ?_)))))
    by_cases h0 : n = 0
    · exact evp h0 (Ev.step (fun K => wigeonlaw06_CountBinomials.j1.eq_2 ..) (evp rfl (evb known_ev (Ev.now _))))
    · refine evn h0 (Ev.step (fun K => wigeonlaw06_CountBinomials.j1.eq_2 ..) ?_)
      by_cases h1 : k = 0
      · exact evp (by simpa using h1) (evb known_ev (Ev.now _))
      · refine evn (by simpa using h1) ?_
        rw [w64 (n := n - 1) (by omega) (by omega), w64 (n := k - 1) (by omega) (by omega)]
        have hb := bin_hi n k hn.2
        have hl := bin_lo n k
        have e : bin n k = bin (n - 1) (k - 1) + bin (n - 1) k := by
          obtain ⟨n, rfl⟩ : ∃ m : Nat, n = ((m + 1 : Nat) : Int) := ⟨(n - 1).toNat, by omega⟩
          obtain ⟨k, rfl⟩ : ∃ m : Nat, k = ((m + 1 : Nat) : Int) := ⟨(k - 1).toNat, by omega⟩
          rw [show ((n + 1 : Nat) : Int) - 1 = (n : Int) by omega, show ((k + 1 : Nat) : Int) - 1 = (k : Int) by omega, bin_nn, bin_nn, bin_nn, Cnt.ch_ss]; simp
        refine evb (Binomial_ok (n - 1) (k - 1) (by omega) (by omega)) (evb (Binomial_ok (n - 1) k (by omega) (by omega)) (evp rfl (evp rfl (evp ?_ (evb known_ev (Ev.now _))))))
        rw [w64 (by omega) (by omega)]; exact e
  · exact evb (Binomial_no n k h) (evb (refBinomial_no n k h) (evp rfl (Ev.step (fun K => wigeonlaw06_CountBinomials.j0.eq_2 ..) (evn (by simp) (evn (by decide) (Ev.step (fun K => wigeonlaw06_CountBinomials.j1.eq_2 ..) (evp rfl (evb known_ev (Ev.now _)))))))))

end Go.Proofs.Ytdgoaekcgphhbaa.Pure
