/- The plain law behind the row: what the printed functions of this law compute answers true, for every input that the row lets in. -/
import Derived.Test.YtdgoaekcgphhbaaCDx8
namespace Go.Proofs.Ytdgoaekcgphhbaa.Pure
set_option linter.unusedVariables false
set_option linter.unusedSimpArgs false
open Go.RowKit Go.Proofs.Ytdgoaekcgphhbaa.CD Go.Proofs.YtdgoaekcgphhbaaW.PrintWords Go.Proofs.YtdgoaekcgphhbaaW.PrintLast
namespace Cnt
/-- binomial coefficients by Pascal's triangle -/
def ch : Nat → Nat → Nat
  | _, 0 => 1
  | 0, _ + 1 => 0
  | n + 1, k + 1 => ch n k + ch n (k + 1)
@[simp] theorem ch_zero (n : Nat) : ch n 0 = 1 := by cases n <;> rfl
@[simp] theorem ch_zs (k : Nat) : ch 0 (k + 1) = 0 := rfl
theorem ch_ss (n k : Nat) : ch (n + 1) (k + 1) = ch n k + ch n (k + 1) := rfl
theorem ch_gt : ∀ (n k : Nat), n < k → ch n k = 0
  | 0, 0, h => by omega
  | 0, k + 1, _ => rfl
  | n + 1, 0, h => by omega
  | n + 1, k + 1, h => by rw [ch_ss, ch_gt n k (by omega), ch_gt n (k + 1) (by omega)]
theorem ch_self (n : Nat) : ch n n = 1 := by
  induction n with
  | zero => rfl
  | succ n ih => rw [ch_ss, ih, ch_gt n (n + 1) (by omega)]
theorem ch_pos : ∀ (n k : Nat), k ≤ n → 0 < ch n k
  | n, 0, _ => by simp
  | 0, k + 1, h => by omega
  | n + 1, k + 1, h => by rw [ch_ss]; have := ch_pos n k (by omega); omega
/-- absorption: k * C(n,k) = n * C(n-1,k-1) -/
theorem ch_absorb : ∀ (n k : Nat), (k + 1) * ch (n + 1) (k + 1) = (n + 1) * ch n k
  | 0, 0 => by simp [ch]
  | 0, k + 1 => by simp [ch]
  | n + 1, 0 => by
    have h := ch_absorb n 0
    rw [ch_ss (n + 1) 0]; simp at h ⊢; omega
  | n + 1, k + 1 => by
    have h1 := ch_absorb n k
    have h2 := ch_absorb n (k + 1)
    rw [ch_ss (n + 1) (k + 1)]
    have e1 : (k + 1 + 1) * (ch (n + 1) (k + 1) + ch (n + 1) (k + 1 + 1)) = (k + 1) * ch (n + 1) (k + 1) + ch (n + 1) (k + 1) + (k + 1 + 1) * ch (n + 1) (k + 1 + 1) := by
      rw [Nat.mul_add, Nat.succ_mul (k + 1)]
    rw [e1, h1, h2]
    have e2 : (n + 1 + 1) * ch (n + 1) (k + 1) = (n + 1) * ch (n + 1) (k + 1) + ch (n + 1) (k + 1) := Nat.succ_mul _ _
    rw [e2, ch_ss n k, Nat.mul_add]; omega
/-- the next one of a row -/
theorem ch_next : ∀ (n k : Nat), (k + 1) * ch n (k + 1) = (n - k) * ch n k
  | 0, k => by simp
  | n + 1, 0 => by have := ch_absorb n 0; simp at this ⊢; omega
  | n + 1, k + 1 => by
    by_cases h : k ≤ n
    · have h1 := ch_next n k
      have h2 := ch_next n (k + 1)
      have ha := ch_absorb n k
      rw [ch_ss n (k + 1), ch_ss n k, Nat.mul_add, h2]
      obtain ⟨d, rfl⟩ : ∃ d, n = k + d := ⟨n - k, by omega⟩
      simp only [show k + d - k = d from by omega, show k + d + 1 - (k + 1) = d from by omega] at *
      rw [Nat.mul_add]
      have : (k + 1 + 1) * ch (k + d) (k + 1) = (k + 1) * ch (k + d) (k + 1) + ch (k + d) (k + 1) := Nat.succ_mul _ _
      rw [this, h1]
      cases d with
      | zero => simp [ch_gt k (k + 1) (by omega)]
      | succ d => 
        rw [show k + (d + 1) - (k + 1) = d from by omega]
        have : (d + 1) * ch (k + (d + 1)) (k + 1) = d * ch (k + (d + 1)) (k + 1) + ch (k + (d + 1)) (k + 1) := Nat.succ_mul _ _
        omega
    · rw [ch_gt (n + 1) (k + 1 + 1) (by omega), show n + 1 - (k + 1) = 0 from by omega]; simp
theorem ch_symm : ∀ (n k : Nat), k ≤ n → ch n (n - k) = ch n k
  | n, 0, _ => by simp [ch_self]
  | 0, k + 1, h => by omega
  | n + 1, k + 1, h => by
    rw [ch_ss, show n + 1 - (k + 1) = n - k from by omega]
    by_cases e : k = n
    · subst e; simp [ch_self, ch_gt k (k + 1) (by omega)]
    · obtain ⟨d, hd⟩ : ∃ d, n - k = d + 1 := ⟨n - k - 1, by omega⟩
      rw [hd, ch_ss, ← hd, ch_symm n k (by omega), show d = n - (k + 1) from by omega, ch_symm n (k + 1) (by omega)]; omega
theorem ch_mono (n k : Nat) : ch n k ≤ ch (n + 1) k := by
  cases k with
  | zero => simp
  | succ k => rw [ch_ss]; omega
theorem ch_le : ∀ (d n k : Nat), ch n k ≤ ch (n + d) k
  | 0, _, _ => Nat.le_refl _
  | d + 1, n, k => Nat.le_trans (ch_le d n k) (ch_mono _ _)
/-- a row of the triangle as a list -/
def nx : Nat → List Nat → List Nat
  | a, [] => [a]
  | a, b :: l => (a + b) :: nx b l
def rowOf : Nat → List Nat
  | 0 => [1]
  | n + 1 => nx 0 (rowOf n)
theorem nx_get : ∀ (l : List Nat) (a i : Nat), (nx a l).getD i 0 = (if i = 0 then a else l.getD (i - 1) 0) + l.getD i 0
  | [], a, 0 => by simp [nx]
  | [], a, i + 1 => by simp [nx]
  | b :: l, a, 0 => by simp [nx]
  | b :: l, a, 1 => by
    have := nx_get l b 0; simp [nx] at this ⊢; omega
  | b :: l, a, i + 2 => by
    have := nx_get l b (i + 1)
    simp only [nx, List.getD_cons_succ] at this ⊢
    rw [this]; simp
theorem rowOf_get : ∀ (n k : Nat), (rowOf n).getD k 0 = ch n k
  | 0, 0 => rfl
  | 0, k + 1 => rfl
  | n + 1, 0 => by simp only [rowOf]; rw [nx_get, rowOf_get n 0]; simp
  | n + 1, k + 1 => by simp only [rowOf]; rw [nx_get, rowOf_get n (k + 1), if_neg (by omega), Nat.add_sub_cancel, rowOf_get n k, ch_ss]
def big : Nat := 118264581564861424
theorem row60 : ∀ x ∈ rowOf 60, x ≤ 118264581564861424 := by decide +kernel
theorem ch_bound (n k : Nat) (h : n ≤ 60) : ch n k ≤ 118264581564861424 := by
  have h1 := ch_le (60 - n) n k
  rw [show n + (60 - n) = 60 from by omega, ← rowOf_get 60 k] at h1
  refine Nat.le_trans h1 ?_
  by_cases e : k < (rowOf 60).length
  · rw [List.getD_eq_getElem?_getD, List.getElem?_eq_getElem e]; exact row60 _ (List.getElem_mem e)
  · rw [List.getD_eq_getElem?_getD, List.getElem?_eq_none (by omega)]; simp
/-- sums -/
def sm (f : Nat → Nat) : Nat → Nat
  | 0 => 0
  | n + 1 => sm f n + f n
theorem sm_congr {f g : Nat → Nat} : ∀ n, (∀ i, i < n → f i = g i) → sm f n = sm g n
  | 0, _ => rfl
  | n + 1, h => by rw [sm, sm, sm_congr n (fun i hi => h i (by omega)), h n (by omega)]
theorem sm_add (f g : Nat → Nat) : ∀ n, sm (fun i => f i + g i) n = sm f n + sm g n
  | 0 => rfl
  | n + 1 => by simp only [sm]; rw [sm_add f g n]; omega
theorem sm_shift (f : Nat → Nat) : ∀ n, sm f (n + 1) = f 0 + sm (fun i => f (i + 1)) n
  | 0 => by simp [sm]
  | n + 1 => by rw [sm, sm_shift f n, sm]; omega
theorem sm_mul (a : Nat) (f : Nat → Nat) : ∀ n, sm (fun i => a * f i) n = a * sm f n
  | 0 => rfl
  | n + 1 => by simp only [sm]; rw [sm_mul a f n, Nat.mul_add]
theorem sm_le (f : Nat → Nat) : ∀ n i, i < n → f i ≤ sm f n
  | 0, i, h => by omega
  | n + 1, i, h => by
    rw [sm]
    by_cases e : i = n
    · subst e; omega
    · have := sm_le f n i (by omega); omega
theorem sm_mono (f : Nat → Nat) : ∀ d n, sm f n ≤ sm f (n + d)
  | 0, n => Nat.le_refl _
  | d + 1, n => by have := sm_mono f d n; rw [Nat.add_succ, sm]; omega
/-- Vandermonde -/
theorem vander : ∀ (m r c : Nat), sm (fun i => ch m i * ch r (c - i)) (c + 1) = ch (m + r) c
  | 0, r, c => by
    rw [sm_shift]
    have : sm (fun i => ch 0 (i + 1) * ch r (c - (i + 1))) c = sm (fun i => 0 * i) c := sm_congr c (fun i _ => by simp)
    rw [this, sm_mul]; simp
  | m + 1, r, 0 => by simp [sm]
  | m + 1, r, c + 1 => by
    rw [show m + 1 + r = (m + r) + 1 from by omega, ch_ss, ← vander m r c, ← vander m r (c + 1), sm_shift (n := c + 1), sm_shift (n := c + 1)]
    have : sm (fun i => ch (m + 1) (i + 1) * ch r (c + 1 - (i + 1))) (c + 1) = sm (fun i => ch m i * ch r (c - i) + ch m (i + 1) * ch r (c + 1 - (i + 1))) (c + 1) :=
      sm_congr _ (fun i _ => by rw [ch_ss, Nat.add_mul, show c + 1 - (i + 1) = c - i from by omega])
    rw [this, sm_add]; simp; omega
end Cnt
namespace Cnt
def fact : Nat → Nat
  | 0 => 1
  | n + 1 => (n + 1) * fact n
theorem fact_pos : ∀ n, 0 < fact n
  | 0 => by decide
  | n + 1 => Nat.mul_pos (by omega) (fact_pos n)
theorem ch_fact : ∀ n k : Nat, k ≤ n → ch n k * (fact k * fact (n - k)) = fact n
  | n, 0, _ => by simp [fact]
  | 0, k + 1, h => by omega
  | n + 1, k + 1, h => by
    have a := ch_absorb n k
    have i := ch_fact n k (by omega)
    rw [show n + 1 - (k + 1) = n - k by omega]
    show ch (n + 1) (k + 1) * ((k + 1) * fact k * fact (n - k)) = (n + 1) * fact n
    calc ch (n + 1) (k + 1) * ((k + 1) * fact k * fact (n - k)) = ((k + 1) * ch (n + 1) (k + 1)) * (fact k * fact (n - k)) := by ac_rfl
      _ = (n + 1) * (ch n k * (fact k * fact (n - k))) := by rw [a]; ac_rfl
      _ = _ := by rw [i]
/-- the ways, at all numbers -/
def wN (b m c i : Nat) : Nat := if i ≤ c then ch m i * ch (b - m) (c - i) else 0
theorem wN_zero (b m c i : Nat) (h : m < i ∨ c < i ∨ b - m < c - i) : wN b m c i = 0 := by
  unfold wN
  by_cases h1 : i ≤ c
  · rw [if_pos h1]
    rcases h with h | h | h
    · rw [ch_gt m i h]; simp
    · omega
    · rw [ch_gt _ _ h]; simp
  · rw [if_neg h1]
/-- marked and caught exchanged -/
theorem wN_swap (b m c r : Nat) (hm : m ≤ b) (hc : c ≤ b) : wN b m c r * ch b m = wN b c m r * ch b c := by
  by_cases h : m < r ∨ c < r ∨ b < m + c - r
  · rw [wN_zero b m c r (by omega), wN_zero b c m r (by omega)]; simp
  · unfold wN
    rw [if_pos (by omega), if_pos (by omega)]
    have f1 := ch_fact m r (by omega)
    have f2 := ch_fact (b - m) (c - r) (by omega)
    have f3 := ch_fact b m hm
    have g1 := ch_fact c r (by omega)
    have g2 := ch_fact (b - c) (m - r) (by omega)
    have g3 := ch_fact b c hc
    rw [show b - m - (c - r) = b + r - m - c by omega] at f2
    rw [show b - c - (m - r) = b + r - m - c by omega] at g2
    have hp : 0 < fact r * fact (m - r) * fact (c - r) * fact (b + r - m - c) := Nat.mul_pos (Nat.mul_pos (Nat.mul_pos (fact_pos _) (fact_pos _)) (fact_pos _)) (fact_pos _)
    refine Nat.eq_of_mul_eq_mul_left hp ?_
    calc fact r * fact (m - r) * fact (c - r) * fact (b + r - m - c) * (ch m r * ch (b - m) (c - r) * ch b m)
        = ch b m * ((ch m r * (fact r * fact (m - r))) * (ch (b - m) (c - r) * (fact (c - r) * fact (b + r - m - c)))) := by ac_rfl
      _ = fact b := by rw [f1, f2, f3]
      _ = ch b c * ((ch c r * (fact r * fact (c - r))) * (ch (b - c) (m - r) * (fact (m - r) * fact (b + r - m - c)))) := by rw [g1, g2, g3]
      _ = _ := by ac_rfl
theorem wN_all (b m c : Nat) (hm : m ≤ b) : sm (wN b m c) (c + 1) = ch b c := by
  rw [sm_congr (g := fun i => ch m i * ch (b - m) (c - i)) (c + 1) (fun i hi => by unfold wN; rw [if_pos (by omega)]), vander m (b - m) c, show m + (b - m) = b by omega]
theorem sm_rest (f : Nat → Nat) (n : Nat) (h : ∀ i, n ≤ i → f i = 0) : ∀ d, sm f (n + d) = sm f n
  | 0 => rfl
  | d + 1 => by rw [← Nat.add_assoc, sm, h (n + d) (by omega), sm_rest f n h d]; rfl
theorem few_le (b m c n : Nat) (hm : m ≤ b) : sm (wN b m c) n ≤ ch b c := by
  have h1 := sm_mono (wN b m c) (c + 1) n
  rw [Nat.add_comm n (c + 1), sm_rest _ (c + 1) (fun i hi => wN_zero b m c i (by omega)) n, wN_all b m c hm] at h1
  exact h1
/-- the sum of all numbers, each with its ways -/
theorem mean_sum (b m c : Nat) (hm : m ≤ b) : sm (fun i => i * wN b m c i) (c + 1) * b = m * c * ch b c := by
  cases m with
  | zero =>
    rw [sm_congr (g := fun i => 0 * i) (c + 1) (fun i hi => by
      cases i with
      | zero => simp
      | succ i => rw [wN_zero b 0 c (i + 1) (by omega)]; simp), sm_mul]; simp
  | succ m =>
    cases c with
    | zero => simp [sm]
    | succ c =>
      obtain ⟨b, rfl⟩ : ∃ d, b = d + 1 := ⟨b - 1, by omega⟩
      rw [sm_shift]
      have e : sm (fun i => (i + 1) * wN (b + 1) (m + 1) (c + 1) (i + 1)) (c + 1) = sm (fun i => (m + 1) * (ch m i * ch (b - m) (c - i))) (c + 1) :=
        sm_congr _ (fun i hi => by
          unfold wN
          rw [if_pos (by omega), show b + 1 - (m + 1) = b - m by omega, show c + 1 - (i + 1) = c - i by omega, ← Nat.mul_assoc, ch_absorb m i, Nat.mul_assoc])
      rw [e, sm_mul, vander m (b - m) c, show m + (b - m) = b by omega]
      have a := ch_absorb b c
      calc (0 * wN (b + 1) (m + 1) (c + 1) 0 + (m + 1) * ch b c) * (b + 1) = (m + 1) * ((b + 1) * ch b c) := by rw [Nat.zero_mul, Nat.zero_add]; ac_rfl
        _ = (m + 1) * ((c + 1) * ch (b + 1) (c + 1)) := by rw [a]
        _ = _ := by ac_rfl
theorem sm_le_mul (f : Nat → Nat) (c : Nat) : ∀ n, n ≤ c + 1 → sm (fun i => i * f i) n ≤ c * sm f n
  | 0, _ => by simp [sm]
  | n + 1, h => by
    rw [sm, sm, Nat.mul_add]
    have := sm_le_mul f c n (by omega)
    have := Nat.mul_le_mul_right (f n) (show n ≤ c by omega)
    omega
end Cnt

-- base
theorem evp {α : Type} {c : Prop} [Decidable c] {f g : Nat → Option α} {r : α} (h : c) (k : Ev f r) : Ev (fun n => if c then f n else g n) r :=
  Ev.congr (fun _ => if_pos h) k
theorem evn {α : Type} {c : Prop} [Decidable c] {f g : Nat → Option α} {r : α} (h : ¬ c) (k : Ev g r) : Ev (fun n => if c then f n else g n) r :=
  Ev.congr (fun _ => if_neg h) k
theorem evb {α β : Type} {g : Nat → Option α} {f : Nat → α → Option β} {a : α} {r : β} (h : Ev g a) (k : Ev (fun n => f n a) r) : Ev (fun n => (g n).bind (f n)) r := Ev.bind h k
theorem evs {α β : Type} {x : Option α} {f : Nat → α → Option β} {a : α} {r : β} (h : x = some a) (k : Ev (fun n => f n a) r) : Ev (fun n => x.bind (f n)) r := by
  subst h; exact k
theorem w64 {n : Int} (h : -9223372036854775808 ≤ n) (h2 : n ≤ 9223372036854775807) : wrap64 n = n := by unfold wrap64; omega
theorem rd_at (l : List Int) (i : Nat) (h : i < l.length) : rd l (i : Int) = l[i] := by
  simp [rd, List.getD_eq_getElem?_getD, List.getElem?_eq_getElem h]
def inB (x : Int) : Bool := decide (0 ≤ x ∧ x ≤ 60)
/-- binomial coefficients of whole numbers -/
def bin (n k : Int) : Int := if 0 ≤ k ∧ k ≤ n then ((Cnt.ch n.toNat k.toNat : Nat) : Int) else 0
theorem bin_nn (n k : Nat) : bin n k = (Cnt.ch n k : Nat) := by
  unfold bin
  by_cases h : k ≤ n
  · rw [if_pos (by omega)]; simp
  · rw [if_neg (by omega), Cnt.ch_gt n k (by omega)]; rfl
theorem bin_lo (n k : Int) : 0 ≤ bin n k := by unfold bin; split <;> omega
theorem bin_hi (n k : Int) (h : n ≤ 60) : bin n k ≤ 118264581564861424 := by
  unfold bin; split
  · have := Cnt.ch_bound n.toNat k.toNat (by omega); omega
  · omega
theorem bin_pos (n k : Int) (h : 0 ≤ k) (h' : k ≤ n) : 0 < bin n k := by
  unfold bin; rw [if_pos ⟨h, h'⟩]; have := Cnt.ch_pos n.toNat k.toNat (by omega); omega
/-- the ways -/
def wys (b m c r : Int) : Int := bin m r * bin (b - m) (c - r)
theorem wys_lo (b m c r : Int) : 0 ≤ wys b m c r := Int.mul_nonneg (bin_lo _ _) (bin_lo _ _)
theorem wys_zero (b m c r : Int) (h : r < 0 ∨ m < r ∨ c < r ∨ b - m < c - r) : wys b m c r = 0 := by
  unfold wys bin
  by_cases h1 : 0 ≤ r ∧ r ≤ m
  · rw [if_neg (show ¬ (0 ≤ c - r ∧ c - r ≤ b - m) by omega)]; simp
  · rw [if_neg h1]; simp
theorem wys_nat (b m c r : Nat) (h : m ≤ b) (h2 : r ≤ c) : wys b m c r = ((Cnt.ch m r * Cnt.ch (b - m) (c - r) : Nat) : Int) := by
  unfold wys
  rw [show (b : Int) - m = ((b - m : Nat) : Int) by omega, show (c : Int) - r = ((c - r : Nat) : Int) by omega, bin_nn, bin_nn]; simp
theorem wys_hi (b m c r : Int) (h0 : 0 ≤ m) (h : m ≤ b) (hb : b ≤ 60) : wys b m c r ≤ 118264581564861424 := by
  by_cases h1 : r < 0 ∨ m < r ∨ c < r ∨ b - m < c - r
  · rw [wys_zero _ _ _ _ h1]; omega
  · obtain ⟨b, rfl⟩ := Int.eq_ofNat_of_zero_le (show 0 ≤ b by omega)
    obtain ⟨m, rfl⟩ := Int.eq_ofNat_of_zero_le (show 0 ≤ m by omega)
    obtain ⟨c, rfl⟩ := Int.eq_ofNat_of_zero_le (show 0 ≤ c by omega)
    obtain ⟨r, rfl⟩ := Int.eq_ofNat_of_zero_le (show 0 ≤ r by omega)
    rw [wys_nat _ _ _ _ (by omega) (by omega)]
    have v := Cnt.vander m (b - m) c
    have l := Cnt.sm_le (fun i => Cnt.ch m i * Cnt.ch (b - m) (c - i)) (c + 1) r (by omega)
    rw [v, show m + (b - m) = b by omega] at l
    have := Cnt.ch_bound b c (by omega)
    omega

-- examine
theorem count_within_eq (a b c : Int) : count_within.f a b c = some (decide (b ≤ a ∧ a ≤ c)) := by
  unfold count_within.f
  by_cases h : a ≥ b
  · rw [if_pos h]; have : (b ≤ a ∧ a ≤ c) ↔ a ≤ c := by omega
    simp [this]
  · rw [if_neg h]; have : ¬ (b ≤ a ∧ a ≤ c) := by omega
    simp [this]
theorem examine_l0 (l : List Int) (hl : l.length ≤ 1000) : ∀ d i : Nat, i + d = l.length → Ev (fun k => count_examine.l0 k l (l.length : Int) (i : Int)) (if (l.drop i).all inB then (0 : Int) else 1)
  | 0, i, h => by
    refine Ev.step (fun k => count_examine.l0.eq_2 ..) (evn (by omega) ?_)
    rw [List.drop_eq_nil_of_le (by omega)]
    exact Ev.now _
  | d + 1, i, h => by
    refine Ev.step (fun k => count_examine.l0.eq_2 ..) (evp (by omega) (evp (by omega) (evp (by omega) (evs (count_within_eq ..) ?_))))
    rw [rd_at l i (by omega), List.drop_eq_getElem_cons (show i < l.length by omega), List.all_cons]
    by_cases hc : 0 ≤ l[i] ∧ l[i] ≤ 60
    · refine evp (by simpa using hc) ?_
      rw [show inB l[i] = true from by simpa [inB] using hc, Bool.true_and, w64 (by omega) (by omega)]
      exact examine_l0 l hl d (i + 1) (by omega)
    · refine evn (by simpa using hc) ?_
      rw [show inB l[i] = false from by simpa [inB] using hc, Bool.false_and]
      exact Ev.now _
theorem examine_ev (l : List Int) (hl : l.length ≤ 1000) : Ev (fun k => count_examine.f k l) (if l.all inB then (0 : Int) else 1) := by
  have := examine_l0 l hl l.length 0 (by omega)
  exact this
theorem examine_ok (l : List Int) (hl : l.length ≤ 1000) (h : l.all inB = true) : Ev (fun k => count_examine.f k l) (0 : Int) := by
  have := examine_ev l hl; rwa [if_pos h] at this
theorem examine_no (l : List Int) (hl : l.length ≤ 1000) (h : ¬ l.all inB = true) : Ev (fun k => count_examine.f k l) (1 : Int) := by
  have := examine_ev l hl; rwa [if_neg h] at this

-- areBirds
theorem ref_within_eq (a b c : Int) : wigeonref06_within.f a b c = some (decide (b ≤ a ∧ a ≤ c)) := by
  unfold wigeonref06_within.f
  by_cases h : a ≥ b
  · rw [if_pos h]; have : (b ≤ a ∧ a ≤ c) ↔ a ≤ c := by omega
    simp [this]
  · rw [if_neg h]; have : ¬ (b ≤ a ∧ a ≤ c) := by omega
    simp [this]
theorem birds_l0 (l : List Int) (hl : l.length ≤ 1000) : ∀ d i : Nat, i + d = l.length → Ev (fun k => wigeonref06_areBirds.l0 k l (i : Int)) ((l.drop i).all inB)
  | 0, i, h => by
    refine Ev.step (fun k => wigeonref06_areBirds.l0.eq_2 ..) (evn (by omega) ?_)
    rw [List.drop_eq_nil_of_le (by omega)]
    exact Ev.now _
  | d + 1, i, h => by
    refine Ev.step (fun k => wigeonref06_areBirds.l0.eq_2 ..) (evp (by omega) (evp (by omega) (evs (ref_within_eq ..) ?_)))
    rw [rd_at l i (by omega), List.drop_eq_getElem_cons (show i < l.length by omega), List.all_cons]
    by_cases hc : 0 ≤ l[i] ∧ l[i] ≤ 60
    · refine evp (by simpa using hc) ?_
      rw [show inB l[i] = true from by simpa [inB] using hc, Bool.true_and, w64 (by omega) (by omega)]
      exact birds_l0 l hl d (i + 1) (by omega)
    · refine evn (by simpa using hc) ?_
      rw [show inB l[i] = false from by simpa [inB] using hc, Bool.false_and]
      exact Ev.now _
theorem birds_ev (l : List Int) (hl : l.length ≤ 1000) : Ev (fun k => wigeonref06_areBirds.f k l) (l.all inB) := birds_l0 l hl l.length 0 (by omega)
theorem birds_ok (l : List Int) (hl : l.length ≤ 1000) (h : l.all inB = true) : Ev (fun k => wigeonref06_areBirds.f k l) true := by
  have := birds_ev l hl; rwa [h] at this
theorem birds_no (l : List Int) (hl : l.length ≤ 1000) (h : ¬ l.all inB = true) : Ev (fun k => wigeonref06_areBirds.f k l) false := by
  have := birds_ev l hl; rwa [show l.all inB = false from by simpa using h] at this

-- binomial
def rowL (f : Nat → Nat) (k : Nat) : List Int := (List.range (k + 1)).map fun j => ((f j : Nat) : Int)
theorem rowL_length (f : Nat → Nat) (k : Nat) : (rowL f k).length = k + 1 := by simp [rowL]
theorem rowL_rd (f : Nat → Nat) (k i : Nat) (h : i ≤ k) : rd (rowL f k) (i : Int) = (f i : Nat) := by
  rw [rd_at _ _ (by rw [rowL_length]; omega)]; simp [rowL]
theorem rowL_congr (f g : Nat → Nat) (k : Nat) (h : ∀ j, j ≤ k → f j = g j) : rowL f k = rowL g k := by
  unfold rowL
  refine List.map_congr_left fun j hj => ?_
  rw [h j (by have := List.mem_range.1 hj; omega)]
theorem rowL_set (f : Nat → Nat) (k i v : Nat) : (rowL f k).set i ((v : Nat) : Int) = rowL (fun j => if j = i then v else f j) k := by
  refine List.ext_getElem (by simp [rowL]) fun j h1 h2 => ?_
  rw [List.getElem_set]
  simp only [rowL, List.getElem_map, List.getElem_range]
  by_cases e : i = j
  · subst e; simp
  · rw [if_neg e, if_neg (fun h => e h.symm)]
theorem rowL_start (k : Nat) : (List.replicate (k + 1) (0 : Int)).set 0 1 = rowL (Cnt.ch 0) k := by
  refine List.ext_getElem (by simp [rowL]) fun j h1 h2 => ?_
  rw [List.getElem_set]
  simp only [rowL, List.getElem_map, List.getElem_range, List.getElem_replicate]
  cases j with
  | zero => simp
  | succ j => simp
def mixR (t i j : Nat) : Nat := if i < j then Cnt.ch (t + 1) j else Cnt.ch t j
theorem binomial_l1 (k t n : Nat) (hk : k ≤ 60) (ht : t < 60) (r : Int) (H : Ev (fun K => count_binomial.l0 K (k : Int) (rowL (Cnt.ch (t + 1)) k) (n : Int) ((t + 1 : Nat) : Int)) r) :
    ∀ i : Nat, i ≤ k → Ev (fun K => count_binomial.l1 K (k : Int) (rowL (mixR t i) k) (i : Int) (n : Int) (t : Int)) r
  | 0, _ => by
    refine Ev.step (fun K => count_binomial.l1.eq_2 ..) (evn (by omega) ?_)
    rw [w64 (by omega) (by omega), rowL_congr (mixR t 0) (Cnt.ch (t + 1)) k]
    · exact H
    · intro j _
      unfold mixR
      cases j with
      | zero => simp
      | succ j => rw [if_pos (by omega)]
  | i + 1, h => by
    refine Ev.step (fun K => count_binomial.l1.eq_2 ..) (evp (by omega) (evp (by omega) (evp (by rw [rowL_length]; omega) ?_)))
    rw [show ((i + 1 : Nat) : Int) - 1 = (i : Int) by omega, w64 (by omega) (by omega)]
    refine evp (by omega) (evp (by rw [rowL_length]; omega) ?_)
    have b1 := Cnt.ch_bound (t + 1) (i + 1) (by omega)
    have e1 := Cnt.ch_ss t i
    have m1 : mixR t (i + 1) (i + 1) = Cnt.ch t (i + 1) := by simp [mixR]
    have m2 : mixR t (i + 1) i = Cnt.ch t i := by simp [mixR, show ¬ i + 1 < i by omega]
    rw [rowL_rd _ _ _ (by omega), rowL_rd _ _ _ (by omega), m1, m2, w64 (by omega) (by omega), show ((i + 1 : Nat) : Int).toNat = i + 1 by omega,
      show ((Cnt.ch t (i + 1) : Nat) : Int) + ((Cnt.ch t i : Nat) : Int) = ((Cnt.ch (t + 1) (i + 1) : Nat) : Int) by omega, rowL_set,
      rowL_congr _ (mixR t i) k]
    · exact binomial_l1 k t n hk ht r H i (by omega)
    · intro j _
      unfold mixR
      by_cases e : j = i + 1
      · subst e; rw [if_pos rfl, if_pos (by omega)]
      · rw [if_neg e]
        by_cases e2 : i + 1 < j
        · rw [if_pos e2, if_pos (by omega)]
        · rw [if_neg e2, if_neg (by omega)]
theorem binomial_l0 (k n : Nat) (hn : n ≤ 60) (hk : k ≤ n) : ∀ d t : Nat, t + d = n → Ev (fun K => count_binomial.l0 K (k : Int) (rowL (Cnt.ch t) k) (n : Int) (t : Int)) ((Cnt.ch n k : Nat) : Int)
  | 0, t, h => by
    obtain rfl : t = n := by omega
    refine Ev.step (fun K => count_binomial.l0.eq_2 ..) (evn (by omega) (evp (by omega) (evp (by rw [rowL_length]; omega) ?_)))
    rw [rowL_rd _ _ _ (by omega)]
    exact Ev.now _
  | d + 1, t, h => by
    refine Ev.step (fun K => count_binomial.l0.eq_2 ..) (evp (by omega) ?_)
    have := binomial_l1 k t n (by omega) (by omega) _ (binomial_l0 k n hn hk d (t + 1) (by omega)) k (Nat.le_refl _)
    rwa [rowL_congr (mixR t k) (Cnt.ch t) k (fun j hj => by simp [mixR, show ¬ k < j by omega])] at this
theorem binomial_ev (n k : Int) (hn : n ≤ 60) : Ev (fun K => count_binomial.f K n k) (bin n k) := by
  unfold count_binomial.f
  refine evs (count_within_eq ..) ?_
  by_cases h : 0 ≤ k ∧ k ≤ n
  · refine evp (by simpa using h) ?_
    obtain ⟨k, rfl⟩ := Int.eq_ofNat_of_zero_le h.1
    obtain ⟨n, rfl⟩ := Int.eq_ofNat_of_zero_le (show 0 ≤ n by omega)
    rw [w64 (by omega) (by omega), show ((k : Int) + 1).toNat = k + 1 by omega]
    refine evp (by omega) (evp (by omega) (evs rfl (evp (by first | (simp; done) | (simp; omega)) ?_)))
    rw [show (0 : Int).toNat = 0 from rfl, rowL_start, bin_nn]
    exact binomial_l0 k n (by omega) (by omega) n 0 (by omega)
  · refine evn (by simpa using h) ?_
    unfold bin; rw [if_neg h]
    exact Ev.now _

-- ways
theorem ways_ev (b m c r : Int) (h0 : 0 ≤ m) (h : m ≤ b) (hb : b ≤ 60) (hr : -1 ≤ r) (hr2 : r ≤ 60) (hc : 0 ≤ c) (hc2 : c ≤ 60) : Ev (fun K => count_catch_ways.f K b m c r) (wys b m c r) := by
  unfold count_catch_ways.f
  have l := wys_lo b m c r
  have u := wys_hi b m c r h0 h hb
  rw [w64 (n := b - m) (by omega) (by omega), w64 (n := c - r) (by omega) (by omega)]
  refine evb (binomial_ev _ _ (by omega)) (evb (binomial_ev _ _ (by omega)) ?_)
  show Ev (fun _ => some (wrap64 (wys b m c r))) (wys b m c r)
  rw [w64 (by omega) (by omega)]
  exact Ev.now _

-- known
theorem known_at : wigeonlaw06_known.f 100 = some true := by decide +kernel
theorem known_ev : Ev (fun k => wigeonlaw06_known.f k) true := Ev.of wigeonlaw06_known.mono known_at

-- best
def bst (m c r : Int) : Nat → Int → Int
  | 0, n => n
  | d + 1, n => if (n + 1) * r < m * c then bst m c r d (n + 1) else n
theorem mul_small {a b : Int} (h1 : 0 ≤ a) (h2 : a ≤ 61) (h3 : 0 ≤ b) (h4 : b ≤ 60) : 0 ≤ a * b ∧ a * b ≤ 3660 :=
  ⟨Int.mul_nonneg h1 h3, by
    have := Int.mul_le_mul h2 h4 h3 (by omega : (0 : Int) ≤ 61)
    omega⟩
theorem best_l0 (m c r : Int) (hm : 0 ≤ m ∧ m ≤ 60) (hc : 0 ≤ c ∧ c ≤ 60) (hr : 0 ≤ r ∧ r ≤ 60) : ∀ (d : Nat) (n : Int), 0 ≤ n → n + d = 60 → Ev (fun k => count_Best.l0 k m c r n) (bst m c r d n, true, 0)
  | 0, n, h0, h => Ev.step (fun k => count_Best.l0.eq_2 ..) (evn (by omega) (Ev.now _))
  | d + 1, n, h0, h => by
    refine Ev.step (fun k => count_Best.l0.eq_2 ..) (evp (by omega) ?_)
    have a := mul_small (a := n + 1) (b := r) (by omega) (by omega) hr.1 hr.2
    have b := mul_small (a := m) (b := c) (by omega) (by omega) hc.1 hc.2
    rw [w64 (n := n + 1) (by omega) (by omega), w64 (n := (n + 1) * r) (by omega) (by omega), w64 (n := m * c) (by omega) (by omega)]
    unfold bst
    by_cases hh : (n + 1) * r < m * c
    · rw [if_pos hh]; exact evp hh (best_l0 m c r hm hc hr d (n + 1) (by omega) (by omega))
    · rw [if_neg hh]; exact evn hh (Ev.now _)
theorem bst_char (m c r : Int) : ∀ (d : Nat) (n : Int), n + d = 60 → n ≤ bst m c r d n ∧ bst m c r d n ≤ 60 ∧ (n < bst m c r d n → bst m c r d n * r < m * c) ∧ (bst m c r d n < 60 → ¬ (bst m c r d n + 1) * r < m * c)
  | 0, n, h => ⟨Int.le_refl _, by simp [bst]; omega, by simp [bst], by simp [bst]; omega⟩
  | d + 1, n, h => by
    unfold bst
    by_cases hh : (n + 1) * r < m * c
    · rw [if_pos hh]
      obtain ⟨h1, h2, h3, h4⟩ := bst_char m c r d (n + 1) (by omega)
      refine ⟨by omega, h2, fun _ => ?_, h4⟩
      by_cases e : bst m c r d (n + 1) = n + 1
      · rw [e]; exact hh
      · exact h3 (by omega)
    · rw [if_neg hh]
      exact ⟨Int.le_refl _, by omega, fun h => absurd h (by omega), fun _ => hh⟩
/-- the three ways of Best -/
theorem Best_arg (m c r : Int) (h : ¬ ((0 ≤ m ∧ m ≤ 60) ∧ (0 ≤ c ∧ c ≤ 60) ∧ (0 ≤ r ∧ r ≤ 60))) : Ev (fun k => count_Best.f k m c r) (0, false, 1) := by
  unfold count_Best.f
  exact evb (examine_no _ (by simp) (by simpa [inB] using h)) (evn (by decide) (Ev.now _))
theorem mn_eq (a b : Int) : mn a b = min a b := by unfold mn; split <;> omega
theorem Best_none (m c r : Int) (hm : 0 ≤ m ∧ m ≤ 60) (hc : 0 ≤ c ∧ c ≤ 60) (hr : 0 ≤ r ∧ r ≤ 60) (h : m < r ∨ c < r ∨ 60 < m + c - r) : Ev (fun k => count_Best.f k m c r) (0, false, 0) := by
  unfold count_Best.f
  refine evb (examine_ok _ (by simp) (by simp [inB, hm, hc, hr])) (evp rfl ?_)
  rw [w64 (n := m + c) (by omega) (by omega), w64 (n := m + c - r) (by omega) (by omega)]
  by_cases h1 : r > mn m c
  · exact evp h1 (Ev.step (fun k => count_Best.j0.eq_2 ..) (evp rfl (Ev.now _)))
  · have : 60 < m + c - r := by rw [mn_eq] at h1; omega
    exact evn h1 (Ev.step (fun k => count_Best.j0.eq_2 ..) (evp (by simpa using this) (Ev.now _)))
theorem Best_some (m c r : Int) (hm : 0 ≤ m ∧ m ≤ 60) (hc : 0 ≤ c ∧ c ≤ 60) (hr : 0 ≤ r ∧ r ≤ 60) (h1 : r ≤ m) (h2 : r ≤ c) (h3 : m + c - r ≤ 60) :
    Ev (fun k => count_Best.f k m c r) (bst m c r (60 - (m + c - r)).toNat (m + c - r), true, 0) := by
  unfold count_Best.f
  refine evb (examine_ok _ (by simp) (by simp [inB, hm, hc, hr])) (evp rfl ?_)
  rw [w64 (n := m + c) (by omega) (by omega), w64 (n := m + c - r) (by omega) (by omega)]
  refine evn (by rw [mn_eq]; omega) (Ev.step (fun k => count_Best.j0.eq_2 ..) (evn (by simpa using h3) ?_))
  exact best_l0 m c r hm hc hr _ _ (by omega) (by omega)

-- nats
theorem wys_wN (b m c i : Nat) (hm : m ≤ b) : wys b m c i = ((Cnt.wN b m c i : Nat) : Int) := by
  unfold Cnt.wN
  by_cases h : i ≤ c
  · rw [if_pos h, wys_nat _ _ _ _ hm h]
  · rw [if_neg h, wys_zero _ _ _ _ (by omega)]; rfl
theorem inB4 (a b c d : Nat) (h1 : a ≤ 60) (h2 : b ≤ 60) (h3 : c ≤ 60) (h4 : d ≤ 60) : ([(a : Int), b, c, d] : List Int).all inB = true := by
  simp [inB]; omega
theorem inB3 (a b c : Nat) (h1 : a ≤ 60) (h2 : b ≤ 60) (h3 : c ≤ 60) : ([(a : Int), b, c] : List Int).all inB = true := by
  simp [inB]; omega
def In4 (a b c d : Int) : Prop := (0 ≤ a ∧ a ≤ 60) ∧ (0 ≤ b ∧ b ≤ 60) ∧ (0 ≤ c ∧ c ≤ 60) ∧ (0 ≤ d ∧ d ≤ 60)
theorem notB4 (a b c d : Int) (h : ¬ In4 a b c d) : ¬ ([a, b, c, d] : List Int).all inB = true := by
  simpa [inB, In4] using h
def In3 (b c d : Int) : Prop := (0 ≤ b ∧ b ≤ 60) ∧ (0 ≤ c ∧ c ≤ 60) ∧ (0 ≤ d ∧ d ≤ 60)
theorem notB3 (b c d : Int) (h : ¬ In3 b c d) : ¬ ([b, c, d] : List Int).all inB = true := by
  simpa [inB, In3] using h
theorem tdivN (a b : Nat) : Int.tdiv (a : Int) (b : Int) = ((a / b : Nat) : Int) := rfl
theorem tmodN (a b : Nat) : Int.tmod (a : Int) (b : Int) = ((a % b : Nat) : Int) := rfl
theorem w64N (n : Nat) (h : n ≤ 9223372036854775807) : wrap64 (n : Int) = n := w64 (by omega) (by omega)
theorem divle (a b : Nat) : a / b ≤ a := Nat.div_le_self a b

-- cfits
theorem fits_arg (b m c r : Int) (h : ¬ In4 b m c r) : Ev (fun k => count_catch_fits.f k b m c r) (1 : Int) := by
  unfold count_catch_fits.f
  exact evb (examine_no _ (by simp) (notB4 _ _ _ _ h)) (evn (by decide) (Ev.now _))
theorem fits_rule (b m c r : Nat) (hb : b ≤ 60) (hm : m ≤ 60) (hc : c ≤ 60) (hr : r ≤ 60) (h : b < m ∨ b < c) : Ev (fun k => count_catch_fits.f k b m c r) (8 : Int) := by
  unfold count_catch_fits.f
  refine evb (examine_ok _ (by simp) (inB4 _ _ _ _ hb hm hc hr)) (evp rfl ?_)
  by_cases h1 : b < m
  · exact evp (by omega) (Ev.now _)
  · exact evn (by omega) (evp (by omega) (Ev.now _))
theorem fits_ok (b m c r : Nat) (hb : b ≤ 60) (hm : m ≤ b) (hc : c ≤ b) (hr : r ≤ 60) : Ev (fun k => count_catch_fits.f k b m c r) (0 : Int) := by
  unfold count_catch_fits.f
  exact evb (examine_ok _ (by simp) (inB4 _ _ _ _ hb (by omega) (by omega) hr)) (evp rfl (evn (by omega) (evn (by omega) (Ev.now _))))

-- divisor
theorem divisor_l0 : ∀ (n b a : Nat), b < n → a ≤ 9223372036854775807 → b ≤ 9223372036854775807 → Ev (fun k => count_divisor.l0 k (a : Int) (b : Int)) ((Nat.gcd a b : Nat) : Int)
  | 0, b, a, h, _, _ => by omega
  | n + 1, b, a, h, ha, hb => by
    refine Ev.step (fun k => count_divisor.l0.eq_2 ..) ?_
    by_cases h0 : b = 0
    · subst h0
      refine evp rfl ?_
      rw [Nat.gcd_zero_right, w64 (by omega) (by omega), show mx (a : Int) (-(a : Int)) = a by unfold mx; split <;> omega]
      exact Ev.now _
    · refine evn (by omega) ?_
      rw [tmodN, Nat.gcd_comm a b, Nat.gcd_rec b a, Nat.gcd_comm]
      have := Nat.mod_lt a (show 0 < b by omega)
      exact divisor_l0 n (a % b) b (by omega) (by omega) (by omega)
theorem divisor_ev (a b : Nat) (ha : a ≤ 9223372036854775807) (hb : b ≤ 9223372036854775807) : Ev (fun k => count_divisor.f k (a : Int) (b : Int)) ((Nat.gcd a b : Nat) : Int) := divisor_l0 (b + 1) b a (by omega) ha hb

-- fraction
theorem fraction_ev (a b : Nat) (ha : a ≤ 9223372036854775807) (hb : b ≤ 9223372036854775807) (h : 0 < b) :
    Ev (fun k => count_fraction.f k (a : Int) (b : Int)) (((a / Nat.gcd a b : Nat) : Int), ((b / Nat.gcd a b : Nat) : Int)) := by
  unfold count_fraction.f
  have hg := Nat.gcd_pos_of_pos_right a h
  have h1 := divle a (Nat.gcd a b)
  have h2 := divle b (Nat.gcd a b)
  refine evb (divisor_ev a b ha hb) (evn (by omega) ?_)
  rw [tdivN, tdivN, w64N _ (Nat.le_trans h1 ha), w64N _ (Nat.le_trans h2 hb)]
  exact Ev.now _

-- rgcd
theorem rgcd_l0 : ∀ (n b a : Nat), b < n → Ev (fun k => wigeonref06_gcd.l0 k (a : Int) (b : Int)) ((Nat.gcd a b : Nat) : Int)
  | 0, b, a, h => by omega
  | n + 1, b, a, h => by
    refine Ev.step (fun k => wigeonref06_gcd.l0.eq_2 ..) ?_
    by_cases h0 : b = 0
    · subst h0
      refine evn (by omega) ?_
      rw [Nat.gcd_zero_right]
      exact Ev.now _
    · refine evp (by omega) (evn (by omega) ?_)
      rw [tmodN, Nat.gcd_comm a b, Nat.gcd_rec b a, Nat.gcd_comm]
      have := Nat.mod_lt a (show 0 < b by omega)
      exact rgcd_l0 n (a % b) b (by omega)
theorem rgcd_ev (a b : Nat) : Ev (fun k => wigeonref06_gcd.f k (a : Int) (b : Int)) ((Nat.gcd a b : Nat) : Int) := rgcd_l0 (b + 1) b a (by omega)

-- ratio
theorem ratio_ev (a b : Nat) (ha : a ≤ 9223372036854775807) (hb : b ≤ 9223372036854775807) (h : 0 < b) :
    Ev (fun k => wigeonref06_Ratio.f k (a : Int) (b : Int)) (((a / Nat.gcd a b : Nat) : Int), ((b / Nat.gcd a b : Nat) : Int)) := by
  unfold wigeonref06_Ratio.f
  have hg := Nat.gcd_pos_of_pos_right a h
  have h1 := divle a (Nat.gcd a b)
  have h2 := divle b (Nat.gcd a b)
  refine evb (rgcd_ev a b) (evn (by omega) ?_)
  rw [tdivN, tdivN, w64N _ (Nat.le_trans h1 ha), w64N _ (Nat.le_trans h2 hb)]
  exact Ev.now _

-- Ways
theorem Ways_arg (b m c r : Int) (h : ¬ In4 b m c r) : Ev (fun k => count_Ways.f k b m c r) (0, 1) := by
  unfold count_Ways.f
  exact evb (examine_no _ (by simp) (notB4 _ _ _ _ h)) (evn (by decide) (Ev.now _))
theorem Ways_zero (b m c r : Nat) (hb : b ≤ 60) (hm : m ≤ 60) (hc : c ≤ 60) (hr : r ≤ 60) (h : b < m ∨ b < c) : Ev (fun k => count_Ways.f k b m c r) (0, 0) := by
  unfold count_Ways.f
  refine evb (examine_ok _ (by simp) (inB4 _ _ _ _ hb hm hc hr)) (evp rfl ?_)
  by_cases h1 : b < m
  · exact evp (by omega) (Ev.now _)
  · exact evn (by omega) (evp (by omega) (Ev.now _))
theorem Ways_ok (b m c r : Nat) (hb : b ≤ 60) (hm : m ≤ b) (hc : c ≤ b) (hr : r ≤ 60) : Ev (fun k => count_Ways.f k b m c r) (((Cnt.wN b m c r : Nat) : Int), 0) := by
  unfold count_Ways.f
  refine evb (examine_ok _ (by simp) (inB4 _ _ _ _ hb (by omega) (by omega) hr)) (evp rfl (evn (by omega) (evn (by omega) (evb (ways_ev b m c r (by omega) (by omega) (by omega) (by omega) (by omega) (by omega) (by omega)) ?_))))
  rw [wys_wN b m c r hm]
  exact Ev.now _
theorem wN_hi (b m c r : Nat) (hb : b ≤ 60) (hm : m ≤ b) : Cnt.wN b m c r ≤ 118264581564861424 := by
  have := wys_hi b m c r (by omega) (by omega) (by omega); rw [wys_wN b m c r hm] at this; omega

-- all
theorem all_ev (b m c r : Nat) (hb : b ≤ 60) : Ev (fun k => count_catch_all.f k b m c r) ((Cnt.ch b c : Nat) : Int) := by
  unfold count_catch_all.f
  refine evb (binomial_ev _ _ (by omega)) ?_
  rw [bin_nn]; exact Ev.now _

-- Chance
theorem Chance_arg (b m c r : Int) (h : ¬ In4 b m c r) : Ev (fun k => count_Chance.f k b m c r) (0, 0, 1) := by
  unfold count_Chance.f
  exact evb (fits_arg _ _ _ _ h) (evn (by decide) (Ev.now _))
theorem Chance_rule (b m c r : Nat) (hb : b ≤ 60) (hm : m ≤ 60) (hc : c ≤ 60) (hr : r ≤ 60) (h : b < m ∨ b < c) : Ev (fun k => count_Chance.f k b m c r) (0, 0, 8) := by
  unfold count_Chance.f
  exact evb (fits_rule _ _ _ _ hb hm hc hr h) (evn (by decide) (Ev.now _))
theorem Chance_ok (b m c r : Nat) (hb : b ≤ 60) (hm : m ≤ b) (hc : c ≤ b) (hr : r ≤ 60) :
    Ev (fun k => count_Chance.f k b m c r) (((Cnt.wN b m c r / Nat.gcd (Cnt.wN b m c r) (Cnt.ch b c) : Nat) : Int), ((Cnt.ch b c / Nat.gcd (Cnt.wN b m c r) (Cnt.ch b c) : Nat) : Int), 0) := by
  unfold count_Chance.f
  have h1 := wN_hi b m c r hb hm
  have h2 := Cnt.ch_bound b c hb
  have h3 := Cnt.ch_pos b c hc
  refine evb (fits_ok _ _ _ _ hb hm hc hr) (evp rfl (evb (ways_ev b m c r (by omega) (by omega) (by omega) (by omega) (by omega) (by omega) (by omega)) (evb (all_ev b m c r hb) ?_)))
  rw [wys_wN b m c r hm]
  exact evb (fraction_ev _ _ (by omega) (by omega) h3) (Ev.now _)

instance (b c d : Int) : Decidable (In3 b c d) := by unfold In3; exact inferInstance
def vday (x : S61) : Int := if In3 x.f0 x.f1 x.f2 then (if x.f0 < x.f2 ∨ x.f1 < x.f2 then 8 else 0) else 1
def vdays : List S61 → Int
  | [] => 0
  | x :: l => if vday x = 0 then vdays l else vday x
theorem rdS (l : List S61) (i : Nat) (h : i < l.length) : rd_T61 l (i : Int) = l[i] := by
  simp [rd_T61, List.getD_eq_getElem?_getD, List.getElem?_eq_getElem h]
theorem vd_l0 (l : List S61) (hl : l.length ≤ 8) : ∀ d i : Nat, i + d = l.length → Ev (fun k => count_ValidateDays.l0 k l (l.length : Int) (i : Int)) (vdays (l.drop i))
  | 0, i, h => by
    refine Ev.step (fun k => count_ValidateDays.l0.eq_2 ..) (evn (by omega) ?_)
    rw [List.drop_eq_nil_of_le (by omega)]
    exact Ev.now _
  | d + 1, i, h => by
    refine Ev.step (fun k => count_ValidateDays.l0.eq_2 ..) (evp (by omega) (evp (by omega) (evp (by omega) ?_)))
    rw [rdS l i (by omega), List.drop_eq_getElem_cons (show i < l.length by omega)]
    have R := vd_l0 l hl d (i + 1) (by omega)
    generalize l[i] = x at *
    unfold vdays vday
    by_cases h3 : In3 x.f0 x.f1 x.f2
    · rw [if_pos h3]
      have h3' := h3
      obtain ⟨a, b, c⟩ := h3'
      refine evb (examine_ok _ (by simp) (by simp [inB, a, b, c])) (evp rfl ?_)
      by_cases h : x.f0 < x.f2 ∨ x.f1 < x.f2
      · rw [if_pos h, if_neg (by decide)]
        exact evp (by rw [mn_eq]; omega) (Ev.now _)
      · rw [if_neg h, if_pos rfl]
        refine evn (by rw [mn_eq]; omega) ?_
        rw [w64 (by omega) (by omega)]; exact R
    · rw [if_neg h3, if_neg (by decide)]
      exact evb (examine_no _ (by simp) (notB3 _ _ _ h3)) (evn (by decide) (Ev.now _))
def vAll (l : List S61) : Int := if l.length > 8 then 3 else vdays l
theorem vd_ev (l : List S61) (hl : l.length ≤ 100) : Ev (fun k => count_ValidateDays.f k l) (vAll l) := by
  unfold count_ValidateDays.f vAll
  by_cases h : l.length > 8
  · rw [if_pos h]; exact evp (by omega) (Ev.now _)
  · rw [if_neg h]; exact evn (by omega) (vd_l0 l (by omega) l.length 0 (by omega))
theorem rec_ev (m c r : Int) : Ev (fun k => wigeonref06_recaptured.f k m c r) (if In3 m c r then (if m < r ∨ c < r then 8 else 0) else 1) := by
  unfold wigeonref06_recaptured.f
  by_cases h3 : In3 m c r
  · rw [if_pos h3]
    obtain ⟨a, b, c'⟩ := h3
    refine evb (birds_ok _ (by simp) (by simp [inB, a, b, c'])) (evp rfl ?_)
    by_cases h : r > m
    · rw [show (if m < r ∨ c < r then (8 : Int) else 0) = 8 from if_pos (by omega)]; exact evp h (Ev.now _)
    · refine evn h ?_
      by_cases h2 : r > c
      · rw [show (if m < r ∨ c < r then (8 : Int) else 0) = 8 from if_pos (by omega)]; exact evp h2 (Ev.now _)
      · rw [show (if m < r ∨ c < r then (8 : Int) else 0) = 0 from if_neg (by omega)]; exact evn h2 (Ev.now _)
  · rw [if_neg h3]
    exact evb (birds_no _ (by simp) (notB3 _ _ _ h3)) (evn (by decide) (Ev.now _))
theorem rvd_l0 (l : List S61) (hl : l.length ≤ 8) : ∀ d i : Nat, i + d = l.length → Ev (fun k => wigeonref06_ValidateDays.l0 k l (i : Int)) (vdays (l.drop i))
  | 0, i, h => by
    refine Ev.step (fun k => wigeonref06_ValidateDays.l0.eq_2 ..) (evn (by omega) ?_)
    rw [List.drop_eq_nil_of_le (by omega)]
    exact Ev.now _
  | d + 1, i, h => by
    refine Ev.step (fun k => wigeonref06_ValidateDays.l0.eq_2 ..) (evp (by omega) (evp (by omega) ?_))
    rw [rdS l i (by omega), List.drop_eq_getElem_cons (show i < l.length by omega)]
    have R := rvd_l0 l hl d (i + 1) (by omega)
    generalize l[i] = x at *
    refine evb (rec_ev _ _ _) ?_
    unfold vdays
    show Ev _ (if vday x = 0 then _ else vday x)
    by_cases h : vday x = 0
    · rw [if_pos h]
      refine evp h ?_
      rw [w64 (by omega) (by omega)]; exact R
    · rw [if_neg h]
      exact evn h (Ev.now _)
theorem rvd_ev (l : List S61) (hl : l.length ≤ 100) : Ev (fun k => wigeonref06_ValidateDays.f k l) (vAll l) := by
  unfold wigeonref06_ValidateDays.f vAll
  by_cases h : l.length > 8
  · rw [if_pos h]; exact evp (by omega) (Ev.now _)
  · rw [if_neg h]; exact evn (by omega) (rvd_l0 l (by omega) l.length 0 (by omega))
theorem vdays_ok : ∀ l : List S61, vdays l = 0 → ∀ x ∈ l, In3 x.f0 x.f1 x.f2
  | [], _, x, h => by simp at h
  | y :: l, h, x, hx => by
    unfold vdays at h
    by_cases hy : vday y = 0
    · rw [if_pos hy] at h
      rcases List.mem_cons.1 hx with rfl | hx
      · unfold vday at hy
        by_cases h3 : In3 x.f0 x.f1 x.f2
        · exact h3
        · rw [if_neg h3] at hy; exact absurd hy (by decide)
      · exact vdays_ok l h x hx
    · rw [if_neg hy] at h; exact absurd h hy
def sN (l : List S61) : Nat := (l.map fun x => x.f0.toNat * x.f1.toNat).sum
def sD (l : List S61) : Nat := (l.map fun x => x.f2.toNat).sum
theorem sums_small : ∀ l : List S61, (∀ x ∈ l, In3 x.f0 x.f1 x.f2) → sN l ≤ 3600 * l.length ∧ sD l ≤ 60 * l.length
  | [], _ => by simp [sN, sD]
  | x :: l, h => by
    obtain ⟨a, b⟩ := sums_small l (fun y hy => h y (List.mem_cons_of_mem _ hy))
    obtain ⟨h1, h2, h3⟩ := h x List.mem_cons_self
    have : x.f0.toNat * x.f1.toNat ≤ 60 * 60 := Nat.mul_le_mul (by omega) (by omega)
    simp only [sN, sD, List.map_cons, List.sum_cons, List.length_cons] at *
    omega
theorem tot_gen (v : S61 → Int) (q : S61 → Nat) (M : Nat) (hM : M ≤ 3600) : ∀ (l : List S61) (s : Nat), (∀ x ∈ l, v x = (q x : Nat) ∧ q x ≤ M) → s + 3600 * l.length ≤ 1000000 → l.foldl (fun s x => wrap64 (s + v x)) (s : Int) = ((s + (l.map q).sum : Nat) : Int)
  | [], s, _, _ => by simp
  | x :: l, s, h, hs => by
    obtain ⟨e, le⟩ := h x List.mem_cons_self
    simp only [List.length_cons] at hs
    rw [List.foldl_cons, e, w64 (by omega) (by omega), show (s : Int) + (q x : Nat) = ((s + q x : Nat) : Int) by omega, tot_gen v q M hM l (s + q x) (fun y hy => h y (List.mem_cons_of_mem _ hy)) (by omega)]
    simp only [List.map_cons, List.sum_cons]; omega
theorem tot1 (l : List S61) (hl : l.length ≤ 8) (h : ∀ x ∈ l, In3 x.f0 x.f1 x.f2) : totF (fun x => x.f2) l = ((sD l : Nat) : Int) := by
  have := tot_gen (fun x => x.f2) (fun x => x.f2.toNat) 60 (by decide) l 0 (fun x hx => by obtain ⟨_, _, h3⟩ := h x hx; exact ⟨show x.f2 = ((x.f2.toNat : Nat) : Int) by omega, show x.f2.toNat ≤ 60 by omega⟩) (by omega)
  unfold totF sD
  rw [Nat.zero_add] at this
  exact this
theorem tot2 (l : List S61) (hl : l.length ≤ 8) (h : ∀ x ∈ l, In3 x.f0 x.f1 x.f2) : totF (fun x => wrap64 (x.f0 * x.f1)) l = ((sN l : Nat) : Int) := by
  have := tot_gen (fun x => wrap64 (x.f0 * x.f1)) (fun x => x.f0.toNat * x.f1.toNat) 3600 (by decide) l 0 (fun x hx => by
    obtain ⟨h1, h2, _⟩ := h x hx
    have p : x.f0.toNat * x.f1.toNat ≤ 60 * 60 := Nat.mul_le_mul (by omega) (by omega)
    refine ⟨?_, p⟩
    show wrap64 (x.f0 * x.f1) = _
    have e : x.f0 * x.f1 = ((x.f0.toNat * x.f1.toNat : Nat) : Int) := by rw [Int.natCast_mul, Int.toNat_of_nonneg h1.1, Int.toNat_of_nonneg h2.1]
    rw [e, w64N _ (by omega)]) (by omega)
  unfold totF sN
  rw [Nat.zero_add] at this
  exact this
theorem sN_snoc (l : List S61) (i : Nat) (h : i < l.length) : sN (l.take (i + 1)) = sN (l.take i) + l[i].f0.toNat * l[i].f1.toNat ∧ sD (l.take (i + 1)) = sD (l.take i) + l[i].f2.toNat := by
  unfold sN sD
  rw [List.take_succ_eq_append_getElem h]
  simp only [List.map_append, List.sum_append, List.map_cons, List.map_nil, List.sum_cons, List.sum_nil, Nat.add_zero]
  exact ⟨trivial, trivial⟩
theorem rS_l0 (l : List S61) (hl : l.length ≤ 8) (h : ∀ x ∈ l, In3 x.f0 x.f1 x.f2) (v : Int × Int × Int)
    (R : Ev (fun k => if ((sD l : Nat) : Int) = 0 then (some ((0 : Int), (0 : Int), (10 : Int))) else ((wigeonref06_Ratio.f k (sN l : Nat) (sD l : Nat)).bind fun b => (some (b.1, b.2, 0)))) v) :
    ∀ d i : Nat, i + d = l.length → Ev (fun k => wigeonref06_Schnabel.l0 k l ((sN (l.take i) : Nat) : Int) ((sD (l.take i) : Nat) : Int) (i : Int)) v
  | 0, i, hi => by
    refine Ev.step (fun k => wigeonref06_Schnabel.l0.eq_2 ..) (evn (by omega) ?_)
    rw [List.take_of_length_le (by omega)]; exact R
  | d + 1, i, hi => by
    have hlt : i < l.length := by omega
    obtain ⟨e1, e2⟩ := sN_snoc l i hlt
    obtain ⟨b1, b2⟩ := sums_small (l.take (i + 1)) (fun x hx => h x (List.mem_of_mem_take hx))
    obtain ⟨h1, h2, h3⟩ := h l[i] (List.getElem_mem hlt)
    have hlen : (l.take (i + 1)).length ≤ 8 := by rw [List.length_take]; omega
    refine Ev.step (fun k => wigeonref06_Schnabel.l0.eq_2 ..) (evp (by omega) (evp (by omega) ?_))
    have R2 := rS_l0 l hl h v R d (i + 1) (by omega)
    rw [rdS l i hlt]
    rw [e1, e2] at R2
    rw [e1] at b1
    rw [e2] at b2
    generalize l[i] = x at *
    have e : x.f0 * x.f1 = ((x.f0.toNat * x.f1.toNat : Nat) : Int) := by rw [Int.natCast_mul, Int.toNat_of_nonneg h1.1, Int.toNat_of_nonneg h2.1]
    rw [e]
    generalize x.f0.toNat * x.f1.toNat = q at *
    rw [w64N q (by omega), w64 (n := (sN (l.take i) : Nat) + (q : Int)) (by omega) (by omega), w64 (n := (sD (l.take i) : Nat) + x.f2) (by omega) (by omega), w64 (n := (i : Int) + 1) (by omega) (by omega)]
    rw [show ((sN (l.take i) : Nat) : Int) + (q : Int) = ((sN (l.take i) + q : Nat) : Int) by omega, show ((sD (l.take i) : Nat) : Int) + x.f2 = ((sD (l.take i) + x.f2.toNat : Nat) : Int) by omega]
    exact R2
theorem Sch (l : List S61) (hl : l.length ≤ 100) : ∃ x y e : Int, Ev (fun k => count_Schnabel.f k l) (x, y, e) ∧ Ev (fun k => wigeonref06_Schnabel.f k l) (x, y, e) := by
  unfold count_Schnabel.f wigeonref06_Schnabel.f count_total_s1.f count_total_s2.f
  by_cases h : vAll l = 0
  · have hl8 : l.length ≤ 8 := by
      unfold vAll at h
      by_cases h8 : l.length > 8
      · rw [if_pos h8] at h; exact absurd h (by decide)
      · omega
    have hv : vdays l = 0 := by unfold vAll at h; rwa [if_neg (by omega)] at h
    have hin := vdays_ok l hv
    obtain ⟨b1, b2⟩ := sums_small l hin
    rw [tot1 l hl8 hin, tot2 l hl8 hin]
    have A : ∀ (v : Int × Int × Int), Ev (fun k => if ((sD l : Nat) : Int) = 0 then (some ((0 : Int), (0 : Int), (10 : Int))) else ((wigeonref06_Ratio.f k (sN l : Nat) (sD l : Nat)).bind fun b => (some (b.1, b.2, 0)))) v → Ev (fun k => wigeonref06_Schnabel.l0 k l 0 0 0) v := fun v R => rS_l0 l hl8 hin v R l.length 0 (by omega)
    by_cases h0 : sD l = 0
    · exact ⟨0, 0, 10, evb (vd_ev l hl) (evp h (evs rfl (evp (by omega) (Ev.now _)))), evb (rvd_ev l hl) (evp h (A _ (evp (by omega) (Ev.now _))))⟩
    · exact ⟨_, _, 0, evb (vd_ev l hl) (evp h (evs rfl (evn (by omega) (evs rfl (evb (fraction_ev (sN l) (sD l) (by omega) (by omega) (by omega)) (Ev.now _)))))),
        evb (rvd_ev l hl) (evp h (A _ (evn (by omega) (evb (ratio_ev (sN l) (sD l) (by omega) (by omega) (by omega)) (Ev.now _)))))⟩
  · exact ⟨0, 0, vAll l, evb (vd_ev l hl) (evn h (Ev.now _)), evb (rvd_ev l hl) (evn h (Ev.now _))⟩
theorem CountDays (a0 : List S61) (h0 : (a0.length ≤ 9223372036854775807 ∧ ∀ x_ ∈ a0, ((Lit.int .i64 x_.f0).wf = true) ∧ ((Lit.int .i64 x_.f1).wf = true) ∧ ((Lit.int .i64 x_.f2).wf = true))) : ∃ k, wigeonlaw06_CountDays.f k a0 = some true := by
  refine Ev.rounds (g := fun k => wigeonlaw06_CountDays.f k a0) ?_
  unfold wigeonlaw06_CountDays.f
  by_cases h : (a0.length : Int) > 100
  · exact evp h (evb known_ev (Ev.now _))
  · obtain ⟨x, y, e, E1, E2⟩ := Sch a0 (by omega)
    exact evn h (evb E1 (evb E2 (evb (vd_ev a0 (by omega)) (evb (rvd_ev a0 (by omega)) (evp rfl (evp (by simp) (evp rfl (evb known_ev (Ev.now _)))))))))

end Go.Proofs.Ytdgoaekcgphhbaa.Pure
