/- The plain law behind the row: what the printed functions of this law compute answers true, for every input that the row lets in. -/
import Derived.Test.YtdgoaekcgphhbaaQCountOdds6
namespace Go.Proofs.Ytdgoaekcgphhbaa.Pure
set_option linter.unusedVariables false
set_option linter.unusedSimpArgs false
open Go.RowKit Go.Proofs.Ytdgoaekcgphhbaa.PCountOdds Go.Proofs.YtdgoaekcgphhbaaW.PrintWords Go.Proofs.YtdgoaekcgphhbaaW.PrintLast
namespace Cnt
/-- binomial coefficients by Pascal's triangle -/
def ch : Nat → Nat → Nat
  | _, 0 => 1
  | 0, _ + 1 => 0
  | n + 1, k + 1 => ch n k + ch n (k + 1)
@[simp] theorem ch_zero (n : Nat) : ch n 0 = 1 := by cases n <;> rfl
@[simp] theorem ch_zs (k : Nat) : ch 0 (k + 1) = 0 := rfl
theorem ch_ss (n k : Nat) : ch (n + 1) (k + 1) = ch n k + ch n (k + 1) := rfl
theorem ch_gt : ∀ (n k : Nat), n < k → ch n k = 0
  | 0, 0, h => by omega
  | 0, k + 1, _ => rfl
  | n + 1, 0, h => by omega
  | n + 1, k + 1, h => by rw [ch_ss, ch_gt n k (by omega), ch_gt n (k + 1) (by omega)]
theorem ch_self (n : Nat) : ch n n = 1 := by
  induction n with
  | zero => rfl
  | succ n ih => rw [ch_ss, ih, ch_gt n (n + 1) (by omega)]
theorem ch_pos : ∀ (n k : Nat), k ≤ n → 0 < ch n k
  | n, 0, _ => by simp
  | 0, k + 1, h => by omega
  | n + 1, k + 1, h => by rw [ch_ss]; have := ch_pos n k (by omega); omega
/-- absorption: k * C(n,k) = n * C(n-1,k-1) -/
theorem ch_absorb : ∀ (n k : Nat), (k + 1) * ch (n + 1) (k + 1) = (n + 1) * ch n k
  | 0, 0 => by simp [ch]
  | 0, k + 1 => by simp [ch]
  | n + 1, 0 => by
    have h := ch_absorb n 0
    rw [ch_ss (n + 1) 0]; simp at h ⊢; omega
  | n + 1, k + 1 => by
    have h1 := ch_absorb n k
    have h2 := ch_absorb n (k + 1)
    rw [ch_ss (n + 1) (k + 1)]
    have e1 : (k + 1 + 1) * (ch (n + 1) (k + 1) + ch (n + 1) (k + 1 + 1)) = (k + 1) * ch (n + 1) (k + 1) + ch (n + 1) (k + 1) + (k + 1 + 1) * ch (n + 1) (k + 1 + 1) := by
      rw [Nat.mul_add, Nat.succ_mul (k + 1)]
    rw [e1, h1, h2]
    have e2 : (n + 1 + 1) * ch (n + 1) (k + 1) = (n + 1) * ch (n + 1) (k + 1) + ch (n + 1) (k + 1) := Nat.succ_mul _ _
    rw [e2, ch_ss n k, Nat.mul_add]; omega
/-- the next one of a row -/
theorem ch_next : ∀ (n k : Nat), (k + 1) * ch n (k + 1) = (n - k) * ch n k
  | 0, k => by simp
  | n + 1, 0 => by have := ch_absorb n 0; simp at this ⊢; omega
  | n + 1, k + 1 => by
    by_cases h : k ≤ n
    · have h1 := ch_next n k
      have h2 := ch_next n (k + 1)
      have ha := ch_absorb n k
      rw [ch_ss n (k + 1), ch_ss n k, Nat.mul_add, h2]
      obtain ⟨d, rfl⟩ : ∃ d, n = k + d := ⟨n - k, by omega⟩
      simp only [show k + d - k = d from by omega, show k + d + 1 - (k + 1) = d from by omega] at *
      rw [Nat.mul_add]
      have : (k + 1 + 1) * ch (k + d) (k + 1) = (k + 1) * ch (k + d) (k + 1) + ch (k + d) (k + 1) := Nat.succ_mul _ _
      rw [this, h1]
      cases d with
      | zero => simp [ch_gt k (k + 1) (by omega)]
      | succ d => 
        rw [show k + (d + 1) - (k + 1) = d from by omega]
        have : (d + 1) * ch (k + (d + 1)) (k + 1) = d * ch (k + (d + 1)) (k + 1) + ch (k + (d + 1)) (k + 1) := Nat.succ_mul _ _
        omega
    · rw [ch_gt (n + 1) (k + 1 + 1) (by omega), show n + 1 - (k + 1) = 0 from by omega]; simp
theorem ch_symm : ∀ (n k : Nat), k ≤ n → ch n (n - k) = ch n k
  | n, 0, _ => by simp [ch_self]
  | 0, k + 1, h => by omega
  | n + 1, k + 1, h => by
    rw [ch_ss, show n + 1 - (k + 1) = n - k from by omega]
    by_cases e : k = n
    · subst e; simp [ch_self, ch_gt k (k + 1) (by omega)]
    · obtain ⟨d, hd⟩ : ∃ d, n - k = d + 1 := ⟨n - k - 1, by omega⟩
      rw [hd, ch_ss, ← hd, ch_symm n k (by omega), show d = n - (k + 1) from by omega, ch_symm n (k + 1) (by omega)]; omega
theorem ch_mono (n k : Nat) : ch n k ≤ ch (n + 1) k := by
  cases k with
  | zero => simp
  | succ k => rw [ch_ss]; omega
theorem ch_le : ∀ (d n k : Nat), ch n k ≤ ch (n + d) k
  | 0, _, _ => Nat.le_refl _
  | d + 1, n, k => Nat.le_trans (ch_le d n k) (ch_mono _ _)
/-- a row of the triangle as a list -/
def nx : Nat → List Nat → List Nat
  | a, [] => [a]
  | a, b :: l => (a + b) :: nx b l
def rowOf : Nat → List Nat
  | 0 => [1]
  | n + 1 => nx 0 (rowOf n)
theorem nx_get : ∀ (l : List Nat) (a i : Nat), (nx a l).getD i 0 = (if i = 0 then a else l.getD (i - 1) 0) + l.getD i 0
  | [], a, 0 => by simp [nx]
  | [], a, i + 1 => by simp [nx]
  | b :: l, a, 0 => by simp [nx]
  | b :: l, a, 1 => by
    have := nx_get l b 0; simp [nx] at this ⊢; omega
  | b :: l, a, i + 2 => by
    have := nx_get l b (i + 1)
    simp only [nx, List.getD_cons_succ] at this ⊢
    rw [this]; simp
theorem rowOf_get : ∀ (n k : Nat), (rowOf n).getD k 0 = ch n k
  | 0, 0 => rfl
  | 0, k + 1 => rfl
  | n + 1, 0 => by simp only [rowOf]; rw [nx_get, rowOf_get n 0]; simp
  | n + 1, k + 1 => by simp only [rowOf]; rw [nx_get, rowOf_get n (k + 1), if_neg (by omega), Nat.add_sub_cancel, rowOf_get n k, ch_ss]
def big : Nat := 118264581564861424
theorem row60 : ∀ x ∈ rowOf 60, x ≤ 118264581564861424 := by decide +kernel
theorem ch_bound (n k : Nat) (h : n ≤ 60) : ch n k ≤ 118264581564861424 := by
  have h1 := ch_le (60 - n) n k
  rw [show n + (60 - n) = 60 from by omega, ← rowOf_get 60 k] at h1
  refine Nat.le_trans h1 ?_
  by_cases e : k < (rowOf 60).length
  · rw [List.getD_eq_getElem?_getD, List.getElem?_eq_getElem e]; exact row60 _ (List.getElem_mem e)
  · rw [List.getD_eq_getElem?_getD, List.getElem?_eq_none (by omega)]; simp
/-- sums -/
def sm (f : Nat → Nat) : Nat → Nat
  | 0 => 0
  | n + 1 => sm f n + f n
theorem sm_congr {f g : Nat → Nat} : ∀ n, (∀ i, i < n → f i = g i) → sm f n = sm g n
  | 0, _ => rfl
  | n + 1, h => by rw [sm, sm, sm_congr n (fun i hi => h i (by omega)), h n (by omega)]
theorem sm_add (f g : Nat → Nat) : ∀ n, sm (fun i => f i + g i) n = sm f n + sm g n
  | 0 => rfl
  | n + 1 => by simp only [sm]; rw [sm_add f g n]; omega
theorem sm_shift (f : Nat → Nat) : ∀ n, sm f (n + 1) = f 0 + sm (fun i => f (i + 1)) n
  | 0 => by simp [sm]
  | n + 1 => by rw [sm, sm_shift f n, sm]; omega
theorem sm_mul (a : Nat) (f : Nat → Nat) : ∀ n, sm (fun i => a * f i) n = a * sm f n
  | 0 => rfl
  | n + 1 => by simp only [sm]; rw [sm_mul a f n, Nat.mul_add]
theorem sm_le (f : Nat → Nat) : ∀ n i, i < n → f i ≤ sm f n
  | 0, i, h => by omega
  | n + 1, i, h => by
    rw [sm]
    by_cases e : i = n
    · subst e; omega
    · have := sm_le f n i (by omega); omega
theorem sm_mono (f : Nat → Nat) : ∀ d n, sm f n ≤ sm f (n + d)
  | 0, n => Nat.le_refl _
  | d + 1, n => by have := sm_mono f d n; rw [Nat.add_succ, sm]; omega
/-- Vandermonde -/
theorem vander : ∀ (m r c : Nat), sm (fun i => ch m i * ch r (c - i)) (c + 1) = ch (m + r) c
  | 0, r, c => by
    rw [sm_shift]
    have : sm (fun i => ch 0 (i + 1) * ch r (c - (i + 1))) c = sm (fun i => 0 * i) c := sm_congr c (fun i _ => by simp)
    rw [this, sm_mul]; simp
  | m + 1, r, 0 => by simp [sm]
  | m + 1, r, c + 1 => by
    rw [show m + 1 + r = (m + r) + 1 from by omega, ch_ss, ← vander m r c, ← vander m r (c + 1), sm_shift (n := c + 1), sm_shift (n := c + 1)]
    have : sm (fun i => ch (m + 1) (i + 1) * ch r (c + 1 - (i + 1))) (c + 1) = sm (fun i => ch m i * ch r (c - i) + ch m (i + 1) * ch r (c + 1 - (i + 1))) (c + 1) :=
      sm_congr _ (fun i _ => by rw [ch_ss, Nat.add_mul, show c + 1 - (i + 1) = c - i from by omega])
    rw [this, sm_add]; simp; omega
end Cnt
namespace Cnt
def fact : Nat → Nat
  | 0 => 1
  | n + 1 => (n + 1) * fact n
theorem fact_pos : ∀ n, 0 < fact n
  | 0 => by decide
  | n + 1 => Nat.mul_pos (by omega) (fact_pos n)
theorem ch_fact : ∀ n k : Nat, k ≤ n → ch n k * (fact k * fact (n - k)) = fact n
  | n, 0, _ => by simp [fact]
  | 0, k + 1, h => by omega
  | n + 1, k + 1, h => by
    have a := ch_absorb n k
    have i := ch_fact n k (by omega)
    rw [show n + 1 - (k + 1) = n - k by omega]
    show ch (n + 1) (k + 1) * ((k + 1) * fact k * fact (n - k)) = (n + 1) * fact n
    calc ch (n + 1) (k + 1) * ((k + 1) * fact k * fact (n - k)) = ((k + 1) * ch (n + 1) (k + 1)) * (fact k * fact (n - k)) := by ac_rfl
      _ = (n + 1) * (ch n k * (fact k * fact (n - k))) := by rw [a]; ac_rfl
      _ = _ := by rw [i]
/-- the ways, at all numbers -/
def wN (b m c i : Nat) : Nat := if i ≤ c then ch m i * ch (b - m) (c - i) else 0
theorem wN_zero (b m c i : Nat) (h : m < i ∨ c < i ∨ b - m < c - i) : wN b m c i = 0 := by
  unfold wN
  by_cases h1 : i ≤ c
  · rw [if_pos h1]
    rcases h with h | h | h
    · rw [ch_gt m i h]; simp
    · omega
    · rw [ch_gt _ _ h]; simp
  · rw [if_neg h1]
/-- marked and caught exchanged -/
theorem wN_swap (b m c r : Nat) (hm : m ≤ b) (hc : c ≤ b) : wN b m c r * ch b m = wN b c m r * ch b c := by
  by_cases h : m < r ∨ c < r ∨ b < m + c - r
  · rw [wN_zero b m c r (by omega), wN_zero b c m r (by omega)]; simp
  · unfold wN
    rw [if_pos (by omega), if_pos (by omega)]
    have f1 := ch_fact m r (by omega)
    have f2 := ch_fact (b - m) (c - r) (by omega)
    have f3 := ch_fact b m hm
    have g1 := ch_fact c r (by omega)
    have g2 := ch_fact (b - c) (m - r) (by omega)
    have g3 := ch_fact b c hc
    rw [show b - m - (c - r) = b + r - m - c by omega] at f2
    rw [show b - c - (m - r) = b + r - m - c by omega] at g2
    have hp : 0 < fact r * fact (m - r) * fact (c - r) * fact (b + r - m - c) := Nat.mul_pos (Nat.mul_pos (Nat.mul_pos (fact_pos _) (fact_pos _)) (fact_pos _)) (fact_pos _)
    refine Nat.eq_of_mul_eq_mul_left hp ?_
    calc fact r * fact (m - r) * fact (c - r) * fact (b + r - m - c) * (ch m r * ch (b - m) (c - r) * ch b m)
        = ch b m * ((ch m r * (fact r * fact (m - r))) * (ch (b - m) (c - r) * (fact (c - r) * fact (b + r - m - c)))) := by ac_rfl
      _ = fact b := by rw [f1, f2, f3]
      _ = ch b c * ((ch c r * (fact r * fact (c - r))) * (ch (b - c) (m - r) * (fact (m - r) * fact (b + r - m - c)))) := by rw [g1, g2, g3]
      _ = _ := by ac_rfl
theorem wN_all (b m c : Nat) (hm : m ≤ b) : sm (wN b m c) (c + 1) = ch b c := by
  rw [sm_congr (g := fun i => ch m i * ch (b - m) (c - i)) (c + 1) (fun i hi => by unfold wN; rw [if_pos (by omega)]), vander m (b - m) c, show m + (b - m) = b by omega]
theorem sm_rest (f : Nat → Nat) (n : Nat) (h : ∀ i, n ≤ i → f i = 0) : ∀ d, sm f (n + d) = sm f n
  | 0 => rfl
  | d + 1 => by rw [← Nat.add_assoc, sm, h (n + d) (by omega), sm_rest f n h d]; rfl
theorem few_le (b m c n : Nat) (hm : m ≤ b) : sm (wN b m c) n ≤ ch b c := by
  have h1 := sm_mono (wN b m c) (c + 1) n
  rw [Nat.add_comm n (c + 1), sm_rest _ (c + 1) (fun i hi => wN_zero b m c i (by omega)) n, wN_all b m c hm] at h1
  exact h1
/-- the sum of all numbers, each with its ways -/
theorem mean_sum (b m c : Nat) (hm : m ≤ b) : sm (fun i => i * wN b m c i) (c + 1) * b = m * c * ch b c := by
  cases m with
  | zero =>
    rw [sm_congr (g := fun i => 0 * i) (c + 1) (fun i hi => by
      cases i with
      | zero => simp
      | succ i => rw [wN_zero b 0 c (i + 1) (by omega)]; simp), sm_mul]; simp
  | succ m =>
    cases c with
    | zero => simp [sm]
    | succ c =>
      obtain ⟨b, rfl⟩ : ∃ d, b = d + 1 := ⟨b - 1, by omega⟩
      rw [sm_shift]
      have e : sm (fun i => (i + 1) * wN (b + 1) (m + 1) (c + 1) (i + 1)) (c + 1) = sm (fun i => (m + 1) * (ch m i * ch (b - m) (c - i))) (c + 1) :=
        sm_congr _ (fun i hi => by
          unfold wN
          rw [if_pos (by omega), show b + 1 - (m + 1) = b - m by omega, show c + 1 - (i + 1) = c - i by omega, ← Nat.mul_assoc, ch_absorb m i, Nat.mul_assoc])
      rw [e, sm_mul, vander m (b - m) c, show m + (b - m) = b by omega]
      have a := ch_absorb b c
      calc (0 * wN (b + 1) (m + 1) (c + 1) 0 + (m + 1) * ch b c) * (b + 1) = (m + 1) * ((b + 1) * ch b c) := by rw [Nat.zero_mul, Nat.zero_add]; ac_rfl
        _ = (m + 1) * ((c + 1) * ch (b + 1) (c + 1)) := by rw [a]
        _ = _ := by ac_rfl
theorem sm_le_mul (f : Nat → Nat) (c : Nat) : ∀ n, n ≤ c + 1 → sm (fun i => i * f i) n ≤ c * sm f n
  | 0, _ => by simp [sm]
  | n + 1, h => by
    rw [sm, sm, Nat.mul_add]
    have := sm_le_mul f c n (by omega)
    have := Nat.mul_le_mul_right (f n) (show n ≤ c by omega)
    omega
end Cnt
namespace Cnt
/-- the ways and all choices -/
def W (m c r n : Nat) : Nat := ch m r * ch (n - m) (c - r)
theorem ch_up (n k : Nat) (h : k ≤ n + 1) : (n + 1 - k) * ch (n + 1) k = (n + 1) * ch n k := by
  cases k with
  | zero => simp
  | succ k =>
    have h1 := ch_absorb n k
    have h2 := ch_next n k
    have h3 := ch_absorb n k
    have e : (n + 1) * ch (n + 1) (k + 1) = (n + 1) * ch n k + (n + 1) * ch n (k + 1) := by rw [ch_ss, Nat.mul_add]
    have e2 : (n + 1 - (k + 1)) * ch (n + 1) (k + 1) + (k + 1) * ch (n + 1) (k + 1) = (n + 1) * ch (n + 1) (k + 1) := by
      rw [← Nat.add_mul]; congr 1; omega
    omega
theorem W_pos {m c r n : Nat} (h1 : r ≤ m) (h2 : r ≤ c) (h3 : m + c ≤ n + r) : 0 < W m c r n :=
  Nat.mul_pos (ch_pos _ _ h1) (ch_pos _ _ (by omega))
/-- one bird more: both products have common factors -/
theorem W_step {m c r n : Nat} (h1 : r ≤ m) (h2 : r ≤ c) (h3 : m + c ≤ n + r) :
    (n + 1 + r - m - c) * (n + 1) * (W m c r (n + 1) * ch n c) = (n + 1 - m) * (n + 1 - c) * (W m c r n * ch (n + 1) c) := by
  have a := ch_up (n - m) (c - r) (by omega)
  have b := ch_up n c (by omega)
  rw [show n - m + 1 = n + 1 - m from by omega] at a
  rw [show n + 1 - m - (c - r) = n + 1 + r - m - c from by omega] at a
  unfold W
  calc (n + 1 + r - m - c) * (n + 1) * (ch m r * ch (n + 1 - m) (c - r) * ch n c)
      = ch m r * ((n + 1 + r - m - c) * ch (n + 1 - m) (c - r)) * ((n + 1) * ch n c) := by ac_rfl
    _ = ch m r * ((n + 1 - m) * ch (n - m) (c - r)) * ((n + 1 - c) * ch (n + 1) c) := by rw [a, b]
    _ = _ := by ac_rfl
theorem prod_cmp {m c r n : Nat} (h3 : m + c ≤ n + r) (h1 : r ≤ m) (h2 : r ≤ c) :
    (n + 1 - m) * (n + 1 - c) + (n + 1) * r = (n + 1 + r - m - c) * (n + 1) + m * c := by
  obtain ⟨p, hp⟩ : ∃ p, n + 1 = m + p := ⟨n + 1 - m, by omega⟩
  obtain ⟨q, hq⟩ : ∃ q, p + r = c + q := ⟨p + r - c, by omega⟩
  have e1 : n + 1 - m = p := by omega
  have e2 : n + 1 + r - m - c = q := by omega
  have e3 : n + 1 - c + r = m + q := by omega
  rw [e1, e2]
  obtain ⟨s, hs⟩ : ∃ s, m = r + s := ⟨m - r, by omega⟩
  have e4 : n + 1 - c = s + q := by omega
  rw [e4, hp]
  have : c = p + r - q := by omega
  obtain ⟨t, ht⟩ : ∃ t, c = r + t := ⟨c - r, by omega⟩
  have hpp : p = t + q := by omega
  subst hs ht hpp
  simp only [Nat.add_mul, Nat.mul_add]
  have := Nat.mul_comm t s
  have := Nat.mul_comm t r
  have := Nat.mul_comm q t
  have := Nat.mul_comm q s
  have := Nat.mul_comm q r
  have := Nat.mul_comm s r
  omega
/-- better, by one bird more -/
theorem W_better {m c r n : Nat} (h1 : r ≤ m) (h2 : r ≤ c) (h3 : m + c ≤ n + r) :
    W m c r n * ch (n + 1) c < W m c r (n + 1) * ch n c ↔ (n + 1) * r < m * c := by
  have e := W_step h1 h2 h3
  have p := prod_cmp h3 h1 h2
  generalize hX : W m c r (n + 1) * ch n c = X at *
  generalize hY : W m c r n * ch (n + 1) c = Y at *
  have hY0 : 0 < Y := by rw [← hY]; exact Nat.mul_pos (W_pos h1 h2 h3) (ch_pos _ _ (by omega))
  generalize hA : (n + 1 + r - m - c) * (n + 1) = A at *
  have hA0 : 0 < A := by rw [← hA]; exact Nat.mul_pos (by omega) (by omega)
  generalize (n + 1 - m) * (n + 1 - c) = B at *
  constructor
  · intro h
    have : A * Y < A * X := Nat.mul_lt_mul_of_pos_left h hA0
    have : A * Y < B * Y := by omega
    have := Nat.lt_of_mul_lt_mul_right this
    omega
  · intro h
    have hAB : A < B := by omega
    have : A * Y < B * Y := Nat.mul_lt_mul_of_pos_right hAB hY0
    have : A * Y < A * X := by omega
    exact Nat.lt_of_mul_lt_mul_left this
/-- from the best on, none is better -/
theorem W_never {m c r b : Nat} (h1 : r ≤ m) (h2 : r ≤ c) (h3 : m + c ≤ b + r) (hb : ¬ (b + 1) * r < m * c) :
    ∀ d, W m c r (b + d) * ch b c ≤ W m c r b * ch (b + d) c
  | 0 => by simp
  | d + 1 => by
    have ih := W_never h1 h2 h3 hb d
    have hs : W m c r (b + d + 1) * ch (b + d) c ≤ W m c r (b + d) * ch (b + d + 1) c := by
      have := (W_better (n := b + d) h1 h2 (by omega))
      have h : ¬ (b + d + 1) * r < m * c := by
        have : (b + 1) * r ≤ (b + d + 1) * r := Nat.mul_le_mul_right _ (by omega)
        omega
      have := mt this.1 h
      omega
    have hp : 0 < ch (b + d) c := ch_pos _ _ (by omega)
    refine Nat.le_of_mul_le_mul_left ?_ hp
    rw [show b + (d + 1) = b + d + 1 from rfl]
    calc ch (b + d) c * (W m c r (b + d + 1) * ch b c) = (W m c r (b + d + 1) * ch (b + d) c) * ch b c := by ac_rfl
      _ ≤ (W m c r (b + d) * ch (b + d + 1) c) * ch b c := Nat.mul_le_mul_right _ hs
      _ = (W m c r (b + d) * ch b c) * ch (b + d + 1) c := by ac_rfl
      _ ≤ (W m c r b * ch (b + d) c) * ch (b + d + 1) c := Nat.mul_le_mul_right _ ih
      _ = _ := by ac_rfl
/-- the 128 bits of a product -/
theorem mul64 (x y : Nat) :
    let x0 := x % 4294967296; let x1 := x / 4294967296; let y0 := y % 4294967296; let y1 := y / 4294967296
    let w0 := x0 * y0
    let t := x1 * y0 + w0 / 4294967296
    let w1 := t % 4294967296 + x0 * y1
    let w2 := t / 4294967296
    (x1 * y1 + w2 + w1 / 4294967296) * 18446744073709551616 + (x * y) % 18446744073709551616 = x * y := by
  intro x0 x1 y0 y1 w0 t w1 w2
  have ex : x = x1 * 4294967296 + x0 := by omega
  have ey : y = y1 * 4294967296 + y0 := by omega
  have e : x * y = x1 * y1 * 18446744073709551616 + (x1 * y0 + x0 * y1) * 4294967296 + w0 := by
    rw [ex, ey]; simp only [Nat.add_mul, Nat.mul_add]
    show _ = _ + x0 * y0
    have a1 : x1 * 4294967296 * (y1 * 4294967296) = x1 * y1 * 18446744073709551616 := by
      rw [show (18446744073709551616 : Nat) = 4294967296 * 4294967296 from rfl]; ac_rfl
    have a2 : x1 * 4294967296 * y0 = x1 * y0 * 4294967296 := by ac_rfl
    have a3 : x0 * (y1 * 4294967296) = x0 * y1 * 4294967296 := by ac_rfl
    omega
  have : (x1 * y1 + w2 + w1 / 4294967296) = x * y / 18446744073709551616 := by
    rw [e]; omega
  rw [this]; omega
end Cnt
namespace Cnt
theorem lowest {p q p' q' : Nat} (h : p * q' = p' * q) (hq : 0 < q) (hq' : 0 < q') :
    p / Nat.gcd p q = p' / Nat.gcd p' q' ∧ q / Nat.gcd p q = q' / Nat.gcd p' q' := by
  have hg : 0 < Nat.gcd p q := Nat.gcd_pos_of_pos_right _ hq
  have hg' : 0 < Nat.gcd p' q' := Nat.gcd_pos_of_pos_right _ hq'
  obtain ⟨a, ha⟩ := Nat.gcd_dvd_left p q
  obtain ⟨b, hb⟩ := Nat.gcd_dvd_right p q
  obtain ⟨a', ha'⟩ := Nat.gcd_dvd_left p' q'
  obtain ⟨b', hb'⟩ := Nat.gcd_dvd_right p' q'
  have c : Nat.Coprime (p / Nat.gcd p q) (q / Nat.gcd p q) := Nat.coprime_div_gcd_div_gcd hg
  have c' : Nat.Coprime (p' / Nat.gcd p' q') (q' / Nat.gcd p' q') := Nat.coprime_div_gcd_div_gcd hg'
  generalize Nat.gcd p q = g at *
  generalize Nat.gcd p' q' = g' at *
  subst ha hb ha' hb'
  rw [Nat.mul_div_cancel_left _ hg, Nat.mul_div_cancel_left _ hg] at *
  rw [Nat.mul_div_cancel_left _ hg', Nat.mul_div_cancel_left _ hg'] at *
  have h2 : a * b' = a' * b := by
    have : (g * g') * (a * b') = (g * g') * (a' * b) := by
      calc (g * g') * (a * b') = g * a * (g' * b') := by ac_rfl
        _ = g' * a' * (g * b) := h
        _ = _ := by ac_rfl
    exact Nat.eq_of_mul_eq_mul_left (Nat.mul_pos hg hg') this
  have d1 : a ∣ a' := c.dvd_of_dvd_mul_right (by rw [← h2]; exact Nat.dvd_mul_right _ _)
  have d2 : a' ∣ a := c'.dvd_of_dvd_mul_right (by rw [h2]; exact Nat.dvd_mul_right _ _)
  have d3 : b ∣ b' := c.symm.dvd_of_dvd_mul_left (by rw [h2]; exact Nat.dvd_mul_left _ _)
  have d4 : b' ∣ b := c'.symm.dvd_of_dvd_mul_left (by rw [← h2]; exact Nat.dvd_mul_left _ _)
  exact ⟨Nat.dvd_antisymm d1 d2, Nat.dvd_antisymm d3 d4⟩
end Cnt
namespace Cnt
/-- common divisors taken away across: what is left is in lowest terms, and no greater than any other form of the fraction -/
theorem across {X1 X2 Y1 Y2 N D : Nat} (hX : Nat.Coprime X1 X2) (hY : Nat.Coprime Y1 Y2) (hN : 0 < N) (hD : 0 < D) (hX1 : 0 < X1) (hY1 : 0 < Y1) (hX2 : 0 < X2) (hY2 : 0 < Y2) (h : D * (X1 * Y2) = N * (Y1 * X2)) :
    let P := X1 / Nat.gcd X1 Y1 * (Y2 / Nat.gcd X2 Y2); let Q := X2 / Nat.gcd X2 Y2 * (Y1 / Nat.gcd X1 Y1)
    P ≤ N ∧ Q ≤ D ∧ 0 < Q ∧ P * D = N * Q := by
  intro P Q
  have hg : 0 < Nat.gcd X1 Y1 := Nat.gcd_pos_of_pos_left _ hX1
  have hh : 0 < Nat.gcd X2 Y2 := Nat.gcd_pos_of_pos_left _ hX2
  have c1 : Nat.Coprime (X1 / Nat.gcd X1 Y1) (Y1 / Nat.gcd X1 Y1) := Nat.coprime_div_gcd_div_gcd hg
  have c2 : Nat.Coprime (X2 / Nat.gcd X2 Y2) (Y2 / Nat.gcd X2 Y2) := Nat.coprime_div_gcd_div_gcd hh
  have hP : P = X1 / Nat.gcd X1 Y1 * (Y2 / Nat.gcd X2 Y2) := rfl
  have hQ : Q = X2 / Nat.gcd X2 Y2 * (Y1 / Nat.gcd X1 Y1) := rfl
  clear_value P Q
  obtain ⟨p1, e1⟩ := Nat.gcd_dvd_left X1 Y1
  obtain ⟨q1, e2⟩ := Nat.gcd_dvd_right X1 Y1
  obtain ⟨p2, e3⟩ := Nat.gcd_dvd_left X2 Y2
  obtain ⟨q2, e4⟩ := Nat.gcd_dvd_right X2 Y2
  generalize Nat.gcd X1 Y1 = g at *
  generalize Nat.gcd X2 Y2 = k at *
  subst e1 e2 e3 e4
  rw [Nat.mul_div_cancel_left _ hg, Nat.mul_div_cancel_left _ hg] at c1
  rw [Nat.mul_div_cancel_left _ hh, Nat.mul_div_cancel_left _ hh] at c2
  rw [Nat.mul_div_cancel_left _ hg, Nat.mul_div_cancel_left _ hh] at hP hQ
  have c3 : Nat.Coprime p1 p2 := (Nat.Coprime.coprime_mul_left hX).coprime_mul_left_right
  have c4 : Nat.Coprime q1 q2 := (Nat.Coprime.coprime_mul_left hY).coprime_mul_left_right
  have cP : Nat.Coprime P Q := by
    rw [hP, hQ]
    exact Nat.Coprime.mul_left (Nat.Coprime.mul_right c3 c1) (Nat.Coprime.mul_right c2.symm c4.symm)
  have e : D * P = N * Q := by
    rw [hP, hQ]
    refine Nat.eq_of_mul_eq_mul_left (Nat.mul_pos hg hh) ?_
    calc g * k * (D * (p1 * q2)) = D * (g * p1 * (k * q2)) := by ac_rfl
      _ = N * (g * q1 * (k * p2)) := h
      _ = _ := by ac_rfl
  have hq1 : 0 < q1 := Nat.pos_of_mul_pos_left hY1
  have hp2 : 0 < p2 := Nat.pos_of_mul_pos_left hX2
  have dP : P ∣ N := cP.dvd_of_dvd_mul_right (by rw [← e]; exact Nat.dvd_mul_left _ _)
  have dQ : Q ∣ D := cP.symm.dvd_of_dvd_mul_right (by rw [e]; exact Nat.dvd_mul_left _ _)
  exact ⟨Nat.le_of_dvd hN dP, Nat.le_of_dvd hD dQ, by rw [hQ]; exact Nat.mul_pos hp2 hq1, by rw [Nat.mul_comm]; exact e⟩
end Cnt

-- base
theorem evp {α : Type} {c : Prop} [Decidable c] {f g : Nat → Option α} {r : α} (h : c) (k : Ev f r) : Ev (fun n => if c then f n else g n) r :=
  Ev.congr (fun _ => if_pos h) k
theorem evn {α : Type} {c : Prop} [Decidable c] {f g : Nat → Option α} {r : α} (h : ¬ c) (k : Ev g r) : Ev (fun n => if c then f n else g n) r :=
  Ev.congr (fun _ => if_neg h) k
theorem evb {α β : Type} {g : Nat → Option α} {f : Nat → α → Option β} {a : α} {r : β} (h : Ev g a) (k : Ev (fun n => f n a) r) : Ev (fun n => (g n).bind (f n)) r := Ev.bind h k
theorem evs {α β : Type} {x : Option α} {f : Nat → α → Option β} {a : α} {r : β} (h : x = some a) (k : Ev (fun n => f n a) r) : Ev (fun n => x.bind (f n)) r := by
  subst h; exact k
theorem w64 {n : Int} (h : -9223372036854775808 ≤ n) (h2 : n ≤ 9223372036854775807) : wrap64 n = n := by unfold wrap64; omega
theorem rd_at (l : List Int) (i : Nat) (h : i < l.length) : rd l (i : Int) = l[i] := by
  simp [rd, List.getD_eq_getElem?_getD, List.getElem?_eq_getElem h]
def inB (x : Int) : Bool := decide (0 ≤ x ∧ x ≤ 60)
/-- binomial coefficients of whole numbers -/
def bin (n k : Int) : Int := if 0 ≤ k ∧ k ≤ n then ((Cnt.ch n.toNat k.toNat : Nat) : Int) else 0
theorem bin_nn (n k : Nat) : bin n k = (Cnt.ch n k : Nat) := by
  unfold bin
  by_cases h : k ≤ n
  · rw [if_pos (by omega)]; simp
  · rw [if_neg (by omega), Cnt.ch_gt n k (by omega)]; rfl
theorem bin_lo (n k : Int) : 0 ≤ bin n k := by unfold bin; split <;> omega
theorem bin_hi (n k : Int) (h : n ≤ 60) : bin n k ≤ 118264581564861424 := by
  unfold bin; split
  · have := Cnt.ch_bound n.toNat k.toNat (by omega); omega
  · omega
theorem bin_pos (n k : Int) (h : 0 ≤ k) (h' : k ≤ n) : 0 < bin n k := by
  unfold bin; rw [if_pos ⟨h, h'⟩]; have := Cnt.ch_pos n.toNat k.toNat (by omega); omega
/-- the ways -/
def wys (b m c r : Int) : Int := bin m r * bin (b - m) (c - r)
theorem wys_lo (b m c r : Int) : 0 ≤ wys b m c r := Int.mul_nonneg (bin_lo _ _) (bin_lo _ _)
theorem wys_zero (b m c r : Int) (h : r < 0 ∨ m < r ∨ c < r ∨ b - m < c - r) : wys b m c r = 0 := by
  unfold wys bin
  by_cases h1 : 0 ≤ r ∧ r ≤ m
  · rw [if_neg (show ¬ (0 ≤ c - r ∧ c - r ≤ b - m) by omega)]; simp
  · rw [if_neg h1]; simp
theorem wys_nat (b m c r : Nat) (h : m ≤ b) (h2 : r ≤ c) : wys b m c r = ((Cnt.ch m r * Cnt.ch (b - m) (c - r) : Nat) : Int) := by
  unfold wys
  rw [show (b : Int) - m = ((b - m : Nat) : Int) by omega, show (c : Int) - r = ((c - r : Nat) : Int) by omega, bin_nn, bin_nn]; simp
theorem wys_hi (b m c r : Int) (h0 : 0 ≤ m) (h : m ≤ b) (hb : b ≤ 60) : wys b m c r ≤ 118264581564861424 := by
  by_cases h1 : r < 0 ∨ m < r ∨ c < r ∨ b - m < c - r
  · rw [wys_zero _ _ _ _ h1]; omega
  · obtain ⟨b, rfl⟩ := Int.eq_ofNat_of_zero_le (show 0 ≤ b by omega)
    obtain ⟨m, rfl⟩ := Int.eq_ofNat_of_zero_le (show 0 ≤ m by omega)
    obtain ⟨c, rfl⟩ := Int.eq_ofNat_of_zero_le (show 0 ≤ c by omega)
    obtain ⟨r, rfl⟩ := Int.eq_ofNat_of_zero_le (show 0 ≤ r by omega)
    rw [wys_nat _ _ _ _ (by omega) (by omega)]
    have v := Cnt.vander m (b - m) c
    have l := Cnt.sm_le (fun i => Cnt.ch m i * Cnt.ch (b - m) (c - i)) (c + 1) r (by omega)
    rw [v, show m + (b - m) = b by omega] at l
    have := Cnt.ch_bound b c (by omega)
    omega

-- examine
theorem count_within_eq (a b c : Int) : count_within.f a b c = some (decide (b ≤ a ∧ a ≤ c)) := by
  unfold count_within.f
  by_cases h : a ≥ b
  · rw [if_pos h]; have : (b ≤ a ∧ a ≤ c) ↔ a ≤ c := by omega
    simp [this]
  · rw [if_neg h]; have : ¬ (b ≤ a ∧ a ≤ c) := by omega
    simp [this]
theorem examine_l0 (l : List Int) (hl : l.length ≤ 1000) : ∀ d i : Nat, i + d = l.length → Ev (fun k => count_examine.l0 k l (l.length : Int) (i : Int)) (if (l.drop i).all inB then (0 : Int) else 1)
  | 0, i, h => by
    refine Ev.step (fun k => count_examine.l0.eq_2 ..) (evn (by omega) ?_)
    rw [List.drop_eq_nil_of_le (by omega)]
    exact Ev.now _
  | d + 1, i, h => by
    refine Ev.step (fun k => count_examine.l0.eq_2 ..) (evp (by omega) (evp (by omega) (evp (by omega) (evs (count_within_eq ..) ?_))))
    rw [rd_at l i (by omega), List.drop_eq_getElem_cons (show i < l.length by omega), List.all_cons]
    by_cases hc : 0 ≤ l[i] ∧ l[i] ≤ 60
    · refine evp (by simpa using hc) ?_
      rw [show inB l[i] = true from by simpa [inB] using hc, Bool.true_and, w64 (by omega) (by omega)]
      exact examine_l0 l hl d (i + 1) (by omega)
    · refine evn (by simpa using hc) ?_
      rw [show inB l[i] = false from by simpa [inB] using hc, Bool.false_and]
      exact Ev.now _
theorem examine_ev (l : List Int) (hl : l.length ≤ 1000) : Ev (fun k => count_examine.f k l) (if l.all inB then (0 : Int) else 1) := by
  have := examine_l0 l hl l.length 0 (by omega)
  exact this
theorem examine_ok (l : List Int) (hl : l.length ≤ 1000) (h : l.all inB = true) : Ev (fun k => count_examine.f k l) (0 : Int) := by
  have := examine_ev l hl; rwa [if_pos h] at this
theorem examine_no (l : List Int) (hl : l.length ≤ 1000) (h : ¬ l.all inB = true) : Ev (fun k => count_examine.f k l) (1 : Int) := by
  have := examine_ev l hl; rwa [if_neg h] at this

-- areBirds
theorem ref_within_eq (a b c : Int) : wigeonref06_within.f a b c = some (decide (b ≤ a ∧ a ≤ c)) := by
  unfold wigeonref06_within.f
  by_cases h : a ≥ b
  · rw [if_pos h]; have : (b ≤ a ∧ a ≤ c) ↔ a ≤ c := by omega
    simp [this]
  · rw [if_neg h]; have : ¬ (b ≤ a ∧ a ≤ c) := by omega
    simp [this]
theorem birds_l0 (l : List Int) (hl : l.length ≤ 1000) : ∀ d i : Nat, i + d = l.length → Ev (fun k => wigeonref06_areBirds.l0 k l (i : Int)) ((l.drop i).all inB)
  | 0, i, h => by
    refine Ev.step (fun k => wigeonref06_areBirds.l0.eq_2 ..) (evn (by omega) ?_)
    rw [List.drop_eq_nil_of_le (by omega)]
    exact Ev.now _
  | d + 1, i, h => by
    refine Ev.step (fun k => wigeonref06_areBirds.l0.eq_2 ..) (evp (by omega) (evp (by omega) (evs (ref_within_eq ..) ?_)))
    rw [rd_at l i (by omega), List.drop_eq_getElem_cons (show i < l.length by omega), List.all_cons]
    by_cases hc : 0 ≤ l[i] ∧ l[i] ≤ 60
    · refine evp (by simpa using hc) ?_
      rw [show inB l[i] = true from by simpa [inB] using hc, Bool.true_and, w64 (by omega) (by omega)]
      exact birds_l0 l hl d (i + 1) (by omega)
    · refine evn (by simpa using hc) ?_
      rw [show inB l[i] = false from by simpa [inB] using hc, Bool.false_and]
      exact Ev.now _
theorem birds_ev (l : List Int) (hl : l.length ≤ 1000) : Ev (fun k => wigeonref06_areBirds.f k l) (l.all inB) := birds_l0 l hl l.length 0 (by omega)
theorem birds_ok (l : List Int) (hl : l.length ≤ 1000) (h : l.all inB = true) : Ev (fun k => wigeonref06_areBirds.f k l) true := by
  have := birds_ev l hl; rwa [h] at this
theorem birds_no (l : List Int) (hl : l.length ≤ 1000) (h : ¬ l.all inB = true) : Ev (fun k => wigeonref06_areBirds.f k l) false := by
  have := birds_ev l hl; rwa [show l.all inB = false from by simpa using h] at this

-- binomial
def rowL (f : Nat → Nat) (k : Nat) : List Int := (List.range (k + 1)).map fun j => ((f j : Nat) : Int)
theorem rowL_length (f : Nat → Nat) (k : Nat) : (rowL f k).length = k + 1 := by simp [rowL]
theorem rowL_rd (f : Nat → Nat) (k i : Nat) (h : i ≤ k) : rd (rowL f k) (i : Int) = (f i : Nat) := by
  rw [rd_at _ _ (by rw [rowL_length]; omega)]; simp [rowL]
theorem rowL_congr (f g : Nat → Nat) (k : Nat) (h : ∀ j, j ≤ k → f j = g j) : rowL f k = rowL g k := by
  unfold rowL
  refine List.map_congr_left fun j hj => ?_
  rw [h j (by have := List.mem_range.1 hj; omega)]
theorem rowL_set (f : Nat → Nat) (k i v : Nat) : (rowL f k).set i ((v : Nat) : Int) = rowL (fun j => if j = i then v else f j) k := by
  refine List.ext_getElem (by simp [rowL]) fun j h1 h2 => ?_
  rw [List.getElem_set]
  simp only [rowL, List.getElem_map, List.getElem_range]
  by_cases e : i = j
  · subst e; simp
  · rw [if_neg e, if_neg (fun h => e h.symm)]
theorem rowL_start (k : Nat) : (List.replicate (k + 1) (0 : Int)).set 0 1 = rowL (Cnt.ch 0) k := by
  refine List.ext_getElem (by simp [rowL]) fun j h1 h2 => ?_
  rw [List.getElem_set]
  simp only [rowL, List.getElem_map, List.getElem_range, List.getElem_replicate]
  cases j with
  | zero => simp
  | succ j => simp
def mixR (t i j : Nat) : Nat := if i < j then Cnt.ch (t + 1) j else Cnt.ch t j
theorem binomial_l1 (k t n : Nat) (hk : k ≤ 60) (ht : t < 60) (r : Int) (H : Ev (fun K => count_binomial.l0 K (k : Int) (rowL (Cnt.ch (t + 1)) k) (n : Int) ((t + 1 : Nat) : Int)) r) :
    ∀ i : Nat, i ≤ k → Ev (fun K => count_binomial.l1 K (k : Int) (rowL (mixR t i) k) (i : Int) (n : Int) (t : Int)) r
  | 0, _ => by
    refine Ev.step (fun K => count_binomial.l1.eq_2 ..) (evn (by omega) ?_)
    rw [w64 (by omega) (by omega), rowL_congr (mixR t 0) (Cnt.ch (t + 1)) k]
    · exact H
    · intro j _
      unfold mixR
      cases j with
      | zero => simp
      | succ j => rw [if_pos (by omega)]
  | i + 1, h => by
    refine Ev.step (fun K => count_binomial.l1.eq_2 ..) (evp (by omega) (evp (by omega) (evp (by rw [rowL_length]; omega) ?_)))
    rw [show ((i + 1 : Nat) : Int) - 1 = (i : Int) by omega, w64 (by omega) (by omega)]
    refine evp (by omega) (evp (by rw [rowL_length]; omega) ?_)
    have b1 := Cnt.ch_bound (t + 1) (i + 1) (by omega)
    have e1 := Cnt.ch_ss t i
    have m1 : mixR t (i + 1) (i + 1) = Cnt.ch t (i + 1) := by simp [mixR]
    have m2 : mixR t (i + 1) i = Cnt.ch t i := by simp [mixR, show ¬ i + 1 < i by omega]
    rw [rowL_rd _ _ _ (by omega), rowL_rd _ _ _ (by omega), m1, m2, w64 (by omega) (by omega), show ((i + 1 : Nat) : Int).toNat = i + 1 by omega,
      show ((Cnt.ch t (i + 1) : Nat) : Int) + ((Cnt.ch t i : Nat) : Int) = ((Cnt.ch (t + 1) (i + 1) : Nat) : Int) by omega, rowL_set,
      rowL_congr _ (mixR t i) k]
    · exact binomial_l1 k t n hk ht r H i (by omega)
    · intro j _
      unfold mixR
      by_cases e : j = i + 1
      · subst e; rw [if_pos rfl, if_pos (by omega)]
      · rw [if_neg e]
        by_cases e2 : i + 1 < j
        · rw [if_pos e2, if_pos (by omega)]
        · rw [if_neg e2, if_neg (by omega)]
theorem binomial_l0 (k n : Nat) (hn : n ≤ 60) (hk : k ≤ n) : ∀ d t : Nat, t + d = n → Ev (fun K => count_binomial.l0 K (k : Int) (rowL (Cnt.ch t) k) (n : Int) (t : Int)) ((Cnt.ch n k : Nat) : Int)
  | 0, t, h => by
    obtain rfl : t = n := by omega
    refine Ev.step (fun K => count_binomial.l0.eq_2 ..) (evn (by omega) (evp (by omega) (evp (by rw [rowL_length]; omega) ?_)))
    rw [rowL_rd _ _ _ (by omega)]
    exact Ev.now _
  | d + 1, t, h => by
    refine Ev.step (fun K => count_binomial.l0.eq_2 ..) (evp (by omega) ?_)
    have := binomial_l1 k t n (by omega) (by omega) _ (binomial_l0 k n hn hk d (t + 1) (by omega)) k (Nat.le_refl _)
    rwa [rowL_congr (mixR t k) (Cnt.ch t) k (fun j hj => by simp [mixR, show ¬ k < j by omega])] at this
theorem binomial_ev (n k : Int) (hn : n ≤ 60) : Ev (fun K => count_binomial.f K n k) (bin n k) := by
  unfold count_binomial.f
  refine evs (count_within_eq ..) ?_
  by_cases h : 0 ≤ k ∧ k ≤ n
  · refine evp (by simpa using h) ?_
    obtain ⟨k, rfl⟩ := Int.eq_ofNat_of_zero_le h.1
    obtain ⟨n, rfl⟩ := Int.eq_ofNat_of_zero_le (show 0 ≤ n by omega)
    rw [w64 (by omega) (by omega), show ((k : Int) + 1).toNat = k + 1 by omega]
    refine evp (by omega) (evp (by omega) (evs rfl (evp (by first | (simp; done) | (simp; omega)) ?_)))
    rw [show (0 : Int).toNat = 0 from rfl, rowL_start, bin_nn]
    exact binomial_l0 k n (by omega) (by omega) n 0 (by omega)
  · refine evn (by simpa using h) ?_
    unfold bin; rw [if_neg h]
    exact Ev.now _

-- refbinomial
theorem refbin_l0 (n k : Nat) (hn : n ≤ 60) (hk : k ≤ n) : ∀ d i : Nat, i + d = min k (n - k) → Ev (fun K => wigeonref06_binomial.l0 K (n : Int) (k : Int) ((Cnt.ch n i : Nat) : Int) (i : Int)) ((Cnt.ch n k : Nat) : Int)
  | 0, i, h => by
    refine Ev.step (fun K => wigeonref06_binomial.l0.eq_2 ..) ?_
    rw [w64 (by omega) (by omega)]
    refine evn (by unfold mn; split <;> omega) ?_
    have : Cnt.ch n i = Cnt.ch n k := by
      by_cases e : k ≤ n - k
      · rw [show i = k by omega]
      · rw [show i = n - k by omega, Cnt.ch_symm n k hk]
    rw [this]; exact Ev.now _
  | d + 1, i, h => by
    refine Ev.step (fun K => wigeonref06_binomial.l0.eq_2 ..) ?_
    have b := Cnt.ch_bound n (i + 1) hn
    have e := Cnt.ch_next n i
    have e1 : ((Cnt.ch n i : Nat) : Int) * ((n : Int) - i) = ((i + 1 : Nat) : Int) * ((Cnt.ch n (i + 1) : Nat) : Int) := by
      rw [show (n : Int) - i = ((n - i : Nat) : Int) by omega, Int.mul_comm, ← Int.natCast_mul, ← Int.natCast_mul, e]
    have hi : i + 1 ≤ 30 := by omega
    have e2 : ((i + 1 : Nat) : Int) * ((Cnt.ch n (i + 1) : Nat) : Int) ≤ 30 * 118264581564861424 := by
      have : (i + 1) * Cnt.ch n (i + 1) ≤ 30 * 118264581564861424 := Nat.mul_le_mul hi b
      rw [← Int.natCast_mul]; omega
    have e3 : 0 ≤ ((i + 1 : Nat) : Int) * ((Cnt.ch n (i + 1) : Nat) : Int) := Int.mul_nonneg (by omega) (by omega)
    rw [w64 (n := (n : Int) - k) (by omega) (by omega), w64 (n := (i : Int) + 1) (by omega) (by omega), w64 (n := (n : Int) - i) (by omega) (by omega), e1, w64 (n := ((i + 1 : Nat) : Int) * ((Cnt.ch n (i + 1) : Nat) : Int)) (by omega) (by omega),
      show (i : Int) + 1 = ((i + 1 : Nat) : Int) by omega, Int.mul_tdiv_cancel_left _ (by omega), w64 (n := ((Cnt.ch n (i + 1) : Nat) : Int)) (by omega) (by omega)]
    refine evp (by unfold mn; split <;> omega) (evn (by omega) ?_)
    exact refbin_l0 n k hn hk d (i + 1) (by omega)
theorem refbin_ev (n k : Int) (hn : n ≤ 60) : Ev (fun K => wigeonref06_binomial.f K n k) (bin n k) := by
  unfold wigeonref06_binomial.f
  by_cases h0 : k < 0
  · refine evp h0 (Ev.step (fun K => wigeonref06_binomial.j0.eq_2 ..) (evp rfl ?_))
    unfold bin; rw [if_neg (by omega)]; exact Ev.now _
  · refine evn h0 (Ev.step (fun K => wigeonref06_binomial.j0.eq_2 ..) ?_)
    by_cases h : k > n
    · refine evp (by simpa using h) ?_
      unfold bin; rw [if_neg (by omega)]; exact Ev.now _
    · refine evn (by simpa using h) ?_
      obtain ⟨k, rfl⟩ := Int.eq_ofNat_of_zero_le (show 0 ≤ k by omega)
      obtain ⟨n, rfl⟩ := Int.eq_ofNat_of_zero_le (show 0 ≤ n by omega)
      rw [bin_nn]
      have := refbin_l0 n k (by omega) (by omega) (min k (n - k)) 0 (by omega)
      rwa [Cnt.ch_zero] at this

-- ways
theorem ways_ev (b m c r : Int) (h0 : 0 ≤ m) (h : m ≤ b) (hb : b ≤ 60) (hr : -1 ≤ r) (hr2 : r ≤ 60) (hc : 0 ≤ c) (hc2 : c ≤ 60) : Ev (fun K => count_catch_ways.f K b m c r) (wys b m c r) := by
  unfold count_catch_ways.f
  have l := wys_lo b m c r
  have u := wys_hi b m c r h0 h hb
  rw [w64 (n := b - m) (by omega) (by omega), w64 (n := c - r) (by omega) (by omega)]
  refine evb (binomial_ev _ _ (by omega)) (evb (binomial_ev _ _ (by omega)) ?_)
  show Ev (fun _ => some (wrap64 (wys b m c r))) (wys b m c r)
  rw [w64 (by omega) (by omega)]
  exact Ev.now _

-- known
theorem known_at : wigeonlaw06_known.f 100 = some true := by decide +kernel
theorem known_ev : Ev (fun k => wigeonlaw06_known.f k) true := Ev.of wigeonlaw06_known.mono known_at

-- best
def bst (m c r : Int) : Nat → Int → Int
  | 0, n => n
  | d + 1, n => if (n + 1) * r < m * c then bst m c r d (n + 1) else n
theorem mul_small {a b : Int} (h1 : 0 ≤ a) (h2 : a ≤ 61) (h3 : 0 ≤ b) (h4 : b ≤ 60) : 0 ≤ a * b ∧ a * b ≤ 3660 :=
  ⟨Int.mul_nonneg h1 h3, by
    have := Int.mul_le_mul h2 h4 h3 (by omega : (0 : Int) ≤ 61)
    omega⟩
theorem best_l0 (m c r : Int) (hm : 0 ≤ m ∧ m ≤ 60) (hc : 0 ≤ c ∧ c ≤ 60) (hr : 0 ≤ r ∧ r ≤ 60) : ∀ (d : Nat) (n : Int), 0 ≤ n → n + d = 60 → Ev (fun k => count_Best.l0 k m c r n) (bst m c r d n, true, 0)
  | 0, n, h0, h => Ev.step (fun k => count_Best.l0.eq_2 ..) (evn (by omega) (Ev.now _))
  | d + 1, n, h0, h => by
    refine Ev.step (fun k => count_Best.l0.eq_2 ..) (evp (by omega) ?_)
    have a := mul_small (a := n + 1) (b := r) (by omega) (by omega) hr.1 hr.2
    have b := mul_small (a := m) (b := c) (by omega) (by omega) hc.1 hc.2
    rw [w64 (n := n + 1) (by omega) (by omega), w64 (n := (n + 1) * r) (by omega) (by omega), w64 (n := m * c) (by omega) (by omega)]
    unfold bst
    by_cases hh : (n + 1) * r < m * c
    · rw [if_pos hh]; exact evp hh (best_l0 m c r hm hc hr d (n + 1) (by omega) (by omega))
    · rw [if_neg hh]; exact evn hh (Ev.now _)
theorem bst_char (m c r : Int) : ∀ (d : Nat) (n : Int), n + d = 60 → n ≤ bst m c r d n ∧ bst m c r d n ≤ 60 ∧ (n < bst m c r d n → bst m c r d n * r < m * c) ∧ (bst m c r d n < 60 → ¬ (bst m c r d n + 1) * r < m * c)
  | 0, n, h => ⟨Int.le_refl _, by simp [bst]; omega, by simp [bst], by simp [bst]; omega⟩
  | d + 1, n, h => by
    unfold bst
    by_cases hh : (n + 1) * r < m * c
    · rw [if_pos hh]
      obtain ⟨h1, h2, h3, h4⟩ := bst_char m c r d (n + 1) (by omega)
      refine ⟨by omega, h2, fun _ => ?_, h4⟩
      by_cases e : bst m c r d (n + 1) = n + 1
      · rw [e]; exact hh
      · exact h3 (by omega)
    · rw [if_neg hh]
      exact ⟨Int.le_refl _, by omega, fun h => absurd h (by omega), fun _ => hh⟩
/-- the three ways of Best -/
theorem Best_arg (m c r : Int) (h : ¬ ((0 ≤ m ∧ m ≤ 60) ∧ (0 ≤ c ∧ c ≤ 60) ∧ (0 ≤ r ∧ r ≤ 60))) : Ev (fun k => count_Best.f k m c r) (0, false, 1) := by
  unfold count_Best.f
  exact evb (examine_no _ (by simp) (by simpa [inB] using h)) (evn (by decide) (Ev.now _))
theorem mn_eq (a b : Int) : mn a b = min a b := by unfold mn; split <;> omega
theorem Best_none (m c r : Int) (hm : 0 ≤ m ∧ m ≤ 60) (hc : 0 ≤ c ∧ c ≤ 60) (hr : 0 ≤ r ∧ r ≤ 60) (h : m < r ∨ c < r ∨ 60 < m + c - r) : Ev (fun k => count_Best.f k m c r) (0, false, 0) := by
  unfold count_Best.f
  refine evb (examine_ok _ (by simp) (by simp [inB, hm, hc, hr])) (evp rfl ?_)
  rw [w64 (n := m + c) (by omega) (by omega), w64 (n := m + c - r) (by omega) (by omega)]
  by_cases h1 : r > mn m c
  · exact evp h1 (Ev.step (fun k => count_Best.j0.eq_2 ..) (evp rfl (Ev.now _)))
  · have : 60 < m + c - r := by rw [mn_eq] at h1; omega
    exact evn h1 (Ev.step (fun k => count_Best.j0.eq_2 ..) (evp (by simpa using this) (Ev.now _)))
theorem Best_some (m c r : Int) (hm : 0 ≤ m ∧ m ≤ 60) (hc : 0 ≤ c ∧ c ≤ 60) (hr : 0 ≤ r ∧ r ≤ 60) (h1 : r ≤ m) (h2 : r ≤ c) (h3 : m + c - r ≤ 60) :
    Ev (fun k => count_Best.f k m c r) (bst m c r (60 - (m + c - r)).toNat (m + c - r), true, 0) := by
  unfold count_Best.f
  refine evb (examine_ok _ (by simp) (by simp [inB, hm, hc, hr])) (evp rfl ?_)
  rw [w64 (n := m + c) (by omega) (by omega), w64 (n := m + c - r) (by omega) (by omega)]
  refine evn (by rw [mn_eq]; omega) (Ev.step (fun k => count_Best.j0.eq_2 ..) (evn (by simpa using h3) ?_))
  exact best_l0 m c r hm hc hr _ _ (by omega) (by omega)

-- nats
theorem wys_wN (b m c i : Nat) (hm : m ≤ b) : wys b m c i = ((Cnt.wN b m c i : Nat) : Int) := by
  unfold Cnt.wN
  by_cases h : i ≤ c
  · rw [if_pos h, wys_nat _ _ _ _ hm h]
  · rw [if_neg h, wys_zero _ _ _ _ (by omega)]; rfl
theorem inB4 (a b c d : Nat) (h1 : a ≤ 60) (h2 : b ≤ 60) (h3 : c ≤ 60) (h4 : d ≤ 60) : ([(a : Int), b, c, d] : List Int).all inB = true := by
  simp [inB]; omega
theorem inB3 (a b c : Nat) (h1 : a ≤ 60) (h2 : b ≤ 60) (h3 : c ≤ 60) : ([(a : Int), b, c] : List Int).all inB = true := by
  simp [inB]; omega
def In4 (a b c d : Int) : Prop := (0 ≤ a ∧ a ≤ 60) ∧ (0 ≤ b ∧ b ≤ 60) ∧ (0 ≤ c ∧ c ≤ 60) ∧ (0 ≤ d ∧ d ≤ 60)
theorem notB4 (a b c d : Int) (h : ¬ In4 a b c d) : ¬ ([a, b, c, d] : List Int).all inB = true := by
  simpa [inB, In4] using h
def In3 (b c d : Int) : Prop := (0 ≤ b ∧ b ≤ 60) ∧ (0 ≤ c ∧ c ≤ 60) ∧ (0 ≤ d ∧ d ≤ 60)
theorem notB3 (b c d : Int) (h : ¬ In3 b c d) : ¬ ([b, c, d] : List Int).all inB = true := by
  simpa [inB, In3] using h
theorem tdivN (a b : Nat) : Int.tdiv (a : Int) (b : Int) = ((a / b : Nat) : Int) := rfl
theorem tmodN (a b : Nat) : Int.tmod (a : Int) (b : Int) = ((a % b : Nat) : Int) := rfl
theorem w64N (n : Nat) (h : n ≤ 9223372036854775807) : wrap64 (n : Int) = n := w64 (by omega) (by omega)
theorem divle (a b : Nat) : a / b ≤ a := Nat.div_le_self a b

-- cfits
theorem fits_arg (b m c r : Int) (h : ¬ In4 b m c r) : Ev (fun k => count_catch_fits.f k b m c r) (1 : Int) := by
  unfold count_catch_fits.f
  exact evb (examine_no _ (by simp) (notB4 _ _ _ _ h)) (evn (by decide) (Ev.now _))
theorem fits_rule (b m c r : Nat) (hb : b ≤ 60) (hm : m ≤ 60) (hc : c ≤ 60) (hr : r ≤ 60) (h : b < m ∨ b < c) : Ev (fun k => count_catch_fits.f k b m c r) (8 : Int) := by
  unfold count_catch_fits.f
  refine evb (examine_ok _ (by simp) (inB4 _ _ _ _ hb hm hc hr)) (evp rfl ?_)
  by_cases h1 : b < m
  · exact evp (by omega) (Ev.now _)
  · exact evn (by omega) (evp (by omega) (Ev.now _))
theorem fits_ok (b m c r : Nat) (hb : b ≤ 60) (hm : m ≤ b) (hc : c ≤ b) (hr : r ≤ 60) : Ev (fun k => count_catch_fits.f k b m c r) (0 : Int) := by
  unfold count_catch_fits.f
  exact evb (examine_ok _ (by simp) (inB4 _ _ _ _ hb (by omega) (by omega) hr)) (evp rfl (evn (by omega) (evn (by omega) (Ev.now _))))

-- rfits
theorem rfits_arg (b m c r : Int) (h : ¬ In4 b m c r) : Ev (fun k => wigeonref06_fits.f k b m c r) (1 : Int) := by
  unfold wigeonref06_fits.f
  exact evb (birds_no _ (by simp) (notB4 _ _ _ _ h)) (evn (by decide) (Ev.now _))
theorem rfits_rule (b m c r : Nat) (hb : b ≤ 60) (hm : m ≤ 60) (hc : c ≤ 60) (hr : r ≤ 60) (h : b < m ∨ b < c) : Ev (fun k => wigeonref06_fits.f k b m c r) (8 : Int) := by
  unfold wigeonref06_fits.f
  refine evb (birds_ok _ (by simp) (inB4 _ _ _ _ hb hm hc hr)) (evp rfl ?_)
  by_cases h1 : b < m
  · exact evp (by omega) (Ev.now _)
  · exact evn (by omega) (evp (by omega) (Ev.now _))
theorem rfits_ok (b m c r : Nat) (hb : b ≤ 60) (hm : m ≤ b) (hc : c ≤ b) (hr : r ≤ 60) : Ev (fun k => wigeonref06_fits.f k b m c r) (0 : Int) := by
  unfold wigeonref06_fits.f
  exact evb (birds_ok _ (by simp) (inB4 _ _ _ _ hb (by omega) (by omega) hr)) (evp rfl (evn (by omega) (evn (by omega) (Ev.now _))))

-- divisor
theorem divisor_l0 : ∀ (n b a : Nat), b < n → a ≤ 9223372036854775807 → b ≤ 9223372036854775807 → Ev (fun k => count_divisor.l0 k (a : Int) (b : Int)) ((Nat.gcd a b : Nat) : Int)
  | 0, b, a, h, _, _ => by omega
  | n + 1, b, a, h, ha, hb => by
    refine Ev.step (fun k => count_divisor.l0.eq_2 ..) ?_
    by_cases h0 : b = 0
    · subst h0
      refine evp rfl ?_
      rw [Nat.gcd_zero_right, w64 (by omega) (by omega), show mx (a : Int) (-(a : Int)) = a by unfold mx; split <;> omega]
      exact Ev.now _
    · refine evn (by omega) ?_
      rw [tmodN, Nat.gcd_comm a b, Nat.gcd_rec b a, Nat.gcd_comm]
      have := Nat.mod_lt a (show 0 < b by omega)
      exact divisor_l0 n (a % b) b (by omega) (by omega) (by omega)
theorem divisor_ev (a b : Nat) (ha : a ≤ 9223372036854775807) (hb : b ≤ 9223372036854775807) : Ev (fun k => count_divisor.f k (a : Int) (b : Int)) ((Nat.gcd a b : Nat) : Int) := divisor_l0 (b + 1) b a (by omega) ha hb

-- fraction
theorem fraction_ev (a b : Nat) (ha : a ≤ 9223372036854775807) (hb : b ≤ 9223372036854775807) (h : 0 < b) :
    Ev (fun k => count_fraction.f k (a : Int) (b : Int)) (((a / Nat.gcd a b : Nat) : Int), ((b / Nat.gcd a b : Nat) : Int)) := by
  unfold count_fraction.f
  have hg := Nat.gcd_pos_of_pos_right a h
  have h1 := divle a (Nat.gcd a b)
  have h2 := divle b (Nat.gcd a b)
  refine evb (divisor_ev a b ha hb) (evn (by omega) ?_)
  rw [tdivN, tdivN, w64N _ (Nat.le_trans h1 ha), w64N _ (Nat.le_trans h2 hb)]
  exact Ev.now _

-- rgcd
theorem rgcd_l0 : ∀ (n b a : Nat), b < n → Ev (fun k => wigeonref06_gcd.l0 k (a : Int) (b : Int)) ((Nat.gcd a b : Nat) : Int)
  | 0, b, a, h => by omega
  | n + 1, b, a, h => by
    refine Ev.step (fun k => wigeonref06_gcd.l0.eq_2 ..) ?_
    by_cases h0 : b = 0
    · subst h0
      refine evn (by omega) ?_
      rw [Nat.gcd_zero_right]
      exact Ev.now _
    · refine evp (by omega) (evn (by omega) ?_)
      rw [tmodN, Nat.gcd_comm a b, Nat.gcd_rec b a, Nat.gcd_comm]
      have := Nat.mod_lt a (show 0 < b by omega)
      exact rgcd_l0 n (a % b) b (by omega)
theorem rgcd_ev (a b : Nat) : Ev (fun k => wigeonref06_gcd.f k (a : Int) (b : Int)) ((Nat.gcd a b : Nat) : Int) := rgcd_l0 (b + 1) b a (by omega)

-- ratio
theorem ratio_ev (a b : Nat) (ha : a ≤ 9223372036854775807) (hb : b ≤ 9223372036854775807) (h : 0 < b) :
    Ev (fun k => wigeonref06_Ratio.f k (a : Int) (b : Int)) (((a / Nat.gcd a b : Nat) : Int), ((b / Nat.gcd a b : Nat) : Int)) := by
  unfold wigeonref06_Ratio.f
  have hg := Nat.gcd_pos_of_pos_right a h
  have h1 := divle a (Nat.gcd a b)
  have h2 := divle b (Nat.gcd a b)
  refine evb (rgcd_ev a b) (evn (by omega) ?_)
  rw [tdivN, tdivN, w64N _ (Nat.le_trans h1 ha), w64N _ (Nat.le_trans h2 hb)]
  exact Ev.now _

-- Ways
theorem Ways_arg (b m c r : Int) (h : ¬ In4 b m c r) : Ev (fun k => count_Ways.f k b m c r) (0, 1) := by
  unfold count_Ways.f
  exact evb (examine_no _ (by simp) (notB4 _ _ _ _ h)) (evn (by decide) (Ev.now _))
theorem Ways_zero (b m c r : Nat) (hb : b ≤ 60) (hm : m ≤ 60) (hc : c ≤ 60) (hr : r ≤ 60) (h : b < m ∨ b < c) : Ev (fun k => count_Ways.f k b m c r) (0, 0) := by
  unfold count_Ways.f
  refine evb (examine_ok _ (by simp) (inB4 _ _ _ _ hb hm hc hr)) (evp rfl ?_)
  by_cases h1 : b < m
  · exact evp (by omega) (Ev.now _)
  · exact evn (by omega) (evp (by omega) (Ev.now _))
theorem Ways_ok (b m c r : Nat) (hb : b ≤ 60) (hm : m ≤ b) (hc : c ≤ b) (hr : r ≤ 60) : Ev (fun k => count_Ways.f k b m c r) (((Cnt.wN b m c r : Nat) : Int), 0) := by
  unfold count_Ways.f
  refine evb (examine_ok _ (by simp) (inB4 _ _ _ _ hb (by omega) (by omega) hr)) (evp rfl (evn (by omega) (evn (by omega) (evb (ways_ev b m c r (by omega) (by omega) (by omega) (by omega) (by omega) (by omega) (by omega)) ?_))))
  rw [wys_wN b m c r hm]
  exact Ev.now _
theorem wN_hi (b m c r : Nat) (hb : b ≤ 60) (hm : m ≤ b) : Cnt.wN b m c r ≤ 118264581564861424 := by
  have := wys_hi b m c r (by omega) (by omega) (by omega); rw [wys_wN b m c r hm] at this; omega

-- rways
theorem rways_zero (b m c r : Nat) (h : b < m ∨ b < c) : Ev (fun k => wigeonref06_ways.f k b m c r) (0 : Int) := by
  unfold wigeonref06_ways.f
  by_cases h1 : b < m
  · exact evp (by omega) (Ev.step (fun k => wigeonref06_ways.j0.eq_2 ..) (evp rfl (Ev.now _)))
  · exact evn (by omega) (Ev.step (fun k => wigeonref06_ways.j0.eq_2 ..) (evp (by simp; omega) (Ev.now _)))
theorem rways_ok (b m c r : Nat) (hb : b ≤ 60) (hm : m ≤ b) (hc : c ≤ b) (hr : r ≤ 60) : Ev (fun k => wigeonref06_ways.f k b m c r) ((Cnt.wN b m c r : Nat) : Int) := by
  unfold wigeonref06_ways.f
  have l := wys_lo b m c r
  have u := wys_hi b m c r (by omega) (by omega) (by omega)
  refine evn (by omega) (Ev.step (fun k => wigeonref06_ways.j0.eq_2 ..) (evn (by simp; omega) ?_))
  rw [w64 (n := (b : Int) - m) (by omega) (by omega), w64 (n := (c : Int) - r) (by omega) (by omega)]
  refine evb (refbin_ev _ _ (by omega)) (evb (refbin_ev _ _ (by omega)) ?_)
  show Ev (fun _ => some (wrap64 (wys b m c r))) _
  rw [w64 (by omega) (by omega), wys_wN b m c r hm]
  exact Ev.now _
theorem rbin_ev (b c : Nat) (hb : b ≤ 60) : Ev (fun k => wigeonref06_binomial.f k (b : Int) (c : Int)) ((Cnt.ch b c : Nat) : Int) := by
  have := refbin_ev (b : Int) (c : Int) (by omega); rwa [bin_nn] at this
theorem rwN_hi (b m c r : Nat) (hb : b ≤ 60) (hm : m ≤ b) : Cnt.wN b m c r ≤ 118264581564861424 := by
  have := wys_hi b m c r (by omega) (by omega) (by omega); rw [wys_wN b m c r hm] at this; omega

-- all
theorem all_ev (b m c r : Nat) (hb : b ≤ 60) : Ev (fun k => count_catch_all.f k b m c r) ((Cnt.ch b c : Nat) : Int) := by
  unfold count_catch_all.f
  refine evb (binomial_ev _ _ (by omega)) ?_
  rw [bin_nn]; exact Ev.now _

-- Chance
theorem Chance_arg (b m c r : Int) (h : ¬ In4 b m c r) : Ev (fun k => count_Chance.f k b m c r) (0, 0, 1) := by
  unfold count_Chance.f
  exact evb (fits_arg _ _ _ _ h) (evn (by decide) (Ev.now _))
theorem Chance_rule (b m c r : Nat) (hb : b ≤ 60) (hm : m ≤ 60) (hc : c ≤ 60) (hr : r ≤ 60) (h : b < m ∨ b < c) : Ev (fun k => count_Chance.f k b m c r) (0, 0, 8) := by
  unfold count_Chance.f
  exact evb (fits_rule _ _ _ _ hb hm hc hr h) (evn (by decide) (Ev.now _))
theorem Chance_ok (b m c r : Nat) (hb : b ≤ 60) (hm : m ≤ b) (hc : c ≤ b) (hr : r ≤ 60) :
    Ev (fun k => count_Chance.f k b m c r) (((Cnt.wN b m c r / Nat.gcd (Cnt.wN b m c r) (Cnt.ch b c) : Nat) : Int), ((Cnt.ch b c / Nat.gcd (Cnt.wN b m c r) (Cnt.ch b c) : Nat) : Int), 0) := by
  unfold count_Chance.f
  have h1 := wN_hi b m c r hb hm
  have h2 := Cnt.ch_bound b c hb
  have h3 := Cnt.ch_pos b c hc
  refine evb (fits_ok _ _ _ _ hb hm hc hr) (evp rfl (evb (ways_ev b m c r (by omega) (by omega) (by omega) (by omega) (by omega) (by omega) (by omega)) (evb (all_ev b m c r hb) ?_)))
  rw [wys_wN b m c r hm]
  exact evb (fraction_ev _ _ (by omega) (by omega) h3) (Ev.now _)

-- rChance
theorem rChance_arg (b m c r : Int) (h : ¬ In4 b m c r) : Ev (fun k => wigeonref06_Chance.f k b m c r) (0, 0, 1) := by
  unfold wigeonref06_Chance.f
  exact evb (rfits_arg _ _ _ _ h) (evn (by decide) (Ev.now _))
theorem rChance_rule (b m c r : Nat) (hb : b ≤ 60) (hm : m ≤ 60) (hc : c ≤ 60) (hr : r ≤ 60) (h : b < m ∨ b < c) : Ev (fun k => wigeonref06_Chance.f k b m c r) (0, 0, 8) := by
  unfold wigeonref06_Chance.f
  exact evb (rfits_rule _ _ _ _ hb hm hc hr h) (evn (by decide) (Ev.now _))
theorem rChance_ok (b m c r : Nat) (hb : b ≤ 60) (hm : m ≤ b) (hc : c ≤ b) (hr : r ≤ 60) :
    Ev (fun k => wigeonref06_Chance.f k b m c r) (((Cnt.wN b m c r / Nat.gcd (Cnt.wN b m c r) (Cnt.ch b c) : Nat) : Int), ((Cnt.ch b c / Nat.gcd (Cnt.wN b m c r) (Cnt.ch b c) : Nat) : Int), 0) := by
  unfold wigeonref06_Chance.f
  have h1 := rwN_hi b m c r hb hm
  have h2 := Cnt.ch_bound b c hb
  have h3 := Cnt.ch_pos b c hc
  exact evb (rfits_ok _ _ _ _ hb hm hc hr) (evp rfl (evb (rways_ok b m c r hb hm hc hr) (evb (rbin_ev b c hb) (evb (ratio_ev _ _ (by omega) (by omega) h3) (Ev.now _)))))

theorem In4n (n m c r : Nat) (h : n + 1 ≤ 60) (hm : m ≤ 60) (hc : c ≤ 60) (hr : r ≤ 60) : ([((n + 1 : Nat) : Int), m, c, r] : List Int).all inB = true := inB4 (n + 1) m c r h hm hc hr
theorem prodN (a b : Nat) : (a : Int) * (b : Int) = ((a * b : Nat) : Int) := (Int.natCast_mul a b).symm
theorem prod60 (a b : Nat) (ha : a ≤ 60) (hb : b ≤ 60) : a * b ≤ 3600 := Nat.mul_le_mul ha hb
theorem step_wN (n m c r : Nat) (h1 : r ≤ m) (h2 : r ≤ c) (h3 : m + c ≤ n + r) :
    (n + 1) * (n + 1 + r - m - c) * (Cnt.wN (n + 1) m c r * Cnt.ch n c) = (n + 1 - m) * (n + 1 - c) * (Cnt.wN n m c r * Cnt.ch (n + 1) c) := by
  have s := Cnt.W_step (n := n) h1 h2 h3
  unfold Cnt.W at s
  unfold Cnt.wN
  rw [if_pos h2, if_pos h2, Nat.mul_comm (n + 1)]
  exact s
/-- both ways to the fraction -/
theorem odds_pure (n m c r : Nat) (hn : n + 1 ≤ 60) (hm : m ≤ n) (hc : c ≤ n) (h1 : r ≤ m) (h2 : r ≤ c) (h3 : m + c ≤ n + r) :
    ∃ P Q : Nat, P ≤ 3600 ∧ Q ≤ 3600 ∧ 0 < Q ∧ P / Nat.gcd P Q = (n + 1 - m) * (n + 1 - c) / Nat.gcd ((n + 1 - m) * (n + 1 - c)) ((n + 1) * (n + 1 + r - m - c)) ∧
      Q / Nat.gcd P Q = (n + 1) * (n + 1 + r - m - c) / Nat.gcd ((n + 1 - m) * (n + 1 - c)) ((n + 1) * (n + 1 + r - m - c)) ∧
      Ev (fun k => wigeonref06_Odds.j0 k ((n + 1 : Nat) : Int) m c r false) (((P / Nat.gcd P Q : Nat) : Int), ((Q / Nat.gcd P Q : Nat) : Int), 0) := by
  have w1 : 0 < Cnt.wN (n + 1) m c r := by unfold Cnt.wN; rw [if_pos h2]; exact Nat.mul_pos (Cnt.ch_pos _ _ h1) (Cnt.ch_pos _ _ (by omega))
  have w0 : 0 < Cnt.wN n m c r := by unfold Cnt.wN; rw [if_pos h2]; exact Nat.mul_pos (Cnt.ch_pos _ _ h1) (Cnt.ch_pos _ _ (by omega))
  have a1 := Cnt.ch_pos (n + 1) c (by omega)
  have a0 := Cnt.ch_pos n c hc
  have s := step_wN n m c r h1 h2 h3
  have E1 := rChance_ok (n + 1) m c r hn (by omega) (by omega) (by omega)
  have E0 := rChance_ok n m c r (by omega) hm hc (by omega)
  have b1 := rwN_hi (n + 1) m c r hn (by omega)
  have b0 := rwN_hi n m c r (by omega) hm
  have d1 := Cnt.ch_bound (n + 1) c hn
  have d0 := Cnt.ch_bound n c (by omega)
  have hN : 0 < (n + 1 - m) * (n + 1 - c) := Nat.mul_pos (by omega) (by omega)
  have hD : 0 < (n + 1) * (n + 1 + r - m - c) := Nat.mul_pos (by omega) (by omega)
  have hN2 := prod60 (n + 1 - m) (n + 1 - c) (by omega) (by omega)
  have hD2 := prod60 (n + 1) (n + 1 + r - m - c) (by omega) (by omega)
  generalize (n + 1 - m) * (n + 1 - c) = N at *
  generalize (n + 1) * (n + 1 + r - m - c) = D at *
  generalize Cnt.wN (n + 1) m c r = W1 at *
  generalize Cnt.wN n m c r = W0 at *
  generalize Cnt.ch (n + 1) c = A1 at *
  generalize Cnt.ch n c = A0 at *
  have g1 : 0 < Nat.gcd W1 A1 := Nat.gcd_pos_of_pos_left _ w1
  have g0 : 0 < Nat.gcd W0 A0 := Nat.gcd_pos_of_pos_left _ w0
  have cX : Nat.Coprime (W1 / Nat.gcd W1 A1) (A1 / Nat.gcd W1 A1) := Nat.coprime_div_gcd_div_gcd g1
  have cY : Nat.Coprime (W0 / Nat.gcd W0 A0) (A0 / Nat.gcd W0 A0) := Nat.coprime_div_gcd_div_gcd g0
  have x1 : 0 < W1 / Nat.gcd W1 A1 := Nat.div_pos (Nat.le_of_dvd w1 (Nat.gcd_dvd_left _ _)) g1
  have x2 : 0 < A1 / Nat.gcd W1 A1 := Nat.div_pos (Nat.le_of_dvd a1 (Nat.gcd_dvd_right _ _)) g1
  have y1 : 0 < W0 / Nat.gcd W0 A0 := Nat.div_pos (Nat.le_of_dvd w0 (Nat.gcd_dvd_left _ _)) g0
  have y2 : 0 < A0 / Nat.gcd W0 A0 := Nat.div_pos (Nat.le_of_dvd a0 (Nat.gcd_dvd_right _ _)) g0
  have f1 := Nat.mul_div_cancel' (Nat.gcd_dvd_left W1 A1)
  have f2 := Nat.mul_div_cancel' (Nat.gcd_dvd_right W1 A1)
  have f3 := Nat.mul_div_cancel' (Nat.gcd_dvd_left W0 A0)
  have f4 := Nat.mul_div_cancel' (Nat.gcd_dvd_right W0 A0)
  have u1 := divle W1 (Nat.gcd W1 A1)
  have u2 := divle A1 (Nat.gcd W1 A1)
  have u3 := divle W0 (Nat.gcd W0 A0)
  have u4 := divle A0 (Nat.gcd W0 A0)
  generalize W1 / Nat.gcd W1 A1 = X1 at *
  generalize A1 / Nat.gcd W1 A1 = X2 at *
  generalize W0 / Nat.gcd W0 A0 = Y1 at *
  generalize A0 / Nat.gcd W0 A0 = Y2 at *
  have s2 : D * (X1 * Y2) = N * (Y1 * X2) := by
    refine Nat.eq_of_mul_eq_mul_left (Nat.mul_pos g1 g0) ?_
    calc Nat.gcd W1 A1 * Nat.gcd W0 A0 * (D * (X1 * Y2)) = D * ((Nat.gcd W1 A1 * X1) * (Nat.gcd W0 A0 * Y2)) := by ac_rfl
      _ = N * ((Nat.gcd W0 A0 * Y1) * (Nat.gcd W1 A1 * X2)) := by rw [f1, f2, f3, f4]; exact s
      _ = _ := by ac_rfl
  obtain ⟨p1, p2, p3, p4⟩ := Cnt.across cX cY hN hD x1 y1 x2 y2 s2
  obtain ⟨q1, q2⟩ := Cnt.lowest p4 p3 hD
  refine ⟨_, _, Nat.le_trans p1 hN2, Nat.le_trans p2 hD2, p3, q1, q2, ?_⟩
  have v1 := divle X1 (Nat.gcd X1 Y1)
  have v2 := divle Y2 (Nat.gcd X2 Y2)
  have v3 := divle X2 (Nat.gcd X2 Y2)
  have v4 := divle Y1 (Nat.gcd X1 Y1)
  have z1 : 0 < Nat.gcd X1 Y1 := Nat.gcd_pos_of_pos_left _ x1
  have z2 : 0 < Nat.gcd X2 Y2 := Nat.gcd_pos_of_pos_left _ x2
  refine Ev.step (fun k => wigeonref06_Odds.j0.eq_2 ..) (evn (by decide) ?_)
  rw [show ((n + 1 : Nat) : Int) - 1 = (n : Int) by omega, w64N n (by omega)]
  refine evb E1 (evb E0 (evn (by simp only; omega) (evb (rgcd_ev _ _) (evb (rgcd_ev _ _) (evn (by omega) (evn (by omega) ?_))))))
  simp only [tdivN]
  rw [w64N _ (show X1 / Nat.gcd X1 Y1 ≤ _ from Nat.le_trans v1 (by omega)), w64N _ (show Y2 / Nat.gcd X2 Y2 ≤ _ from Nat.le_trans v2 (by omega)), w64N _ (show X2 / Nat.gcd X2 Y2 ≤ _ from Nat.le_trans v3 (by omega)), w64N _ (show Y1 / Nat.gcd X1 Y1 ≤ _ from Nat.le_trans v4 (by omega)),
    prodN, prodN, w64N _ (Nat.le_trans p1 (by omega)), w64N _ (Nat.le_trans p2 (by omega))]
  exact evb (ratio_ev _ _ (Nat.le_trans p1 (by omega)) (Nat.le_trans p2 (by omega)) p3) (Ev.now _)
theorem Odds_arg (b m c r : Int) (h : ¬ In4 b m c r) : Ev (fun k => count_Odds.f k b m c r) (0, 0, 1) := by
  unfold count_Odds.f
  exact evb (examine_no _ (by simp) (notB4 _ _ _ _ h)) (evn (by decide) (Ev.now _))
theorem rOdds_arg (b m c r : Int) (h : ¬ In4 b m c r) : Ev (fun k => wigeonref06_Odds.f k b m c r) (0, 0, 1) := by
  unfold wigeonref06_Odds.f
  exact evb (birds_no _ (by simp) (notB4 _ _ _ _ h)) (evn (by decide) (Ev.now _))
theorem Odds_rule (b m c r : Nat) (hb : b ≤ 60) (hm : m ≤ 60) (hc : c ≤ 60) (hr : r ≤ 60) (h : b ≤ m ∨ b ≤ c) : Ev (fun k => count_Odds.f k b m c r) (0, 0, 8) := by
  unfold count_Odds.f
  have Z : Ev (fun k => count_Odds.j0 k b m c r true) (0, 0, 8) := Ev.step (fun k => count_Odds.j0.eq_2 ..) (evp rfl (Ev.now _))
  refine evb (examine_ok _ (by simp) (inB4 _ _ _ _ hb hm hc hr)) (evp rfl ?_)
  by_cases q : b ≤ m
  · exact evp (by omega) Z
  · refine evn (by omega) ?_
    rw [show decide ((c : Int) ≥ (b : Int)) = true from decide_eq_true (by omega)]; exact Z
theorem rOdds_rule (b m c r : Nat) (hb : b ≤ 60) (hm : m ≤ 60) (hc : c ≤ 60) (hr : r ≤ 60) (h : b ≤ m ∨ b ≤ c) : Ev (fun k => wigeonref06_Odds.f k b m c r) (0, 0, 8) := by
  unfold wigeonref06_Odds.f
  have Z : Ev (fun k => wigeonref06_Odds.j0 k b m c r true) (0, 0, 8) := Ev.step (fun k => wigeonref06_Odds.j0.eq_2 ..) (evp rfl (Ev.now _))
  rw [w64 (n := (b : Int) - 1) (by omega) (by omega)]
  refine evb (birds_ok _ (by simp) (inB4 _ _ _ _ hb hm hc hr)) (evp rfl ?_)
  by_cases q : b ≤ m
  · exact evp (by omega) Z
  · refine evn (by omega) ?_
    rw [show decide ((c : Int) > (b : Int) - 1) = true from decide_eq_true (by omega)]; exact Z
theorem Odds_j (n m c r : Nat) (hn : n + 1 ≤ 60) (hm : m ≤ n) (hc : c ≤ n) (hr : r ≤ 60) (v : Int × Int × Int) (h : Ev (fun k => count_Odds.j0 k ((n + 1 : Nat) : Int) m c r false) v) : Ev (fun k => count_Odds.f k ((n + 1 : Nat) : Int) m c r) v := by
  unfold count_Odds.f
  refine evb (examine_ok _ (by simp) (In4n n m c r hn (by omega) (by omega) hr)) (evp rfl (evn (by omega) ?_))
  rw [show decide ((c : Int) ≥ ((n + 1 : Nat) : Int)) = false from decide_eq_false (by omega)]; exact h
theorem rOdds_j (n m c r : Nat) (hn : n + 1 ≤ 60) (hm : m ≤ n) (hc : c ≤ n) (hr : r ≤ 60) (v : Int × Int × Int) (h : Ev (fun k => wigeonref06_Odds.j0 k ((n + 1 : Nat) : Int) m c r false) v) : Ev (fun k => wigeonref06_Odds.f k ((n + 1 : Nat) : Int) m c r) v := by
  unfold wigeonref06_Odds.f
  rw [w64 (n := ((n + 1 : Nat) : Int) - 1) (by omega) (by omega)]
  refine evb (birds_ok _ (by simp) (In4n n m c r hn (by omega) (by omega) hr)) (evp rfl (evn (by omega) ?_))
  rw [show decide ((c : Int) > ((n + 1 : Nat) : Int) - 1) = false from decide_eq_false (by omega)]; exact h
theorem CountOdds (a0_0 : Int) (a0_1 : Int) (a0_2 : Int) (a0_3 : Int) (_ : (Lit.int .i64 a0_0).wf = true) (_ : (Lit.int .i64 a0_1).wf = true) (_ : (Lit.int .i64 a0_2).wf = true) (_ : (Lit.int .i64 a0_3).wf = true) : ∃ k, wigeonlaw06_CountOdds.f k a0_0 a0_1 a0_2 a0_3 = some true := by
  refine Ev.rounds (g := fun k => wigeonlaw06_CountOdds.f k a0_0 a0_1 a0_2 a0_3) ?_
  unfold wigeonlaw06_CountOdds.f
  have Z : ∀ {e a b c d x y : Int}, e ≠ 0 → Ev (fun k => wigeonlaw06_CountOdds.j0 k e (e != e) a b c d x y) true := fun h => Ev.step (fun K => wigeonlaw06_CountOdds.j0.eq_2 ..) (evn (by simp) (evn h (evb known_ev (Ev.now _))))
  by_cases h : In4 a0_0 a0_1 a0_2 a0_3
  · obtain ⟨hb, hm, hc, hr⟩ := h
    obtain ⟨b, rfl⟩ := Int.eq_ofNat_of_zero_le hb.1
    obtain ⟨m, rfl⟩ := Int.eq_ofNat_of_zero_le hm.1
    obtain ⟨c, rfl⟩ := Int.eq_ofNat_of_zero_le hc.1
    obtain ⟨r, rfl⟩ := Int.eq_ofNat_of_zero_le hr.1
    have hb : b ≤ 60 := by omega
    have hm : m ≤ 60 := by omega
    have hc : c ≤ 60 := by omega
    have hr : r ≤ 60 := by omega
    by_cases h : b ≤ m ∨ b ≤ c
    · exact evb (Odds_rule b m c r hb hm hc hr h) (evb (rOdds_rule b m c r hb hm hc hr h) (evn (by simp) (Z (by decide))))
    · obtain ⟨n, rfl⟩ : ∃ n, b = n + 1 := ⟨b - 1, by omega⟩
      have hm' : m ≤ n := by omega
      have hc' : c ≤ n := by omega
      by_cases h0 : r ≤ m ∧ r ≤ c ∧ m + c ≤ n + r
      · obtain ⟨h1, h2, h3⟩ := h0
        obtain ⟨P, Q, p1, p2, p3, p4, p5, E2⟩ := odds_pure n m c r hb hm' hc' h1 h2 h3
        have w0 : 0 < Cnt.wN n m c r := by unfold Cnt.wN; rw [if_pos h2]; exact Nat.mul_pos (Cnt.ch_pos _ _ h1) (Cnt.ch_pos _ _ (by omega))
        have hN := prod60 (n + 1 - m) (n + 1 - c) (by omega) (by omega)
        have hD := prod60 (n + 1) (n + 1 + r - m - c) (by omega) (by omega)
        have hD0 : 0 < (n + 1) * (n + 1 + r - m - c) := Nat.mul_pos (by omega) (by omega)
        rw [p4, p5] at E2
        have i1 : wrap64 (((n + 1 : Nat) : Int) - (m : Int)) = ((n + 1 - m : Nat) : Int) := by rw [w64 (by omega) (by omega)]; omega
        have i2 : wrap64 (((n + 1 : Nat) : Int) - (c : Int)) = ((n + 1 - c : Nat) : Int) := by rw [w64 (by omega) (by omega)]; omega
        have i3 : wrap64 (wrap64 (wrap64 (((n + 1 : Nat) : Int) - (m : Int)) - (c : Int)) + (r : Int)) = ((n + 1 + r - m - c : Nat) : Int) := by
          rw [i1, w64 (n := ((n + 1 - m : Nat) : Int) - c) (by omega) (by omega), w64 (by omega) (by omega)]; omega
        have i4 : wrap64 (((n + 1 - m : Nat) : Int) * ((n + 1 - c : Nat) : Int)) = (((n + 1 - m) * (n + 1 - c) : Nat) : Int) := by rw [prodN, w64N _ (by omega)]
        have i5 : wrap64 (((n + 1 : Nat) : Int) * ((n + 1 + r - m - c : Nat) : Int)) = (((n + 1) * (n + 1 + r - m - c) : Nat) : Int) := by rw [prodN, w64N _ (by omega)]
        generalize (n + 1 - m) * (n + 1 - c) = N at *
        generalize (n + 1) * (n + 1 + r - m - c) = D at *
        have E1 : Ev (fun k => count_Odds.j0 k ((n + 1 : Nat) : Int) m c r false) (((N / Nat.gcd N D : Nat) : Int), ((D / Nat.gcd N D : Nat) : Int), 0) := by
          refine Ev.step (fun k => count_Odds.j0.eq_2 ..) (evn (by decide) ?_)
          rw [show ((n + 1 : Nat) : Int) - 1 = (n : Int) by omega, w64N n (by omega)]
          refine evb (ways_ev n m c r (by omega) (by omega) (by omega) (by omega) (by omega) (by omega) (by omega)) (evn (by rw [wys_wN n m c r hm']; exact Int.natCast_ne_zero.2 (Nat.pos_iff_ne_zero.1 w0)) ?_)
          rw [i3, i1, i2, i4, i5]
          exact evb (fraction_ev _ _ (Nat.le_trans hN (by decide)) (Nat.le_trans hD (by decide)) hD0) (Ev.now _)
        have F1 := Odds_j n m c r hb hm' hc' hr _ E1
        have F2 := rOdds_j n m c r hb hm' hc' hr _ E2
        clear E1 E2 p4 p5
        have g : 0 < Nat.gcd N D := Nat.gcd_pos_of_pos_right _ hD0
        have d1 := Nat.mul_div_cancel' (Nat.gcd_dvd_left N D)
        have d2 := Nat.mul_div_cancel' (Nat.gcd_dvd_right N D)
        generalize N / Nat.gcd N D = x at *
        generalize D / Nat.gcd N D = y at *
        refine evb F1 (evb F2 (evn (by simp) (Ev.step (fun K => wigeonlaw06_CountOdds.j0.eq_2 ..) (evn (by simp) (evp rfl ?_)))))
        rw [i3, i1, i2, i4, i5]
        refine evp (Int.natCast_pos.2 hD0) (evp ?_ (evb known_ev (Ev.now _)))
        show wrap64 ((x : Int) * (D : Int)) = wrap64 ((N : Int) * (y : Int))
        have e : x * D = N * y := by
          calc x * D = x * (Nat.gcd N D * y) := by rw [d2]
            _ = (Nat.gcd N D * x) * y := by ac_rfl
            _ = N * y := by rw [d1]
        rw [prodN, prodN, e]
      · have z0 : Cnt.wN n m c r = 0 := Cnt.wN_zero n m c r (by omega)
        have E1 : Ev (fun k => count_Odds.j0 k ((n + 1 : Nat) : Int) m c r false) (0, 0, 10) := by
          refine Ev.step (fun k => count_Odds.j0.eq_2 ..) (evn (by decide) ?_)
          rw [show ((n + 1 : Nat) : Int) - 1 = (n : Int) by omega, w64N n (by omega)]
          exact evb (ways_ev n m c r (by omega) (by omega) (by omega) (by omega) (by omega) (by omega) (by omega)) (evp (by rw [wys_wN n m c r hm', z0]; rfl) (Ev.now _))
        have E2 : Ev (fun k => wigeonref06_Odds.j0 k ((n + 1 : Nat) : Int) m c r false) (0, 0, 10) := by
          refine Ev.step (fun k => wigeonref06_Odds.j0.eq_2 ..) (evn (by decide) ?_)
          rw [show ((n + 1 : Nat) : Int) - 1 = (n : Int) by omega, w64N n (by omega)]
          exact evb (rChance_ok (n + 1) m c r hb (by omega) (by omega) hr) (evb (rChance_ok n m c r (by omega) hm' hc' hr) (evp (by rw [z0]; simp) (Ev.now _)))
        exact evb (Odds_j n m c r hb hm' hc' hr _ E1) (evb (rOdds_j n m c r hb hm' hc' hr _ E2) (evn (by simp) (Z (by decide))))
  · exact evb (Odds_arg _ _ _ _ h) (evb (rOdds_arg _ _ _ _ h) (evn (by simp) (Z (by decide))))

end Go.Proofs.Ytdgoaekcgphhbaa.Pure
