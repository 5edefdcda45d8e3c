/- The plain law behind the row: what the printed functions of this law compute answers true, for every input that the row lets in. -/
import Derived.Test.YtdgoaekcgphhbaaPCountLikelyx4
namespace Go.Proofs.Ytdgoaekcgphhbaa.Pure
set_option linter.unusedVariables false
set_option linter.unusedSimpArgs false
open Go.RowKit Go.Proofs.Ytdgoaekcgphhbaa.PCountLikely Go.Proofs.YtdgoaekcgphhbaaW.PrintWords Go.Proofs.YtdgoaekcgphhbaaW.PrintLast
namespace Cnt
/-- binomial coefficients by Pascal's triangle -/
def ch : Nat → Nat → Nat
  | _, 0 => 1
  | 0, _ + 1 => 0
  | n + 1, k + 1 => ch n k + ch n (k + 1)
@[simp] theorem ch_zero (n : Nat) : ch n 0 = 1 := by cases n <;> rfl
@[simp] theorem ch_zs (k : Nat) : ch 0 (k + 1) = 0 := rfl
theorem ch_ss (n k : Nat) : ch (n + 1) (k + 1) = ch n k + ch n (k + 1) := rfl
theorem ch_gt : ∀ (n k : Nat), n < k → ch n k = 0
  | 0, 0, h => by omega
  | 0, k + 1, _ => rfl
  | n + 1, 0, h => by omega
  | n + 1, k + 1, h => by rw [ch_ss, ch_gt n k (by omega), ch_gt n (k + 1) (by omega)]
theorem ch_self (n : Nat) : ch n n = 1 := by
  induction n with
  | zero => rfl
  | succ n ih => rw [ch_ss, ih, ch_gt n (n + 1) (by omega)]
theorem ch_pos : ∀ (n k : Nat), k ≤ n → 0 < ch n k
  | n, 0, _ => by simp
  | 0, k + 1, h => by omega
  | n + 1, k + 1, h => by rw [ch_ss]; have := ch_pos n k (by omega); omega
/-- absorption: k * C(n,k) = n * C(n-1,k-1) -/
theorem ch_absorb : ∀ (n k : Nat), (k + 1) * ch (n + 1) (k + 1) = (n + 1) * ch n k
  | 0, 0 => by simp [ch]
  | 0, k + 1 => by simp [ch]
  | n + 1, 0 => by
    have h := ch_absorb n 0
    rw [ch_ss (n + 1) 0]; simp at h ⊢; omega
  | n + 1, k + 1 => by
    have h1 := ch_absorb n k
    have h2 := ch_absorb n (k + 1)
    rw [ch_ss (n + 1) (k + 1)]
    have e1 : (k + 1 + 1) * (ch (n + 1) (k + 1) + ch (n + 1) (k + 1 + 1)) = (k + 1) * ch (n + 1) (k + 1) + ch (n + 1) (k + 1) + (k + 1 + 1) * ch (n + 1) (k + 1 + 1) := by
      rw [Nat.mul_add, Nat.succ_mul (k + 1)]
    rw [e1, h1, h2]
    have e2 : (n + 1 + 1) * ch (n + 1) (k + 1) = (n + 1) * ch (n + 1) (k + 1) + ch (n + 1) (k + 1) := Nat.succ_mul _ _
    rw [e2, ch_ss n k, Nat.mul_add]; omega
/-- the next one of a row -/
theorem ch_next : ∀ (n k : Nat), (k + 1) * ch n (k + 1) = (n - k) * ch n k
  | 0, k => by simp
  | n + 1, 0 => by have := ch_absorb n 0; simp at this ⊢; omega
  | n + 1, k + 1 => by
    by_cases h : k ≤ n
    · have h1 := ch_next n k
      have h2 := ch_next n (k + 1)
      have ha := ch_absorb n k
      rw [ch_ss n (k + 1), ch_ss n k, Nat.mul_add, h2]
      obtain ⟨d, rfl⟩ : ∃ d, n = k + d := ⟨n - k, by omega⟩
      simp only [show k + d - k = d from by omega, show k + d + 1 - (k + 1) = d from by omega] at *
      rw [Nat.mul_add]
      have : (k + 1 + 1) * ch (k + d) (k + 1) = (k + 1) * ch (k + d) (k + 1) + ch (k + d) (k + 1) := Nat.succ_mul _ _
      rw [this, h1]
      cases d with
      | zero => simp [ch_gt k (k + 1) (by omega)]
      | succ d => 
        rw [show k + (d + 1) - (k + 1) = d from by omega]
        have : (d + 1) * ch (k + (d + 1)) (k + 1) = d * ch (k + (d + 1)) (k + 1) + ch (k + (d + 1)) (k + 1) := Nat.succ_mul _ _
        omega
    · rw [ch_gt (n + 1) (k + 1 + 1) (by omega), show n + 1 - (k + 1) = 0 from by omega]; simp
theorem ch_symm : ∀ (n k : Nat), k ≤ n → ch n (n - k) = ch n k
  | n, 0, _ => by simp [ch_self]
  | 0, k + 1, h => by omega
  | n + 1, k + 1, h => by
    rw [ch_ss, show n + 1 - (k + 1) = n - k from by omega]
    by_cases e : k = n
    · subst e; simp [ch_self, ch_gt k (k + 1) (by omega)]
    · obtain ⟨d, hd⟩ : ∃ d, n - k = d + 1 := ⟨n - k - 1, by omega⟩
      rw [hd, ch_ss, ← hd, ch_symm n k (by omega), show d = n - (k + 1) from by omega, ch_symm n (k + 1) (by omega)]; omega
theorem ch_mono (n k : Nat) : ch n k ≤ ch (n + 1) k := by
  cases k with
  | zero => simp
  | succ k => rw [ch_ss]; omega
theorem ch_le : ∀ (d n k : Nat), ch n k ≤ ch (n + d) k
  | 0, _, _ => Nat.le_refl _
  | d + 1, n, k => Nat.le_trans (ch_le d n k) (ch_mono _ _)
/-- a row of the triangle as a list -/
def nx : Nat → List Nat → List Nat
  | a, [] => [a]
  | a, b :: l => (a + b) :: nx b l
def rowOf : Nat → List Nat
  | 0 => [1]
  | n + 1 => nx 0 (rowOf n)
theorem nx_get : ∀ (l : List Nat) (a i : Nat), (nx a l).getD i 0 = (if i = 0 then a else l.getD (i - 1) 0) + l.getD i 0
  | [], a, 0 => by simp [nx]
  | [], a, i + 1 => by simp [nx]
  | b :: l, a, 0 => by simp [nx]
  | b :: l, a, 1 => by
    have := nx_get l b 0; simp [nx] at this ⊢; omega
  | b :: l, a, i + 2 => by
    have := nx_get l b (i + 1)
    simp only [nx, List.getD_cons_succ] at this ⊢
    rw [this]; simp
theorem rowOf_get : ∀ (n k : Nat), (rowOf n).getD k 0 = ch n k
  | 0, 0 => rfl
  | 0, k + 1 => rfl
  | n + 1, 0 => by simp only [rowOf]; rw [nx_get, rowOf_get n 0]; simp
  | n + 1, k + 1 => by simp only [rowOf]; rw [nx_get, rowOf_get n (k + 1), if_neg (by omega), Nat.add_sub_cancel, rowOf_get n k, ch_ss]
def big : Nat := 118264581564861424
theorem row60 : ∀ x ∈ rowOf 60, x ≤ 118264581564861424 := by decide +kernel
theorem ch_bound (n k : Nat) (h : n ≤ 60) : ch n k ≤ 118264581564861424 := by
  have h1 := ch_le (60 - n) n k
  rw [show n + (60 - n) = 60 from by omega, ← rowOf_get 60 k] at h1
  refine Nat.le_trans h1 ?_
  by_cases e : k < (rowOf 60).length
  · rw [List.getD_eq_getElem?_getD, List.getElem?_eq_getElem e]; exact row60 _ (List.getElem_mem e)
  · rw [List.getD_eq_getElem?_getD, List.getElem?_eq_none (by omega)]; simp
/-- sums -/
def sm (f : Nat → Nat) : Nat → Nat
  | 0 => 0
  | n + 1 => sm f n + f n
theorem sm_congr {f g : Nat → Nat} : ∀ n, (∀ i, i < n → f i = g i) → sm f n = sm g n
  | 0, _ => rfl
  | n + 1, h => by rw [sm, sm, sm_congr n (fun i hi => h i (by omega)), h n (by omega)]
theorem sm_add (f g : Nat → Nat) : ∀ n, sm (fun i => f i + g i) n = sm f n + sm g n
  | 0 => rfl
  | n + 1 => by simp only [sm]; rw [sm_add f g n]; omega
theorem sm_shift (f : Nat → Nat) : ∀ n, sm f (n + 1) = f 0 + sm (fun i => f (i + 1)) n
  | 0 => by simp [sm]
  | n + 1 => by rw [sm, sm_shift f n, sm]; omega
theorem sm_mul (a : Nat) (f : Nat → Nat) : ∀ n, sm (fun i => a * f i) n = a * sm f n
  | 0 => rfl
  | n + 1 => by simp only [sm]; rw [sm_mul a f n, Nat.mul_add]
theorem sm_le (f : Nat → Nat) : ∀ n i, i < n → f i ≤ sm f n
  | 0, i, h => by omega
  | n + 1, i, h => by
    rw [sm]
    by_cases e : i = n
    · subst e; omega
    · have := sm_le f n i (by omega); omega
theorem sm_mono (f : Nat → Nat) : ∀ d n, sm f n ≤ sm f (n + d)
  | 0, n => Nat.le_refl _
  | d + 1, n => by have := sm_mono f d n; rw [Nat.add_succ, sm]; omega
/-- Vandermonde -/
theorem vander : ∀ (m r c : Nat), sm (fun i => ch m i * ch r (c - i)) (c + 1) = ch (m + r) c
  | 0, r, c => by
    rw [sm_shift]
    have : sm (fun i => ch 0 (i + 1) * ch r (c - (i + 1))) c = sm (fun i => 0 * i) c := sm_congr c (fun i _ => by simp)
    rw [this, sm_mul]; simp
  | m + 1, r, 0 => by simp [sm]
  | m + 1, r, c + 1 => by
    rw [show m + 1 + r = (m + r) + 1 from by omega, ch_ss, ← vander m r c, ← vander m r (c + 1), sm_shift (n := c + 1), sm_shift (n := c + 1)]
    have : sm (fun i => ch (m + 1) (i + 1) * ch r (c + 1 - (i + 1))) (c + 1) = sm (fun i => ch m i * ch r (c - i) + ch m (i + 1) * ch r (c + 1 - (i + 1))) (c + 1) :=
      sm_congr _ (fun i _ => by rw [ch_ss, Nat.add_mul, show c + 1 - (i + 1) = c - i from by omega])
    rw [this, sm_add]; simp; omega
end Cnt
namespace Cnt
/-- the ways and all choices -/
def W (m c r n : Nat) : Nat := ch m r * ch (n - m) (c - r)
theorem ch_up (n k : Nat) (h : k ≤ n + 1) : (n + 1 - k) * ch (n + 1) k = (n + 1) * ch n k := by
  cases k with
  | zero => simp
  | succ k =>
    have h1 := ch_absorb n k
    have h2 := ch_next n k
    have h3 := ch_absorb n k
    have e : (n + 1) * ch (n + 1) (k + 1) = (n + 1) * ch n k + (n + 1) * ch n (k + 1) := by rw [ch_ss, Nat.mul_add]
    have e2 : (n + 1 - (k + 1)) * ch (n + 1) (k + 1) + (k + 1) * ch (n + 1) (k + 1) = (n + 1) * ch (n + 1) (k + 1) := by
      rw [← Nat.add_mul]; congr 1; omega
    omega
theorem W_pos {m c r n : Nat} (h1 : r ≤ m) (h2 : r ≤ c) (h3 : m + c ≤ n + r) : 0 < W m c r n :=
  Nat.mul_pos (ch_pos _ _ h1) (ch_pos _ _ (by omega))
/-- one bird more: both products have common factors -/
theorem W_step {m c r n : Nat} (h1 : r ≤ m) (h2 : r ≤ c) (h3 : m + c ≤ n + r) :
    (n + 1 + r - m - c) * (n + 1) * (W m c r (n + 1) * ch n c) = (n + 1 - m) * (n + 1 - c) * (W m c r n * ch (n + 1) c) := by
  have a := ch_up (n - m) (c - r) (by omega)
  have b := ch_up n c (by omega)
  rw [show n - m + 1 = n + 1 - m from by omega] at a
  rw [show n + 1 - m - (c - r) = n + 1 + r - m - c from by omega] at a
  unfold W
  calc (n + 1 + r - m - c) * (n + 1) * (ch m r * ch (n + 1 - m) (c - r) * ch n c)
      = ch m r * ((n + 1 + r - m - c) * ch (n + 1 - m) (c - r)) * ((n + 1) * ch n c) := by ac_rfl
    _ = ch m r * ((n + 1 - m) * ch (n - m) (c - r)) * ((n + 1 - c) * ch (n + 1) c) := by rw [a, b]
    _ = _ := by ac_rfl
theorem prod_cmp {m c r n : Nat} (h3 : m + c ≤ n + r) (h1 : r ≤ m) (h2 : r ≤ c) :
    (n + 1 - m) * (n + 1 - c) + (n + 1) * r = (n + 1 + r - m - c) * (n + 1) + m * c := by
  obtain ⟨p, hp⟩ : ∃ p, n + 1 = m + p := ⟨n + 1 - m, by omega⟩
  obtain ⟨q, hq⟩ : ∃ q, p + r = c + q := ⟨p + r - c, by omega⟩
  have e1 : n + 1 - m = p := by omega
  have e2 : n + 1 + r - m - c = q := by omega
  have e3 : n + 1 - c + r = m + q := by omega
  rw [e1, e2]
  obtain ⟨s, hs⟩ : ∃ s, m = r + s := ⟨m - r, by omega⟩
  have e4 : n + 1 - c = s + q := by omega
  rw [e4, hp]
  have : c = p + r - q := by omega
  obtain ⟨t, ht⟩ : ∃ t, c = r + t := ⟨c - r, by omega⟩
  have hpp : p = t + q := by omega
  subst hs ht hpp
  simp only [Nat.add_mul, Nat.mul_add]
  have := Nat.mul_comm t s
  have := Nat.mul_comm t r
  have := Nat.mul_comm q t
  have := Nat.mul_comm q s
  have := Nat.mul_comm q r
  have := Nat.mul_comm s r
  omega
/-- better, by one bird more -/
theorem W_better {m c r n : Nat} (h1 : r ≤ m) (h2 : r ≤ c) (h3 : m + c ≤ n + r) :
    W m c r n * ch (n + 1) c < W m c r (n + 1) * ch n c ↔ (n + 1) * r < m * c := by
  have e := W_step h1 h2 h3
  have p := prod_cmp h3 h1 h2
  generalize hX : W m c r (n + 1) * ch n c = X at *
  generalize hY : W m c r n * ch (n + 1) c = Y at *
  have hY0 : 0 < Y := by rw [← hY]; exact Nat.mul_pos (W_pos h1 h2 h3) (ch_pos _ _ (by omega))
  generalize hA : (n + 1 + r - m - c) * (n + 1) = A at *
  have hA0 : 0 < A := by rw [← hA]; exact Nat.mul_pos (by omega) (by omega)
  generalize (n + 1 - m) * (n + 1 - c) = B at *
  constructor
  · intro h
    have : A * Y < A * X := Nat.mul_lt_mul_of_pos_left h hA0
    have : A * Y < B * Y := by omega
    have := Nat.lt_of_mul_lt_mul_right this
    omega
  · intro h
    have hAB : A < B := by omega
    have : A * Y < B * Y := Nat.mul_lt_mul_of_pos_right hAB hY0
    have : A * Y < A * X := by omega
    exact Nat.lt_of_mul_lt_mul_left this
/-- from the best on, none is better -/
theorem W_never {m c r b : Nat} (h1 : r ≤ m) (h2 : r ≤ c) (h3 : m + c ≤ b + r) (hb : ¬ (b + 1) * r < m * c) :
    ∀ d, W m c r (b + d) * ch b c ≤ W m c r b * ch (b + d) c
  | 0 => by simp
  | d + 1 => by
    have ih := W_never h1 h2 h3 hb d
    have hs : W m c r (b + d + 1) * ch (b + d) c ≤ W m c r (b + d) * ch (b + d + 1) c := by
      have := (W_better (n := b + d) h1 h2 (by omega))
      have h : ¬ (b + d + 1) * r < m * c := by
        have : (b + 1) * r ≤ (b + d + 1) * r := Nat.mul_le_mul_right _ (by omega)
        omega
      have := mt this.1 h
      omega
    have hp : 0 < ch (b + d) c := ch_pos _ _ (by omega)
    refine Nat.le_of_mul_le_mul_left ?_ hp
    rw [show b + (d + 1) = b + d + 1 from rfl]
    calc ch (b + d) c * (W m c r (b + d + 1) * ch b c) = (W m c r (b + d + 1) * ch (b + d) c) * ch b c := by ac_rfl
      _ ≤ (W m c r (b + d) * ch (b + d + 1) c) * ch b c := Nat.mul_le_mul_right _ hs
      _ = (W m c r (b + d) * ch b c) * ch (b + d + 1) c := by ac_rfl
      _ ≤ (W m c r b * ch (b + d) c) * ch (b + d + 1) c := Nat.mul_le_mul_right _ ih
      _ = _ := by ac_rfl
/-- the 128 bits of a product -/
theorem mul64 (x y : Nat) :
    let x0 := x % 4294967296; let x1 := x / 4294967296; let y0 := y % 4294967296; let y1 := y / 4294967296
    let w0 := x0 * y0
    let t := x1 * y0 + w0 / 4294967296
    let w1 := t % 4294967296 + x0 * y1
    let w2 := t / 4294967296
    (x1 * y1 + w2 + w1 / 4294967296) * 18446744073709551616 + (x * y) % 18446744073709551616 = x * y := by
  intro x0 x1 y0 y1 w0 t w1 w2
  have ex : x = x1 * 4294967296 + x0 := by omega
  have ey : y = y1 * 4294967296 + y0 := by omega
  have e : x * y = x1 * y1 * 18446744073709551616 + (x1 * y0 + x0 * y1) * 4294967296 + w0 := by
    rw [ex, ey]; simp only [Nat.add_mul, Nat.mul_add]
    show _ = _ + x0 * y0
    have a1 : x1 * 4294967296 * (y1 * 4294967296) = x1 * y1 * 18446744073709551616 := by
      rw [show (18446744073709551616 : Nat) = 4294967296 * 4294967296 from rfl]; ac_rfl
    have a2 : x1 * 4294967296 * y0 = x1 * y0 * 4294967296 := by ac_rfl
    have a3 : x0 * (y1 * 4294967296) = x0 * y1 * 4294967296 := by ac_rfl
    omega
  have : (x1 * y1 + w2 + w1 / 4294967296) = x * y / 18446744073709551616 := by
    rw [e]; omega
  rw [this]; omega
end Cnt

-- base
theorem evp {α : Type} {c : Prop} [Decidable c] {f g : Nat → Option α} {r : α} (h : c) (k : Ev f r) : Ev (fun n => if c then f n else g n) r :=
  Ev.congr (fun _ => if_pos h) k
theorem evn {α : Type} {c : Prop} [Decidable c] {f g : Nat → Option α} {r : α} (h : ¬ c) (k : Ev g r) : Ev (fun n => if c then f n else g n) r :=
  Ev.congr (fun _ => if_neg h) k
theorem evb {α β : Type} {g : Nat → Option α} {f : Nat → α → Option β} {a : α} {r : β} (h : Ev g a) (k : Ev (fun n => f n a) r) : Ev (fun n => (g n).bind (f n)) r := Ev.bind h k
theorem evs {α β : Type} {x : Option α} {f : Nat → α → Option β} {a : α} {r : β} (h : x = some a) (k : Ev (fun n => f n a) r) : Ev (fun n => x.bind (f n)) r := by
  subst h; exact k
theorem w64 {n : Int} (h : -9223372036854775808 ≤ n) (h2 : n ≤ 9223372036854775807) : wrap64 n = n := by unfold wrap64; omega
theorem rd_at (l : List Int) (i : Nat) (h : i < l.length) : rd l (i : Int) = l[i] := by
  simp [rd, List.getD_eq_getElem?_getD, List.getElem?_eq_getElem h]
def inB (x : Int) : Bool := decide (0 ≤ x ∧ x ≤ 60)
/-- binomial coefficients of whole numbers -/
def bin (n k : Int) : Int := if 0 ≤ k ∧ k ≤ n then ((Cnt.ch n.toNat k.toNat : Nat) : Int) else 0
theorem bin_nn (n k : Nat) : bin n k = (Cnt.ch n k : Nat) := by
  unfold bin
  by_cases h : k ≤ n
  · rw [if_pos (by omega)]; simp
  · rw [if_neg (by omega), Cnt.ch_gt n k (by omega)]; rfl
theorem bin_lo (n k : Int) : 0 ≤ bin n k := by unfold bin; split <;> omega
theorem bin_hi (n k : Int) (h : n ≤ 60) : bin n k ≤ 118264581564861424 := by
  unfold bin; split
  · have := Cnt.ch_bound n.toNat k.toNat (by omega); omega
  · omega
theorem bin_pos (n k : Int) (h : 0 ≤ k) (h' : k ≤ n) : 0 < bin n k := by
  unfold bin; rw [if_pos ⟨h, h'⟩]; have := Cnt.ch_pos n.toNat k.toNat (by omega); omega
/-- the ways -/
def wys (b m c r : Int) : Int := bin m r * bin (b - m) (c - r)
theorem wys_lo (b m c r : Int) : 0 ≤ wys b m c r := Int.mul_nonneg (bin_lo _ _) (bin_lo _ _)
theorem wys_zero (b m c r : Int) (h : r < 0 ∨ m < r ∨ c < r ∨ b - m < c - r) : wys b m c r = 0 := by
  unfold wys bin
  by_cases h1 : 0 ≤ r ∧ r ≤ m
  · rw [if_neg (show ¬ (0 ≤ c - r ∧ c - r ≤ b - m) by omega)]; simp
  · rw [if_neg h1]; simp
theorem wys_nat (b m c r : Nat) (h : m ≤ b) (h2 : r ≤ c) : wys b m c r = ((Cnt.ch m r * Cnt.ch (b - m) (c - r) : Nat) : Int) := by
  unfold wys
  rw [show (b : Int) - m = ((b - m : Nat) : Int) by omega, show (c : Int) - r = ((c - r : Nat) : Int) by omega, bin_nn, bin_nn]; simp
theorem wys_hi (b m c r : Int) (h0 : 0 ≤ m) (h : m ≤ b) (hb : b ≤ 60) : wys b m c r ≤ 118264581564861424 := by
  by_cases h1 : r < 0 ∨ m < r ∨ c < r ∨ b - m < c - r
  · rw [wys_zero _ _ _ _ h1]; omega
  · obtain ⟨b, rfl⟩ := Int.eq_ofNat_of_zero_le (show 0 ≤ b by omega)
    obtain ⟨m, rfl⟩ := Int.eq_ofNat_of_zero_le (show 0 ≤ m by omega)
    obtain ⟨c, rfl⟩ := Int.eq_ofNat_of_zero_le (show 0 ≤ c by omega)
    obtain ⟨r, rfl⟩ := Int.eq_ofNat_of_zero_le (show 0 ≤ r by omega)
    rw [wys_nat _ _ _ _ (by omega) (by omega)]
    have v := Cnt.vander m (b - m) c
    have l := Cnt.sm_le (fun i => Cnt.ch m i * Cnt.ch (b - m) (c - i)) (c + 1) r (by omega)
    rw [v, show m + (b - m) = b by omega] at l
    have := Cnt.ch_bound b c (by omega)
    omega

-- examine
theorem count_within_eq (a b c : Int) : count_within.f a b c = some (decide (b ≤ a ∧ a ≤ c)) := by
  unfold count_within.f
  by_cases h : a ≥ b
  · rw [if_pos h]; have : (b ≤ a ∧ a ≤ c) ↔ a ≤ c := by omega
    simp [this]
  · rw [if_neg h]; have : ¬ (b ≤ a ∧ a ≤ c) := by omega
    simp [this]
theorem examine_l0 (l : List Int) (hl : l.length ≤ 1000) : ∀ d i : Nat, i + d = l.length → Ev (fun k => count_examine.l0 k l (l.length : Int) (i : Int)) (if (l.drop i).all inB then (0 : Int) else 1)
  | 0, i, h => by
    refine Ev.step (fun k => count_examine.l0.eq_2 ..) (evn (by omega) ?_)
    rw [List.drop_eq_nil_of_le (by omega)]
    exact Ev.now _
  | d + 1, i, h => by
    refine Ev.step (fun k => count_examine.l0.eq_2 ..) (evp (by omega) (evp (by omega) (evp (by omega) (evs (count_within_eq ..) ?_))))
    rw [rd_at l i (by omega), List.drop_eq_getElem_cons (show i < l.length by omega), List.all_cons]
    by_cases hc : 0 ≤ l[i] ∧ l[i] ≤ 60
    · refine evp (by simpa using hc) ?_
      rw [show inB l[i] = true from by simpa [inB] using hc, Bool.true_and, w64 (by omega) (by omega)]
      exact examine_l0 l hl d (i + 1) (by omega)
    · refine evn (by simpa using hc) ?_
      rw [show inB l[i] = false from by simpa [inB] using hc, Bool.false_and]
      exact Ev.now _
theorem examine_ev (l : List Int) (hl : l.length ≤ 1000) : Ev (fun k => count_examine.f k l) (if l.all inB then (0 : Int) else 1) := by
  have := examine_l0 l hl l.length 0 (by omega)
  exact this
theorem examine_ok (l : List Int) (hl : l.length ≤ 1000) (h : l.all inB = true) : Ev (fun k => count_examine.f k l) (0 : Int) := by
  have := examine_ev l hl; rwa [if_pos h] at this
theorem examine_no (l : List Int) (hl : l.length ≤ 1000) (h : ¬ l.all inB = true) : Ev (fun k => count_examine.f k l) (1 : Int) := by
  have := examine_ev l hl; rwa [if_neg h] at this

-- binomial
def rowL (f : Nat → Nat) (k : Nat) : List Int := (List.range (k + 1)).map fun j => ((f j : Nat) : Int)
theorem rowL_length (f : Nat → Nat) (k : Nat) : (rowL f k).length = k + 1 := by simp [rowL]
theorem rowL_rd (f : Nat → Nat) (k i : Nat) (h : i ≤ k) : rd (rowL f k) (i : Int) = (f i : Nat) := by
  rw [rd_at _ _ (by rw [rowL_length]; omega)]; simp [rowL]
theorem rowL_congr (f g : Nat → Nat) (k : Nat) (h : ∀ j, j ≤ k → f j = g j) : rowL f k = rowL g k := by
  unfold rowL
  refine List.map_congr_left fun j hj => ?_
  rw [h j (by have := List.mem_range.1 hj; omega)]
theorem rowL_set (f : Nat → Nat) (k i v : Nat) : (rowL f k).set i ((v : Nat) : Int) = rowL (fun j => if j = i then v else f j) k := by
  refine List.ext_getElem (by simp [rowL]) fun j h1 h2 => ?_
  rw [List.getElem_set]
  simp only [rowL, List.getElem_map, List.getElem_range]
  by_cases e : i = j
  · subst e; simp
  · rw [if_neg e, if_neg (fun h => e h.symm)]
theorem rowL_start (k : Nat) : (List.replicate (k + 1) (0 : Int)).set 0 1 = rowL (Cnt.ch 0) k := by
  refine List.ext_getElem (by simp [rowL]) fun j h1 h2 => ?_
  rw [List.getElem_set]
  simp only [rowL, List.getElem_map, List.getElem_range, List.getElem_replicate]
  cases j with
  | zero => simp
  | succ j => simp
def mixR (t i j : Nat) : Nat := if i < j then Cnt.ch (t + 1) j else Cnt.ch t j
theorem binomial_l1 (k t n : Nat) (hk : k ≤ 60) (ht : t < 60) (r : Int) (H : Ev (fun K => count_binomial.l0 K (k : Int) (rowL (Cnt.ch (t + 1)) k) (n : Int) ((t + 1 : Nat) : Int)) r) :
    ∀ i : Nat, i ≤ k → Ev (fun K => count_binomial.l1 K (k : Int) (rowL (mixR t i) k) (i : Int) (n : Int) (t : Int)) r
  | 0, _ => by
    refine Ev.step (fun K => count_binomial.l1.eq_2 ..) (evn (by omega) ?_)
    rw [w64 (by omega) (by omega), rowL_congr (mixR t 0) (Cnt.ch (t + 1)) k]
    · exact H
    · intro j _
      unfold mixR
      cases j with
      | zero => simp
      | succ j => rw [if_pos (by omega)]
  | i + 1, h => by
    refine Ev.step (fun K => count_binomial.l1.eq_2 ..) (evp (by omega) (evp (by omega) (evp (by rw [rowL_length]; omega) ?_)))
    rw [show ((i + 1 : Nat) : Int) - 1 = (i : Int) by omega, w64 (by omega) (by omega)]
    refine evp (by omega) (evp (by rw [rowL_length]; omega) ?_)
    have b1 := Cnt.ch_bound (t + 1) (i + 1) (by omega)
    have e1 := Cnt.ch_ss t i
    have m1 : mixR t (i + 1) (i + 1) = Cnt.ch t (i + 1) := by simp [mixR]
    have m2 : mixR t (i + 1) i = Cnt.ch t i := by simp [mixR, show ¬ i + 1 < i by omega]
    rw [rowL_rd _ _ _ (by omega), rowL_rd _ _ _ (by omega), m1, m2, w64 (by omega) (by omega), show ((i + 1 : Nat) : Int).toNat = i + 1 by omega,
      show ((Cnt.ch t (i + 1) : Nat) : Int) + ((Cnt.ch t i : Nat) : Int) = ((Cnt.ch (t + 1) (i + 1) : Nat) : Int) by omega, rowL_set,
      rowL_congr _ (mixR t i) k]
    · exact binomial_l1 k t n hk ht r H i (by omega)
    · intro j _
      unfold mixR
      by_cases e : j = i + 1
      · subst e; rw [if_pos rfl, if_pos (by omega)]
      · rw [if_neg e]
        by_cases e2 : i + 1 < j
        · rw [if_pos e2, if_pos (by omega)]
        · rw [if_neg e2, if_neg (by omega)]
theorem binomial_l0 (k n : Nat) (hn : n ≤ 60) (hk : k ≤ n) : ∀ d t : Nat, t + d = n → Ev (fun K => count_binomial.l0 K (k : Int) (rowL (Cnt.ch t) k) (n : Int) (t : Int)) ((Cnt.ch n k : Nat) : Int)
  | 0, t, h => by
    obtain rfl : t = n := by omega
    refine Ev.step (fun K => count_binomial.l0.eq_2 ..) (evn (by omega) (evp (by omega) (evp (by rw [rowL_length]; omega) ?_)))
    rw [rowL_rd _ _ _ (by omega)]
    exact Ev.now _
  | d + 1, t, h => by
    refine Ev.step (fun K => count_binomial.l0.eq_2 ..) (evp (by omega) ?_)
    have := binomial_l1 k t n (by omega) (by omega) _ (binomial_l0 k n hn hk d (t + 1) (by omega)) k (Nat.le_refl _)
    rwa [rowL_congr (mixR t k) (Cnt.ch t) k (fun j hj => by simp [mixR, show ¬ k < j by omega])] at this
theorem binomial_ev (n k : Int) (hn : n ≤ 60) : Ev (fun K => count_binomial.f K n k) (bin n k) := by
  unfold count_binomial.f
  refine evs (count_within_eq ..) ?_
  by_cases h : 0 ≤ k ∧ k ≤ n
  · refine evp (by simpa using h) ?_
    obtain ⟨k, rfl⟩ := Int.eq_ofNat_of_zero_le h.1
    obtain ⟨n, rfl⟩ := Int.eq_ofNat_of_zero_le (show 0 ≤ n by omega)
    rw [w64 (by omega) (by omega), show ((k : Int) + 1).toNat = k + 1 by omega]
    refine evp (by omega) (evp (by omega) (evs rfl (evp (by first | (simp; done) | (simp; omega)) ?_)))
    rw [show (0 : Int).toNat = 0 from rfl, rowL_start, bin_nn]
    exact binomial_l0 k n (by omega) (by omega) n 0 (by omega)
  · refine evn (by simpa using h) ?_
    unfold bin; rw [if_neg h]
    exact Ev.now _

-- ways
theorem ways_ev (b m c r : Int) (h0 : 0 ≤ m) (h : m ≤ b) (hb : b ≤ 60) (hr : -1 ≤ r) (hr2 : r ≤ 60) (hc : 0 ≤ c) (hc2 : c ≤ 60) : Ev (fun K => count_catch_ways.f K b m c r) (wys b m c r) := by
  unfold count_catch_ways.f
  have l := wys_lo b m c r
  have u := wys_hi b m c r h0 h hb
  rw [w64 (n := b - m) (by omega) (by omega), w64 (n := c - r) (by omega) (by omega)]
  refine evb (binomial_ev _ _ (by omega)) (evb (binomial_ev _ _ (by omega)) ?_)
  show Ev (fun _ => some (wrap64 (wys b m c r))) (wys b m c r)
  rw [w64 (by omega) (by omega)]
  exact Ev.now _

-- known
theorem known_at : wigeonlaw06_known.f 100 = some true := by decide +kernel
theorem known_ev : Ev (fun k => wigeonlaw06_known.f k) true := Ev.of wigeonlaw06_known.mono known_at

-- best
def bst (m c r : Int) : Nat → Int → Int
  | 0, n => n
  | d + 1, n => if (n + 1) * r < m * c then bst m c r d (n + 1) else n
theorem mul_small {a b : Int} (h1 : 0 ≤ a) (h2 : a ≤ 61) (h3 : 0 ≤ b) (h4 : b ≤ 60) : 0 ≤ a * b ∧ a * b ≤ 3660 :=
  ⟨Int.mul_nonneg h1 h3, by
    have := Int.mul_le_mul h2 h4 h3 (by omega : (0 : Int) ≤ 61)
    omega⟩
theorem best_l0 (m c r : Int) (hm : 0 ≤ m ∧ m ≤ 60) (hc : 0 ≤ c ∧ c ≤ 60) (hr : 0 ≤ r ∧ r ≤ 60) : ∀ (d : Nat) (n : Int), 0 ≤ n → n + d = 60 → Ev (fun k => count_Best.l0 k m c r n) (bst m c r d n, true, 0)
  | 0, n, h0, h => Ev.step (fun k => count_Best.l0.eq_2 ..) (evn (by omega) (Ev.now _))
  | d + 1, n, h0, h => by
    refine Ev.step (fun k => count_Best.l0.eq_2 ..) (evp (by omega) ?_)
    have a := mul_small (a := n + 1) (b := r) (by omega) (by omega) hr.1 hr.2
    have b := mul_small (a := m) (b := c) (by omega) (by omega) hc.1 hc.2
    rw [w64 (n := n + 1) (by omega) (by omega), w64 (n := (n + 1) * r) (by omega) (by omega), w64 (n := m * c) (by omega) (by omega)]
    unfold bst
    by_cases hh : (n + 1) * r < m * c
    · rw [if_pos hh]; exact evp hh (best_l0 m c r hm hc hr d (n + 1) (by omega) (by omega))
    · rw [if_neg hh]; exact evn hh (Ev.now _)
theorem bst_char (m c r : Int) : ∀ (d : Nat) (n : Int), n + d = 60 → n ≤ bst m c r d n ∧ bst m c r d n ≤ 60 ∧ (n < bst m c r d n → bst m c r d n * r < m * c) ∧ (bst m c r d n < 60 → ¬ (bst m c r d n + 1) * r < m * c)
  | 0, n, h => ⟨Int.le_refl _, by simp [bst]; omega, by simp [bst], by simp [bst]; omega⟩
  | d + 1, n, h => by
    unfold bst
    by_cases hh : (n + 1) * r < m * c
    · rw [if_pos hh]
      obtain ⟨h1, h2, h3, h4⟩ := bst_char m c r d (n + 1) (by omega)
      refine ⟨by omega, h2, fun _ => ?_, h4⟩
      by_cases e : bst m c r d (n + 1) = n + 1
      · rw [e]; exact hh
      · exact h3 (by omega)
    · rw [if_neg hh]
      exact ⟨Int.le_refl _, by omega, fun h => absurd h (by omega), fun _ => hh⟩
/-- the three ways of Best -/
theorem Best_arg (m c r : Int) (h : ¬ ((0 ≤ m ∧ m ≤ 60) ∧ (0 ≤ c ∧ c ≤ 60) ∧ (0 ≤ r ∧ r ≤ 60))) : Ev (fun k => count_Best.f k m c r) (0, false, 1) := by
  unfold count_Best.f
  exact evb (examine_no _ (by simp) (by simpa [inB] using h)) (evn (by decide) (Ev.now _))
theorem mn_eq (a b : Int) : mn a b = min a b := by unfold mn; split <;> omega
theorem Best_none (m c r : Int) (hm : 0 ≤ m ∧ m ≤ 60) (hc : 0 ≤ c ∧ c ≤ 60) (hr : 0 ≤ r ∧ r ≤ 60) (h : m < r ∨ c < r ∨ 60 < m + c - r) : Ev (fun k => count_Best.f k m c r) (0, false, 0) := by
  unfold count_Best.f
  refine evb (examine_ok _ (by simp) (by simp [inB, hm, hc, hr])) (evp rfl ?_)
  rw [w64 (n := m + c) (by omega) (by omega), w64 (n := m + c - r) (by omega) (by omega)]
  by_cases h1 : r > mn m c
  · exact evp h1 (Ev.step (fun k => count_Best.j0.eq_2 ..) (evp rfl (Ev.now _)))
  · have : 60 < m + c - r := by rw [mn_eq] at h1; omega
    exact evn h1 (Ev.step (fun k => count_Best.j0.eq_2 ..) (evp (by simpa using this) (Ev.now _)))
theorem Best_some (m c r : Int) (hm : 0 ≤ m ∧ m ≤ 60) (hc : 0 ≤ c ∧ c ≤ 60) (hr : 0 ≤ r ∧ r ≤ 60) (h1 : r ≤ m) (h2 : r ≤ c) (h3 : m + c - r ≤ 60) :
    Ev (fun k => count_Best.f k m c r) (bst m c r (60 - (m + c - r)).toNat (m + c - r), true, 0) := by
  unfold count_Best.f
  refine evb (examine_ok _ (by simp) (by simp [inB, hm, hc, hr])) (evp rfl ?_)
  rw [w64 (n := m + c) (by omega) (by omega), w64 (n := m + c - r) (by omega) (by omega)]
  refine evn (by rw [mn_eq]; omega) (Ev.step (fun k => count_Best.j0.eq_2 ..) (evn (by simpa using h3) ?_))
  exact best_l0 m c r hm hc hr _ _ (by omega) (by omega)

theorem ilt (a b : Int) : a < b ∨ b ≤ a := by omega
theorem likely_num (m c r b : Int) (hm : 0 ≤ m ∧ m ≤ 60) (hc : 0 ≤ c ∧ c ≤ 60) (hr : 0 < r) (h1 : r ≤ m) (h2 : r ≤ c)
    (hb1 : m + c - r ≤ b) (hb2 : b ≤ 60) (hb3 : m + c - r < b → b * r < m * c) (hb4 : b < 60 → ¬ (b + 1) * r < m * c) :
    b = if m * c % r = 0 then (if m * c / r ≤ 60 then (if m * c / r > m + c - r then m * c / r - 1 else min (m * c / r) 60) else min (m * c / r) 60) else min (m * c / r) 60 := by
  have hle : (m + c - r) * r ≤ m * c := by
    have : 0 ≤ (m - r) * (c - r) := Int.mul_nonneg (by omega) (by omega)
    have e : (m - r) * (c - r) = m * c - (m + c - r) * r := by
      simp only [Int.sub_mul, Int.mul_sub, Int.add_mul]; rw [Int.mul_comm r c]; omega
    omega
  have hd := Int.mul_ediv_add_emod (m * c) r
  have hs := Int.emod_nonneg (m * c) (show r ≠ 0 by omega)
  have hs2 := Int.emod_lt_of_pos (m * c) hr
  have step (a : Int) : (a + 1) * r = a * r + r := by rw [Int.add_mul]; omega
  have mono (a b : Int) (h : a ≤ b) : a * r ≤ b * r := Int.mul_le_mul_of_nonneg_right h (by omega)
  generalize m * c / r = q at *
  generalize m * c % r = s at *
  generalize m * c = p at *
  rw [Int.mul_comm] at hd
  generalize m + c - r = l at *
  have s1 := step b
  have hlq : l ≤ q := by
    rcases ilt q l with h | h
    · have := mono (q + 1) l (by omega); have := step q; omega
    · exact h
  by_cases hs0 : s = 0
  · rw [if_pos hs0]
    by_cases hq : q ≤ 60
    · rw [if_pos hq]
      by_cases hl : q > l
      · rw [if_pos hl]
        rcases Int.lt_trichotomy b (q - 1) with h | h | h
        · have := mono (b + 1) (q - 1) (by omega); have := step (q - 1); rw [show q - 1 + 1 = q by omega] at this
          exact absurd (by omega) (hb4 (by omega))
        · exact h
        · have := mono q b (by omega); have := hb3 (by omega); omega
      · rw [if_neg hl]
        rcases ilt l b with h | h
        · have := hb3 h; have := mono q b (by omega); omega
        · omega
    · rw [if_neg hq]
      rcases ilt b 60 with h | h
      · have := mono (b + 1) (q - 1) (by omega); have := step (q - 1); rw [show q - 1 + 1 = q by omega] at this
        exact absurd (by omega) (hb4 h)
      · omega
  · rw [if_neg hs0]
    rcases Int.lt_trichotomy b q with h | h | h
    · rcases ilt b 60 with h6 | h6
      · have := mono (b + 1) q (by omega)
        exact absurd (by omega) (hb4 h6)
      · omega
    · omega
    · have := hb3 (by omega); have := mono (q + 1) b (by omega); have := step q; omega
theorem CountLikely (a0_0 : Int) (a0_1 : Int) (a0_2 : Int) (a0_3 : Int) (_ : (Lit.int .i64 a0_0).wf = true) (_ : (Lit.int .i64 a0_1).wf = true) (_ : (Lit.int .i64 a0_2).wf = true) (_ : (Lit.int .i64 a0_3).wf = true) : ∃ k, wigeonlaw06_CountLikely.f k a0_0 a0_1 a0_2 a0_3 = some true := by
  refine Ev.rounds (g := fun k => wigeonlaw06_CountLikely.f k a0_0 a0_1 a0_2 a0_3) ?_
  generalize a0_1 = m
  generalize a0_2 = c
  generalize a0_3 = r
  unfold wigeonlaw06_CountLikely.f
  by_cases h : (0 ≤ m ∧ m ≤ 60) ∧ (0 ≤ c ∧ c ≤ 60) ∧ (0 ≤ r ∧ r ≤ 60)
  · obtain ⟨hm, hc, hr⟩ := h
    by_cases h2 : m < r ∨ c < r ∨ 60 < m + c - r
    · exact evb (Best_none m c r hm hc hr h2) (evp rfl (evn (by decide) (Ev.step (fun K => wigeonlaw06_CountLikely.j0.eq_2 ..) (evp rfl (evb known_ev (Ev.now _))))))
    · refine evb (Best_some m c r hm hc hr (by omega) (by omega) (by omega)) (evp rfl (evp rfl (Ev.step (fun K => wigeonlaw06_CountLikely.j0.eq_2 ..) ?_)))
      obtain ⟨h3, h4, h5, h6⟩ := bst_char m c r (60 - (m + c - r)).toNat (m + c - r) (by omega)
      generalize bst m c r (60 - (m + c - r)).toNat (m + c - r) = b at *
      by_cases h0 : r = 0
      · exact evp (by simpa using h0) (evb known_ev (Ev.now _))
      · refine evn (by simpa using h0) ?_
        have hn := likely_num m c r b hm hc (by omega) (by omega) (by omega) h3 h4 h5 h6
        have hp := mul_small (a := m) (b := c) (by omega) (by omega) hc.1 hc.2
        have hq : 0 ≤ m * c / r ∧ m * c / r ≤ 3660 := ⟨Int.ediv_nonneg hp.1 (by omega), Int.le_trans (Int.ediv_le_self _ hp.1) hp.2⟩
        refine evn h0 ?_
        rw [w64 (n := m * c) (by omega) (by omega), w64 (n := m + c) (by omega) (by omega), w64 (n := m + c - r) (by omega) (by omega), Int.tdiv_eq_ediv_of_nonneg hp.1, Int.tmod_eq_emod_of_nonneg hp.1,
          w64 (n := m * c / r) (by omega) (by omega), w64 (n := m * c / r - 1) (by omega) (by omega), mn_eq]
        have K : Ev (fun k => if b ≥ m + c - r then (wigeonlaw06_known.f k).bind fun t => some t else some false) true := evp h3 (evb known_ev (Ev.now _))
        by_cases c1 : m * c % r = 0
        · rw [if_pos c1] at hn
          refine evp c1 ?_
          by_cases c2 : m * c / r ≤ 60
          · rw [if_pos c2] at hn
            refine evp c2 ?_
            by_cases c3 : m * c / r > m + c - r
            · rw [if_pos c3] at hn; exact evp c3 (evp hn K)
            · rw [if_neg c3] at hn; exact evn c3 (evp hn K)
          · rw [if_neg c2] at hn; exact evn c2 (evp hn K)
        · rw [if_neg c1] at hn; exact evn c1 (evp hn K)
  · exact evb (Best_arg m c r h) (evn (by decide) (Ev.step (fun K => wigeonlaw06_CountLikely.j0.eq_2 ..) (evp rfl (evb known_ev (Ev.now _)))))

end Go.Proofs.Ytdgoaekcgphhbaa.Pure
