/- Of the text PureLureKeeps, what the row of LureKeeps reaches. -/
import Derived.Test.YtnmaonampilmoaaZLureKeepsLVx36
namespace Go.Proofs.Ytnmaonampilmoaa.Pure
set_option linter.unusedVariables false
set_option linter.unusedSimpArgs false
open Go.RowKit Go.Proofs.Ytnmaonampilmoaa.LV Go.Proofs.YtnmaonampilmoaaW.PrintWords Go.Proofs.YtnmaonampilmoaaW.PrintLast Go.Proofs.YtnmaonampilmoaaW.PrintMore

theorem evp {α : Type} {c : Prop} [Decidable c] {f g : Nat → Option α} {r : α} (h : c) (k : Ev f r) : Ev (fun n => if c then f n else g n) r :=
  Ev.congr (fun _ => if_pos h) k
theorem evn {α : Type} {c : Prop} [Decidable c] {f g : Nat → Option α} {r : α} (h : ¬ c) (k : Ev g r) : Ev (fun n => if c then f n else g n) r :=
  Ev.congr (fun _ => if_neg h) k
theorem evb {α β : Type} {g : Nat → Option α} {f : Nat → α → Option β} {a : α} {r : β} (h : Ev g a) (k : Ev (fun n => f n a) r) : Ev (fun n => (g n).bind (f n)) r := Ev.bind h k
theorem evs {α β : Type} {x : Option α} {f : Nat → α → Option β} {a : α} {r : β} (h : x = some a) (k : Ev (fun n => f n a) r) : Ev (fun n => x.bind (f n)) r := by
  subst h; exact k
theorem w64 {n : Int} (h : -9223372036854775808 ≤ n) (h2 : n ≤ 9223372036854775807) : wrap64 n = n := by unfold wrap64; omega
theorem rd_at (l : List Int) (i : Nat) (h : i < l.length) : rd l (i : Int) = l[i] := by
  simp [rd, List.getD_eq_getElem?_getD, List.getElem?_eq_getElem h]

/-- the number whose ones are told by q -/
def rv (q : Nat → Bool) : Nat → Nat
  | 0 => 0
  | n + 1 => rv q n + (if q n then 2 ^ n else 0)
theorem rv_lt (q : Nat → Bool) : ∀ n, rv q n < 2 ^ n
  | 0 => by simp [rv]
  | n + 1 => by
    have := rv_lt q n
    unfold rv
    rw [Nat.pow_succ]
    split <;> omega
theorem rv_bit (q : Nat → Bool) : ∀ n k, k < n → (rv q n).testBit k = q k
  | 0, k, h => absurd h (by omega)
  | n + 1, k, h => by
    unfold rv
    by_cases e : k = n
    · subst e
      have lo := Nat.testBit_lt_two_pow (rv_lt q k)
      cases hq : q k
      · rw [if_neg (by decide), Nat.add_zero]; exact lo
      · rw [if_pos rfl, Nat.add_comm, Nat.testBit_two_pow_add_eq, lo]; rfl
    · have R := rv_bit q n k (by omega)
      cases hq : q n
      · rw [if_neg (by decide), Nat.add_zero]; exact R
      · rw [if_pos rfl, Nat.add_comm, Nat.testBit_two_pow_add_gt (by omega)]; exact R
theorem i64_small (n : Int) (h : 0 ≤ n) (h2 : n < 2 ^ 62) : IntKind.i64.wrap n = n := by
  rw [IntKind.wrap_i64]
  rw [show (2 : Int) ^ 62 = 4611686018427387904 from by decide] at h2
  omega
theorem pow_small {k : Nat} (h : k ≤ 16) : 2 ^ k ≤ 65536 := Nat.le_trans (Nat.pow_le_pow_right (by decide) h) (by decide)
theorem pow_int (k : Nat) : (2 : Int) ^ k = ((2 ^ k : Nat) : Int) := by rw [Int.natCast_pow]; rfl
theorem shl1 {k : Nat} (h : k ≤ 16) : shl .i64 1 (k : Int) = ((2 ^ k : Nat) : Int) := by
  unfold shl
  have := pow_small h
  rw [Int.toNat_natCast, show IntKind.i64.bits = 64 from rfl, Nat.min_eq_left (by omega), Int.one_mul, pow_int]
  refine i64_small _ (Int.natCast_nonneg _) ?_
  rw [show (2 : Int) ^ 62 = 4611686018427387904 from by decide]
  generalize 2 ^ k = z at *
  omega
theorem bits64 (a b : Nat) (ha : a < 2 ^ 62) (hb : b < 2 ^ 62) : Go.bits .and .i64 (a : Int) (b : Int) = ((a &&& b : Nat) : Int) ∧ Go.bits .or .i64 (a : Int) (b : Int) = ((a ||| b : Nat) : Int) := bits_nat .i64 62 (by decide) i64_small a b ha hb
theorem bit_at (v k : Nat) (hv : v < 2 ^ 62) (hk : k ≤ 16) : Go.bits .and .i64 (shr .i64 (v : Int) (IntKind.u64.wrap (k : Int))) 1 = if v.testBit k then 1 else 0 := by
  have w : IntKind.u64.wrap (k : Int) = k := by
    simp only [IntKind.wrap, IntKind.bits, IntKind.signed, Bool.false_and]
    rw [if_neg (by decide)]
    omega
  rw [w]
  unfold shr
  rw [Int.toNat_natCast, show IntKind.i64.bits = 64 from rfl, Nat.min_eq_left (by omega), pow_int, ← Int.natCast_ediv]
  have lt : v / 2 ^ k < 2 ^ 62 := Nat.lt_of_le_of_lt (Nat.div_le_self _ _) hv
  have c := bits64 (v / 2 ^ k) 1 lt (by decide)
  have e : v / 2 ^ k &&& 1 = v / 2 ^ k % 2 := Nat.and_one_is_mod _
  rw [e] at c
  have f : ((v / 2 ^ k % 2 : Nat) : Int) = if v.testBit k then 1 else 0 := by
    rw [Nat.testBit_eq_decide_div_mod_eq]
    by_cases g : v / 2 ^ k % 2 = 1
    · rw [decide_eq_true g, if_pos rfl, g]; rfl
    · rw [decide_eq_false g, if_neg (by decide)]; omega
  rw [← f]
  exact c.1

theorem rv_hi (q : Nat → Bool) {n k : Nat} (h : n ≤ k) : (rv q n).testBit k = false := Nat.testBit_lt_two_pow (Nat.lt_of_lt_of_le (rv_lt q n) (Nat.pow_le_pow_right (by decide) h))
theorem rv_ext (a : Nat) (q : Nat → Bool) (n : Nat) (h1 : ∀ k, k < n → a.testBit k = q k) (h2 : ∀ k, n ≤ k → a.testBit k = false) : a = rv q n := by
  refine Nat.eq_of_testBit_eq fun k => ?_
  rcases Nat.lt_or_ge k n with h | h
  · rw [h1 k h, rv_bit q n k h]
  · rw [h2 k h, rv_hi q h]
theorem rv_congr {p q : Nat → Bool} {n : Nat} (h : ∀ k, k < n → p k = q k) : rv p n = rv q n :=
  rv_ext _ q n (fun k hk => by rw [rv_bit p n k hk, h k hk]) (fun k hk => rv_hi p hk)
theorem rv_big (q : Nat → Bool) {n : Nat} (h : n ≤ 16) : rv q n < 2 ^ 62 := Nat.lt_of_lt_of_le (rv_lt q n) (Nat.pow_le_pow_right (by decide) (by omega))
theorem rv_and (p q : Nat → Bool) {n : Nat} (h : n ≤ 16) : Go.bits .and .i64 (rv p n : Int) (rv q n : Int) = ((rv (fun i => p i && q i) n : Nat) : Int) := by
  rw [(bits64 _ _ (rv_big p h) (rv_big q h)).1, rv_ext (rv p n &&& rv q n) (fun i => p i && q i) n (fun k hk => by rw [Nat.testBit_and, rv_bit p n k hk, rv_bit q n k hk]) (fun k hk => by rw [Nat.testBit_and, rv_hi p hk, Bool.false_and])]
theorem rv_or (p q : Nat → Bool) {n : Nat} (h : n ≤ 16) : Go.bits .or .i64 (rv p n : Int) (rv q n : Int) = ((rv (fun i => p i || q i) n : Nat) : Int) := by
  rw [(bits64 _ _ (rv_big p h) (rv_big q h)).2, rv_ext (rv p n ||| rv q n) (fun i => p i || q i) n (fun k hk => by rw [Nat.testBit_or, rv_bit p n k hk, rv_bit q n k hk]) (fun k hk => by rw [Nat.testBit_or, rv_hi p hk, rv_hi q hk, Bool.false_or])]
theorem uw {k : Nat} (h : k ≤ 100) : IntKind.u64.wrap (k : Int) = k := by
  simp only [IntKind.wrap, IntKind.bits, IntKind.signed, Bool.false_and]
  rw [if_neg (by decide)]
  omega
theorem pow_rv {k n : Nat} (h : k < n) : 2 ^ k = rv (fun i => decide (i = k)) n :=
  rv_ext _ _ n (fun j _ => by rw [Nat.testBit_two_pow]; exact decide_eq_decide.2 ⟨Eq.symm, Eq.symm⟩) (fun j hj => by rw [Nat.testBit_two_pow]; exact decide_eq_false (by omega))
theorem or_one (q : Nat → Bool) {n k : Nat} (h : n ≤ 16) (hk : k < n) : Go.bits .or .i64 (rv q n : Int) (shl .i64 1 (IntKind.u64.wrap (k : Int))) = ((rv (fun i => q i || decide (i = k)) n : Nat) : Int) := by
  rw [uw (by omega), shl1 (by omega), pow_rv hk]; exact rv_or _ _ h
theorem rv_0 (n : Nat) : rv (fun _ => false) n = 0 := by
  induction n with
  | zero => rfl
  | succ n ih => unfold rv; rw [ih]; rfl
theorem rv_zero {q : Nat → Bool} {n : Nat} : rv q n = 0 ↔ ∀ k, k < n → q k = false := by
  constructor
  · intro h k hk
    have := rv_bit q n k hk
    rw [h, Nat.zero_testBit] at this; exact this.symm
  · intro h
    rw [← rv_0 n]; exact rv_congr h
theorem rv_inj {p q : Nat → Bool} {n : Nat} : rv p n = rv q n ↔ ∀ k, k < n → p k = q k := by
  constructor
  · intro h k hk
    rw [← rv_bit p n k hk, h, rv_bit q n k hk]
  · exact rv_congr
/-- the numbers below n for which q holds, in ascending order -/
def asc (q : Nat → Bool) : Nat → List Int
  | 0 => []
  | n + 1 => asc q n ++ (if q n then [(n : Int)] else [])
theorem asc_succ (q : Nat → Bool) (n : Nat) : asc q (n + 1) = asc q n ++ (if q n then [(n : Int)] else []) := rfl
theorem asc_len (q : Nat → Bool) : ∀ n, (asc q n).length ≤ n
  | 0 => Nat.le_refl _
  | n + 1 => by
    have := asc_len q n
    unfold asc
    rw [List.length_append]
    split <;> simp <;> omega
theorem asc_congr {p q : Nat → Bool} : ∀ {n : Nat}, (∀ k, k < n → p k = q k) → asc p n = asc q n
  | 0, _ => rfl
  | n + 1, h => by
    unfold asc
    rw [asc_congr (fun k hk => h k (by omega)), h n (by omega)]
theorem asc_mem (q : Nat → Bool) : ∀ (n : Nat) (x : Int), x ∈ asc q n ↔ ∃ k : Nat, x = k ∧ k < n ∧ q k = true
  | 0, x => by simp [asc]
  | n + 1, x => by
    unfold asc
    rw [List.mem_append, asc_mem q n x]
    constructor
    · rintro (⟨k, h1, h2, h3⟩ | h)
      · exact ⟨k, h1, by omega, h3⟩
      · by_cases e : q n = true
        · rw [if_pos e] at h
          exact ⟨n, by simpa using h, by omega, e⟩
        · rw [if_neg e] at h; exact absurd h (by simp)
    · rintro ⟨k, h1, h2, h3⟩
      by_cases e : k = n
      · subst e
        right; rw [if_pos h3, h1]; exact List.mem_cons_self
      · left; exact ⟨k, h1, by omega, h3⟩
theorem asc_tail (q : Nat → Bool) (i : Nat) : ∀ d, (∀ k, i ≤ k → k < i + d → q k = false) → asc q (i + d) = asc q i
  | 0, _ => rfl
  | d + 1, h => by
    rw [← Nat.add_assoc, asc_succ, h (i + d) (by omega) (by omega), if_neg (by decide), List.append_nil]
    exact asc_tail q i d (fun k h1 h2 => h k h1 (by omega))
theorem some_l0 (qf : Int → Option Bool) (q : Nat → Bool) (n : Nat) (hn : n ≤ 1000) (h : ∀ i : Nat, i < n → qf i = some (q i)) : ∀ d i : Nat, i + d = n → Ev (fun k => lure_some.l0 qf k (asc q i) (n : Int) (i : Int)) (asc q n)
  | 0, i, e => by
    refine Ev.step (fun k => lure_some.l0.eq_2 ..) (evn (by omega) ?_)
    rw [show i = n by omega]; exact Ev.now _
  | d + 1, i, e => by
    have R := some_l0 qf q n hn h d (i + 1) (by omega)
    have l := asc_len q i
    refine Ev.step (fun k => lure_some.l0.eq_2 ..) (evp (by omega) (evs (h i (by omega)) ?_))
    rw [w64 (n := (i : Int) + 1) (by omega) (by omega)]
    rw [asc_succ] at R
    cases hq : q i
    · rw [hq, if_neg (by decide), List.append_nil] at R
      exact evn (by decide) R
    · rw [hq, if_pos rfl] at R
      exact evp rfl (evp (by omega) R)
theorem some_ev (qf : Int → Option Bool) (q : Nat → Bool) (n : Nat) (hn : n ≤ 1000) (h : ∀ i : Nat, i < n → qf i = some (q i)) : Ev (fun k => lure_some.f qf k (n : Int) 0) (asc q n) := some_l0 qf q n hn h n 0 (by omega)
theorem shr_rv (q : Nat → Bool) {n i : Nat} (hn : n ≤ 16) (hi : i ≤ n) : shr .i64 (rv q n : Int) (IntKind.u64.wrap (i : Int)) = ((rv q n / 2 ^ i : Nat) : Int) := by
  rw [uw (by omega)]
  unfold shr
  rw [Int.toNat_natCast, show IntKind.i64.bits = 64 from rfl, Nat.min_eq_left (by omega), pow_int, ← Int.natCast_ediv]
theorem list_l0 (q : Nat → Bool) (n : Nat) (hn : n ≤ 16) : ∀ d i : Nat, i + d = n → Ev (fun k => wigeonref04_list.l0 k (rv q n : Int) (asc q i) (i : Int)) (asc q n) := fun d => by
  induction d with
  | zero =>
    intro i e
    refine Ev.step (fun k => wigeonref04_list.l0.eq_2 ..) (evp (by rw [uw (by omega)]; omega) ?_)
    rw [shr_rv q hn (by omega), show rv q n / 2 ^ i = 0 from Nat.div_eq_of_lt (by rw [show i = n by omega]; exact rv_lt q n)]
    refine evn (by decide) ?_
    rw [show i = n by omega]; exact Ev.now _
  | succ d ih =>
    intro i e
    have R := ih (i + 1) (by omega)
    have l := asc_len q i
    refine Ev.step (fun k => wigeonref04_list.l0.eq_2 ..) (evp (by rw [uw (by omega)]; omega) ?_)
    by_cases hz : rv q n / 2 ^ i = 0
    · refine evn (by rw [shr_rv q hn (by omega), hz]; decide) ?_
      have t : ∀ k, i ≤ k → k < i + (d + 1) → q k = false := fun k h1 h2 => by
        rw [← rv_bit q n k (by omega)]
        refine Nat.testBit_lt_two_pow (Nat.lt_of_lt_of_le ?_ (Nat.pow_le_pow_right (by decide) h1))
        exact (Nat.div_eq_zero_iff_lt (Nat.two_pow_pos i)).1 hz
      rw [← e, asc_tail q i (d + 1) t]; exact Ev.now _
    · refine evp (by rw [shr_rv q hn (by omega)]; generalize rv q n / 2 ^ i = z at *; omega) ?_
      rw [bit_at (rv q n) i (rv_big q hn) (by omega), rv_bit q n i (by omega), w64 (n := (i : Int) + 1) (by omega) (by omega)]
      rw [asc_succ] at R
      cases hq : q i
      · rw [hq, if_neg (by decide), List.append_nil] at R
        exact evn (by decide) R
      · rw [hq, if_pos rfl] at R
        exact evp rfl (evp (by omega) R)
theorem list_ev (q : Nat → Bool) (n : Nat) (hn : n ≤ 16) : Ev (fun k => wigeonref04_list.f k (rv q n : Int)) (asc q n) := list_l0 q n hn n 0 (by omega)
/-- a list as a set -/
def inL (l : List Int) (i : Nat) : Bool := decide ((i : Int) ∈ l)
theorem bits_l0 (l : List Int) (n : Nat) (hn : n ≤ 16) (hl : ∀ x ∈ l, 0 ≤ x ∧ x < (n : Int)) (hs : l.length ≤ 1000) : ∀ d j : Nat, j + d = l.length → Ev (fun k => wigeonref04_bits.l0 k l (rv (inL (l.take j)) n : Int) (j : Int)) ((rv (inL l) n : Nat) : Int)
  | 0, j, e => by
    refine Ev.step (fun k => wigeonref04_bits.l0.eq_2 ..) (evn (by omega) ?_)
    rw [List.take_of_length_le (by omega)]; exact Ev.now _
  | d + 1, j, e => by
    have hj : j < l.length := by omega
    have R := bits_l0 l n hn hl hs d (j + 1) (by omega)
    obtain ⟨h0, h1⟩ := hl _ (List.getElem_mem hj)
    obtain ⟨x, hx⟩ := Int.eq_ofNat_of_zero_le h0
    have hx' : l[j] = (x : Int) := hx
    refine Ev.step (fun k => wigeonref04_bits.l0.eq_2 ..) (evp (by omega) (evp (by omega) ?_))
    rw [rd_at l j hj, hx', w64 (n := (j : Int) + 1) (by omega) (by omega)]
    refine evp (by rw [uw (by omega)]; omega) ?_
    rw [or_one _ hn (by omega)]
    rw [rv_congr (q := fun i => inL (l.take j) i || decide (i = x)) (fun k _ => by
      unfold inL
      rw [List.take_succ_eq_append_getElem hj, hx']
      rw [← Bool.decide_or]
      refine decide_eq_decide.2 ?_
      rw [List.mem_append, List.mem_singleton]
      constructor
      · rintro (h | h)
        · exact Or.inl h
        · exact Or.inr (by omega)
      · rintro (h | h)
        · exact Or.inl h
        · exact Or.inr (by omega))] at R
    exact R
theorem bits_ev (l : List Int) (n : Nat) (hn : n ≤ 16) (hl : ∀ x ∈ l, 0 ≤ x ∧ x < (n : Int)) (hs : l.length ≤ 1000) : Ev (fun k => wigeonref04_bits.f k l) ((rv (inL l) n : Nat) : Int) := by
  have := bits_l0 l n hn hl hs l.length 0 (by omega)
  rw [List.take_zero, show rv (inL []) n = 0 by rw [← rv_0 n]; exact rv_congr (fun k _ => by simp [inL])] at this
  exact this

theorem within_eq (a lo hi : Int) : lure_within.f a lo hi = some (decide (lo ≤ a ∧ a ≤ hi)) := by
  unfold lure_within.f
  by_cases h : a ≥ lo
  · rw [if_pos h, decide_eq_decide.2 (show a ≤ hi ↔ lo ≤ a ∧ a ≤ hi by omega)]
  · rw [if_neg h, decide_eq_false (show ¬ (lo ≤ a ∧ a ≤ hi) by omega)]
theorem rwithin_eq (a lo hi : Int) : wigeonref04_within.f a lo hi = some (decide (lo ≤ a ∧ a ≤ hi)) := by
  unfold wigeonref04_within.f
  by_cases h : a ≥ lo
  · rw [if_pos h, decide_eq_decide.2 (show a ≤ hi ↔ lo ≤ a ∧ a ≤ hi by omega)]
  · rw [if_neg h, decide_eq_false (show ¬ (lo ≤ a ∧ a ≤ hi) by omega)]
/-- ascending numbers from 0 to n - 1, above lo -/
def stB (n : Int) : Int → List Int → Bool
  | _, [] => true
  | lo, x :: l => decide (0 ≤ x ∧ x ≤ n - 1) && (decide (lo < x) && stB n x l)
def setB (l : List Int) (n : Int) : Bool := stB n (-1) l
def pv (l : List Int) (i : Nat) : Int := if i = 0 then -1 else rd l ((i : Int) - 1)
theorem isSet_l0 (l : List Int) (n : Int) (h0 : 0 ≤ n) (h1 : n ≤ 1000) (hl : l.length ≤ 1000) : ∀ d i : Nat, i + d = l.length → Ev (fun k => lure_isSet.l0 k l n l (l.length : Int) (i : Int)) (stB n (pv l i) (l.drop i))
  | 0, i, h => by
    refine Ev.step (fun k => lure_isSet.l0.eq_2 ..) (evn (by omega) ?_)
    rw [List.drop_eq_nil_of_le (by omega)]; exact Ev.now _
  | d + 1, i, h => by
    have hlt : i < l.length := by omega
    have R := isSet_l0 l n h0 h1 hl d (i + 1) (by omega)
    have hp : pv l (i + 1) = l[i] := by
      unfold pv
      rw [if_neg (by omega), show ((i + 1 : Nat) : Int) - 1 = (i : Int) by omega, rd_at l i hlt]
    rw [hp] at R
    refine Ev.step (fun k => lure_isSet.l0.eq_2 ..) (evp (by omega) (evp (by omega) (evp (by omega) (evs (within_eq _ _ _) ?_))))
    rw [rd_at l i hlt, List.drop_eq_getElem_cons hlt, w64 (n := n - 1) (by omega) (by omega), w64 (n := (i : Int) + 1) (by omega) (by omega)]
    unfold stB
    by_cases q : 0 ≤ l[i] ∧ l[i] ≤ n - 1
    · rw [decide_eq_true q, Bool.true_and]
      refine evp rfl ?_
      by_cases hi : i = 0
      · subst hi
        refine evn (by omega) ?_
        rw [show decide (pv l 0 < l[0]) = true from decide_eq_true (by unfold pv; rw [if_pos rfl]; omega), Bool.true_and]; exact R
      · refine evp (by omega) ?_
        rw [w64 (n := (i : Int) - 1) (by omega) (by omega)]
        refine evp (by omega) (evp (by omega) ?_)
        have e : pv l i = rd l ((i : Int) - 1) := if_neg hi
        rw [e]
        by_cases g : rd l ((i : Int) - 1) ≥ l[i]
        · rw [decide_eq_false (by omega), Bool.false_and]; exact evp g (Ev.now _)
        · rw [decide_eq_true (by omega), Bool.true_and]; exact evn g R
    · rw [decide_eq_false q, Bool.false_and]; exact evn (by decide) (Ev.now _)
theorem isSet_ev (l : List Int) (n : Int) (h0 : 0 ≤ n) (h1 : n ≤ 1000) (hl : l.length ≤ 1000) : Ev (fun k => lure_isSet.f k l n) (setB l n) := isSet_l0 l n h0 h1 hl l.length 0 (by omega)
theorem risSet_l0 (l : List Int) (n : Int) (h0 : 0 ≤ n) (h1 : n ≤ 1000) (hl : l.length ≤ 1000) : ∀ d i : Nat, i + d = l.length → Ev (fun k => wigeonref04_isSet.l0 k l n (i : Int)) (stB n (pv l i) (l.drop i))
  | 0, i, h => by
    refine Ev.step (fun k => wigeonref04_isSet.l0.eq_2 ..) (evn (by omega) ?_)
    rw [List.drop_eq_nil_of_le (by omega)]; exact Ev.now _
  | d + 1, i, h => by
    have hlt : i < l.length := by omega
    have R := risSet_l0 l n h0 h1 hl d (i + 1) (by omega)
    have hp : pv l (i + 1) = l[i] := by
      unfold pv
      rw [if_neg (by omega), show ((i + 1 : Nat) : Int) - 1 = (i : Int) by omega, rd_at l i hlt]
    rw [hp] at R
    refine Ev.step (fun k => wigeonref04_isSet.l0.eq_2 ..) (evp (by omega) (evp (by omega) (evs (rwithin_eq _ _ _) ?_)))
    rw [rd_at l i hlt, List.drop_eq_getElem_cons hlt, w64 (n := n - 1) (by omega) (by omega), w64 (n := (i : Int) + 1) (by omega) (by omega)]
    unfold stB
    by_cases q : 0 ≤ l[i] ∧ l[i] ≤ n - 1
    · rw [decide_eq_true q, Bool.true_and]
      refine evp rfl ?_
      by_cases hi : i = 0
      · subst hi
        refine evn (by omega) ?_
        rw [show decide (pv l 0 < l[0]) = true from decide_eq_true (by unfold pv; rw [if_pos rfl]; omega), Bool.true_and]; exact R
      · refine evp (by omega) ?_
        rw [w64 (n := (i : Int) - 1) (by omega) (by omega)]
        refine evp (by omega) (evp (by omega) ?_)
        have e : pv l i = rd l ((i : Int) - 1) := if_neg hi
        rw [e]
        by_cases g : l[i] ≤ rd l ((i : Int) - 1)
        · rw [decide_eq_false (by omega), Bool.false_and]; exact evp g (Ev.now _)
        · rw [decide_eq_true (by omega), Bool.true_and]; exact evn g R
    · rw [decide_eq_false q, Bool.false_and]; exact evn (by decide) (Ev.now _)
theorem risSet_ev (l : List Int) (n : Int) (h0 : 0 ≤ n) (h1 : n ≤ 1000) (hl : l.length ≤ 1000) : Ev (fun k => wigeonref04_isSet.f k l n) (setB l n) := risSet_l0 l n h0 h1 hl l.length 0 (by omega)
theorem stB_in {n : Int} : ∀ {l : List Int} {lo : Int}, stB n lo l = true → ∀ x ∈ l, 0 ≤ x ∧ x < n ∧ lo < x
  | [], _, _, x, hx => absurd hx (by simp)
  | y :: l, lo, h, x, hx => by
    unfold stB at h
    rw [Bool.and_eq_true, Bool.and_eq_true, decide_eq_true_eq, decide_eq_true_eq] at h
    rcases List.mem_cons.1 hx with e | e
    · subst e; omega
    · have := stB_in h.2.2 x e; omega
theorem setB_in {l : List Int} {n : Int} (h : setB l n = true) : ∀ x ∈ l, 0 ≤ x ∧ x < n := fun x hx => by
  have := stB_in h x hx; omega
/-- one place: whose turn, and its moves -/
def rowB (n : Int) (o : Int) (m : List Int) : Bool := decide (0 ≤ o ∧ o ≤ 1) && (!decide (m = []) && setB m n)
def vaB (n : Int) (own : List Int) (mv : List (List Int)) : Nat → Nat → Bool
  | 0, _ => true
  | d + 1, i => rowB n (rd own (i : Int)) (rd_L1 mv (i : Int)) && vaB n own mv d (i + 1)
def vlR (own : List Int) (mv : List (List Int)) : Int := if 1 ≤ (own.length : Int) ∧ (own.length : Int) ≤ 16 then (if mv.length = own.length then (if vaB (own.length : Int) own mv own.length 0 = true then 0 else 1) else 1) else 3
theorem small_row {mv : List (List Int)} (hs : ∀ m ∈ mv, m.length ≤ 100) (i : Nat) : (rd_L1 mv (i : Int)).length ≤ 100 := by
  by_cases h : i < mv.length
  · exact hs _ (getD_mem h)
  · have : rd_L1 mv (i : Int) = [] := by simp [rd_L1, List.getD_eq_getElem?_getD, List.getElem?_eq_none (show mv.length ≤ i by omega)]
    rw [this]; simp
theorem valid_l0 (own : List Int) (mv : List (List Int)) (hs : ∀ m ∈ mv, m.length ≤ 100) (hn : own.length ≤ 16) (hm : mv.length = own.length) : ∀ d i : Nat, i + d = own.length → Ev (fun k => lure_Validate.l0 k (own.length : Int) own (own.length : Int) (i : Int) own mv) (if vaB (own.length : Int) own mv d i = true then (0 : Int) else 1)
  | 0, i, h => by
    refine Ev.step (fun k => lure_Validate.l0.eq_2 ..) (evn (by omega) ?_)
    rw [show vaB (own.length : Int) own mv 0 i = true from rfl, if_pos rfl]; exact Ev.now _
  | d + 1, i, h => by
    have R := valid_l0 own mv hs hn hm d (i + 1) (by omega)
    have s := small_row hs i
    refine Ev.step (fun k => lure_Validate.l0.eq_2 ..) (evp (by omega) (evp (by omega) (evp (by omega) (evs (within_eq _ _ _) ?_))))
    rw [show vaB (own.length : Int) own mv (d + 1) i = (rowB (own.length : Int) (rd own (i : Int)) (rd_L1 mv (i : Int)) && vaB (own.length : Int) own mv d (i + 1)) from rfl, w64 (n := (i : Int) + 1) (by omega) (by omega)]
    unfold rowB
    by_cases q : 0 ≤ rd own (i : Int) ∧ rd own (i : Int) ≤ 1
    · rw [decide_eq_true q, Bool.true_and]
      refine evp rfl (evp (by omega) ?_)
      by_cases z : rd_L1 mv (i : Int) = []
      · rw [decide_eq_true z, Bool.not_true, Bool.false_and, Bool.false_and, if_neg (by decide)]
        exact evp (by rw [z]; rfl) (Ev.now _)
      · rw [decide_eq_false z, Bool.not_false, Bool.true_and]
        have zl : (rd_L1 mv (i : Int)).length ≠ 0 := fun e => z (List.length_eq_zero_iff.1 e)
        refine evn (by omega) (evb (isSet_ev _ _ (by omega) (by omega) (by omega)) ?_)
        cases setB (rd_L1 mv (i : Int)) (own.length : Int)
        · rw [Bool.false_and, if_neg (by decide)]; exact evn (by decide) (Ev.now _)
        · rw [Bool.true_and]; exact evp rfl R
    · rw [decide_eq_false q, Bool.false_and, Bool.false_and, if_neg (by decide)]; exact evn (by decide) (Ev.now _)
theorem valid_ev (own : List Int) (mv : List (List Int)) (hs : ∀ m ∈ mv, m.length ≤ 100) : Ev (fun k => lure_Validate.f k own mv) (vlR own mv) := by
  unfold lure_Validate.f vlR
  refine evs (within_eq _ _ _) ?_
  by_cases h : 1 ≤ (own.length : Int) ∧ (own.length : Int) ≤ 16
  · rw [decide_eq_true h, if_pos h]
    refine evp rfl ?_
    by_cases h2 : mv.length = own.length
    · rw [if_pos h2]; exact evp (by omega) (valid_l0 own mv hs (by omega) h2 own.length 0 (by omega))
    · rw [if_neg h2]; exact evn (by omega) (Ev.now _)
  · rw [decide_eq_false h, if_neg h]; exact evn (by decide) (Ev.now _)
theorem rvalid_l0 (own : List Int) (mv : List (List Int)) (hs : ∀ m ∈ mv, m.length ≤ 100) (hn : own.length ≤ 16) (hm : mv.length = own.length) : ∀ d i : Nat, i + d = own.length → Ev (fun k => wigeonref04_Validate.l0 k (own.length : Int) (i : Int) own mv) (if vaB (own.length : Int) own mv d i = true then (0 : Int) else 1)
  | 0, i, h => by
    refine Ev.step (fun k => wigeonref04_Validate.l0.eq_2 ..) (evn (by omega) ?_)
    rw [show vaB (own.length : Int) own mv 0 i = true from rfl, if_pos rfl]; exact Ev.now _
  | d + 1, i, h => by
    have R := rvalid_l0 own mv hs hn hm d (i + 1) (by omega)
    have s := small_row hs i
    refine Ev.step (fun k => wigeonref04_Validate.l0.eq_2 ..) (evp (by omega) (evp (by omega) (evp (by omega) (evs (rwithin_eq _ _ _) ?_))))
    rw [show vaB (own.length : Int) own mv (d + 1) i = (rowB (own.length : Int) (rd own (i : Int)) (rd_L1 mv (i : Int)) && vaB (own.length : Int) own mv d (i + 1)) from rfl, w64 (n := (i : Int) + 1) (by omega) (by omega)]
    unfold rowB
    by_cases q : 0 ≤ rd own (i : Int) ∧ rd own (i : Int) ≤ 1
    · rw [decide_eq_true q, Bool.true_and]
      refine evp rfl (evp (by omega) ?_)
      by_cases z : rd_L1 mv (i : Int) = []
      · rw [decide_eq_true z, Bool.not_true, Bool.false_and, Bool.false_and, if_neg (by decide)]
        exact evp (by rw [z]; rfl) (Ev.now _)
      · rw [decide_eq_false z, Bool.not_false, Bool.true_and]
        have zl : (rd_L1 mv (i : Int)).length ≠ 0 := fun e => z (List.length_eq_zero_iff.1 e)
        refine evn (by omega) (evb (risSet_ev _ _ (by omega) (by omega) (by omega)) ?_)
        cases setB (rd_L1 mv (i : Int)) (own.length : Int)
        · rw [Bool.false_and, if_neg (by decide)]; exact evn (by decide) (Ev.now _)
        · rw [Bool.true_and]; exact evp rfl R
    · rw [decide_eq_false q, Bool.false_and, Bool.false_and, if_neg (by decide)]; exact evn (by decide) (Ev.now _)
theorem rvalid_ev (own : List Int) (mv : List (List Int)) (hs : ∀ m ∈ mv, m.length ≤ 100) : Ev (fun k => wigeonref04_Validate.f k own mv) (vlR own mv) := by
  unfold wigeonref04_Validate.f vlR
  refine evs (rwithin_eq _ _ _) ?_
  by_cases h : 1 ≤ (own.length : Int) ∧ (own.length : Int) ≤ 16
  · rw [decide_eq_true h, if_pos h]
    refine evp rfl ?_
    by_cases h2 : mv.length = own.length
    · rw [if_pos h2]; exact evp (by omega) (rvalid_l0 own mv hs (by omega) h2 own.length 0 (by omega))
    · rw [if_neg h2]; exact evn (by omega) (Ev.now _)
  · rw [decide_eq_false h, if_neg h]; exact evn (by decide) (Ev.now _)
/-- a valid game -/
structure VG (own : List Int) (mv : List (List Int)) : Prop where
  n1 : 1 ≤ own.length
  n2 : own.length ≤ 16
  len : mv.length = own.length
  own_ : ∀ i : Nat, i < own.length → rd own (i : Int) = 0 ∨ rd own (i : Int) = 1
  ne : ∀ i : Nat, i < own.length → rd_L1 mv (i : Int) ≠ []
  set_ : ∀ i : Nat, i < own.length → setB (rd_L1 mv (i : Int)) (own.length : Int) = true
  small : ∀ i : Nat, (rd_L1 mv (i : Int)).length ≤ 100
theorem vaB_at {n : Int} {own : List Int} {mv : List (List Int)} : ∀ {d i : Nat}, vaB n own mv d i = true → ∀ j, i ≤ j → j < i + d → rowB n (rd own (j : Int)) (rd_L1 mv (j : Int)) = true
  | 0, i, _, j, h1, h2 => by omega
  | d + 1, i, h, j, h1, h2 => by
    unfold vaB at h
    rw [Bool.and_eq_true] at h
    by_cases e : j = i
    · subst e; exact h.1
    · exact vaB_at h.2 j (by omega) (by omega)
theorem vlR_ok {own : List Int} {mv : List (List Int)} (hs : ∀ m ∈ mv, m.length ≤ 100) (h : vlR own mv = 0) : VG own mv := by
  unfold vlR at h
  by_cases h1 : 1 ≤ (own.length : Int) ∧ (own.length : Int) ≤ 16
  · rw [if_pos h1] at h
    by_cases h2 : mv.length = own.length
    · rw [if_pos h2] at h
      by_cases h3 : vaB (own.length : Int) own mv own.length 0 = true
      · have r : ∀ i : Nat, i < own.length → _ := fun i hi => vaB_at h3 i (by omega) (by omega)
        unfold rowB at r
        simp only [Bool.and_eq_true, decide_eq_true_eq, Bool.not_eq_true', decide_eq_false_iff_not] at r
        exact ⟨by omega, by omega, h2, fun i hi => by have := (r i hi).1; omega, fun i hi => (r i hi).2.1, fun i hi => (r i hi).2.2, small_row hs⟩
      · rw [if_neg h3] at h; exact absurd h (by decide)
    · rw [if_neg h2] at h; exact absurd h (by decide)
  · rw [if_neg h1] at h; exact absurd h (by decide)
theorem VG.in_ {own : List Int} {mv : List (List Int)} (G : VG own mv) (i : Nat) (hi : i < own.length) : ∀ k ∈ rd_L1 mv (i : Int), 0 ≤ k ∧ k < (own.length : Int) := setB_in (G.set_ i hi)
def exR (own : List Int) (mv : List (List Int)) (set : List Int) : Int := if vlR own mv = 0 then (if setB set (own.length : Int) = true then 0 else 1) else vlR own mv
theorem exR_v {own : List Int} {mv : List (List Int)} {set : List Int} (h : ¬ vlR own mv = 0) : exR own mv set = vlR own mv := if_neg h
theorem exR_1 {own : List Int} {mv : List (List Int)} {set : List Int} (h : vlR own mv = 0) (h2 : ¬ setB set (own.length : Int) = true) : exR own mv set = 1 := (if_pos h).trans (if_neg h2)
theorem exR_0 {own : List Int} {mv : List (List Int)} {set : List Int} (h : vlR own mv = 0) (h2 : setB set (own.length : Int) = true) : exR own mv set = 0 := (if_pos h).trans (if_pos h2)
theorem exR_ok {own : List Int} {mv : List (List Int)} {set : List Int} (h : exR own mv set = 0) : vlR own mv = 0 ∧ setB set (own.length : Int) = true := by
  by_cases h1 : vlR own mv = 0
  · by_cases h2 : setB set (own.length : Int) = true
    · exact ⟨h1, h2⟩
    · rw [exR_1 h1 h2] at h; exact absurd h (by decide)
  · rw [exR_v h1] at h; exact absurd h h1
theorem examine_ev (own : List Int) (mv : List (List Int)) (hs : ∀ m ∈ mv, m.length ≤ 100) (set : List Int) (hl : set.length ≤ 100) : Ev (fun k => lure_examine.f k own mv [set]) (exR own mv set) := by
  unfold lure_examine.f
  refine evb (valid_ev own mv hs) ?_
  by_cases h : vlR own mv = 0
  · have G := vlR_ok hs h
    have a := G.n2
    refine evp h (Ev.step (fun k => lure_examine.l0.eq_2 ..) (evp (by simp) (evp (by decide) (evp (by simp) (evb (isSet_ev _ _ (by omega) (by omega) (by show set.length ≤ 1000; omega)) ?_)))))
    by_cases h2 : setB set (own.length : Int) = true
    · rw [exR_0 h h2]
      exact evp h2 (Ev.step (fun k => lure_examine.l0.eq_2 ..) (evn (by simp [wrap64]) (Ev.now _)))
    · rw [exR_1 h h2]; exact evn h2 (Ev.now _)
  · rw [exR_v h]; exact evn h (Ev.now _)
theorem asked_ev (own : List Int) (mv : List (List Int)) (hs : ∀ m ∈ mv, m.length ≤ 100) (set : List Int) (hl : set.length ≤ 100) : Ev (fun k => wigeonref04_asked.f k own mv set) (exR own mv set) := by
  unfold wigeonref04_asked.f
  refine evb (rvalid_ev own mv hs) ?_
  by_cases h : vlR own mv = 0
  · have G := vlR_ok hs h
    have a := G.n2
    refine evp h (evb (risSet_ev _ _ (by omega) (by omega) (by omega)) ?_)
    by_cases h2 : setB set (own.length : Int) = true
    · rw [exR_0 h h2]; exact evp h2 (Ev.now _)
    · rw [exR_1 h h2]; exact evn h2 (Ev.now _)
  · rw [exR_v h]; exact evn h (Ev.now _)

def lgB (own : List Int) (mv : List (List Int)) : Bool := decide (own.length > 100 ∨ mv.length > 100) || mv.any fun m => decide (m.length > 100)
theorem large_l0 (own : List Int) (mv : List (List Int)) (hm : mv.length ≤ 100) : ∀ d i : Nat, i + d = mv.length → Ev (fun k => wigeonlaw04_Large.l0 k (i : Int) own mv) ((mv.drop i).any fun m => decide (m.length > 100))
  | 0, i, h => by
    refine Ev.step (fun k => wigeonlaw04_Large.l0.eq_2 ..) (evn (by omega) ?_)
    rw [List.drop_eq_nil_of_le (by omega)]; exact Ev.now _
  | d + 1, i, h => by
    have hlt : i < mv.length := by omega
    have R := large_l0 own mv hm d (i + 1) (by omega)
    have e : rd_L1 mv (i : Int) = mv[i] := by simp [rd_L1, List.getD_eq_getElem?_getD, List.getElem?_eq_getElem hlt]
    refine Ev.step (fun k => wigeonlaw04_Large.l0.eq_2 ..) (evp (by omega) (evp (by omega) ?_))
    rw [e, List.drop_eq_getElem_cons hlt, List.any_cons, w64 (by omega) (by omega)]
    by_cases q : (mv[i]).length > 100
    · rw [decide_eq_true q, Bool.true_or]; exact evp (by omega) (Ev.now _)
    · rw [decide_eq_false q, Bool.false_or]; exact evn (by omega) R
theorem large_ev (own : List Int) (mv : List (List Int)) : Ev (fun k => wigeonlaw04_Large.f k own mv) (lgB own mv) := by
  unfold wigeonlaw04_Large.f lgB
  by_cases h : (own.length : Int) > 100
  · rw [decide_eq_true (show own.length > 100 ∨ mv.length > 100 by omega), Bool.true_or]; exact evp h (Ev.step (fun k => wigeonlaw04_Large.j0.eq_2 ..) (evp rfl (Ev.now _)))
  · refine evn h (Ev.step (fun k => wigeonlaw04_Large.j0.eq_2 ..) ?_)
    by_cases h2 : (mv.length : Int) > 100
    · rw [decide_eq_true (show own.length > 100 ∨ mv.length > 100 by omega), Bool.true_or]; exact evp (decide_eq_true h2) (Ev.now _)
    · rw [decide_eq_false (show ¬ (own.length > 100 ∨ mv.length > 100) by omega), Bool.false_or]
      exact evn (by simpa using h2) (large_l0 own mv (by omega) mv.length 0 (by omega))
theorem large_not {own : List Int} {mv : List (List Int)} (h : ¬ lgB own mv = true) : own.length ≤ 100 ∧ mv.length ≤ 100 ∧ ∀ m ∈ mv, m.length ≤ 100 := by
  unfold lgB at h
  rw [Bool.or_eq_true, not_or, decide_eq_true_eq, Bool.not_eq_true, List.any_eq_false] at h
  refine ⟨by omega, by omega, fun m hm => ?_⟩
  have := h.2 m hm
  simp at this; exact this
theorem same_l0 (l : List Int) (hl : l.length ≤ 1000) : ∀ d i : Nat, i + d = l.length → Ev (fun k => wigeonref04_SameInts.l0 k l l (i : Int)) true
  | 0, i, h => Ev.step (fun k => wigeonref04_SameInts.l0.eq_2 ..) (evn (by omega) (Ev.now _))
  | d + 1, i, h => by
    refine Ev.step (fun k => wigeonref04_SameInts.l0.eq_2 ..) (evp (by omega) (evp (by omega) (evp (by omega) (evp rfl ?_))))
    rw [w64 (by omega) (by omega)]; exact same_l0 l hl d (i + 1) (by omega)
theorem same_ev (l : List Int) (hl : l.length ≤ 1000) : Ev (fun k => wigeonref04_SameInts.f k l l) true := by
  unfold wigeonref04_SameInts.f
  exact evp rfl (same_l0 l hl l.length 0 (by omega))

/-- a set of places as a test of numbers -/
def pS (S : Nat → Bool) (k : Int) : Bool := S k.toNat
/-- from where the man makes sure of a set -/
def fB (own : List Int) (mv : List (List Int)) (S : Nat → Bool) (i : Nat) : Bool := forB own mv (i : Int) (pS S)
theorem any_ex {l : List Int} {n : Nat} (h : ∀ k ∈ l, 0 ≤ k ∧ k < (n : Int)) (S : Nat → Bool) : l.any (pS S) = false ↔ ∀ k, k < n → (inL l k && S k) = false := by
  rw [List.any_eq_false]
  constructor
  · intro a k hk
    by_cases m : (k : Int) ∈ l
    · have := a _ m
      unfold pS at this
      rw [Int.toNat_natCast] at this
      rw [Bool.not_eq_true] at this
      rw [this, Bool.and_false]
    · unfold inL; rw [decide_eq_false m, Bool.false_and]
  · intro a x hx
    obtain ⟨h0, h1⟩ := h x hx
    obtain ⟨k, rfl⟩ := Int.eq_ofNat_of_zero_le h0
    have := a k (by omega)
    unfold inL at this
    rw [decide_eq_true hx, Bool.true_and] at this
    unfold pS
    rw [Int.toNat_natCast, this]; decide
theorem all_ex {l : List Int} {n : Nat} (h : ∀ k ∈ l, 0 ≤ k ∧ k < (n : Int)) (S : Nat → Bool) : (l.any fun k => !pS S k) = false ↔ ∀ k, k < n → (inL l k && S k) = inL l k := by
  rw [List.any_eq_false]
  constructor
  · intro a k hk
    by_cases m : (k : Int) ∈ l
    · have := a _ m
      unfold pS at this
      rw [Int.toNat_natCast] at this
      simp at this
      rw [this, Bool.and_true]
    · unfold inL; rw [decide_eq_false m, Bool.false_and]
  · intro a x hx
    obtain ⟨h0, h1⟩ := h x hx
    obtain ⟨k, rfl⟩ := Int.eq_ofNat_of_zero_le h0
    have := a k (by omega)
    unfold inL at this
    rw [decide_eq_true hx, Bool.true_and] at this
    unfold pS
    rw [Int.toNat_natCast, this]; decide
theorem rbefore_l0 {own : List Int} {mv : List (List Int)} (G : VG own mv) (S : Nat → Bool) : ∀ d i : Nat, i + d = own.length → Ev (fun k => wigeonref04_before.l0 k (rv S own.length : Int) (rv (fun j => decide (j < i) && fB own mv S j) own.length : Int) (i : Int) own mv) ((rv (fB own mv S) own.length : Nat) : Int)
  | 0, i, h => by
    refine Ev.step (fun k => wigeonref04_before.l0.eq_2 ..) (evn (by omega) ?_)
    rw [rv_congr (p := fun j => decide (j < i) && fB own mv S j) (q := fB own mv S) (fun k hk => by rw [decide_eq_true (show k < i by omega), Bool.true_and])]; exact Ev.now _
  | d + 1, i, h => by
    have hlt : i < own.length := by omega
    have n16 := G.n2
    have gl := G.len
    have R := rbefore_l0 G S d (i + 1) (by omega)
    have Rn : fB own mv S i = false → Ev (fun k => wigeonref04_before.l0 k (rv S own.length : Int) (rv (fun j => decide (j < i) && fB own mv S j) own.length : Int) ((i : Int) + 1) own mv) ((rv (fB own mv S) own.length : Nat) : Int) := fun e => by
      rw [rv_congr (p := fun j => decide (j < i + 1) && fB own mv S j) (q := fun j => decide (j < i) && fB own mv S j) (fun k hk => by
        by_cases q : k = i
        · subst q; rw [e, Bool.and_false, Bool.and_false]
        · rw [decide_eq_decide.2 (show k < i + 1 ↔ k < i by omega)])] at R
      exact R
    have Ry : fB own mv S i = true → Ev (fun k => wigeonref04_before.l0 k (rv S own.length : Int) (Go.bits .or .i64 (rv (fun j => decide (j < i) && fB own mv S j) own.length : Int) (shl .i64 1 (IntKind.u64.wrap (i : Int)))) ((i : Int) + 1) own mv) ((rv (fB own mv S) own.length : Nat) : Int) := fun e => by
      rw [or_one _ n16 hlt]
      rw [rv_congr (p := fun j => decide (j < i + 1) && fB own mv S j) (q := fun j => (decide (j < i) && fB own mv S j) || decide (j = i)) (fun k hk => by
        by_cases q : k = i
        · subst q; rw [e, decide_eq_true (show k < k + 1 by omega), decide_eq_true rfl]; simp
        · rw [decide_eq_decide.2 (show k < i + 1 ↔ k < i by omega), decide_eq_false q, Bool.or_false])] at R
      exact R
    have hin := G.in_ i hlt
    have u0 : 0 ≤ IntKind.u64.wrap (i : Int) := by rw [uw (by omega)]; omega
    refine Ev.step (fun k => wigeonref04_before.l0.eq_2 ..) (evp (by omega) (evp (by omega) (evp (by omega) (evb (bits_ev _ own.length n16 hin (by have := G.small i; omega)) ?_))))
    rw [rv_and _ _ n16, w64 (n := (i : Int) + 1) (by omega) (by omega)]
    have A := any_ex hin S
    have B := all_ex hin S
    rw [← rv_zero] at A
    rw [← rv_inj] at B
    rcases G.own_ i hlt with o | o
    · have f : fB own mv S i = (rd_L1 mv (i : Int)).any (pS S) := if_pos o
      refine evp o ?_
      by_cases q : rv (fun k => inL (rd_L1 mv (i : Int)) k && S k) own.length = 0
      · refine evp (by rw [q]; rfl) (evn (by omega) (Rn ?_))
        rw [f]; exact A.2 q
      · refine evn (by omega) (evp u0 (Ry ?_))
        rw [f]
        cases z : (rd_L1 mv (i : Int)).any (pS S)
        · exact absurd (A.1 z) q
        · rfl
    · have f : fB own mv S i = !((rd_L1 mv (i : Int)).any fun k => !pS S k) := if_neg (by omega)
      refine evn (by omega) (evp o ?_)
      by_cases q : rv (fun k => inL (rd_L1 mv (i : Int)) k && S k) own.length = rv (inL (rd_L1 mv (i : Int))) own.length
      · refine evp (by rw [q]) (evp u0 (Ry ?_))
        rw [f, B.2 q]; rfl
      · refine evn (by omega) (Rn ?_)
        rw [f]
        cases z : ((rd_L1 mv (i : Int)).any fun k => !pS S k)
        · exact absurd (B.1 z) q
        · rfl
theorem rbefore_ev {own : List Int} {mv : List (List Int)} (G : VG own mv) (S : Nat → Bool) : Ev (fun k => wigeonref04_before.f k own mv (rv S own.length : Int)) ((rv (fB own mv S) own.length : Nat) : Int) := by
  have R := rbefore_l0 G S own.length 0 (by omega)
  rw [rv_congr (p := fun j => decide (j < 0) && fB own mv S j) (q := fun _ => false) (fun k hk => by rw [decide_eq_false (by omega), Bool.false_and]), rv_0] at R
  exact R
theorem forB_congr {own : List Int} {mv : List (List Int)} {i : Int} {p q : Int → Bool} (h : ∀ k ∈ rd_L1 mv i, p k = q k) : forB own mv i p = forB own mv i q := by
  have e : ∀ (l : List Int), (∀ k ∈ l, p k = q k) → l.any p = l.any q ∧ (l.any fun k => !p k) = (l.any fun k => !q k) := fun l => by
    induction l with
    | nil => intro _; exact ⟨rfl, rfl⟩
    | cons x l ih =>
      intro a
      obtain ⟨i1, i2⟩ := ih (fun k hk => a k (List.mem_cons_of_mem _ hk))
      simp only [List.any_cons]
      rw [i1, i2, a x List.mem_cons_self]
      exact ⟨rfl, rfl⟩
  obtain ⟨e1, e2⟩ := e _ h
  unfold forB
  rw [e1, e2]

def befR (own : List Int) (mv : List (List Int)) (set : List Int) : List Int := asc (fB own mv (inL set)) own.length
theorem before_ev {own : List Int} {mv : List (List Int)} (G : VG own mv) (set : List Int) : Ev (fun k => lure_before.f k own mv set) (befR own mv set) := by
  have n16 := G.n2
  have gl := G.len
  refine some_ev _ _ own.length (by omega) fun i hi => ?_
  unfold holdsF
  rw [if_pos ⟨by omega, by omega, by omega⟩]
  congr 1
  refine forB_congr fun k hk => ?_
  obtain ⟨h0, h1⟩ := G.in_ i hi k hk
  unfold pS inL
  rw [Int.toNat_of_nonneg h0]
/-- what is reached in so many moves -/
def Rt (own : List Int) (mv : List (List Int)) (g : Nat → Bool) : Nat → Nat → Bool
  | 0, i => g i
  | t + 1, i => g i || fB own mv (Rt own mv g t) i
theorem fB_congr {own : List Int} {mv : List (List Int)} (G : VG own mv) {p q : Nat → Bool} (h : ∀ k, k < own.length → p k = q k) (i : Nat) (hi : i < own.length) : fB own mv p i = fB own mv q i := by
  refine forB_congr fun k hk => ?_
  obtain ⟨h0, h1⟩ := G.in_ i hi k hk
  exact h k.toNat (by omega)
/-- nothing more is reached after t moves -/
def still (own : List Int) (mv : List (List Int)) (g : Nat → Bool) (t : Nat) : Prop := ∀ k, k < own.length → Rt own mv g (t + 1) k = Rt own mv g t k
theorem known_ev : Ev (fun k => wigeonlaw04_known.f k) true := Ev.of wigeonlaw04_known.mono (k := 100) (by decide +kernel)

theorem stB_iff (n : Int) : ∀ (l : List Int) (lo : Int), stB n lo l = true ↔ (∀ x ∈ l, 0 ≤ x ∧ x < n) ∧ List.Pairwise (· < ·) (lo :: l)
  | [], lo => by simp [stB]
  | x :: l, lo => by
    unfold stB
    rw [Bool.and_eq_true, Bool.and_eq_true, decide_eq_true_eq, decide_eq_true_eq, stB_iff n l x]
    constructor
    · rintro ⟨a, b, c, d⟩
      refine ⟨fun y hy => ?_, List.pairwise_cons.2 ⟨fun y hy => ?_, d⟩⟩
      · rcases List.mem_cons.1 hy with e | e
        · subst e; omega
        · exact c y e
      · rcases List.mem_cons.1 hy with e | e
        · subst e; exact b
        · have := (List.pairwise_cons.1 d).1 y e; omega
    · rintro ⟨a, b⟩
      obtain ⟨b1, b2⟩ := List.pairwise_cons.1 b
      have := a x List.mem_cons_self
      exact ⟨by omega, b1 x List.mem_cons_self, fun y hy => a y (List.mem_cons_of_mem _ hy), b2⟩
theorem asc_pair (q : Nat → Bool) : ∀ n, List.Pairwise (· < ·) (asc q n)
  | 0 => List.Pairwise.nil
  | n + 1 => by
    rw [asc_succ]
    refine List.pairwise_append.2 ⟨asc_pair q n, by split <;> simp, fun a ha b hb => ?_⟩
    obtain ⟨k, rfl, hk, _⟩ := (asc_mem q n a).1 ha
    split at hb
    · have := List.mem_singleton.1 hb; omega
    · exact absurd hb (by simp)
theorem setB_asc (q : Nat → Bool) (n : Nat) : setB (asc q n) (n : Int) = true := by
  refine (stB_iff _ _ _).2 ⟨fun x hx => ?_, List.pairwise_cons.2 ⟨fun x hx => ?_, asc_pair q n⟩⟩
  · obtain ⟨k, rfl, hk, _⟩ := (asc_mem q n x).1 hx; omega
  · obtain ⟨k, rfl, hk, _⟩ := (asc_mem q n x).1 hx; omega
theorem pair_ext : ∀ l m : List Int, List.Pairwise (· < ·) l → List.Pairwise (· < ·) m → (∀ x, x ∈ l ↔ x ∈ m) → l = m
  | [], m, _, _, h => by
    cases m with
    | nil => rfl
    | cons b t => exact absurd ((h b).2 (List.mem_cons_self ..)) List.not_mem_nil
  | a :: l, [], _, _, h => absurd ((h a).1 (List.mem_cons_self ..)) List.not_mem_nil
  | a :: l, b :: m, h1, h2, h => by
    obtain ⟨p1, q1⟩ := List.pairwise_cons.1 h1
    obtain ⟨p2, q2⟩ := List.pairwise_cons.1 h2
    have e : a = b := by
      rcases List.mem_cons.1 ((h a).1 (List.mem_cons_self ..)) with r | r
      · exact r
      · rcases List.mem_cons.1 ((h b).2 (List.mem_cons_self ..)) with s | s
        · exact s.symm
        · have := p2 a r; have := p1 b s; omega
    subst e
    congr 1
    refine pair_ext l m q1 q2 fun x => ⟨fun z => ?_, fun z => ?_⟩
    · rcases List.mem_cons.1 ((h x).1 (List.mem_cons_of_mem _ z)) with r | r
      · have := p1 x z; omega
      · exact r
    · rcases List.mem_cons.1 ((h x).2 (List.mem_cons_of_mem _ z)) with r | r
      · have := p2 x z; omega
      · exact r
theorem set_asc {l : List Int} {n : Nat} (h : setB l (n : Int) = true) : asc (inL l) n = l := by
  obtain ⟨h1, h2⟩ := (stB_iff (n : Int) l (-1)).1 h
  refine pair_ext _ _ (asc_pair _ _) (List.pairwise_cons.1 h2).2 fun x => ?_
  rw [asc_mem]
  constructor
  · rintro ⟨k, rfl, _, y⟩
    exact of_decide_eq_true y
  · intro y
    obtain ⟨a, b⟩ := h1 x y
    obtain ⟨k, rfl⟩ := Int.eq_ofNat_of_zero_le a
    exact ⟨k, rfl, by omega, decide_eq_true y⟩
theorem inL_asc {q : Nat → Bool} {n i : Nat} (h : i < n) : inL (asc q n) i = q i := by
  unfold inL
  cases y : q i
  · refine decide_eq_false fun m => ?_
    obtain ⟨k, e, _, z⟩ := (asc_mem q n _).1 m
    obtain rfl : i = k := by omega
    rw [y] at z; exact absurd z (by decide)
  · exact decide_eq_true ((asc_mem q n _).2 ⟨i, rfl, h, y⟩)
theorem asc_filter (q : Nat → Bool) (p : Int → Bool) : ∀ n, (asc q n).filter p = asc (fun i => q i && p (i : Int)) n
  | 0 => rfl
  | n + 1 => by
    rw [asc_succ, asc_succ, List.filter_append, asc_filter q p n]
    congr 1
    cases q n
    · rfl
    · show List.filter p [(n : Int)] = if p (n : Int) = true then [(n : Int)] else []
      cases y : p (n : Int)
      · rw [List.filter_cons_of_neg (by rw [y]; decide)]; rfl
      · rw [List.filter_cons_of_pos y]; rfl
/-- what is left of a set by a second one -/
theorem asc_both (T U : Nat → Bool) (n : Nat) : ((asc T n).filter fun x => decide (x ∈ asc U n)) = asc (fun i => T i && U i) n := by
  rw [asc_filter]
  refine asc_congr fun k hk => ?_
  rw [show decide ((k : Int) ∈ asc U n) = U k from inL_asc hk]
theorem both_len (T U : Nat → Bool) (n : Nat) : (asc (fun i => T i && U i) n).length = (asc T n).length ↔ ∀ i, i < n → T i = true → U i = true := by
  rw [← asc_both, List.length_filter_eq_length_iff]
  constructor
  · intro h i hi t
    have := of_decide_eq_true (h (i : Int) ((asc_mem T n _).2 ⟨i, rfl, hi, t⟩))
    obtain ⟨k, e, _, z⟩ := (asc_mem U n _).1 this
    obtain rfl : i = k := by omega
    exact z
  · intro h x hx
    obtain ⟨i, rfl, hi, t⟩ := (asc_mem T n x).1 hx
    exact decide_eq_true ((asc_mem U n _).2 ⟨i, rfl, hi, h i hi t⟩)
theorem both_le (T U : Nat → Bool) (n : Nat) : (asc (fun i => T i && U i) n).length ≤ (asc T n).length := by
  rw [← asc_both]; exact List.length_filter_le ..
theorem and_eq {a b : Bool} (h : a = true → b = true) : (a && b) = a := by cases a <;> simp_all

theorem keeps_both {own : List Int} {mv : List (List Int)} (G : VG own mv) (d : Nat) : ∀ T : Nat → Bool, (asc T own.length).length ≤ d → ∃ K : Nat → Bool, Ev (fun k => keepsF own mv k (asc T own.length)) (asc K own.length) ∧ Ev (fun k => wigeonref04_kept.l0 k (rv T own.length : Int) own mv) ((rv K own.length : Nat) : Int) ∧ ∀ i, i < own.length → K i = true → fB own mv K i = true := by
  have n16 := G.n2
  induction d with
  | zero =>
    intro T h
    have no : ∀ i, i < own.length → ¬ T i = true := fun i hi t => by
      have : (i : Int) ∈ asc T own.length := (asc_mem _ _ _).2 ⟨i, rfl, hi, t⟩
      rw [List.eq_nil_of_length_eq_zero (by omega : (asc T own.length).length = 0)] at this
      exact absurd this List.not_mem_nil
    refine ⟨T, ?_, ?_, fun i hi t => absurd t (no i hi)⟩
    · have L := asc_len T own.length
      refine Ev.step (fun k => keepsF.eq_2 ..) (evp (by omega) (evb (before_ev G _) ?_))
      unfold befR
      rw [asc_both]
      have e : asc (fun i => T i && fB own mv (inL (asc T own.length)) i) own.length = asc T own.length := asc_congr fun k hk => and_eq fun t => absurd t (no k hk)
      rw [e]
      exact evp rfl (Ev.now _)
    · refine Ev.step (fun k => wigeonref04_kept.l0.eq_2 ..) (evb (rbefore_ev G T) ?_)
      rw [rv_and _ _ n16]
      have e : rv (fun i => T i && fB own mv T i) own.length = rv T own.length := rv_congr (p := fun i => T i && fB own mv T i) (q := T) fun k hk => and_eq fun t => absurd t (no k hk)
      rw [e]
      exact evp rfl (Ev.now _)
  | succ d IH =>
    intro T h
    have L := asc_len T own.length
    have C : ∀ i, i < own.length → fB own mv (inL (asc T own.length)) i = fB own mv T i := fun i hi => fB_congr G (fun k hk => inL_asc hk) i hi
    have e1 : asc (fun i => T i && fB own mv (inL (asc T own.length)) i) own.length = asc (fun i => T i && fB own mv T i) own.length := asc_congr fun k hk => by rw [C k hk]
    by_cases fx : ∀ i, i < own.length → T i = true → fB own mv T i = true
    · refine ⟨T, ?_, ?_, fx⟩
      · refine Ev.step (fun k => keepsF.eq_2 ..) (evp (by omega) (evb (before_ev G _) ?_))
        unfold befR
        rw [asc_both, e1, show asc (fun i => T i && fB own mv T i) own.length = asc T own.length from asc_congr fun k hk => and_eq (fx k hk)]
        exact evp rfl (Ev.now _)
      · refine Ev.step (fun k => wigeonref04_kept.l0.eq_2 ..) (evb (rbefore_ev G T) ?_)
        rw [rv_and _ _ n16, rv_congr (p := fun i => T i && fB own mv T i) (q := T) fun k hk => and_eq (fx k hk)]
        exact evp rfl (Ev.now _)
    · have l1 := both_le T (fB own mv T) own.length
      have l2 : ¬ (asc (fun i => T i && fB own mv T i) own.length).length = (asc T own.length).length := fun q => fx ((both_len ..).1 q)
      obtain ⟨K, k1, k2, k3⟩ := IH (fun i => T i && fB own mv T i) (by omega)
      refine ⟨K, ?_, ?_, k3⟩
      · refine Ev.step (fun k => keepsF.eq_2 ..) (evp (by omega) (evb (before_ev G _) ?_))
        unfold befR
        rw [asc_both, e1]
        exact evn l2 k1
      · refine Ev.step (fun k => wigeonref04_kept.l0.eq_2 ..) (evb (rbefore_ev G T) ?_)
        rw [rv_and _ _ n16]
        refine evn (fun q => fx fun i hi t => ?_) k2
        have := (rv_inj (p := fun i => T i && fB own mv T i) (q := T)).1 (by omega) i hi
        rw [t] at this
        simpa using this
theorem keeps_fixed {own : List Int} {mv : List (List Int)} (G : VG own mv) {K : Nat → Bool} (h : ∀ i, i < own.length → K i = true → fB own mv K i = true) : Ev (fun k => keepsF own mv k (asc K own.length)) (asc K own.length) := by
  have n16 := G.n2
  have L := asc_len K own.length
  refine Ev.step (fun k => keepsF.eq_2 ..) (evp (by omega) (evb (before_ev G _) ?_))
  unfold befR
  rw [asc_both, show asc (fun i => K i && fB own mv (inL (asc K own.length)) i) own.length = asc K own.length from asc_congr fun k hk => and_eq fun t => by rw [fB_congr G (fun k hk => inL_asc hk) k hk]; exact h k hk t]
  exact evp rfl (Ev.now _)
theorem LureKeeps (a0_0 : List Int) (a0_1 : List (List Int)) (a1 : List Int) (h0_0 : (a0_0.length ≤ 9223372036854775807 ∧ ∀ x_ ∈ a0_0, (Lit.int .i64 x_).wf = true)) (h0_1 : (a0_1.length ≤ 9223372036854775807 ∧ ∀ x_ ∈ a0_1, (x_.length ≤ 9223372036854775807 ∧ ∀ x__ ∈ x_, (Lit.int .i64 x__).wf = true))) (h1 : (a1.length ≤ 9223372036854775807 ∧ ∀ x_ ∈ a1, (Lit.int .i64 x_).wf = true)) : ∃ k, wigeonlaw04_LureKeeps.f k a0_0 a0_1 a1 = some true := by
  refine Ev.rounds (g := fun k => wigeonlaw04_LureKeeps.f k a0_0 a0_1 a1) ?_
  unfold wigeonlaw04_LureKeeps.f
  refine evb (large_ev a0_0 a0_1) ?_
  have Z : Ev (fun k => wigeonlaw04_LureKeeps.j0 k a1 true a0_0 a0_1) true := Ev.step (fun k => wigeonlaw04_LureKeeps.j0.eq_2 ..) (evp rfl (evb known_ev (Ev.now _)))
  by_cases h : lgB a0_0 a0_1 = true
  · exact evp h Z
  refine evn h ?_
  obtain ⟨hn, _, hs⟩ := large_not h
  by_cases h2 : (a1.length : Int) > 100
  · rw [decide_eq_true h2]; exact Z
  rw [decide_eq_false h2]
  by_cases e : exR a0_0 a0_1 a1 = 0
  · obtain ⟨v, s⟩ := exR_ok e
    have G := vlR_ok hs v
    have n16 := G.n2
    obtain ⟨K, k1, k2, k3⟩ := keeps_both G _ (inL a1) (Nat.le_refl _)
    rw [set_asc s] at k1
    have L := asc_len K a0_0.length
    have A : Ev (fun k => lure_Keeps.f k a0_0 a0_1 a1) (asc K a0_0.length, 0) := by
      unfold lure_Keeps.f lure_keeps.f
      exact evb (examine_ev _ _ hs _ (by omega)) (evp e (evb k1 (Ev.now _)))
    have B : Ev (fun k => wigeonref04_Keeps.f k a0_0 a0_1 a1) (asc K a0_0.length, 0) := by
      unfold wigeonref04_Keeps.f wigeonref04_kept.f
      exact evb (asked_ev _ _ hs _ (by omega)) (evp e (evb (bits_ev a1 a0_0.length n16 (setB_in s) (by omega)) (evb k2 (evb (list_ev K _ n16) (Ev.now _)))))
    have A2 : Ev (fun k => lure_Keeps.f k a0_0 a0_1 (asc K a0_0.length)) (asc K a0_0.length, 0) := by
      unfold lure_Keeps.f lure_keeps.f
      exact evb (examine_ev _ _ hs _ (by omega)) (evp (exR_0 v (setB_asc _ _)) (evb (keeps_fixed G k3) (Ev.now _)))
    refine Ev.step (fun k => wigeonlaw04_LureKeeps.j0.eq_2 ..) (evn (by decide) (evb A (evb B (evp rfl (evb (same_ev _ (by dsimp only; omega)) ?_)))))
    exact Ev.step (fun k => wigeonlaw04_LureKeeps.j1.eq_2 ..) (evn (by decide) (evb A2 (evp rfl (evp rfl (evb (same_ev _ (by dsimp only; omega)) (evp rfl (evb known_ev (Ev.now _))))))))
  · have A : Ev (fun k => lure_Keeps.f k a0_0 a0_1 a1) ([], exR a0_0 a0_1 a1) := by
      unfold lure_Keeps.f
      exact evb (examine_ev _ _ hs _ (by omega)) (evn e (Ev.now _))
    have B : Ev (fun k => wigeonref04_Keeps.f k a0_0 a0_1 a1) ([], exR a0_0 a0_1 a1) := by
      unfold wigeonref04_Keeps.f
      exact evb (asked_ev _ _ hs _ (by omega)) (evn e (Ev.now _))
    refine Ev.step (fun k => wigeonlaw04_LureKeeps.j0.eq_2 ..) (evn (by decide) (evb A (evb B (evp rfl (evb (same_ev _ (Nat.zero_le _)) ?_)))))
    refine Ev.step (fun k => wigeonlaw04_LureKeeps.j1.eq_2 ..) (evn (by decide) ?_)
    have e2 : ∃ r, Ev (fun k => lure_Keeps.f k a0_0 a0_1 []) r := by
      by_cases e' : exR a0_0 a0_1 [] = 0
      · obtain ⟨v', _⟩ := exR_ok e'
        have G := vlR_ok hs v'
        obtain ⟨K, k1, _, _⟩ := keeps_both G _ (fun _ => false) (Nat.le_refl _)
        rw [show asc (fun _ => false) a0_0.length = [] from List.eq_nil_iff_forall_not_mem.2 fun x hx => by obtain ⟨_, _, _, z⟩ := (asc_mem _ _ _).1 hx; exact absurd z (by decide)] at k1
        refine ⟨(asc K a0_0.length, 0), ?_⟩
        unfold lure_Keeps.f lure_keeps.f
        exact evb (examine_ev _ _ hs _ (Nat.zero_le _)) (evp e' (evb k1 (Ev.now _)))
      · refine ⟨([], exR a0_0 a0_1 []), ?_⟩
        unfold lure_Keeps.f
        exact evb (examine_ev _ _ hs _ (Nat.zero_le _)) (evn e' (Ev.now _))
    obtain ⟨r, hr⟩ := e2
    exact evb hr (evn e (evb known_ev (Ev.now _)))

end Go.Proofs.Ytnmaonampilmoaa.Pure

