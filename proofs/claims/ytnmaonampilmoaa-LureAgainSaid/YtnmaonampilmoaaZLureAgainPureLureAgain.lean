/- Of the text PureLureAgain, what the row of LureAgain reaches. -/
import Derived.Test.YtnmaonampilmoaaZLureAgainLVx39
namespace Go.Proofs.Ytnmaonampilmoaa.Pure
set_option linter.unusedVariables false
set_option linter.unusedSimpArgs false
open Go.RowKit Go.Proofs.Ytnmaonampilmoaa.LV Go.Proofs.YtnmaonampilmoaaW.PrintWords Go.Proofs.YtnmaonampilmoaaW.PrintLast Go.Proofs.YtnmaonampilmoaaW.PrintMore

theorem evp {α : Type} {c : Prop} [Decidable c] {f g : Nat → Option α} {r : α} (h : c) (k : Ev f r) : Ev (fun n => if c then f n else g n) r :=
  Ev.congr (fun _ => if_pos h) k
theorem evn {α : Type} {c : Prop} [Decidable c] {f g : Nat → Option α} {r : α} (h : ¬ c) (k : Ev g r) : Ev (fun n => if c then f n else g n) r :=
  Ev.congr (fun _ => if_neg h) k
theorem evb {α β : Type} {g : Nat → Option α} {f : Nat → α → Option β} {a : α} {r : β} (h : Ev g a) (k : Ev (fun n => f n a) r) : Ev (fun n => (g n).bind (f n)) r := Ev.bind h k
theorem evs {α β : Type} {x : Option α} {f : Nat → α → Option β} {a : α} {r : β} (h : x = some a) (k : Ev (fun n => f n a) r) : Ev (fun n => x.bind (f n)) r := by
  subst h; exact k
theorem w64 {n : Int} (h : -9223372036854775808 ≤ n) (h2 : n ≤ 9223372036854775807) : wrap64 n = n := by unfold wrap64; omega
theorem rd_at (l : List Int) (i : Nat) (h : i < l.length) : rd l (i : Int) = l[i] := by
  simp [rd, List.getD_eq_getElem?_getD, List.getElem?_eq_getElem h]

/-- the number whose ones are told by q -/
def rv (q : Nat → Bool) : Nat → Nat
  | 0 => 0
  | n + 1 => rv q n + (if q n then 2 ^ n else 0)
theorem rv_lt (q : Nat → Bool) : ∀ n, rv q n < 2 ^ n
  | 0 => by simp [rv]
  | n + 1 => by
    have := rv_lt q n
    unfold rv
    rw [Nat.pow_succ]
    split <;> omega
theorem rv_bit (q : Nat → Bool) : ∀ n k, k < n → (rv q n).testBit k = q k
  | 0, k, h => absurd h (by omega)
  | n + 1, k, h => by
    unfold rv
    by_cases e : k = n
    · subst e
      have lo := Nat.testBit_lt_two_pow (rv_lt q k)
      cases hq : q k
      · rw [if_neg (by decide), Nat.add_zero]; exact lo
      · rw [if_pos rfl, Nat.add_comm, Nat.testBit_two_pow_add_eq, lo]; rfl
    · have R := rv_bit q n k (by omega)
      cases hq : q n
      · rw [if_neg (by decide), Nat.add_zero]; exact R
      · rw [if_pos rfl, Nat.add_comm, Nat.testBit_two_pow_add_gt (by omega)]; exact R
theorem i64_small (n : Int) (h : 0 ≤ n) (h2 : n < 2 ^ 62) : IntKind.i64.wrap n = n := by
  rw [IntKind.wrap_i64]
  rw [show (2 : Int) ^ 62 = 4611686018427387904 from by decide] at h2
  omega
theorem pow_small {k : Nat} (h : k ≤ 16) : 2 ^ k ≤ 65536 := Nat.le_trans (Nat.pow_le_pow_right (by decide) h) (by decide)
theorem pow_int (k : Nat) : (2 : Int) ^ k = ((2 ^ k : Nat) : Int) := by rw [Int.natCast_pow]; rfl
theorem shl1 {k : Nat} (h : k ≤ 16) : shl .i64 1 (k : Int) = ((2 ^ k : Nat) : Int) := by
  unfold shl
  have := pow_small h
  rw [Int.toNat_natCast, show IntKind.i64.bits = 64 from rfl, Nat.min_eq_left (by omega), Int.one_mul, pow_int]
  refine i64_small _ (Int.natCast_nonneg _) ?_
  rw [show (2 : Int) ^ 62 = 4611686018427387904 from by decide]
  generalize 2 ^ k = z at *
  omega
theorem bits64 (a b : Nat) (ha : a < 2 ^ 62) (hb : b < 2 ^ 62) : Go.bits .and .i64 (a : Int) (b : Int) = ((a &&& b : Nat) : Int) ∧ Go.bits .or .i64 (a : Int) (b : Int) = ((a ||| b : Nat) : Int) := bits_nat .i64 62 (by decide) i64_small a b ha hb
theorem bit_at (v k : Nat) (hv : v < 2 ^ 62) (hk : k ≤ 16) : Go.bits .and .i64 (shr .i64 (v : Int) (IntKind.u64.wrap (k : Int))) 1 = if v.testBit k then 1 else 0 := by
  have w : IntKind.u64.wrap (k : Int) = k := by
    simp only [IntKind.wrap, IntKind.bits, IntKind.signed, Bool.false_and]
    rw [if_neg (by decide)]
    omega
  rw [w]
  unfold shr
  rw [Int.toNat_natCast, show IntKind.i64.bits = 64 from rfl, Nat.min_eq_left (by omega), pow_int, ← Int.natCast_ediv]
  have lt : v / 2 ^ k < 2 ^ 62 := Nat.lt_of_le_of_lt (Nat.div_le_self _ _) hv
  have c := bits64 (v / 2 ^ k) 1 lt (by decide)
  have e : v / 2 ^ k &&& 1 = v / 2 ^ k % 2 := Nat.and_one_is_mod _
  rw [e] at c
  have f : ((v / 2 ^ k % 2 : Nat) : Int) = if v.testBit k then 1 else 0 := by
    rw [Nat.testBit_eq_decide_div_mod_eq]
    by_cases g : v / 2 ^ k % 2 = 1
    · rw [decide_eq_true g, if_pos rfl, g]; rfl
    · rw [decide_eq_false g, if_neg (by decide)]; omega
  rw [← f]
  exact c.1

theorem ev_eq {α : Type} {f : Nat → Option α} {r s : α} (h : Ev f r) (e : r = s) : Ev f s := e ▸ h
theorem rv_hi (q : Nat → Bool) {n k : Nat} (h : n ≤ k) : (rv q n).testBit k = false := Nat.testBit_lt_two_pow (Nat.lt_of_lt_of_le (rv_lt q n) (Nat.pow_le_pow_right (by decide) h))
theorem rv_ext (a : Nat) (q : Nat → Bool) (n : Nat) (h1 : ∀ k, k < n → a.testBit k = q k) (h2 : ∀ k, n ≤ k → a.testBit k = false) : a = rv q n := by
  refine Nat.eq_of_testBit_eq fun k => ?_
  rcases Nat.lt_or_ge k n with h | h
  · rw [h1 k h, rv_bit q n k h]
  · rw [h2 k h, rv_hi q h]
theorem rv_congr {p q : Nat → Bool} {n : Nat} (h : ∀ k, k < n → p k = q k) : rv p n = rv q n :=
  rv_ext _ q n (fun k hk => by rw [rv_bit p n k hk, h k hk]) (fun k hk => rv_hi p hk)
theorem rv_big (q : Nat → Bool) {n : Nat} (h : n ≤ 16) : rv q n < 2 ^ 62 := Nat.lt_of_lt_of_le (rv_lt q n) (Nat.pow_le_pow_right (by decide) (by omega))
theorem rv_and (p q : Nat → Bool) {n : Nat} (h : n ≤ 16) : Go.bits .and .i64 (rv p n : Int) (rv q n : Int) = ((rv (fun i => p i && q i) n : Nat) : Int) := by
  rw [(bits64 _ _ (rv_big p h) (rv_big q h)).1, rv_ext (rv p n &&& rv q n) (fun i => p i && q i) n (fun k hk => by rw [Nat.testBit_and, rv_bit p n k hk, rv_bit q n k hk]) (fun k hk => by rw [Nat.testBit_and, rv_hi p hk, Bool.false_and])]
theorem rv_or (p q : Nat → Bool) {n : Nat} (h : n ≤ 16) : Go.bits .or .i64 (rv p n : Int) (rv q n : Int) = ((rv (fun i => p i || q i) n : Nat) : Int) := by
  rw [(bits64 _ _ (rv_big p h) (rv_big q h)).2, rv_ext (rv p n ||| rv q n) (fun i => p i || q i) n (fun k hk => by rw [Nat.testBit_or, rv_bit p n k hk, rv_bit q n k hk]) (fun k hk => by rw [Nat.testBit_or, rv_hi p hk, rv_hi q hk, Bool.false_or])]
theorem uw {k : Nat} (h : k ≤ 100) : IntKind.u64.wrap (k : Int) = k := by
  simp only [IntKind.wrap, IntKind.bits, IntKind.signed, Bool.false_and]
  rw [if_neg (by decide)]
  omega
theorem pow_rv {k n : Nat} (h : k < n) : 2 ^ k = rv (fun i => decide (i = k)) n :=
  rv_ext _ _ n (fun j _ => by rw [Nat.testBit_two_pow]; exact decide_eq_decide.2 ⟨Eq.symm, Eq.symm⟩) (fun j hj => by rw [Nat.testBit_two_pow]; exact decide_eq_false (by omega))
theorem or_one (q : Nat → Bool) {n k : Nat} (h : n ≤ 16) (hk : k < n) : Go.bits .or .i64 (rv q n : Int) (shl .i64 1 (IntKind.u64.wrap (k : Int))) = ((rv (fun i => q i || decide (i = k)) n : Nat) : Int) := by
  rw [uw (by omega), shl1 (by omega), pow_rv hk]; exact rv_or _ _ h
theorem rv_0 (n : Nat) : rv (fun _ => false) n = 0 := by
  induction n with
  | zero => rfl
  | succ n ih => unfold rv; rw [ih]; rfl
theorem rv_zero {q : Nat → Bool} {n : Nat} : rv q n = 0 ↔ ∀ k, k < n → q k = false := by
  constructor
  · intro h k hk
    have := rv_bit q n k hk
    rw [h, Nat.zero_testBit] at this; exact this.symm
  · intro h
    rw [← rv_0 n]; exact rv_congr h
theorem rv_inj {p q : Nat → Bool} {n : Nat} : rv p n = rv q n ↔ ∀ k, k < n → p k = q k := by
  constructor
  · intro h k hk
    rw [← rv_bit p n k hk, h, rv_bit q n k hk]
  · exact rv_congr
/-- the numbers below n for which q holds, in ascending order -/
def asc (q : Nat → Bool) : Nat → List Int
  | 0 => []
  | n + 1 => asc q n ++ (if q n then [(n : Int)] else [])
theorem asc_succ (q : Nat → Bool) (n : Nat) : asc q (n + 1) = asc q n ++ (if q n then [(n : Int)] else []) := rfl
theorem asc_len (q : Nat → Bool) : ∀ n, (asc q n).length ≤ n
  | 0 => Nat.le_refl _
  | n + 1 => by
    have := asc_len q n
    unfold asc
    rw [List.length_append]
    split <;> simp <;> omega
theorem asc_congr {p q : Nat → Bool} : ∀ {n : Nat}, (∀ k, k < n → p k = q k) → asc p n = asc q n
  | 0, _ => rfl
  | n + 1, h => by
    unfold asc
    rw [asc_congr (fun k hk => h k (by omega)), h n (by omega)]
theorem asc_mem (q : Nat → Bool) : ∀ (n : Nat) (x : Int), x ∈ asc q n ↔ ∃ k : Nat, x = k ∧ k < n ∧ q k = true
  | 0, x => by simp [asc]
  | n + 1, x => by
    unfold asc
    rw [List.mem_append, asc_mem q n x]
    constructor
    · rintro (⟨k, h1, h2, h3⟩ | h)
      · exact ⟨k, h1, by omega, h3⟩
      · by_cases e : q n = true
        · rw [if_pos e] at h
          exact ⟨n, by simpa using h, by omega, e⟩
        · rw [if_neg e] at h; exact absurd h (by simp)
    · rintro ⟨k, h1, h2, h3⟩
      by_cases e : k = n
      · subst e
        right; rw [if_pos h3, h1]; exact List.mem_cons_self
      · left; exact ⟨k, h1, by omega, h3⟩
theorem asc_tail (q : Nat → Bool) (i : Nat) : ∀ d, (∀ k, i ≤ k → k < i + d → q k = false) → asc q (i + d) = asc q i
  | 0, _ => rfl
  | d + 1, h => by
    rw [← Nat.add_assoc, asc_succ, h (i + d) (by omega) (by omega), if_neg (by decide), List.append_nil]
    exact asc_tail q i d (fun k h1 h2 => h k h1 (by omega))
theorem some_l0 (qf : Int → Option Bool) (q : Nat → Bool) (n : Nat) (hn : n ≤ 1000) (h : ∀ i : Nat, i < n → qf i = some (q i)) : ∀ d i : Nat, i + d = n → Ev (fun k => lure_some.l0 qf k (asc q i) (n : Int) (i : Int)) (asc q n)
  | 0, i, e => by
    refine Ev.step (fun k => lure_some.l0.eq_2 ..) (evn (by omega) ?_)
    rw [show i = n by omega]; exact Ev.now _
  | d + 1, i, e => by
    have R := some_l0 qf q n hn h d (i + 1) (by omega)
    have l := asc_len q i
    refine Ev.step (fun k => lure_some.l0.eq_2 ..) (evp (by omega) (evs (h i (by omega)) ?_))
    rw [w64 (n := (i : Int) + 1) (by omega) (by omega)]
    rw [asc_succ] at R
    cases hq : q i
    · rw [hq, if_neg (by decide), List.append_nil] at R
      exact evn (by decide) R
    · rw [hq, if_pos rfl] at R
      exact evp rfl (evp (by omega) R)
theorem some_ev (qf : Int → Option Bool) (q : Nat → Bool) (n : Nat) (hn : n ≤ 1000) (h : ∀ i : Nat, i < n → qf i = some (q i)) : Ev (fun k => lure_some.f qf k (n : Int) 0) (asc q n) := some_l0 qf q n hn h n 0 (by omega)
theorem shr_rv (q : Nat → Bool) {n i : Nat} (hn : n ≤ 16) (hi : i ≤ n) : shr .i64 (rv q n : Int) (IntKind.u64.wrap (i : Int)) = ((rv q n / 2 ^ i : Nat) : Int) := by
  rw [uw (by omega)]
  unfold shr
  rw [Int.toNat_natCast, show IntKind.i64.bits = 64 from rfl, Nat.min_eq_left (by omega), pow_int, ← Int.natCast_ediv]
theorem list_l0 (q : Nat → Bool) (n : Nat) (hn : n ≤ 16) : ∀ d i : Nat, i + d = n → Ev (fun k => wigeonref04_list.l0 k (rv q n : Int) (asc q i) (i : Int)) (asc q n) := fun d => by
  induction d with
  | zero =>
    intro i e
    refine Ev.step (fun k => wigeonref04_list.l0.eq_2 ..) (evp (by rw [uw (by omega)]; omega) ?_)
    rw [shr_rv q hn (by omega), show rv q n / 2 ^ i = 0 from Nat.div_eq_of_lt (by rw [show i = n by omega]; exact rv_lt q n)]
    refine evn (by decide) ?_
    rw [show i = n by omega]; exact Ev.now _
  | succ d ih =>
    intro i e
    have R := ih (i + 1) (by omega)
    have l := asc_len q i
    refine Ev.step (fun k => wigeonref04_list.l0.eq_2 ..) (evp (by rw [uw (by omega)]; omega) ?_)
    by_cases hz : rv q n / 2 ^ i = 0
    · refine evn (by rw [shr_rv q hn (by omega), hz]; decide) ?_
      have t : ∀ k, i ≤ k → k < i + (d + 1) → q k = false := fun k h1 h2 => by
        rw [← rv_bit q n k (by omega)]
        refine Nat.testBit_lt_two_pow (Nat.lt_of_lt_of_le ?_ (Nat.pow_le_pow_right (by decide) h1))
        exact (Nat.div_eq_zero_iff_lt (Nat.two_pow_pos i)).1 hz
      rw [← e, asc_tail q i (d + 1) t]; exact Ev.now _
    · refine evp (by rw [shr_rv q hn (by omega)]; generalize rv q n / 2 ^ i = z at *; omega) ?_
      rw [bit_at (rv q n) i (rv_big q hn) (by omega), rv_bit q n i (by omega), w64 (n := (i : Int) + 1) (by omega) (by omega)]
      rw [asc_succ] at R
      cases hq : q i
      · rw [hq, if_neg (by decide), List.append_nil] at R
        exact evn (by decide) R
      · rw [hq, if_pos rfl] at R
        exact evp rfl (evp (by omega) R)
theorem list_ev (q : Nat → Bool) (n : Nat) (hn : n ≤ 16) : Ev (fun k => wigeonref04_list.f k (rv q n : Int)) (asc q n) := list_l0 q n hn n 0 (by omega)
/-- a list as a set -/
def inL (l : List Int) (i : Nat) : Bool := decide ((i : Int) ∈ l)
theorem bits_l0 (l : List Int) (n : Nat) (hn : n ≤ 16) (hl : ∀ x ∈ l, 0 ≤ x ∧ x < (n : Int)) (hs : l.length ≤ 1000) : ∀ d j : Nat, j + d = l.length → Ev (fun k => wigeonref04_bits.l0 k l (rv (inL (l.take j)) n : Int) (j : Int)) ((rv (inL l) n : Nat) : Int)
  | 0, j, e => by
    refine Ev.step (fun k => wigeonref04_bits.l0.eq_2 ..) (evn (by omega) ?_)
    rw [List.take_of_length_le (by omega)]; exact Ev.now _
  | d + 1, j, e => by
    have hj : j < l.length := by omega
    have R := bits_l0 l n hn hl hs d (j + 1) (by omega)
    obtain ⟨h0, h1⟩ := hl _ (List.getElem_mem hj)
    obtain ⟨x, hx⟩ := Int.eq_ofNat_of_zero_le h0
    have hx' : l[j] = (x : Int) := hx
    refine Ev.step (fun k => wigeonref04_bits.l0.eq_2 ..) (evp (by omega) (evp (by omega) ?_))
    rw [rd_at l j hj, hx', w64 (n := (j : Int) + 1) (by omega) (by omega)]
    refine evp (by rw [uw (by omega)]; omega) ?_
    rw [or_one _ hn (by omega)]
    rw [rv_congr (q := fun i => inL (l.take j) i || decide (i = x)) (fun k _ => by
      unfold inL
      rw [List.take_succ_eq_append_getElem hj, hx']
      rw [← Bool.decide_or]
      refine decide_eq_decide.2 ?_
      rw [List.mem_append, List.mem_singleton]
      constructor
      · rintro (h | h)
        · exact Or.inl h
        · exact Or.inr (by omega)
      · rintro (h | h)
        · exact Or.inl h
        · exact Or.inr (by omega))] at R
    exact R
theorem bits_ev (l : List Int) (n : Nat) (hn : n ≤ 16) (hl : ∀ x ∈ l, 0 ≤ x ∧ x < (n : Int)) (hs : l.length ≤ 1000) : Ev (fun k => wigeonref04_bits.f k l) ((rv (inL l) n : Nat) : Int) := by
  have := bits_l0 l n hn hl hs l.length 0 (by omega)
  rw [List.take_zero, show rv (inL []) n = 0 by rw [← rv_0 n]; exact rv_congr (fun k _ => by simp [inL])] at this
  exact this

theorem within_eq (a lo hi : Int) : lure_within.f a lo hi = some (decide (lo ≤ a ∧ a ≤ hi)) := by
  unfold lure_within.f
  by_cases h : a ≥ lo
  · rw [if_pos h, decide_eq_decide.2 (show a ≤ hi ↔ lo ≤ a ∧ a ≤ hi by omega)]
  · rw [if_neg h, decide_eq_false (show ¬ (lo ≤ a ∧ a ≤ hi) by omega)]
theorem rwithin_eq (a lo hi : Int) : wigeonref04_within.f a lo hi = some (decide (lo ≤ a ∧ a ≤ hi)) := by
  unfold wigeonref04_within.f
  by_cases h : a ≥ lo
  · rw [if_pos h, decide_eq_decide.2 (show a ≤ hi ↔ lo ≤ a ∧ a ≤ hi by omega)]
  · rw [if_neg h, decide_eq_false (show ¬ (lo ≤ a ∧ a ≤ hi) by omega)]
/-- ascending numbers from 0 to n - 1, above lo -/
def stB (n : Int) : Int → List Int → Bool
  | _, [] => true
  | lo, x :: l => decide (0 ≤ x ∧ x ≤ n - 1) && (decide (lo < x) && stB n x l)
def setB (l : List Int) (n : Int) : Bool := stB n (-1) l
def pv (l : List Int) (i : Nat) : Int := if i = 0 then -1 else rd l ((i : Int) - 1)
theorem isSet_l0 (l : List Int) (n : Int) (h0 : 0 ≤ n) (h1 : n ≤ 1000) (hl : l.length ≤ 1000) : ∀ d i : Nat, i + d = l.length → Ev (fun k => lure_isSet.l0 k l n l (l.length : Int) (i : Int)) (stB n (pv l i) (l.drop i))
  | 0, i, h => by
    refine Ev.step (fun k => lure_isSet.l0.eq_2 ..) (evn (by omega) ?_)
    rw [List.drop_eq_nil_of_le (by omega)]; exact Ev.now _
  | d + 1, i, h => by
    have hlt : i < l.length := by omega
    have R := isSet_l0 l n h0 h1 hl d (i + 1) (by omega)
    have hp : pv l (i + 1) = l[i] := by
      unfold pv
      rw [if_neg (by omega), show ((i + 1 : Nat) : Int) - 1 = (i : Int) by omega, rd_at l i hlt]
    rw [hp] at R
    refine Ev.step (fun k => lure_isSet.l0.eq_2 ..) (evp (by omega) (evp (by omega) (evp (by omega) (evs (within_eq _ _ _) ?_))))
    rw [rd_at l i hlt, List.drop_eq_getElem_cons hlt, w64 (n := n - 1) (by omega) (by omega), w64 (n := (i : Int) + 1) (by omega) (by omega)]
    unfold stB
    by_cases q : 0 ≤ l[i] ∧ l[i] ≤ n - 1
    · rw [decide_eq_true q, Bool.true_and]
      refine evp rfl ?_
      by_cases hi : i = 0
      · subst hi
        refine evn (by omega) ?_
        rw [show decide (pv l 0 < l[0]) = true from decide_eq_true (by unfold pv; rw [if_pos rfl]; omega), Bool.true_and]; exact R
      · refine evp (by omega) ?_
        rw [w64 (n := (i : Int) - 1) (by omega) (by omega)]
        refine evp (by omega) (evp (by omega) ?_)
        have e : pv l i = rd l ((i : Int) - 1) := if_neg hi
        rw [e]
        by_cases g : rd l ((i : Int) - 1) ≥ l[i]
        · rw [decide_eq_false (by omega), Bool.false_and]; exact evp g (Ev.now _)
        · rw [decide_eq_true (by omega), Bool.true_and]; exact evn g R
    · rw [decide_eq_false q, Bool.false_and]; exact evn (by decide) (Ev.now _)
theorem isSet_ev (l : List Int) (n : Int) (h0 : 0 ≤ n) (h1 : n ≤ 1000) (hl : l.length ≤ 1000) : Ev (fun k => lure_isSet.f k l n) (setB l n) := isSet_l0 l n h0 h1 hl l.length 0 (by omega)
theorem risSet_l0 (l : List Int) (n : Int) (h0 : 0 ≤ n) (h1 : n ≤ 1000) (hl : l.length ≤ 1000) : ∀ d i : Nat, i + d = l.length → Ev (fun k => wigeonref04_isSet.l0 k l n (i : Int)) (stB n (pv l i) (l.drop i))
  | 0, i, h => by
    refine Ev.step (fun k => wigeonref04_isSet.l0.eq_2 ..) (evn (by omega) ?_)
    rw [List.drop_eq_nil_of_le (by omega)]; exact Ev.now _
  | d + 1, i, h => by
    have hlt : i < l.length := by omega
    have R := risSet_l0 l n h0 h1 hl d (i + 1) (by omega)
    have hp : pv l (i + 1) = l[i] := by
      unfold pv
      rw [if_neg (by omega), show ((i + 1 : Nat) : Int) - 1 = (i : Int) by omega, rd_at l i hlt]
    rw [hp] at R
    refine Ev.step (fun k => wigeonref04_isSet.l0.eq_2 ..) (evp (by omega) (evp (by omega) (evs (rwithin_eq _ _ _) ?_)))
    rw [rd_at l i hlt, List.drop_eq_getElem_cons hlt, w64 (n := n - 1) (by omega) (by omega), w64 (n := (i : Int) + 1) (by omega) (by omega)]
    unfold stB
    by_cases q : 0 ≤ l[i] ∧ l[i] ≤ n - 1
    · rw [decide_eq_true q, Bool.true_and]
      refine evp rfl ?_
      by_cases hi : i = 0
      · subst hi
        refine evn (by omega) ?_
        rw [show decide (pv l 0 < l[0]) = true from decide_eq_true (by unfold pv; rw [if_pos rfl]; omega), Bool.true_and]; exact R
      · refine evp (by omega) ?_
        rw [w64 (n := (i : Int) - 1) (by omega) (by omega)]
        refine evp (by omega) (evp (by omega) ?_)
        have e : pv l i = rd l ((i : Int) - 1) := if_neg hi
        rw [e]
        by_cases g : l[i] ≤ rd l ((i : Int) - 1)
        · rw [decide_eq_false (by omega), Bool.false_and]; exact evp g (Ev.now _)
        · rw [decide_eq_true (by omega), Bool.true_and]; exact evn g R
    · rw [decide_eq_false q, Bool.false_and]; exact evn (by decide) (Ev.now _)
theorem risSet_ev (l : List Int) (n : Int) (h0 : 0 ≤ n) (h1 : n ≤ 1000) (hl : l.length ≤ 1000) : Ev (fun k => wigeonref04_isSet.f k l n) (setB l n) := risSet_l0 l n h0 h1 hl l.length 0 (by omega)
theorem stB_in {n : Int} : ∀ {l : List Int} {lo : Int}, stB n lo l = true → ∀ x ∈ l, 0 ≤ x ∧ x < n ∧ lo < x
  | [], _, _, x, hx => absurd hx (by simp)
  | y :: l, lo, h, x, hx => by
    unfold stB at h
    rw [Bool.and_eq_true, Bool.and_eq_true, decide_eq_true_eq, decide_eq_true_eq] at h
    rcases List.mem_cons.1 hx with e | e
    · subst e; omega
    · have := stB_in h.2.2 x e; omega
theorem setB_in {l : List Int} {n : Int} (h : setB l n = true) : ∀ x ∈ l, 0 ≤ x ∧ x < n := fun x hx => by
  have := stB_in h x hx; omega
/-- one place: whose turn, and its moves -/
def rowB (n : Int) (o : Int) (m : List Int) : Bool := decide (0 ≤ o ∧ o ≤ 1) && (!decide (m = []) && setB m n)
def vaB (n : Int) (own : List Int) (mv : List (List Int)) : Nat → Nat → Bool
  | 0, _ => true
  | d + 1, i => rowB n (rd own (i : Int)) (rd_L1 mv (i : Int)) && vaB n own mv d (i + 1)
def vlR (own : List Int) (mv : List (List Int)) : Int := if 1 ≤ (own.length : Int) ∧ (own.length : Int) ≤ 16 then (if mv.length = own.length then (if vaB (own.length : Int) own mv own.length 0 = true then 0 else 1) else 1) else 3
theorem small_row {mv : List (List Int)} (hs : ∀ m ∈ mv, m.length ≤ 100) (i : Nat) : (rd_L1 mv (i : Int)).length ≤ 100 := by
  by_cases h : i < mv.length
  · exact hs _ (getD_mem h)
  · have : rd_L1 mv (i : Int) = [] := by simp [rd_L1, List.getD_eq_getElem?_getD, List.getElem?_eq_none (show mv.length ≤ i by omega)]
    rw [this]; simp
theorem valid_l0 (own : List Int) (mv : List (List Int)) (hs : ∀ m ∈ mv, m.length ≤ 100) (hn : own.length ≤ 16) (hm : mv.length = own.length) : ∀ d i : Nat, i + d = own.length → Ev (fun k => lure_Validate.l0 k (own.length : Int) own (own.length : Int) (i : Int) own mv) (if vaB (own.length : Int) own mv d i = true then (0 : Int) else 1)
  | 0, i, h => by
    refine Ev.step (fun k => lure_Validate.l0.eq_2 ..) (evn (by omega) ?_)
    rw [show vaB (own.length : Int) own mv 0 i = true from rfl, if_pos rfl]; exact Ev.now _
  | d + 1, i, h => by
    have R := valid_l0 own mv hs hn hm d (i + 1) (by omega)
    have s := small_row hs i
    refine Ev.step (fun k => lure_Validate.l0.eq_2 ..) (evp (by omega) (evp (by omega) (evp (by omega) (evs (within_eq _ _ _) ?_))))
    rw [show vaB (own.length : Int) own mv (d + 1) i = (rowB (own.length : Int) (rd own (i : Int)) (rd_L1 mv (i : Int)) && vaB (own.length : Int) own mv d (i + 1)) from rfl, w64 (n := (i : Int) + 1) (by omega) (by omega)]
    unfold rowB
    by_cases q : 0 ≤ rd own (i : Int) ∧ rd own (i : Int) ≤ 1
    · rw [decide_eq_true q, Bool.true_and]
      refine evp rfl (evp (by omega) ?_)
      by_cases z : rd_L1 mv (i : Int) = []
      · rw [decide_eq_true z, Bool.not_true, Bool.false_and, Bool.false_and, if_neg (by decide)]
        exact evp (by rw [z]; rfl) (Ev.now _)
      · rw [decide_eq_false z, Bool.not_false, Bool.true_and]
        have zl : (rd_L1 mv (i : Int)).length ≠ 0 := fun e => z (List.length_eq_zero_iff.1 e)
        refine evn (by omega) (evb (isSet_ev _ _ (by omega) (by omega) (by omega)) ?_)
        cases setB (rd_L1 mv (i : Int)) (own.length : Int)
        · rw [Bool.false_and, if_neg (by decide)]; exact evn (by decide) (Ev.now _)
        · rw [Bool.true_and]; exact evp rfl R
    · rw [decide_eq_false q, Bool.false_and, Bool.false_and, if_neg (by decide)]; exact evn (by decide) (Ev.now _)
theorem valid_ev (own : List Int) (mv : List (List Int)) (hs : ∀ m ∈ mv, m.length ≤ 100) : Ev (fun k => lure_Validate.f k own mv) (vlR own mv) := by
  unfold lure_Validate.f vlR
  refine evs (within_eq _ _ _) ?_
  by_cases h : 1 ≤ (own.length : Int) ∧ (own.length : Int) ≤ 16
  · rw [decide_eq_true h, if_pos h]
    refine evp rfl ?_
    by_cases h2 : mv.length = own.length
    · rw [if_pos h2]; exact evp (by omega) (valid_l0 own mv hs (by omega) h2 own.length 0 (by omega))
    · rw [if_neg h2]; exact evn (by omega) (Ev.now _)
  · rw [decide_eq_false h, if_neg h]; exact evn (by decide) (Ev.now _)
theorem rvalid_l0 (own : List Int) (mv : List (List Int)) (hs : ∀ m ∈ mv, m.length ≤ 100) (hn : own.length ≤ 16) (hm : mv.length = own.length) : ∀ d i : Nat, i + d = own.length → Ev (fun k => wigeonref04_Validate.l0 k (own.length : Int) (i : Int) own mv) (if vaB (own.length : Int) own mv d i = true then (0 : Int) else 1)
  | 0, i, h => by
    refine Ev.step (fun k => wigeonref04_Validate.l0.eq_2 ..) (evn (by omega) ?_)
    rw [show vaB (own.length : Int) own mv 0 i = true from rfl, if_pos rfl]; exact Ev.now _
  | d + 1, i, h => by
    have R := rvalid_l0 own mv hs hn hm d (i + 1) (by omega)
    have s := small_row hs i
    refine Ev.step (fun k => wigeonref04_Validate.l0.eq_2 ..) (evp (by omega) (evp (by omega) (evp (by omega) (evs (rwithin_eq _ _ _) ?_))))
    rw [show vaB (own.length : Int) own mv (d + 1) i = (rowB (own.length : Int) (rd own (i : Int)) (rd_L1 mv (i : Int)) && vaB (own.length : Int) own mv d (i + 1)) from rfl, w64 (n := (i : Int) + 1) (by omega) (by omega)]
    unfold rowB
    by_cases q : 0 ≤ rd own (i : Int) ∧ rd own (i : Int) ≤ 1
    · rw [decide_eq_true q, Bool.true_and]
      refine evp rfl (evp (by omega) ?_)
      by_cases z : rd_L1 mv (i : Int) = []
      · rw [decide_eq_true z, Bool.not_true, Bool.false_and, Bool.false_and, if_neg (by decide)]
        exact evp (by rw [z]; rfl) (Ev.now _)
      · rw [decide_eq_false z, Bool.not_false, Bool.true_and]
        have zl : (rd_L1 mv (i : Int)).length ≠ 0 := fun e => z (List.length_eq_zero_iff.1 e)
        refine evn (by omega) (evb (risSet_ev _ _ (by omega) (by omega) (by omega)) ?_)
        cases setB (rd_L1 mv (i : Int)) (own.length : Int)
        · rw [Bool.false_and, if_neg (by decide)]; exact evn (by decide) (Ev.now _)
        · rw [Bool.true_and]; exact evp rfl R
    · rw [decide_eq_false q, Bool.false_and, Bool.false_and, if_neg (by decide)]; exact evn (by decide) (Ev.now _)
theorem rvalid_ev (own : List Int) (mv : List (List Int)) (hs : ∀ m ∈ mv, m.length ≤ 100) : Ev (fun k => wigeonref04_Validate.f k own mv) (vlR own mv) := by
  unfold wigeonref04_Validate.f vlR
  refine evs (rwithin_eq _ _ _) ?_
  by_cases h : 1 ≤ (own.length : Int) ∧ (own.length : Int) ≤ 16
  · rw [decide_eq_true h, if_pos h]
    refine evp rfl ?_
    by_cases h2 : mv.length = own.length
    · rw [if_pos h2]; exact evp (by omega) (rvalid_l0 own mv hs (by omega) h2 own.length 0 (by omega))
    · rw [if_neg h2]; exact evn (by omega) (Ev.now _)
  · rw [decide_eq_false h, if_neg h]; exact evn (by decide) (Ev.now _)
/-- a valid game -/
structure VG (own : List Int) (mv : List (List Int)) : Prop where
  n1 : 1 ≤ own.length
  n2 : own.length ≤ 16
  len : mv.length = own.length
  own_ : ∀ i : Nat, i < own.length → rd own (i : Int) = 0 ∨ rd own (i : Int) = 1
  ne : ∀ i : Nat, i < own.length → rd_L1 mv (i : Int) ≠ []
  set_ : ∀ i : Nat, i < own.length → setB (rd_L1 mv (i : Int)) (own.length : Int) = true
  small : ∀ i : Nat, (rd_L1 mv (i : Int)).length ≤ 100
theorem vaB_at {n : Int} {own : List Int} {mv : List (List Int)} : ∀ {d i : Nat}, vaB n own mv d i = true → ∀ j, i ≤ j → j < i + d → rowB n (rd own (j : Int)) (rd_L1 mv (j : Int)) = true
  | 0, i, _, j, h1, h2 => by omega
  | d + 1, i, h, j, h1, h2 => by
    unfold vaB at h
    rw [Bool.and_eq_true] at h
    by_cases e : j = i
    · subst e; exact h.1
    · exact vaB_at h.2 j (by omega) (by omega)
theorem vlR_ok {own : List Int} {mv : List (List Int)} (hs : ∀ m ∈ mv, m.length ≤ 100) (h : vlR own mv = 0) : VG own mv := by
  unfold vlR at h
  by_cases h1 : 1 ≤ (own.length : Int) ∧ (own.length : Int) ≤ 16
  · rw [if_pos h1] at h
    by_cases h2 : mv.length = own.length
    · rw [if_pos h2] at h
      by_cases h3 : vaB (own.length : Int) own mv own.length 0 = true
      · have r : ∀ i : Nat, i < own.length → _ := fun i hi => vaB_at h3 i (by omega) (by omega)
        unfold rowB at r
        simp only [Bool.and_eq_true, decide_eq_true_eq, Bool.not_eq_true', decide_eq_false_iff_not] at r
        exact ⟨by omega, by omega, h2, fun i hi => by have := (r i hi).1; omega, fun i hi => (r i hi).2.1, fun i hi => (r i hi).2.2, small_row hs⟩
      · rw [if_neg h3] at h; exact absurd h (by decide)
    · rw [if_neg h2] at h; exact absurd h (by decide)
  · rw [if_neg h1] at h; exact absurd h (by decide)
theorem VG.in_ {own : List Int} {mv : List (List Int)} (G : VG own mv) (i : Nat) (hi : i < own.length) : ∀ k ∈ rd_L1 mv (i : Int), 0 ≤ k ∧ k < (own.length : Int) := setB_in (G.set_ i hi)
def exR (own : List Int) (mv : List (List Int)) (set : List Int) : Int := if vlR own mv = 0 then (if setB set (own.length : Int) = true then 0 else 1) else vlR own mv
theorem exR_v {own : List Int} {mv : List (List Int)} {set : List Int} (h : ¬ vlR own mv = 0) : exR own mv set = vlR own mv := if_neg h
theorem exR_1 {own : List Int} {mv : List (List Int)} {set : List Int} (h : vlR own mv = 0) (h2 : ¬ setB set (own.length : Int) = true) : exR own mv set = 1 := (if_pos h).trans (if_neg h2)
theorem exR_0 {own : List Int} {mv : List (List Int)} {set : List Int} (h : vlR own mv = 0) (h2 : setB set (own.length : Int) = true) : exR own mv set = 0 := (if_pos h).trans (if_pos h2)
theorem exR_ok {own : List Int} {mv : List (List Int)} {set : List Int} (h : exR own mv set = 0) : vlR own mv = 0 ∧ setB set (own.length : Int) = true := by
  by_cases h1 : vlR own mv = 0
  · by_cases h2 : setB set (own.length : Int) = true
    · exact ⟨h1, h2⟩
    · rw [exR_1 h1 h2] at h; exact absurd h (by decide)
  · rw [exR_v h1] at h; exact absurd h h1
theorem examine_ev (own : List Int) (mv : List (List Int)) (hs : ∀ m ∈ mv, m.length ≤ 100) (set : List Int) (hl : set.length ≤ 100) : Ev (fun k => lure_examine.f k own mv [set]) (exR own mv set) := by
  unfold lure_examine.f
  refine evb (valid_ev own mv hs) ?_
  by_cases h : vlR own mv = 0
  · have G := vlR_ok hs h
    have a := G.n2
    refine evp h (Ev.step (fun k => lure_examine.l0.eq_2 ..) (evp (by simp) (evp (by decide) (evp (by simp) (evb (isSet_ev _ _ (by omega) (by omega) (by show set.length ≤ 1000; omega)) ?_)))))
    by_cases h2 : setB set (own.length : Int) = true
    · rw [exR_0 h h2]
      exact evp h2 (Ev.step (fun k => lure_examine.l0.eq_2 ..) (evn (by simp [wrap64]) (Ev.now _)))
    · rw [exR_1 h h2]; exact evn h2 (Ev.now _)
  · rw [exR_v h]; exact evn h (Ev.now _)
theorem asked_ev (own : List Int) (mv : List (List Int)) (hs : ∀ m ∈ mv, m.length ≤ 100) (set : List Int) (hl : set.length ≤ 100) : Ev (fun k => wigeonref04_asked.f k own mv set) (exR own mv set) := by
  unfold wigeonref04_asked.f
  refine evb (rvalid_ev own mv hs) ?_
  by_cases h : vlR own mv = 0
  · have G := vlR_ok hs h
    have a := G.n2
    refine evp h (evb (risSet_ev _ _ (by omega) (by omega) (by omega)) ?_)
    by_cases h2 : setB set (own.length : Int) = true
    · rw [exR_0 h h2]; exact evp h2 (Ev.now _)
    · rw [exR_1 h h2]; exact evn h2 (Ev.now _)
  · rw [exR_v h]; exact evn h (Ev.now _)

def lgB (own : List Int) (mv : List (List Int)) : Bool := decide (own.length > 100 ∨ mv.length > 100) || mv.any fun m => decide (m.length > 100)
theorem large_l0 (own : List Int) (mv : List (List Int)) (hm : mv.length ≤ 100) : ∀ d i : Nat, i + d = mv.length → Ev (fun k => wigeonlaw04_Large.l0 k (i : Int) own mv) ((mv.drop i).any fun m => decide (m.length > 100))
  | 0, i, h => by
    refine Ev.step (fun k => wigeonlaw04_Large.l0.eq_2 ..) (evn (by omega) ?_)
    rw [List.drop_eq_nil_of_le (by omega)]; exact Ev.now _
  | d + 1, i, h => by
    have hlt : i < mv.length := by omega
    have R := large_l0 own mv hm d (i + 1) (by omega)
    have e : rd_L1 mv (i : Int) = mv[i] := by simp [rd_L1, List.getD_eq_getElem?_getD, List.getElem?_eq_getElem hlt]
    refine Ev.step (fun k => wigeonlaw04_Large.l0.eq_2 ..) (evp (by omega) (evp (by omega) ?_))
    rw [e, List.drop_eq_getElem_cons hlt, List.any_cons, w64 (by omega) (by omega)]
    by_cases q : (mv[i]).length > 100
    · rw [decide_eq_true q, Bool.true_or]; exact evp (by omega) (Ev.now _)
    · rw [decide_eq_false q, Bool.false_or]; exact evn (by omega) R
theorem large_ev (own : List Int) (mv : List (List Int)) : Ev (fun k => wigeonlaw04_Large.f k own mv) (lgB own mv) := by
  unfold wigeonlaw04_Large.f lgB
  by_cases h : (own.length : Int) > 100
  · rw [decide_eq_true (show own.length > 100 ∨ mv.length > 100 by omega), Bool.true_or]; exact evp h (Ev.step (fun k => wigeonlaw04_Large.j0.eq_2 ..) (evp rfl (Ev.now _)))
  · refine evn h (Ev.step (fun k => wigeonlaw04_Large.j0.eq_2 ..) ?_)
    by_cases h2 : (mv.length : Int) > 100
    · rw [decide_eq_true (show own.length > 100 ∨ mv.length > 100 by omega), Bool.true_or]; exact evp (decide_eq_true h2) (Ev.now _)
    · rw [decide_eq_false (show ¬ (own.length > 100 ∨ mv.length > 100) by omega), Bool.false_or]
      exact evn (by simpa using h2) (large_l0 own mv (by omega) mv.length 0 (by omega))
theorem large_not {own : List Int} {mv : List (List Int)} (h : ¬ lgB own mv = true) : own.length ≤ 100 ∧ mv.length ≤ 100 ∧ ∀ m ∈ mv, m.length ≤ 100 := by
  unfold lgB at h
  rw [Bool.or_eq_true, not_or, decide_eq_true_eq, Bool.not_eq_true, List.any_eq_false] at h
  refine ⟨by omega, by omega, fun m hm => ?_⟩
  have := h.2 m hm
  simp at this; exact this
theorem same_l0 (l : List Int) (hl : l.length ≤ 1000) : ∀ d i : Nat, i + d = l.length → Ev (fun k => wigeonref04_SameInts.l0 k l l (i : Int)) true
  | 0, i, h => Ev.step (fun k => wigeonref04_SameInts.l0.eq_2 ..) (evn (by omega) (Ev.now _))
  | d + 1, i, h => by
    refine Ev.step (fun k => wigeonref04_SameInts.l0.eq_2 ..) (evp (by omega) (evp (by omega) (evp (by omega) (evp rfl ?_))))
    rw [w64 (by omega) (by omega)]; exact same_l0 l hl d (i + 1) (by omega)
theorem same_ev (l : List Int) (hl : l.length ≤ 1000) : Ev (fun k => wigeonref04_SameInts.f k l l) true := by
  unfold wigeonref04_SameInts.f
  exact evp rfl (same_l0 l hl l.length 0 (by omega))

/-- a set of places as a test of numbers -/
def pS (S : Nat → Bool) (k : Int) : Bool := S k.toNat
/-- from where the man makes sure of a set -/
def fB (own : List Int) (mv : List (List Int)) (S : Nat → Bool) (i : Nat) : Bool := forB own mv (i : Int) (pS S)
theorem any_ex {l : List Int} {n : Nat} (h : ∀ k ∈ l, 0 ≤ k ∧ k < (n : Int)) (S : Nat → Bool) : l.any (pS S) = false ↔ ∀ k, k < n → (inL l k && S k) = false := by
  rw [List.any_eq_false]
  constructor
  · intro a k hk
    by_cases m : (k : Int) ∈ l
    · have := a _ m
      unfold pS at this
      rw [Int.toNat_natCast] at this
      rw [Bool.not_eq_true] at this
      rw [this, Bool.and_false]
    · unfold inL; rw [decide_eq_false m, Bool.false_and]
  · intro a x hx
    obtain ⟨h0, h1⟩ := h x hx
    obtain ⟨k, rfl⟩ := Int.eq_ofNat_of_zero_le h0
    have := a k (by omega)
    unfold inL at this
    rw [decide_eq_true hx, Bool.true_and] at this
    unfold pS
    rw [Int.toNat_natCast, this]; decide
theorem all_ex {l : List Int} {n : Nat} (h : ∀ k ∈ l, 0 ≤ k ∧ k < (n : Int)) (S : Nat → Bool) : (l.any fun k => !pS S k) = false ↔ ∀ k, k < n → (inL l k && S k) = inL l k := by
  rw [List.any_eq_false]
  constructor
  · intro a k hk
    by_cases m : (k : Int) ∈ l
    · have := a _ m
      unfold pS at this
      rw [Int.toNat_natCast] at this
      simp at this
      rw [this, Bool.and_true]
    · unfold inL; rw [decide_eq_false m, Bool.false_and]
  · intro a x hx
    obtain ⟨h0, h1⟩ := h x hx
    obtain ⟨k, rfl⟩ := Int.eq_ofNat_of_zero_le h0
    have := a k (by omega)
    unfold inL at this
    rw [decide_eq_true hx, Bool.true_and] at this
    unfold pS
    rw [Int.toNat_natCast, this]; decide
theorem rbefore_l0 {own : List Int} {mv : List (List Int)} (G : VG own mv) (S : Nat → Bool) : ∀ d i : Nat, i + d = own.length → Ev (fun k => wigeonref04_before.l0 k (rv S own.length : Int) (rv (fun j => decide (j < i) && fB own mv S j) own.length : Int) (i : Int) own mv) ((rv (fB own mv S) own.length : Nat) : Int)
  | 0, i, h => by
    refine Ev.step (fun k => wigeonref04_before.l0.eq_2 ..) (evn (by omega) ?_)
    rw [rv_congr (p := fun j => decide (j < i) && fB own mv S j) (q := fB own mv S) (fun k hk => by rw [decide_eq_true (show k < i by omega), Bool.true_and])]; exact Ev.now _
  | d + 1, i, h => by
    have hlt : i < own.length := by omega
    have n16 := G.n2
    have gl := G.len
    have R := rbefore_l0 G S d (i + 1) (by omega)
    have Rn : fB own mv S i = false → Ev (fun k => wigeonref04_before.l0 k (rv S own.length : Int) (rv (fun j => decide (j < i) && fB own mv S j) own.length : Int) ((i : Int) + 1) own mv) ((rv (fB own mv S) own.length : Nat) : Int) := fun e => by
      rw [rv_congr (p := fun j => decide (j < i + 1) && fB own mv S j) (q := fun j => decide (j < i) && fB own mv S j) (fun k hk => by
        by_cases q : k = i
        · subst q; rw [e, Bool.and_false, Bool.and_false]
        · rw [decide_eq_decide.2 (show k < i + 1 ↔ k < i by omega)])] at R
      exact R
    have Ry : fB own mv S i = true → Ev (fun k => wigeonref04_before.l0 k (rv S own.length : Int) (Go.bits .or .i64 (rv (fun j => decide (j < i) && fB own mv S j) own.length : Int) (shl .i64 1 (IntKind.u64.wrap (i : Int)))) ((i : Int) + 1) own mv) ((rv (fB own mv S) own.length : Nat) : Int) := fun e => by
      rw [or_one _ n16 hlt]
      rw [rv_congr (p := fun j => decide (j < i + 1) && fB own mv S j) (q := fun j => (decide (j < i) && fB own mv S j) || decide (j = i)) (fun k hk => by
        by_cases q : k = i
        · subst q; rw [e, decide_eq_true (show k < k + 1 by omega), decide_eq_true rfl]; simp
        · rw [decide_eq_decide.2 (show k < i + 1 ↔ k < i by omega), decide_eq_false q, Bool.or_false])] at R
      exact R
    have hin := G.in_ i hlt
    have u0 : 0 ≤ IntKind.u64.wrap (i : Int) := by rw [uw (by omega)]; omega
    refine Ev.step (fun k => wigeonref04_before.l0.eq_2 ..) (evp (by omega) (evp (by omega) (evp (by omega) (evb (bits_ev _ own.length n16 hin (by have := G.small i; omega)) ?_))))
    rw [rv_and _ _ n16, w64 (n := (i : Int) + 1) (by omega) (by omega)]
    have A := any_ex hin S
    have B := all_ex hin S
    rw [← rv_zero] at A
    rw [← rv_inj] at B
    rcases G.own_ i hlt with o | o
    · have f : fB own mv S i = (rd_L1 mv (i : Int)).any (pS S) := if_pos o
      refine evp o ?_
      by_cases q : rv (fun k => inL (rd_L1 mv (i : Int)) k && S k) own.length = 0
      · refine evp (by rw [q]; rfl) (evn (by omega) (Rn ?_))
        rw [f]; exact A.2 q
      · refine evn (by omega) (evp u0 (Ry ?_))
        rw [f]
        cases z : (rd_L1 mv (i : Int)).any (pS S)
        · exact absurd (A.1 z) q
        · rfl
    · have f : fB own mv S i = !((rd_L1 mv (i : Int)).any fun k => !pS S k) := if_neg (by omega)
      refine evn (by omega) (evp o ?_)
      by_cases q : rv (fun k => inL (rd_L1 mv (i : Int)) k && S k) own.length = rv (inL (rd_L1 mv (i : Int))) own.length
      · refine evp (by rw [q]) (evp u0 (Ry ?_))
        rw [f, B.2 q]; rfl
      · refine evn (by omega) (Rn ?_)
        rw [f]
        cases z : ((rd_L1 mv (i : Int)).any fun k => !pS S k)
        · exact absurd (B.1 z) q
        · rfl
theorem rbefore_ev {own : List Int} {mv : List (List Int)} (G : VG own mv) (S : Nat → Bool) : Ev (fun k => wigeonref04_before.f k own mv (rv S own.length : Int)) ((rv (fB own mv S) own.length : Nat) : Int) := by
  have R := rbefore_l0 G S own.length 0 (by omega)
  rw [rv_congr (p := fun j => decide (j < 0) && fB own mv S j) (q := fun _ => false) (fun k hk => by rw [decide_eq_false (by omega), Bool.false_and]), rv_0] at R
  exact R
theorem forB_congr {own : List Int} {mv : List (List Int)} {i : Int} {p q : Int → Bool} (h : ∀ k ∈ rd_L1 mv i, p k = q k) : forB own mv i p = forB own mv i q := by
  have e : ∀ (l : List Int), (∀ k ∈ l, p k = q k) → l.any p = l.any q ∧ (l.any fun k => !p k) = (l.any fun k => !q k) := fun l => by
    induction l with
    | nil => intro _; exact ⟨rfl, rfl⟩
    | cons x l ih =>
      intro a
      obtain ⟨i1, i2⟩ := ih (fun k hk => a k (List.mem_cons_of_mem _ hk))
      simp only [List.any_cons]
      rw [i1, i2, a x List.mem_cons_self]
      exact ⟨rfl, rfl⟩
  obtain ⟨e1, e2⟩ := e _ h
  unfold forB
  rw [e1, e2]

def befR (own : List Int) (mv : List (List Int)) (set : List Int) : List Int := asc (fB own mv (inL set)) own.length
theorem before_ev {own : List Int} {mv : List (List Int)} (G : VG own mv) (set : List Int) : Ev (fun k => lure_before.f k own mv set) (befR own mv set) := by
  have n16 := G.n2
  have gl := G.len
  refine some_ev _ _ own.length (by omega) fun i hi => ?_
  unfold holdsF
  rw [if_pos ⟨by omega, by omega, by omega⟩]
  congr 1
  refine forB_congr fun k hk => ?_
  obtain ⟨h0, h1⟩ := G.in_ i hi k hk
  unfold pS inL
  rw [Int.toNat_of_nonneg h0]
/-- what is reached in so many moves -/
def Rt (own : List Int) (mv : List (List Int)) (g : Nat → Bool) : Nat → Nat → Bool
  | 0, i => g i
  | t + 1, i => g i || fB own mv (Rt own mv g t) i
/-- the rank, as far as t moves tell -/
def rk (own : List Int) (mv : List (List Int)) (g : Nat → Bool) : Nat → Nat → Int
  | 0, i => if g i then 0 else -1
  | t + 1, i => if 0 ≤ rk own mv g t i then rk own mv g t i else if Rt own mv g (t + 1) i then ((t + 1 : Nat) : Int) else -1
theorem fB_congr {own : List Int} {mv : List (List Int)} (G : VG own mv) {p q : Nat → Bool} (h : ∀ k, k < own.length → p k = q k) (i : Nat) (hi : i < own.length) : fB own mv p i = fB own mv q i := by
  refine forB_congr fun k hk => ?_
  obtain ⟨h0, h1⟩ := G.in_ i hi k hk
  exact h k.toNat (by omega)
theorem fB_mono {own : List Int} {mv : List (List Int)} (G : VG own mv) {p q : Nat → Bool} (h : ∀ k, k < own.length → p k = true → q k = true) (i : Nat) (hi : i < own.length) : fB own mv p i = true → fB own mv q i = true := by
  have hin := G.in_ i hi
  have e : ∀ k ∈ rd_L1 mv (i : Int), pS p k = true → pS q k = true := fun k hk hp => by
    obtain ⟨h0, h1⟩ := hin k hk
    exact h k.toNat (by omega) hp
  unfold fB forB
  by_cases o : rd own (i : Int) = 0
  · rw [if_pos o, if_pos o, List.any_eq_true, List.any_eq_true]
    rintro ⟨k, h1, h2⟩
    exact ⟨k, h1, e k h1 h2⟩
  · rw [if_neg o, if_neg o, Bool.not_eq_true', Bool.not_eq_true', List.any_eq_false, List.any_eq_false]
    intro a k hk
    have := a k hk
    simp at this ⊢
    exact e k hk this
theorem Rt_up {own : List Int} {mv : List (List Int)} (G : VG own mv) (g : Nat → Bool) : ∀ (t i : Nat), i < own.length → Rt own mv g t i = true → Rt own mv g (t + 1) i = true
  | 0, i, hi, h => by
    show (g i || _) = true
    rw [show g i = true from h, Bool.true_or]
  | t + 1, i, hi, h => by
    have h : (g i || fB own mv (Rt own mv g t) i) = true := h
    show (g i || fB own mv (Rt own mv g (t + 1)) i) = true
    rw [Bool.or_eq_true] at h ⊢
    rcases h with h | h
    · exact Or.inl h
    · exact Or.inr (fB_mono G (fun k hk => Rt_up G g t k hk) i hi h)
theorem Rt_le {own : List Int} {mv : List (List Int)} (G : VG own mv) (g : Nat → Bool) {i : Nat} (hi : i < own.length) : ∀ (d t : Nat), Rt own mv g t i = true → Rt own mv g (t + d) i = true
  | 0, _, h => h
  | d + 1, t, h => Rt_up G g (t + d) i hi (Rt_le G g hi d t h)
theorem rk_reach {own : List Int} {mv : List (List Int)} (G : VG own mv) (g : Nat → Bool) {i : Nat} (hi : i < own.length) : ∀ t, (0 ≤ rk own mv g t i ↔ Rt own mv g t i = true) ∧ -1 ≤ rk own mv g t i ∧ rk own mv g t i ≤ t
  | 0 => by
    show (0 ≤ (if g i then (0 : Int) else -1) ↔ g i = true) ∧ -1 ≤ (if g i then (0 : Int) else -1) ∧ (if g i then (0 : Int) else -1) ≤ ((0 : Nat) : Int)
    cases g i <;> simp
  | t + 1 => by
    obtain ⟨a, b, c⟩ := rk_reach G g hi t
    show (0 ≤ (if 0 ≤ rk own mv g t i then rk own mv g t i else if Rt own mv g (t + 1) i then ((t + 1 : Nat) : Int) else -1) ↔ _) ∧ -1 ≤ (if 0 ≤ rk own mv g t i then rk own mv g t i else if Rt own mv g (t + 1) i then ((t + 1 : Nat) : Int) else -1) ∧ (if 0 ≤ rk own mv g t i then rk own mv g t i else if Rt own mv g (t + 1) i then ((t + 1 : Nat) : Int) else -1) ≤ ((t + 1 : Nat) : Int)
    by_cases q : 0 ≤ rk own mv g t i
    · rw [if_pos q]
      exact ⟨⟨fun _ => Rt_up G g t i hi (a.1 q), fun _ => q⟩, by omega, by omega⟩
    · rw [if_neg q]
      cases z : Rt own mv g (t + 1) i
      · rw [if_neg (by decide)]; exact ⟨⟨fun h => absurd h (by decide), fun h => absurd h (by decide)⟩, by omega, by omega⟩
      · rw [if_pos rfl]; exact ⟨⟨fun _ => rfl, fun _ => by omega⟩, by omega, by omega⟩
/-- a rank that is there at t stays -/
theorem rk_stay {own : List Int} {mv : List (List Int)} (g : Nat → Bool) {i t : Nat} (h : 0 ≤ rk own mv g t i) : ∀ d, rk own mv g (t + d) i = rk own mv g t i
  | 0 => rfl
  | d + 1 => by
    have e := rk_stay g h d
    show (if 0 ≤ rk own mv g (t + d) i then rk own mv g (t + d) i else _) = _
    rw [if_pos (by omega), e]
/-- how many are reached -/
def cnt (q : Nat → Bool) : Nat → Nat
  | 0 => 0
  | n + 1 => cnt q n + (if q n then 1 else 0)
theorem cnt_le (q : Nat → Bool) : ∀ n, cnt q n ≤ n
  | 0 => Nat.le_refl _
  | n + 1 => by have := cnt_le q n; unfold cnt; split <;> omega
theorem cnt_mono {p q : Nat → Bool} : ∀ {n : Nat}, (∀ k, k < n → p k = true → q k = true) → cnt p n ≤ cnt q n ∧ ((∃ k, k < n ∧ p k = false ∧ q k = true) → cnt p n < cnt q n)
  | 0, _ => ⟨Nat.le_refl _, fun ⟨k, h, _⟩ => absurd h (by omega)⟩
  | n + 1, h => by
    obtain ⟨a, b⟩ := cnt_mono (n := n) (fun k hk => h k (by omega))
    have c := h n (by omega)
    unfold cnt
    constructor
    · cases hp : p n
      · rw [if_neg (by decide)]; split <;> omega
      · rw [if_pos rfl, c hp, if_pos rfl]; omega
    · rintro ⟨k, h1, h2, h3⟩
      by_cases e : k = n
      · subst e
        rw [h2, h3, if_neg (by decide), if_pos rfl]; omega
      · have := b ⟨k, by omega, h2, h3⟩
        cases hp : p n
        · rw [if_neg (by decide)]; split <;> omega
        · rw [if_pos rfl, c hp, if_pos rfl]; omega
/-- nothing more is reached after t moves -/
def still (own : List Int) (mv : List (List Int)) (g : Nat → Bool) (t : Nat) : Prop := ∀ k, k < own.length → Rt own mv g (t + 1) k = Rt own mv g t k
theorem not_still {own : List Int} {mv : List (List Int)} (G : VG own mv) {g : Nat → Bool} {t : Nat} (h : ¬ still own mv g t) : ∃ k, k < own.length ∧ Rt own mv g t k = false ∧ Rt own mv g (t + 1) k = true := by
  refine Classical.byContradiction fun c => h fun k hk => ?_
  cases a : Rt own mv g t k
  · cases b : Rt own mv g (t + 1) k
    · rfl
    · exact absurd ⟨k, hk, a, b⟩ c
  · exact Rt_up G g t k hk a
theorem still_ex {own : List Int} {mv : List (List Int)} (G : VG own mv) (g : Nat → Bool) : ∃ t, t ≤ own.length ∧ still own mv g t ∧ ∀ s, s < t → ¬ still own mv g s := by
  have grow : ∀ t, (∀ s, s < t → ¬ still own mv g s) → t ≤ cnt (Rt own mv g t) own.length := by
    intro t
    induction t with
    | zero => intro _; exact Nat.zero_le _
    | succ t ih =>
      intro h
      have a := ih (fun s hs => h s (by omega))
      have b := (cnt_mono (p := Rt own mv g t) (q := Rt own mv g (t + 1)) (n := own.length) (fun k hk => Rt_up G g t k hk)).2 (not_still G (h t (by omega)))
      omega
  refine Classical.byContradiction fun c => ?_
  have all : ∀ t, t ≤ own.length + 1 → ∀ s, s < t → ¬ still own mv g s := by
    intro t
    induction t with
    | zero => intro _ s hs; omega
    | succ t ih =>
      intro ht s hs
      by_cases e : s = t
      · subst e
        intro q
        exact c ⟨s, by omega, q, ih (by omega)⟩
      · exact ih (by omega) s (by omega)
  have a := grow (own.length + 1) (all _ (Nat.le_refl _))
  have b := cnt_le (Rt own mv g (own.length + 1)) own.length
  omega
theorem still_on {own : List Int} {mv : List (List Int)} (G : VG own mv) {g : Nat → Bool} {t : Nat} (h : still own mv g t) : ∀ d k, k < own.length → Rt own mv g (t + d) k = Rt own mv g t k
  | 0, _, _ => rfl
  | d + 1, k, hk => by
    have e : Rt own mv g (t + d + 1) k = Rt own mv g (t + 1) k := by
      show (g k || fB own mv (Rt own mv g (t + d)) k) = (g k || fB own mv (Rt own mv g t) k)
      rw [fB_congr G (fun j hj => still_on G h d j hj) k hk]
    show Rt own mv g (t + d + 1) k = _
    rw [e]; exact h k hk
theorem rk_still {own : List Int} {mv : List (List Int)} (G : VG own mv) {g : Nat → Bool} {t : Nat} (h : still own mv g t) {k : Nat} (hk : k < own.length) : ∀ d, rk own mv g (t + d) k = rk own mv g t k
  | 0 => rfl
  | d + 1 => by
    by_cases q : 0 ≤ rk own mv g t k
    · exact rk_stay g q (d + 1)
    · have e := rk_still G h hk d
      obtain ⟨a, b, _⟩ := rk_reach G g hk t
      have f : Rt own mv g (t + d + 1) k = false := by
        rw [show t + d + 1 = t + (d + 1) by omega, still_on G h (d + 1) k hk]
        cases z : Rt own mv g t k
        · rfl
        · exact absurd (a.2 z) q
      show (if 0 ≤ rk own mv g (t + d) k then rk own mv g (t + d) k else if Rt own mv g (t + d + 1) k then ((t + d + 1 : Nat) : Int) else -1) = _
      rw [e, if_neg q, f, if_neg (by decide)]; omega
/-- the list of ranks -/
def rkL (own : List Int) (mv : List (List Int)) (g : Nat → Bool) (t : Nat) : List Int := (List.range own.length).map (rk own mv g t)
theorem rkL_len (own : List Int) (mv : List (List Int)) (g : Nat → Bool) (t : Nat) : (rkL own mv g t).length = own.length := by unfold rkL; rw [List.length_map, List.length_range]
theorem rkL_at (own : List Int) (mv : List (List Int)) (g : Nat → Bool) (t : Nat) {i : Nat} (hi : i < own.length) : rd (rkL own mv g t) (i : Int) = rk own mv g t i := by
  rw [rd_at _ i (by rw [rkL_len]; exact hi)]
  unfold rkL
  rw [List.getElem_map, List.getElem_range]
/-- the list as it stands in the midst of a round: the first j places are of t + 1 -/
def rkM (own : List Int) (mv : List (List Int)) (g : Nat → Bool) (t j : Nat) : List Int := (List.range own.length).map fun i => if i < j then rk own mv g (t + 1) i else rk own mv g t i
theorem rkM_0 (own : List Int) (mv : List (List Int)) (g : Nat → Bool) (t : Nat) : rkM own mv g t 0 = rkL own mv g t := List.map_congr_left fun i _ => if_neg (by omega)
theorem rkM_n (own : List Int) (mv : List (List Int)) (g : Nat → Bool) (t : Nat) : rkM own mv g t own.length = rkL own mv g (t + 1) := List.map_congr_left fun i hi => if_pos (List.mem_range.1 hi)
theorem rkM_same {own : List Int} {mv : List (List Int)} {g : Nat → Bool} {t j : Nat} (h : rk own mv g (t + 1) j = rk own mv g t j) : rkM own mv g t (j + 1) = rkM own mv g t j := List.map_congr_left fun i _ => by
  by_cases e : i = j
  · subst e; rw [if_pos (by omega), if_neg (by omega), h]
  · by_cases q : i < j
    · rw [if_pos (by omega), if_pos q]
    · rw [if_neg (by omega), if_neg q]
theorem rkM_set {own : List Int} {mv : List (List Int)} {g : Nat → Bool} {t j : Nat} : (rkM own mv g t j).set j (rk own mv g (t + 1) j) = rkM own mv g t (j + 1) := by
  apply List.ext_getElem
  · unfold rkM; simp
  · intro i h1 h2
    have hi : i < own.length := by unfold rkM at h2; simpa using h2
    simp only [rkM, List.getElem_set, List.getElem_map, List.getElem_range]
    by_cases e : j = i
    · subst e; rw [if_pos rfl, if_pos (by omega)]
    · rw [if_neg e]
      by_cases q : i < j
      · rw [if_pos q, if_pos (by omega)]
      · rw [if_neg q, if_neg (by omega)]
theorem grow_step {own : List Int} {mv : List (List Int)} (G : VG own mv) (g : Nat → Bool) (t : Nat) : ∀ d j (more : Bool), j + d = own.length → growL own mv ((t + 1 : Nat) : Int) (rkL own mv g t) d j (rkM own mv g t j) more = (rkL own mv g (t + 1), more || (List.range d).any fun e => Rt own mv g (t + 1) (j + e) && !Rt own mv g t (j + e))
  | 0, j, more, h => by
    show (rkM own mv g t j, more) = _
    rw [show j = own.length by omega, rkM_n]; simp
  | d + 1, j, more, h => by
    have hj : j < own.length := by omega
    obtain ⟨a, b, _⟩ := rk_reach G g hj t
    have fe : forB own mv (j : Int) (fun k => decide (0 ≤ rd (rkL own mv g t) k)) = fB own mv (Rt own mv g t) j := forB_congr fun k hk => by
      obtain ⟨h0, h1⟩ := G.in_ j hj k hk
      obtain ⟨k, rfl⟩ := Int.eq_ofNat_of_zero_le h0
      have hk' : k < own.length := by omega
      rw [rkL_at own mv g t hk']
      unfold pS
      rw [Int.toNat_natCast]
      have c := (rk_reach G g hk' t).1
      cases z : Rt own mv g t k
      · exact decide_eq_false (fun q => by have := c.1 q; rw [z] at this; exact absurd this (by decide))
      · exact decide_eq_true (c.2 z)
    have nx : (List.range (d + 1)).any (fun e => Rt own mv g (t + 1) (j + e) && !Rt own mv g t (j + e)) = ((Rt own mv g (t + 1) j && !Rt own mv g t j) || (List.range d).any fun e => Rt own mv g (t + 1) (j + 1 + e) && !Rt own mv g t (j + 1 + e)) := by
      rw [List.range_succ_eq_map, List.any_cons, List.any_map, Nat.add_zero]
      congr 1
      refine congrArg (fun f => List.any (List.range d) f) (funext fun e => ?_)
      show (Rt own mv g (t + 1) (j + (e + 1)) && !Rt own mv g t (j + (e + 1))) = _
      rw [show j + (e + 1) = j + 1 + e by omega]
    unfold growL
    rw [rkL_at own mv g t hj, fe, nx]
    by_cases q : rk own mv g t j < 0 ∧ fB own mv (Rt own mv g t) j = true
    · rw [if_pos q]
      have r0 : Rt own mv g t j = false := by
        cases z : Rt own mv g t j
        · rfl
        · have := a.2 z; omega
      have r1 : Rt own mv g (t + 1) j = true := by show (g j || _) = true; rw [q.2, Bool.or_true]
      have e : rk own mv g (t + 1) j = ((t + 1 : Nat) : Int) := by
        show (if 0 ≤ rk own mv g t j then _ else if Rt own mv g (t + 1) j then ((t + 1 : Nat) : Int) else -1) = _
        rw [if_neg (by omega), r1, if_pos rfl]
      rw [← e, rkM_set, e, grow_step G g t d (j + 1) true (by omega), r0, r1]; simp
    · rw [if_neg q]
      have r : (Rt own mv g (t + 1) j && !Rt own mv g t j) = false := by
        cases z : Rt own mv g t j
        · have n0 : rk own mv g t j < 0 := by
            have : ¬ 0 ≤ rk own mv g t j := fun p => by have := a.1 p; rw [z] at this; exact absurd this (by decide)
            omega
          have f0 : fB own mv (Rt own mv g t) j = false := by
            cases y : fB own mv (Rt own mv g t) j
            · rfl
            · exact absurd ⟨n0, y⟩ q
          have g0 : g j = false := by
            cases y : g j
            · rfl
            · have := Rt_le G g hj t 0 (show Rt own mv g 0 j = true from y)
              rw [Nat.zero_add, z] at this; exact absurd this (by decide)
          show ((g j || fB own mv (Rt own mv g t) j) && _) = false
          rw [g0, f0]; rfl
        · rw [Bool.not_true, Bool.and_false]
      have e : rk own mv g (t + 1) j = rk own mv g t j := by
        show (if 0 ≤ rk own mv g t j then rk own mv g t j else if Rt own mv g (t + 1) j then ((t + 1 : Nat) : Int) else -1) = _
        by_cases p : 0 ≤ rk own mv g t j
        · rw [if_pos p]
        · rw [if_neg p]
          cases z : Rt own mv g (t + 1) j
          · rw [if_neg (by decide)]; omega
          · rw [z, Bool.true_and] at r
            have : Rt own mv g t j = true := by simpa using r
            exact absurd (a.2 this) p
      rw [← rkM_same e, grow_step G g t d (j + 1) more (by omega), r, Bool.false_or]
theorem grow_eq {own : List Int} {mv : List (List Int)} (G : VG own mv) (g : Nat → Bool) (t : Nat) : growR own mv ((t + 1 : Nat) : Int) (rkL own mv g t) = (rkL own mv g (t + 1), (List.range own.length).any fun e => Rt own mv g (t + 1) e && !Rt own mv g t e) := by
  have := grow_step G g t own.length 0 false (by omega)
  rw [rkM_0] at this
  unfold growR
  rw [this, Bool.false_or]
  congr 1
  refine congrArg (fun f => List.any (List.range own.length) f) (funext fun e => ?_)
  rw [Nat.zero_add]
theorem still_any {own : List Int} {mv : List (List Int)} (G : VG own mv) (g : Nat → Bool) (t : Nat) : ((List.range own.length).any fun e => Rt own mv g (t + 1) e && !Rt own mv g t e) = false ↔ still own mv g t := by
  rw [List.any_eq_false]
  constructor
  · intro h k hk
    have a := h k (List.mem_range.2 hk)
    cases z : Rt own mv g t k
    · rw [z] at a; simpa using a
    · exact Rt_up G g t k hk z
  · intro h k hk
    rw [h k (List.mem_range.1 hk)]; simp
/-- the ranks -/
def ranksR (own : List Int) (mv : List (List Int)) (goal : List Int) : List Int := rkL own mv (inL goal) own.length
theorem rkF_ev {own : List Int} {mv : List (List Int)} (G : VG own mv) (g : Nat → Bool) {T : Nat} (hT : T ≤ own.length) (hs : still own mv g T) (hb : ∀ s, s < T → ¬ still own mv g s) : ∀ d t, t + d = T → Ev (fun k => rkF own mv k ((t + 1 : Nat) : Int) (rkL own mv g t)) (rkL own mv g own.length)
  | 0, t, h => by
    refine Ev.step (fun k => rkF.eq_2 ..) ?_
    rw [grow_eq G g t]
    refine evn ?_ ?_
    · rw [Bool.not_eq_true]; exact (still_any G g t).2 (by rw [show t = T by omega]; exact hs)
    · have e : rkL own mv g (t + 1) = rkL own mv g own.length := by
        refine List.map_congr_left fun i hi => ?_
        have hi := List.mem_range.1 hi
        have a := rk_still G hs hi 1
        have b := rk_still G hs hi (own.length - T)
        rw [show T + (own.length - T) = own.length by omega] at b
        rw [show t + 1 = T + 1 by omega, a, b]
      rw [e]; exact Ev.now _
  | d + 1, t, h => by
    have n16 := G.n2
    have R := rkF_ev G g hT hs hb d (t + 1) (by omega)
    refine Ev.step (fun k => rkF.eq_2 ..) ?_
    rw [grow_eq G g t]
    refine evp ?_ ?_
    · cases z : (List.range own.length).any fun e => Rt own mv g (t + 1) e && !Rt own mv g t e
      · exact absurd ((still_any G g t).1 z) (hb t (by omega))
      · rfl
    · rw [w64 (n := ((t + 1 : Nat) : Int) + 1) (by omega) (by omega)]
      exact R
theorem setAll_rd (n : Nat) : ∀ (l xs : List Int), xs.length = n → (∀ k ∈ l, 0 ≤ k ∧ k < (n : Int)) → (setAll l xs).length = n ∧ ∀ i : Nat, i < n → rd (setAll l xs) (i : Int) = if (i : Int) ∈ l then 0 else rd xs (i : Int)
  | [], xs, h, _ => ⟨h, fun i hi => by rw [if_neg (by simp)]; rfl⟩
  | x :: l, xs, h, hl => by
    obtain ⟨h0, h1⟩ := hl x List.mem_cons_self
    obtain ⟨y, rfl⟩ := Int.eq_ofNat_of_zero_le h0
    obtain ⟨a, b⟩ := setAll_rd n l (xs.set y 0) (by rw [List.length_set]; exact h) (fun k hk => hl k (List.mem_cons_of_mem _ hk))
    show (setAll l (xs.set (Int.toNat (y : Int)) 0)).length = n ∧ _
    rw [Int.toNat_natCast]
    refine ⟨a, fun i hi => ?_⟩
    show rd (setAll l (xs.set (Int.toNat (y : Int)) 0)) (i : Int) = _
    rw [Int.toNat_natCast, b i hi]
    by_cases m : (i : Int) ∈ l
    · rw [if_pos m, if_pos (List.mem_cons_of_mem _ m)]
    · rw [if_neg m, rd_at _ i (by rw [List.length_set]; omega), List.getElem_set]
      by_cases e : y = i
      · subst e; rw [if_pos rfl, if_pos List.mem_cons_self]
      · rw [if_neg e, if_neg (fun q => by rcases List.mem_cons.1 q with q | q; · omega
                                          · exact m q), rd_at _ i (by omega)]
theorem init_eq {own : List Int} {mv : List (List Int)} (goal : List Int) (hg : ∀ k ∈ goal, 0 ≤ k ∧ k < (own.length : Int)) : setAll goal (List.replicate own.length (-1)) = rkL own mv (inL goal) 0 := by
  obtain ⟨a, b⟩ := setAll_rd own.length goal (List.replicate own.length (-1)) (by rw [List.length_replicate]) hg
  apply List.ext_getElem
  · rw [a, rkL_len]
  · intro i h1 h2
    have hi : i < own.length := by omega
    rw [← rd_at _ i h1, ← rd_at _ i h2, b i hi, rkL_at own mv _ 0 hi, rd_at _ i (by rw [List.length_replicate]; exact hi), List.getElem_replicate]
    show _ = if inL goal i then (0 : Int) else -1
    unfold inL
    by_cases m : (i : Int) ∈ goal
    · rw [if_pos m, decide_eq_true m, if_pos rfl]
    · rw [if_neg m, decide_eq_false m, if_neg (by decide)]
theorem ranks_ev {own : List Int} {mv : List (List Int)} (G : VG own mv) (goal : List Int) (hg : ∀ k ∈ goal, 0 ≤ k ∧ k < (own.length : Int)) : Ev (fun k => lure_ranks.f k own mv goal) (ranksR own mv goal) := by
  unfold lure_ranks.f
  have ok : okG own mv goal := ⟨G.n1, G.n2, G.len, fun l hl k hk => by
    obtain ⟨i, hi, rfl⟩ := List.mem_iff_getElem.1 hl
    have e : rd_L1 mv (i : Int) = mv[i] := by simp [rd_L1, List.getD_eq_getElem?_getD, List.getElem?_eq_getElem hi]
    exact G.in_ i (by have := G.len; omega) k (by rw [e]; exact hk), hg⟩
  refine evp ok ?_
  rw [init_eq (mv := mv) goal hg]
  obtain ⟨T, h1, h2, h3⟩ := still_ex G (inL goal)
  exact rkF_ev G (inL goal) h1 h2 h3 T 0 (by omega)

theorem reached_l0 {own : List Int} {mv : List (List Int)} (G : VG own mv) (g : Nat → Bool) (moves : Int) (hm : moves ≤ 1000) : ∀ d t : Nat, t + d = min moves.toNat own.length → Ev (fun k => wigeonref04_reached.l0 k (rv g own.length : Int) moves (rv (Rt own mv g t) own.length : Int) (t : Int) own mv) ((rv (Rt own mv g (min moves.toNat own.length)) own.length : Nat) : Int)
  | 0, t, h => by
    have e : t = min moves.toNat own.length := by omega
    refine Ev.step (fun k => wigeonref04_reached.l0.eq_2 ..) ?_
    by_cases q : (t : Int) < moves
    · refine evp q (evn (by omega) ?_)
      rw [e]; exact Ev.now _
    · refine evn q ?_
      rw [e]; exact Ev.now _
  | d + 1, t, h => by
    have n16 := G.n2
    have R := reached_l0 G g moves hm d (t + 1) (by omega)
    refine Ev.step (fun k => wigeonref04_reached.l0.eq_2 ..) (evp (by omega) (evp (by omega) (evb (rbefore_ev G _) ?_)))
    rw [rv_or _ _ n16, w64 (n := (t : Int) + 1) (by omega) (by omega)]
    exact R
theorem reached_ev {own : List Int} {mv : List (List Int)} (G : VG own mv) (g : Nat → Bool) (moves : Int) (hm : moves ≤ 1000) : Ev (fun k => wigeonref04_reached.f k own mv (rv g own.length : Int) moves) ((rv (Rt own mv g (min moves.toNat own.length)) own.length : Nat) : Int) :=
  reached_l0 G g moves hm _ 0 (Nat.zero_add _)
theorem won_ev {own : List Int} {mv : List (List Int)} (G : VG own mv) (g : Nat → Bool) : Ev (fun k => wigeonref04_won.f k own mv (rv g own.length : Int)) ((rv (Rt own mv g own.length) own.length : Nat) : Int) := by
  unfold wigeonref04_won.f
  have n16 := G.n2
  have R := reached_ev G g (own.length : Int) (by omega)
  rw [Int.toNat_natCast, Nat.min_self] at R
  exact evb R (Ev.now _)

theorem ranked_ev {own : List Int} {mv : List (List Int)} (G : VG own mv) (goal : List Int) (hg : ∀ k ∈ goal, 0 ≤ k ∧ k < (own.length : Int)) (lo hi : Int) : Ev (fun k => lure_ranked.f k own mv goal lo hi) (asc (fun i => decide (lo ≤ rk own mv (inL goal) own.length i ∧ rk own mv (inL goal) own.length i ≤ hi)) own.length) := by
  have n16 := G.n2
  unfold lure_ranked.f
  refine evb (ranks_ev G goal hg) ?_
  have e : (ranksR own mv goal).length = own.length := rkL_len ..
  rw [e]
  refine some_ev _ _ own.length (by omega) fun i hi => ?_
  unfold rankedF
  rw [if_pos ⟨by omega, by omega⟩, within_eq, show rd (ranksR own mv goal) (i : Int) = rk own mv (inL goal) own.length i from rkL_at own mv _ _ hi]
/-- what is won -/
def wonR (own : List Int) (mv : List (List Int)) (goal : List Int) : Nat → Bool := Rt own mv (inL goal) own.length
theorem wins_ev {own : List Int} {mv : List (List Int)} (G : VG own mv) (goal : List Int) (hg : ∀ k ∈ goal, 0 ≤ k ∧ k < (own.length : Int)) : Ev (fun k => lure_ranked.f k own mv goal 0 16) (asc (wonR own mv goal) own.length) := by
  have n16 := G.n2
  refine ev_eq (ranked_ev G goal hg 0 16) (asc_congr fun i hi => ?_)
  obtain ⟨a, b, c⟩ := rk_reach G (inL goal) hi own.length
  unfold wonR
  cases z : Rt own mv (inL goal) own.length i
  · exact decide_eq_false (fun q => by have := a.1 q.1; rw [z] at this; exact absurd this (by decide))
  · have := a.2 z
    exact decide_eq_true ⟨this, by omega⟩
def WiR (own : List Int) (mv : List (List Int)) (goal : List Int) : List Int × Int := if exR own mv goal = 0 then (asc (wonR own mv goal) own.length, 0) else ([], exR own mv goal)
theorem WiR_0 {own : List Int} {mv : List (List Int)} {goal : List Int} (h : exR own mv goal = 0) : WiR own mv goal = (asc (wonR own mv goal) own.length, 0) := if_pos h
theorem WiR_n {own : List Int} {mv : List (List Int)} {goal : List Int} (h : ¬ exR own mv goal = 0) : WiR own mv goal = ([], exR own mv goal) := if_neg h
theorem Wins_ev (own : List Int) (mv : List (List Int)) (hs : ∀ m ∈ mv, m.length ≤ 100) (goal : List Int) (hl : goal.length ≤ 100) : Ev (fun k => lure_Wins.f k own mv goal) (WiR own mv goal) := by
  unfold lure_Wins.f
  refine evb (examine_ev own mv hs goal hl) ?_
  by_cases h : exR own mv goal = 0
  · rw [WiR_0 h]
    obtain ⟨h1, h2⟩ := exR_ok h
    exact evp h (evb (wins_ev (vlR_ok hs h1) goal (setB_in h2)) (Ev.now _))
  · rw [WiR_n h]; exact evn h (Ev.now _)
theorem all_eq {own : List Int} {mv : List (List Int)} (G : VG own mv) : wigeonref04_all.f own mv = some ((rv (fun _ => true) own.length : Nat) : Int) := by
  have n16 := G.n2
  unfold wigeonref04_all.f
  have e : ∀ n, rv (fun _ => true) n + 1 = 2 ^ n := fun n => by
    induction n with
    | zero => rfl
    | succ n ih => unfold rv; rw [if_pos rfl, Nat.pow_succ]; omega
  have p := pow_small n16
  have q := e own.length
  rw [uw (by omega), if_pos (by omega), shl1 n16, w64 (by omega) (by omega)]
  congr 1
  omega
theorem known_ev : Ev (fun k => wigeonlaw04_known.f k) true := Ev.of wigeonlaw04_known.mono (k := 100) (by decide +kernel)

theorem has_l0 (l : List Int) (x : Int) (hl : l.length ≤ 1000) : ∀ d i : Nat, i + d = l.length → Ev (fun k => wigeonref04_Has.l0 k l x (i : Int)) (decide (x ∈ l.drop i))
  | 0, i, h => by
    refine Ev.step (fun k => wigeonref04_Has.l0.eq_2 ..) (evn (by omega) ?_)
    rw [List.drop_eq_nil_of_le (by omega)]; exact ev_eq (Ev.now _) (by simp)
  | d + 1, i, h => by
    have hlt : i < l.length := by omega
    have R := has_l0 l x hl d (i + 1) (by omega)
    refine Ev.step (fun k => wigeonref04_Has.l0.eq_2 ..) (evp (by omega) (evp (by omega) ?_))
    rw [rd_at l i hlt, w64 (n := (i : Int) + 1) (by omega) (by omega)]
    by_cases q : l[i] = x
    · exact ev_eq (evp q (Ev.now _)) (decide_eq_true (by rw [List.drop_eq_getElem_cons hlt, q]; exact List.mem_cons_self)).symm
    · exact ev_eq (evn q R) (decide_eq_decide.2 (by rw [List.drop_eq_getElem_cons hlt, List.mem_cons]; exact ⟨Or.inr, fun z => z.elim (fun y => absurd y.symm q) id⟩))
theorem has_ev (l : List Int) (x : Int) (hl : l.length ≤ 1000) : Ev (fun k => wigeonref04_Has.f k l x) (decide (x ∈ l)) := has_l0 l x hl l.length 0 (by omega)
theorem stB_iff (n : Int) : ∀ (l : List Int) (lo : Int), stB n lo l = true ↔ (∀ x ∈ l, 0 ≤ x ∧ x < n) ∧ List.Pairwise (· < ·) (lo :: l)
  | [], lo => by simp [stB]
  | x :: l, lo => by
    unfold stB
    rw [Bool.and_eq_true, Bool.and_eq_true, decide_eq_true_eq, decide_eq_true_eq, stB_iff n l x]
    constructor
    · rintro ⟨a, b, c, d⟩
      refine ⟨fun y hy => ?_, List.pairwise_cons.2 ⟨fun y hy => ?_, d⟩⟩
      · rcases List.mem_cons.1 hy with e | e
        · subst e; omega
        · exact c y e
      · rcases List.mem_cons.1 hy with e | e
        · subst e; exact b
        · have := (List.pairwise_cons.1 d).1 y e; omega
    · rintro ⟨a, b⟩
      obtain ⟨b1, b2⟩ := List.pairwise_cons.1 b
      have := a x List.mem_cons_self
      exact ⟨by omega, b1 x List.mem_cons_self, fun y hy => a y (List.mem_cons_of_mem _ hy), b2⟩
theorem asc_pair (q : Nat → Bool) : ∀ n, List.Pairwise (· < ·) (asc q n)
  | 0 => List.Pairwise.nil
  | n + 1 => by
    rw [asc_succ]
    refine List.pairwise_append.2 ⟨asc_pair q n, by split <;> simp, fun a ha b hb => ?_⟩
    obtain ⟨k, rfl, hk, _⟩ := (asc_mem q n a).1 ha
    split at hb
    · have := List.mem_singleton.1 hb; omega
    · exact absurd hb (by simp)
theorem pair_ext : ∀ l m : List Int, List.Pairwise (· < ·) l → List.Pairwise (· < ·) m → (∀ x, x ∈ l ↔ x ∈ m) → l = m
  | [], m, _, _, h => by
    cases m with
    | nil => rfl
    | cons b t => exact absurd ((h b).2 (List.mem_cons_self ..)) List.not_mem_nil
  | a :: l, [], _, _, h => absurd ((h a).1 (List.mem_cons_self ..)) List.not_mem_nil
  | a :: l, b :: m, h1, h2, h => by
    obtain ⟨p1, q1⟩ := List.pairwise_cons.1 h1
    obtain ⟨p2, q2⟩ := List.pairwise_cons.1 h2
    have e : a = b := by
      rcases List.mem_cons.1 ((h a).1 (List.mem_cons_self ..)) with r | r
      · exact r
      · rcases List.mem_cons.1 ((h b).2 (List.mem_cons_self ..)) with s | s
        · exact s.symm
        · have := p2 a r; have := p1 b s; omega
    subst e
    congr 1
    refine pair_ext l m q1 q2 fun x => ⟨fun z => ?_, fun z => ?_⟩
    · rcases List.mem_cons.1 ((h x).1 (List.mem_cons_of_mem _ z)) with r | r
      · have := p1 x z; omega
      · exact r
    · rcases List.mem_cons.1 ((h x).2 (List.mem_cons_of_mem _ z)) with r | r
      · have := p2 x z; omega
      · exact r
theorem set_asc {l : List Int} {n : Nat} (h : setB l (n : Int) = true) : asc (inL l) n = l := by
  obtain ⟨h1, h2⟩ := (stB_iff (n : Int) l (-1)).1 h
  refine pair_ext _ _ (asc_pair _ _) (List.pairwise_cons.1 h2).2 fun x => ?_
  rw [asc_mem]
  constructor
  · rintro ⟨k, rfl, _, y⟩
    exact of_decide_eq_true y
  · intro y
    obtain ⟨a, b⟩ := h1 x y
    obtain ⟨k, rfl⟩ := Int.eq_ofNat_of_zero_le a
    exact ⟨k, rfl, by omega, decide_eq_true y⟩
theorem inL_asc {q : Nat → Bool} {n i : Nat} (h : i < n) : inL (asc q n) i = q i := by
  unfold inL
  cases y : q i
  · refine decide_eq_false fun m => ?_
    obtain ⟨k, e, _, z⟩ := (asc_mem q n _).1 m
    obtain rfl : i = k := by omega
    rw [y] at z; exact absurd z (by decide)
  · exact decide_eq_true ((asc_mem q n _).2 ⟨i, rfl, h, y⟩)
theorem asc_filter (q : Nat → Bool) (p : Int → Bool) : ∀ n, (asc q n).filter p = asc (fun i => q i && p (i : Int)) n
  | 0 => rfl
  | n + 1 => by
    rw [asc_succ, asc_succ, List.filter_append, asc_filter q p n]
    congr 1
    cases q n
    · rfl
    · show List.filter p [(n : Int)] = if p (n : Int) = true then [(n : Int)] else []
      cases y : p (n : Int)
      · rw [List.filter_cons_of_neg (by rw [y]; decide)]; rfl
      · rw [List.filter_cons_of_pos y]; rfl
theorem asc_in (q : Nat → Bool) (n : Nat) : ∀ k ∈ asc q n, 0 ≤ k ∧ k < (n : Int) := fun k hk => by
  obtain ⟨i, rfl, hi, _⟩ := (asc_mem q n k).1 hk
  omega
/-- what is left of a set by a second one -/
theorem asc_both (T U : Nat → Bool) (n : Nat) : ((asc T n).filter fun x => decide (x ∈ asc U n)) = asc (fun i => T i && U i) n := by
  rw [asc_filter]
  refine asc_congr fun k hk => ?_
  rw [show decide ((k : Int) ∈ asc U n) = U k from inL_asc hk]
theorem both_len (T U : Nat → Bool) (n : Nat) : (asc (fun i => T i && U i) n).length = (asc T n).length ↔ ∀ i, i < n → T i = true → U i = true := by
  rw [← asc_both, List.length_filter_eq_length_iff]
  constructor
  · intro h i hi t
    have := of_decide_eq_true (h (i : Int) ((asc_mem T n _).2 ⟨i, rfl, hi, t⟩))
    obtain ⟨k, e, _, z⟩ := (asc_mem U n _).1 this
    obtain rfl : i = k := by omega
    exact z
  · intro h x hx
    obtain ⟨i, rfl, hi, t⟩ := (asc_mem T n x).1 hx
    exact decide_eq_true ((asc_mem U n _).2 ⟨i, rfl, hi, h i hi t⟩)
theorem both_le (T U : Nat → Bool) (n : Nat) : (asc (fun i => T i && U i) n).length ≤ (asc T n).length := by
  rw [← asc_both]; exact List.length_filter_le ..
theorem Rt_mono {own : List Int} {mv : List (List Int)} (G : VG own mv) {p q : Nat → Bool} (h : ∀ k, k < own.length → p k = true → q k = true) (t : Nat) : ∀ i, i < own.length → Rt own mv p t i = true → Rt own mv q t i = true := by
  induction t with
  | zero => exact h
  | succ t IH =>
    intro i hi z
    show (q i || fB own mv (Rt own mv q t) i) = true
    have z : (p i || fB own mv (Rt own mv p t) i) = true := z
    rw [Bool.or_eq_true] at z ⊢
    rcases z with z | z
    · exact Or.inl (h i hi z)
    · exact Or.inr (fB_mono G IH i hi z)
theorem bool_ext {a b : Bool} (h1 : a = true → b = true) (h2 : b = true → a = true) : a = b := by cases a <;> cases b <;> simp_all
theorem Rt_congr {own : List Int} {mv : List (List Int)} (G : VG own mv) {p q : Nat → Bool} (h : ∀ k, k < own.length → p k = q k) (t : Nat) {i : Nat} (hi : i < own.length) : Rt own mv p t i = Rt own mv q t i :=
  bool_ext (Rt_mono G (fun k hk z => (h k hk) ▸ z) t i hi) (Rt_mono G (fun k hk z => (h k hk).symm ▸ z) t i hi)
theorem wins_n {own : List Int} {mv : List (List Int)} (G : VG own mv) (T : Nat → Bool) : Ev (fun k => lure_ranked.f k own mv (asc T own.length) 0 (own.length : Int)) (asc (Rt own mv T own.length) own.length) := by
  refine ev_eq (ranked_ev G _ (asc_in T _) 0 (own.length : Int)) (asc_congr fun i hi => ?_)
  obtain ⟨a, b, c⟩ := rk_reach G (inL (asc T own.length)) hi own.length
  rw [← Rt_congr G (fun k hk => inL_asc (q := T) hk) own.length hi]
  cases z : Rt own mv (inL (asc T own.length)) own.length i
  · exact decide_eq_false (fun q => by have := a.1 q.1; rw [z] at this; exact absurd this (by decide))
  · have := a.2 z
    exact decide_eq_true ⟨this, c⟩
theorem again_step {own : List Int} {mv : List (List Int)} (G : VG own mv) (goal : List Int) (hg : ∀ k ∈ goal, 0 ≤ k ∧ k < (own.length : Int)) (hl : goal.length ≤ 1000) (T X : Nat → Bool) (hT : ∀ i, i < own.length → T i = (inL goal i && fB own mv X i)) (hX : ∀ i, i < own.length → Rt own mv T own.length i = true → X i = true)
    (IH : ¬ (asc (fun i => T i && fB own mv (Rt own mv T own.length) i) own.length).length = (asc T own.length).length → ∃ K : Nat → Bool, Ev (fun k => againF own mv k (asc (fun i => T i && fB own mv (Rt own mv T own.length) i) own.length)) (asc K own.length) ∧ Ev (fun k => wigeonref04_Again.l0 k goal (rv (Rt own mv T own.length) own.length : Int) own mv) (asc K own.length, 0) ∧ ∀ i, i < own.length → K i = true → wonR own mv goal i = true) :
    ∃ K : Nat → Bool, Ev (fun k => againF own mv k (asc T own.length)) (asc K own.length) ∧ Ev (fun k => wigeonref04_Again.l0 k goal (rv X own.length : Int) own mv) (asc K own.length, 0) ∧ ∀ i, i < own.length → K i = true → wonR own mv goal i = true := by
  have n16 := G.n2
  have L := asc_len T own.length
  have bt := bits_ev goal own.length n16 hg hl
  have e1 : asc (fun i => T i && fB own mv (inL (asc (Rt own mv T own.length) own.length)) i) own.length = asc (fun i => T i && fB own mv (Rt own mv T own.length) i) own.length := asc_congr fun k hk => by rw [fB_congr G (fun k hk => inL_asc hk) k hk]
  have eT : rv (fun i => inL goal i && fB own mv X i) own.length = rv T own.length := rv_congr (p := fun i => inL goal i && fB own mv X i) (q := T) fun k hk => (hT k hk).symm
  have sub : ∀ i, i < own.length → Rt own mv T own.length i = true → wonR own mv goal i = true := Rt_mono G (fun k hk z => by rw [hT k hk] at z; exact (Bool.and_eq_true_iff.1 z).1) own.length
  -- the document's step
  have D : ∀ r, (rv (Rt own mv T own.length) own.length = rv X own.length → Ev (fun k => wigeonref04_list.f k (rv X own.length : Int)) r) → (¬ rv (Rt own mv T own.length) own.length = rv X own.length → Ev (fun k => wigeonref04_Again.l0 k goal (rv (Rt own mv T own.length) own.length : Int) own mv) (r, 0)) → Ev (fun k => wigeonref04_Again.l0 k goal (rv X own.length : Int) own mv) (r, 0) := fun r y n => by
    refine Ev.step (fun k => wigeonref04_Again.l0.eq_2 ..) (evb bt (evb (rbefore_ev G X) ?_))
    rw [rv_and _ _ n16, eT]
    refine evb (won_ev G T) ?_
    by_cases c : rv (Rt own mv T own.length) own.length = rv X own.length
    · exact evp (by rw [c]) (evb (y c) (Ev.now _))
    · exact evn (by omega) (n c)
  by_cases q : (asc (fun i => T i && fB own mv (Rt own mv T own.length) i) own.length).length = (asc T own.length).length
  · refine ⟨Rt own mv T own.length, ?_, ?_, sub⟩
    · refine Ev.step (fun k => againF.eq_2 ..) (evp (by omega) (evb (wins_n G T) (evb (before_ev G _) ?_)))
      unfold befR
      rw [asc_both, e1]
      exact evp q (Ev.now _)
    · refine D _ (fun c => ?_) (fun c => ?_)
      · rw [← c]; exact list_ev _ _ n16
      · have tt := (both_len ..).1 q
        have mo : ∀ i, i < own.length → fB own mv (Rt own mv T own.length) i = true → fB own mv X i = true := fun i hi => fB_mono G hX i hi
        have eU : rv (fun i => inL goal i && fB own mv (Rt own mv T own.length) i) own.length = rv T own.length := rv_congr (p := fun i => inL goal i && fB own mv (Rt own mv T own.length) i) (q := T) fun k hk => by
          have a := tt k hk
          have b := mo k hk
          have e := hT k hk
          rw [e] at a ⊢
          revert a b
          cases inL goal k <;> cases fB own mv (Rt own mv T own.length) k <;> cases fB own mv X k <;> simp
        refine Ev.step (fun k => wigeonref04_Again.l0.eq_2 ..) (evb bt (evb (rbefore_ev G _) ?_))
        rw [rv_and _ _ n16, eU]
        exact evb (won_ev G T) (evp rfl (evb (list_ev _ _ n16) (Ev.now _)))
  · by_cases c : rv (Rt own mv T own.length) own.length = rv X own.length
    · have eX : ∀ k, k < own.length → Rt own mv T own.length k = X k := (rv_inj ..).1 c
      exfalso
      refine q ((both_len ..).2 fun i hi z => ?_)
      rw [fB_congr G eX i hi]
      rw [hT i hi] at z
      exact (Bool.and_eq_true_iff.1 z).2
    · obtain ⟨K, k1, k2, k3⟩ := IH q
      refine ⟨K, ?_, D _ (fun h => absurd h c) (fun _ => k2), k3⟩
      refine Ev.step (fun k => againF.eq_2 ..) (evp (by omega) (evb (wins_n G T) (evb (before_ev G _) ?_)))
      unfold befR
      rw [asc_both, e1]
      exact evn q k1
theorem again_both {own : List Int} {mv : List (List Int)} (G : VG own mv) (goal : List Int) (hg : ∀ k ∈ goal, 0 ≤ k ∧ k < (own.length : Int)) (hl : goal.length ≤ 1000) (d : Nat) : ∀ T X : Nat → Bool, (asc T own.length).length ≤ d → (∀ i, i < own.length → T i = (inL goal i && fB own mv X i)) → (∀ i, i < own.length → Rt own mv T own.length i = true → X i = true) →
    ∃ K : Nat → Bool, Ev (fun k => againF own mv k (asc T own.length)) (asc K own.length) ∧ Ev (fun k => wigeonref04_Again.l0 k goal (rv X own.length : Int) own mv) (asc K own.length, 0) ∧ ∀ i, i < own.length → K i = true → wonR own mv goal i = true := by
  have n16 := G.n2
  induction d with
  | zero =>
    intro T X h hT hX
    exact again_step G goal hg hl T X hT hX (fun q => by have := both_le T (fB own mv (Rt own mv T own.length)) own.length; omega)
  | succ d IH =>
    intro T X h hT hX
    refine again_step G goal hg hl T X hT hX (fun q => ?_)
    have := both_le T (fB own mv (Rt own mv T own.length)) own.length
    refine IH (fun i => T i && fB own mv (Rt own mv T own.length) i) (Rt own mv T own.length) (by omega) (fun i hi => ?_) (fun i hi z => ?_)
    · show (T i && fB own mv (Rt own mv T own.length) i) = _
      rw [hT i hi]
      have mo : fB own mv (Rt own mv T own.length) i = true → fB own mv X i = true := fB_mono G hX i hi
      revert mo
      cases inL goal i <;> cases fB own mv (Rt own mv T own.length) i <;> cases fB own mv X i <;> simp
    · exact Rt_mono G (fun k hk z => (Bool.and_eq_true .. ▸ z : _ ∧ _).1) own.length i hi z
theorem all_before {own : List Int} {mv : List (List Int)} (G : VG own mv) {i : Nat} (hi : i < own.length) : fB own mv (fun _ => true) i = true := by
  unfold fB forB
  have ne := G.ne i hi
  by_cases o : rd own (i : Int) = 0
  · rw [if_pos o]
    cases y : rd_L1 mv (i : Int) with
    | nil => exact absurd y ne
    | cons a t => rfl
  · rw [if_neg o]
    cases y : (rd_L1 mv (i : Int)).any fun k => !pS (fun _ => true) k
    · rfl
    · obtain ⟨k, _, z⟩ := List.any_eq_true.1 y
      exact absurd z (by unfold pS; simp)
theorem again_l0 (a wins : List Int) (e : Int) (hl : wins.length ≤ 1000) (ha : a.length ≤ 1000) (hz : ∀ z ∈ a, z ∈ wins) (d : Nat) : ∀ i : Nat, i + d = a.length → Ev (fun k => wigeonlaw04_LureAgain.l0 k a e wins e (i : Int)) true := by
  induction d with
  | zero =>
    intro i h
    exact Ev.step (fun k => wigeonlaw04_LureAgain.l0.eq_2 ..) (evn (by omega) (evp rfl (evb known_ev (Ev.now _))))
  | succ d IH =>
    intro i h
    have hi : i < a.length := by omega
    have W : wrap64 ((i : Int) + 1) = ((i + 1 : Nat) : Int) := by rw [w64 (by omega) (by omega)]; omega
    refine Ev.step (fun k => wigeonlaw04_LureAgain.l0.eq_2 ..) (evp (by omega) (evp (by omega) (evb (has_ev _ _ hl) ?_)))
    rw [W]
    refine evp ?_ (IH (i + 1) (by omega))
    rw [rd_at _ i hi]
    exact decide_eq_true (hz _ (List.getElem_mem hi))
theorem LureAgain (a0_0 : List Int) (a0_1 : List (List Int)) (a1 : List Int) (h0_0 : (a0_0.length ≤ 9223372036854775807 ∧ ∀ x_ ∈ a0_0, (Lit.int .i64 x_).wf = true)) (h0_1 : (a0_1.length ≤ 9223372036854775807 ∧ ∀ x_ ∈ a0_1, (x_.length ≤ 9223372036854775807 ∧ ∀ x__ ∈ x_, (Lit.int .i64 x__).wf = true))) (h1 : (a1.length ≤ 9223372036854775807 ∧ ∀ x_ ∈ a1, (Lit.int .i64 x_).wf = true)) : ∃ k, wigeonlaw04_LureAgain.f k a0_0 a0_1 a1 = some true := by
  refine Ev.rounds (g := fun k => wigeonlaw04_LureAgain.f k a0_0 a0_1 a1) ?_
  unfold wigeonlaw04_LureAgain.f
  refine evb (large_ev a0_0 a0_1) ?_
  have Z : Ev (fun k => wigeonlaw04_LureAgain.j0 k a1 true a0_0 a0_1) true := Ev.step (fun k => wigeonlaw04_LureAgain.j0.eq_2 ..) (evp rfl (evb known_ev (Ev.now _)))
  by_cases h : lgB a0_0 a0_1 = true
  · exact evp h Z
  refine evn h ?_
  obtain ⟨hn, _, hs⟩ := large_not h
  by_cases h2 : (a1.length : Int) > 100
  · rw [decide_eq_true h2]; exact Z
  rw [decide_eq_false h2]
  by_cases e : exR a0_0 a0_1 a1 = 0
  · obtain ⟨v, s⟩ := exR_ok e
    have G := vlR_ok hs v
    have n16 := G.n2
    obtain ⟨K, k1, k2, k3⟩ := again_both G a1 (setB_in s) (by omega) _ (inL a1) (fun _ => true) (Nat.le_refl _) (fun i hi => by rw [all_before G hi, Bool.and_true]) (fun _ _ _ => rfl)
    rw [set_asc s] at k1
    have L := asc_len K a0_0.length
    have L2 := asc_len (wonR a0_0 a0_1 a1) a0_0.length
    have A : Ev (fun k => lure_Again.f k a0_0 a0_1 a1) (asc K a0_0.length, 0) := by
      unfold lure_Again.f
      exact evb (examine_ev _ _ hs _ (by omega)) (evp e (evb k1 (Ev.now _)))
    have B : Ev (fun k => wigeonref04_Again.f k a0_0 a0_1 a1) (asc K a0_0.length, 0) := by
      unfold wigeonref04_Again.f
      exact evb (asked_ev _ _ hs _ (by omega)) (evp e (evs (all_eq G) k2))
    refine Ev.step (fun k => wigeonlaw04_LureAgain.j0.eq_2 ..) (evn (by decide) (evb A (evb B (evp rfl (evb (same_ev _ (by dsimp only; omega)) ?_)))))
    refine Ev.step (fun k => wigeonlaw04_LureAgain.j1.eq_2 ..) (evn (by decide) (evb (Wins_ev _ _ hs _ (by omega)) ?_))
    rw [WiR_0 e]
    refine again_l0 (asc K a0_0.length) (asc (wonR a0_0 a0_1 a1) a0_0.length) 0 (by omega) (by omega) (fun z hz => ?_) _ 0 (Nat.zero_add _)
    obtain ⟨i, rfl, hi, y⟩ := (asc_mem _ _ _).1 hz
    exact (asc_mem _ _ _).2 ⟨i, rfl, hi, k3 i hi y⟩
  · have A : Ev (fun k => lure_Again.f k a0_0 a0_1 a1) ([], exR a0_0 a0_1 a1) := by
      unfold lure_Again.f
      exact evb (examine_ev _ _ hs _ (by omega)) (evn e (Ev.now _))
    have B : Ev (fun k => wigeonref04_Again.f k a0_0 a0_1 a1) ([], exR a0_0 a0_1 a1) := by
      unfold wigeonref04_Again.f
      exact evb (asked_ev _ _ hs _ (by omega)) (evn e (Ev.now _))
    refine Ev.step (fun k => wigeonlaw04_LureAgain.j0.eq_2 ..) (evn (by decide) (evb A (evb B (evp rfl (evb (same_ev _ (Nat.zero_le _)) ?_)))))
    refine Ev.step (fun k => wigeonlaw04_LureAgain.j1.eq_2 ..) (evn (by decide) (evb (Wins_ev _ _ hs _ (by omega)) ?_))
    rw [WiR_n e]
    exact again_l0 [] [] _ (Nat.zero_le _) (Nat.zero_le _) (fun z hz => hz) _ 0 (Nat.zero_add _)

end Go.Proofs.Ytnmaonampilmoaa.Pure

