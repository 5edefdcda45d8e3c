/- Of the text PureLurePlans, what the row of LurePlans reaches. -/
import Derived.Test.YtnmaonampilmoaaZLurePlansLVx33
namespace Go.Proofs.Ytnmaonampilmoaa.Pure
set_option linter.unusedVariables false
set_option linter.unusedSimpArgs false
open Go.RowKit Go.Proofs.Ytnmaonampilmoaa.LV Go.Proofs.YtnmaonampilmoaaW.PrintWords Go.Proofs.YtnmaonampilmoaaW.PrintLast Go.Proofs.YtnmaonampilmoaaW.PrintMore

/-- a number that is no rank -/
def badR (l : List Int) : Bool := l.any fun r => !decide (-1 ≤ r ∧ r ≤ 16)

theorem evp {α : Type} {c : Prop} [Decidable c] {f g : Nat → Option α} {r : α} (h : c) (k : Ev f r) : Ev (fun n => if c then f n else g n) r :=
  Ev.congr (fun _ => if_pos h) k
theorem evn {α : Type} {c : Prop} [Decidable c] {f g : Nat → Option α} {r : α} (h : ¬ c) (k : Ev g r) : Ev (fun n => if c then f n else g n) r :=
  Ev.congr (fun _ => if_neg h) k
theorem evb {α β : Type} {g : Nat → Option α} {f : Nat → α → Option β} {a : α} {r : β} (h : Ev g a) (k : Ev (fun n => f n a) r) : Ev (fun n => (g n).bind (f n)) r := Ev.bind h k
theorem evs {α β : Type} {x : Option α} {f : Nat → α → Option β} {a : α} {r : β} (h : x = some a) (k : Ev (fun n => f n a) r) : Ev (fun n => x.bind (f n)) r := by
  subst h; exact k
theorem w64 {n : Int} (h : -9223372036854775808 ≤ n) (h2 : n ≤ 9223372036854775807) : wrap64 n = n := by unfold wrap64; omega
theorem rd_at (l : List Int) (i : Nat) (h : i < l.length) : rd l (i : Int) = l[i] := by
  simp [rd, List.getD_eq_getElem?_getD, List.getElem?_eq_getElem h]

/-- the number whose ones are told by q -/
def rv (q : Nat → Bool) : Nat → Nat
  | 0 => 0
  | n + 1 => rv q n + (if q n then 2 ^ n else 0)
theorem rv_lt (q : Nat → Bool) : ∀ n, rv q n < 2 ^ n
  | 0 => by simp [rv]
  | n + 1 => by
    have := rv_lt q n
    unfold rv
    rw [Nat.pow_succ]
    split <;> omega
theorem rv_bit (q : Nat → Bool) : ∀ n k, k < n → (rv q n).testBit k = q k
  | 0, k, h => absurd h (by omega)
  | n + 1, k, h => by
    unfold rv
    by_cases e : k = n
    · subst e
      have lo := Nat.testBit_lt_two_pow (rv_lt q k)
      cases hq : q k
      · rw [if_neg (by decide), Nat.add_zero]; exact lo
      · rw [if_pos rfl, Nat.add_comm, Nat.testBit_two_pow_add_eq, lo]; rfl
    · have R := rv_bit q n k (by omega)
      cases hq : q n
      · rw [if_neg (by decide), Nat.add_zero]; exact R
      · rw [if_pos rfl, Nat.add_comm, Nat.testBit_two_pow_add_gt (by omega)]; exact R
theorem i64_small (n : Int) (h : 0 ≤ n) (h2 : n < 2 ^ 62) : IntKind.i64.wrap n = n := by
  rw [IntKind.wrap_i64]
  rw [show (2 : Int) ^ 62 = 4611686018427387904 from by decide] at h2
  omega
theorem pow_small {k : Nat} (h : k ≤ 16) : 2 ^ k ≤ 65536 := Nat.le_trans (Nat.pow_le_pow_right (by decide) h) (by decide)
theorem pow_int (k : Nat) : (2 : Int) ^ k = ((2 ^ k : Nat) : Int) := by rw [Int.natCast_pow]; rfl
theorem shl1 {k : Nat} (h : k ≤ 16) : shl .i64 1 (k : Int) = ((2 ^ k : Nat) : Int) := by
  unfold shl
  have := pow_small h
  rw [Int.toNat_natCast, show IntKind.i64.bits = 64 from rfl, Nat.min_eq_left (by omega), Int.one_mul, pow_int]
  refine i64_small _ (Int.natCast_nonneg _) ?_
  rw [show (2 : Int) ^ 62 = 4611686018427387904 from by decide]
  generalize 2 ^ k = z at *
  omega
theorem bits64 (a b : Nat) (ha : a < 2 ^ 62) (hb : b < 2 ^ 62) : Go.bits .and .i64 (a : Int) (b : Int) = ((a &&& b : Nat) : Int) ∧ Go.bits .or .i64 (a : Int) (b : Int) = ((a ||| b : Nat) : Int) := bits_nat .i64 62 (by decide) i64_small a b ha hb
theorem bit_at (v k : Nat) (hv : v < 2 ^ 62) (hk : k ≤ 16) : Go.bits .and .i64 (shr .i64 (v : Int) (IntKind.u64.wrap (k : Int))) 1 = if v.testBit k then 1 else 0 := by
  have w : IntKind.u64.wrap (k : Int) = k := by
    simp only [IntKind.wrap, IntKind.bits, IntKind.signed, Bool.false_and]
    rw [if_neg (by decide)]
    omega
  rw [w]
  unfold shr
  rw [Int.toNat_natCast, show IntKind.i64.bits = 64 from rfl, Nat.min_eq_left (by omega), pow_int, ← Int.natCast_ediv]
  have lt : v / 2 ^ k < 2 ^ 62 := Nat.lt_of_le_of_lt (Nat.div_le_self _ _) hv
  have c := bits64 (v / 2 ^ k) 1 lt (by decide)
  have e : v / 2 ^ k &&& 1 = v / 2 ^ k % 2 := Nat.and_one_is_mod _
  rw [e] at c
  have f : ((v / 2 ^ k % 2 : Nat) : Int) = if v.testBit k then 1 else 0 := by
    rw [Nat.testBit_eq_decide_div_mod_eq]
    by_cases g : v / 2 ^ k % 2 = 1
    · rw [decide_eq_true g, if_pos rfl, g]; rfl
    · rw [decide_eq_false g, if_neg (by decide)]; omega
  rw [← f]
  exact c.1

theorem ev_eq {α : Type} {f : Nat → Option α} {r s : α} (h : Ev f r) (e : r = s) : Ev f s := e ▸ h
theorem rv_hi (q : Nat → Bool) {n k : Nat} (h : n ≤ k) : (rv q n).testBit k = false := Nat.testBit_lt_two_pow (Nat.lt_of_lt_of_le (rv_lt q n) (Nat.pow_le_pow_right (by decide) h))
theorem rv_ext (a : Nat) (q : Nat → Bool) (n : Nat) (h1 : ∀ k, k < n → a.testBit k = q k) (h2 : ∀ k, n ≤ k → a.testBit k = false) : a = rv q n := by
  refine Nat.eq_of_testBit_eq fun k => ?_
  rcases Nat.lt_or_ge k n with h | h
  · rw [h1 k h, rv_bit q n k h]
  · rw [h2 k h, rv_hi q h]
theorem rv_congr {p q : Nat → Bool} {n : Nat} (h : ∀ k, k < n → p k = q k) : rv p n = rv q n :=
  rv_ext _ q n (fun k hk => by rw [rv_bit p n k hk, h k hk]) (fun k hk => rv_hi p hk)
theorem rv_big (q : Nat → Bool) {n : Nat} (h : n ≤ 16) : rv q n < 2 ^ 62 := Nat.lt_of_lt_of_le (rv_lt q n) (Nat.pow_le_pow_right (by decide) (by omega))
theorem rv_and (p q : Nat → Bool) {n : Nat} (h : n ≤ 16) : Go.bits .and .i64 (rv p n : Int) (rv q n : Int) = ((rv (fun i => p i && q i) n : Nat) : Int) := by
  rw [(bits64 _ _ (rv_big p h) (rv_big q h)).1, rv_ext (rv p n &&& rv q n) (fun i => p i && q i) n (fun k hk => by rw [Nat.testBit_and, rv_bit p n k hk, rv_bit q n k hk]) (fun k hk => by rw [Nat.testBit_and, rv_hi p hk, Bool.false_and])]
theorem rv_or (p q : Nat → Bool) {n : Nat} (h : n ≤ 16) : Go.bits .or .i64 (rv p n : Int) (rv q n : Int) = ((rv (fun i => p i || q i) n : Nat) : Int) := by
  rw [(bits64 _ _ (rv_big p h) (rv_big q h)).2, rv_ext (rv p n ||| rv q n) (fun i => p i || q i) n (fun k hk => by rw [Nat.testBit_or, rv_bit p n k hk, rv_bit q n k hk]) (fun k hk => by rw [Nat.testBit_or, rv_hi p hk, rv_hi q hk, Bool.false_or])]
theorem uw {k : Nat} (h : k ≤ 100) : IntKind.u64.wrap (k : Int) = k := by
  simp only [IntKind.wrap, IntKind.bits, IntKind.signed, Bool.false_and]
  rw [if_neg (by decide)]
  omega
theorem pow_rv {k n : Nat} (h : k < n) : 2 ^ k = rv (fun i => decide (i = k)) n :=
  rv_ext _ _ n (fun j _ => by rw [Nat.testBit_two_pow]; exact decide_eq_decide.2 ⟨Eq.symm, Eq.symm⟩) (fun j hj => by rw [Nat.testBit_two_pow]; exact decide_eq_false (by omega))
theorem or_one (q : Nat → Bool) {n k : Nat} (h : n ≤ 16) (hk : k < n) : Go.bits .or .i64 (rv q n : Int) (shl .i64 1 (IntKind.u64.wrap (k : Int))) = ((rv (fun i => q i || decide (i = k)) n : Nat) : Int) := by
  rw [uw (by omega), shl1 (by omega), pow_rv hk]; exact rv_or _ _ h
theorem rv_0 (n : Nat) : rv (fun _ => false) n = 0 := by
  induction n with
  | zero => rfl
  | succ n ih => unfold rv; rw [ih]; rfl
theorem rv_zero {q : Nat → Bool} {n : Nat} : rv q n = 0 ↔ ∀ k, k < n → q k = false := by
  constructor
  · intro h k hk
    have := rv_bit q n k hk
    rw [h, Nat.zero_testBit] at this; exact this.symm
  · intro h
    rw [← rv_0 n]; exact rv_congr h
theorem rv_inj {p q : Nat → Bool} {n : Nat} : rv p n = rv q n ↔ ∀ k, k < n → p k = q k := by
  constructor
  · intro h k hk
    rw [← rv_bit p n k hk, h, rv_bit q n k hk]
  · exact rv_congr
/-- the numbers below n for which q holds, in ascending order -/
def asc (q : Nat → Bool) : Nat → List Int
  | 0 => []
  | n + 1 => asc q n ++ (if q n then [(n : Int)] else [])
theorem asc_mem (q : Nat → Bool) : ∀ (n : Nat) (x : Int), x ∈ asc q n ↔ ∃ k : Nat, x = k ∧ k < n ∧ q k = true
  | 0, x => by simp [asc]
  | n + 1, x => by
    unfold asc
    rw [List.mem_append, asc_mem q n x]
    constructor
    · rintro (⟨k, h1, h2, h3⟩ | h)
      · exact ⟨k, h1, by omega, h3⟩
      · by_cases e : q n = true
        · rw [if_pos e] at h
          exact ⟨n, by simpa using h, by omega, e⟩
        · rw [if_neg e] at h; exact absurd h (by simp)
    · rintro ⟨k, h1, h2, h3⟩
      by_cases e : k = n
      · subst e
        right; rw [if_pos h3, h1]; exact List.mem_cons_self
      · left; exact ⟨k, h1, by omega, h3⟩
/-- a list as a set -/
def inL (l : List Int) (i : Nat) : Bool := decide ((i : Int) ∈ l)
theorem bits_l0 (l : List Int) (n : Nat) (hn : n ≤ 16) (hl : ∀ x ∈ l, 0 ≤ x ∧ x < (n : Int)) (hs : l.length ≤ 1000) : ∀ d j : Nat, j + d = l.length → Ev (fun k => wigeonref04_bits.l0 k l (rv (inL (l.take j)) n : Int) (j : Int)) ((rv (inL l) n : Nat) : Int)
  | 0, j, e => by
    refine Ev.step (fun k => wigeonref04_bits.l0.eq_2 ..) (evn (by omega) ?_)
    rw [List.take_of_length_le (by omega)]; exact Ev.now _
  | d + 1, j, e => by
    have hj : j < l.length := by omega
    have R := bits_l0 l n hn hl hs d (j + 1) (by omega)
    obtain ⟨h0, h1⟩ := hl _ (List.getElem_mem hj)
    obtain ⟨x, hx⟩ := Int.eq_ofNat_of_zero_le h0
    have hx' : l[j] = (x : Int) := hx
    refine Ev.step (fun k => wigeonref04_bits.l0.eq_2 ..) (evp (by omega) (evp (by omega) ?_))
    rw [rd_at l j hj, hx', w64 (n := (j : Int) + 1) (by omega) (by omega)]
    refine evp (by rw [uw (by omega)]; omega) ?_
    rw [or_one _ hn (by omega)]
    rw [rv_congr (q := fun i => inL (l.take j) i || decide (i = x)) (fun k _ => by
      unfold inL
      rw [List.take_succ_eq_append_getElem hj, hx']
      rw [← Bool.decide_or]
      refine decide_eq_decide.2 ?_
      rw [List.mem_append, List.mem_singleton]
      constructor
      · rintro (h | h)
        · exact Or.inl h
        · exact Or.inr (by omega)
      · rintro (h | h)
        · exact Or.inl h
        · exact Or.inr (by omega))] at R
    exact R
theorem bits_ev (l : List Int) (n : Nat) (hn : n ≤ 16) (hl : ∀ x ∈ l, 0 ≤ x ∧ x < (n : Int)) (hs : l.length ≤ 1000) : Ev (fun k => wigeonref04_bits.f k l) ((rv (inL l) n : Nat) : Int) := by
  have := bits_l0 l n hn hl hs l.length 0 (by omega)
  rw [List.take_zero, show rv (inL []) n = 0 by rw [← rv_0 n]; exact rv_congr (fun k _ => by simp [inL])] at this
  exact this

theorem within_eq (a lo hi : Int) : lure_within.f a lo hi = some (decide (lo ≤ a ∧ a ≤ hi)) := by
  unfold lure_within.f
  by_cases h : a ≥ lo
  · rw [if_pos h, decide_eq_decide.2 (show a ≤ hi ↔ lo ≤ a ∧ a ≤ hi by omega)]
  · rw [if_neg h, decide_eq_false (show ¬ (lo ≤ a ∧ a ≤ hi) by omega)]
theorem rwithin_eq (a lo hi : Int) : wigeonref04_within.f a lo hi = some (decide (lo ≤ a ∧ a ≤ hi)) := by
  unfold wigeonref04_within.f
  by_cases h : a ≥ lo
  · rw [if_pos h, decide_eq_decide.2 (show a ≤ hi ↔ lo ≤ a ∧ a ≤ hi by omega)]
  · rw [if_neg h, decide_eq_false (show ¬ (lo ≤ a ∧ a ≤ hi) by omega)]
/-- ascending numbers from 0 to n - 1, above lo -/
def stB (n : Int) : Int → List Int → Bool
  | _, [] => true
  | lo, x :: l => decide (0 ≤ x ∧ x ≤ n - 1) && (decide (lo < x) && stB n x l)
def setB (l : List Int) (n : Int) : Bool := stB n (-1) l
def pv (l : List Int) (i : Nat) : Int := if i = 0 then -1 else rd l ((i : Int) - 1)
theorem isSet_l0 (l : List Int) (n : Int) (h0 : 0 ≤ n) (h1 : n ≤ 1000) (hl : l.length ≤ 1000) : ∀ d i : Nat, i + d = l.length → Ev (fun k => lure_isSet.l0 k l n l (l.length : Int) (i : Int)) (stB n (pv l i) (l.drop i))
  | 0, i, h => by
    refine Ev.step (fun k => lure_isSet.l0.eq_2 ..) (evn (by omega) ?_)
    rw [List.drop_eq_nil_of_le (by omega)]; exact Ev.now _
  | d + 1, i, h => by
    have hlt : i < l.length := by omega
    have R := isSet_l0 l n h0 h1 hl d (i + 1) (by omega)
    have hp : pv l (i + 1) = l[i] := by
      unfold pv
      rw [if_neg (by omega), show ((i + 1 : Nat) : Int) - 1 = (i : Int) by omega, rd_at l i hlt]
    rw [hp] at R
    refine Ev.step (fun k => lure_isSet.l0.eq_2 ..) (evp (by omega) (evp (by omega) (evp (by omega) (evs (within_eq _ _ _) ?_))))
    rw [rd_at l i hlt, List.drop_eq_getElem_cons hlt, w64 (n := n - 1) (by omega) (by omega), w64 (n := (i : Int) + 1) (by omega) (by omega)]
    unfold stB
    by_cases q : 0 ≤ l[i] ∧ l[i] ≤ n - 1
    · rw [decide_eq_true q, Bool.true_and]
      refine evp rfl ?_
      by_cases hi : i = 0
      · subst hi
        refine evn (by omega) ?_
        rw [show decide (pv l 0 < l[0]) = true from decide_eq_true (by unfold pv; rw [if_pos rfl]; omega), Bool.true_and]; exact R
      · refine evp (by omega) ?_
        rw [w64 (n := (i : Int) - 1) (by omega) (by omega)]
        refine evp (by omega) (evp (by omega) ?_)
        have e : pv l i = rd l ((i : Int) - 1) := if_neg hi
        rw [e]
        by_cases g : rd l ((i : Int) - 1) ≥ l[i]
        · rw [decide_eq_false (by omega), Bool.false_and]; exact evp g (Ev.now _)
        · rw [decide_eq_true (by omega), Bool.true_and]; exact evn g R
    · rw [decide_eq_false q, Bool.false_and]; exact evn (by decide) (Ev.now _)
theorem isSet_ev (l : List Int) (n : Int) (h0 : 0 ≤ n) (h1 : n ≤ 1000) (hl : l.length ≤ 1000) : Ev (fun k => lure_isSet.f k l n) (setB l n) := isSet_l0 l n h0 h1 hl l.length 0 (by omega)
theorem risSet_l0 (l : List Int) (n : Int) (h0 : 0 ≤ n) (h1 : n ≤ 1000) (hl : l.length ≤ 1000) : ∀ d i : Nat, i + d = l.length → Ev (fun k => wigeonref04_isSet.l0 k l n (i : Int)) (stB n (pv l i) (l.drop i))
  | 0, i, h => by
    refine Ev.step (fun k => wigeonref04_isSet.l0.eq_2 ..) (evn (by omega) ?_)
    rw [List.drop_eq_nil_of_le (by omega)]; exact Ev.now _
  | d + 1, i, h => by
    have hlt : i < l.length := by omega
    have R := risSet_l0 l n h0 h1 hl d (i + 1) (by omega)
    have hp : pv l (i + 1) = l[i] := by
      unfold pv
      rw [if_neg (by omega), show ((i + 1 : Nat) : Int) - 1 = (i : Int) by omega, rd_at l i hlt]
    rw [hp] at R
    refine Ev.step (fun k => wigeonref04_isSet.l0.eq_2 ..) (evp (by omega) (evp (by omega) (evs (rwithin_eq _ _ _) ?_)))
    rw [rd_at l i hlt, List.drop_eq_getElem_cons hlt, w64 (n := n - 1) (by omega) (by omega), w64 (n := (i : Int) + 1) (by omega) (by omega)]
    unfold stB
    by_cases q : 0 ≤ l[i] ∧ l[i] ≤ n - 1
    · rw [decide_eq_true q, Bool.true_and]
      refine evp rfl ?_
      by_cases hi : i = 0
      · subst hi
        refine evn (by omega) ?_
        rw [show decide (pv l 0 < l[0]) = true from decide_eq_true (by unfold pv; rw [if_pos rfl]; omega), Bool.true_and]; exact R
      · refine evp (by omega) ?_
        rw [w64 (n := (i : Int) - 1) (by omega) (by omega)]
        refine evp (by omega) (evp (by omega) ?_)
        have e : pv l i = rd l ((i : Int) - 1) := if_neg hi
        rw [e]
        by_cases g : l[i] ≤ rd l ((i : Int) - 1)
        · rw [decide_eq_false (by omega), Bool.false_and]; exact evp g (Ev.now _)
        · rw [decide_eq_true (by omega), Bool.true_and]; exact evn g R
    · rw [decide_eq_false q, Bool.false_and]; exact evn (by decide) (Ev.now _)
theorem risSet_ev (l : List Int) (n : Int) (h0 : 0 ≤ n) (h1 : n ≤ 1000) (hl : l.length ≤ 1000) : Ev (fun k => wigeonref04_isSet.f k l n) (setB l n) := risSet_l0 l n h0 h1 hl l.length 0 (by omega)
theorem stB_in {n : Int} : ∀ {l : List Int} {lo : Int}, stB n lo l = true → ∀ x ∈ l, 0 ≤ x ∧ x < n ∧ lo < x
  | [], _, _, x, hx => absurd hx (by simp)
  | y :: l, lo, h, x, hx => by
    unfold stB at h
    rw [Bool.and_eq_true, Bool.and_eq_true, decide_eq_true_eq, decide_eq_true_eq] at h
    rcases List.mem_cons.1 hx with e | e
    · subst e; omega
    · have := stB_in h.2.2 x e; omega
theorem setB_in {l : List Int} {n : Int} (h : setB l n = true) : ∀ x ∈ l, 0 ≤ x ∧ x < n := fun x hx => by
  have := stB_in h x hx; omega
/-- one place: whose turn, and its moves -/
def rowB (n : Int) (o : Int) (m : List Int) : Bool := decide (0 ≤ o ∧ o ≤ 1) && (!decide (m = []) && setB m n)
def vaB (n : Int) (own : List Int) (mv : List (List Int)) : Nat → Nat → Bool
  | 0, _ => true
  | d + 1, i => rowB n (rd own (i : Int)) (rd_L1 mv (i : Int)) && vaB n own mv d (i + 1)
def vlR (own : List Int) (mv : List (List Int)) : Int := if 1 ≤ (own.length : Int) ∧ (own.length : Int) ≤ 16 then (if mv.length = own.length then (if vaB (own.length : Int) own mv own.length 0 = true then 0 else 1) else 1) else 3
theorem small_row {mv : List (List Int)} (hs : ∀ m ∈ mv, m.length ≤ 100) (i : Nat) : (rd_L1 mv (i : Int)).length ≤ 100 := by
  by_cases h : i < mv.length
  · exact hs _ (getD_mem h)
  · have : rd_L1 mv (i : Int) = [] := by simp [rd_L1, List.getD_eq_getElem?_getD, List.getElem?_eq_none (show mv.length ≤ i by omega)]
    rw [this]; simp
theorem valid_l0 (own : List Int) (mv : List (List Int)) (hs : ∀ m ∈ mv, m.length ≤ 100) (hn : own.length ≤ 16) (hm : mv.length = own.length) : ∀ d i : Nat, i + d = own.length → Ev (fun k => lure_Validate.l0 k (own.length : Int) own (own.length : Int) (i : Int) own mv) (if vaB (own.length : Int) own mv d i = true then (0 : Int) else 1)
  | 0, i, h => by
    refine Ev.step (fun k => lure_Validate.l0.eq_2 ..) (evn (by omega) ?_)
    rw [show vaB (own.length : Int) own mv 0 i = true from rfl, if_pos rfl]; exact Ev.now _
  | d + 1, i, h => by
    have R := valid_l0 own mv hs hn hm d (i + 1) (by omega)
    have s := small_row hs i
    refine Ev.step (fun k => lure_Validate.l0.eq_2 ..) (evp (by omega) (evp (by omega) (evp (by omega) (evs (within_eq _ _ _) ?_))))
    rw [show vaB (own.length : Int) own mv (d + 1) i = (rowB (own.length : Int) (rd own (i : Int)) (rd_L1 mv (i : Int)) && vaB (own.length : Int) own mv d (i + 1)) from rfl, w64 (n := (i : Int) + 1) (by omega) (by omega)]
    unfold rowB
    by_cases q : 0 ≤ rd own (i : Int) ∧ rd own (i : Int) ≤ 1
    · rw [decide_eq_true q, Bool.true_and]
      refine evp rfl (evp (by omega) ?_)
      by_cases z : rd_L1 mv (i : Int) = []
      · rw [decide_eq_true z, Bool.not_true, Bool.false_and, Bool.false_and, if_neg (by decide)]
        exact evp (by rw [z]; rfl) (Ev.now _)
      · rw [decide_eq_false z, Bool.not_false, Bool.true_and]
        have zl : (rd_L1 mv (i : Int)).length ≠ 0 := fun e => z (List.length_eq_zero_iff.1 e)
        refine evn (by omega) (evb (isSet_ev _ _ (by omega) (by omega) (by omega)) ?_)
        cases setB (rd_L1 mv (i : Int)) (own.length : Int)
        · rw [Bool.false_and, if_neg (by decide)]; exact evn (by decide) (Ev.now _)
        · rw [Bool.true_and]; exact evp rfl R
    · rw [decide_eq_false q, Bool.false_and, Bool.false_and, if_neg (by decide)]; exact evn (by decide) (Ev.now _)
theorem valid_ev (own : List Int) (mv : List (List Int)) (hs : ∀ m ∈ mv, m.length ≤ 100) : Ev (fun k => lure_Validate.f k own mv) (vlR own mv) := by
  unfold lure_Validate.f vlR
  refine evs (within_eq _ _ _) ?_
  by_cases h : 1 ≤ (own.length : Int) ∧ (own.length : Int) ≤ 16
  · rw [decide_eq_true h, if_pos h]
    refine evp rfl ?_
    by_cases h2 : mv.length = own.length
    · rw [if_pos h2]; exact evp (by omega) (valid_l0 own mv hs (by omega) h2 own.length 0 (by omega))
    · rw [if_neg h2]; exact evn (by omega) (Ev.now _)
  · rw [decide_eq_false h, if_neg h]; exact evn (by decide) (Ev.now _)
theorem rvalid_l0 (own : List Int) (mv : List (List Int)) (hs : ∀ m ∈ mv, m.length ≤ 100) (hn : own.length ≤ 16) (hm : mv.length = own.length) : ∀ d i : Nat, i + d = own.length → Ev (fun k => wigeonref04_Validate.l0 k (own.length : Int) (i : Int) own mv) (if vaB (own.length : Int) own mv d i = true then (0 : Int) else 1)
  | 0, i, h => by
    refine Ev.step (fun k => wigeonref04_Validate.l0.eq_2 ..) (evn (by omega) ?_)
    rw [show vaB (own.length : Int) own mv 0 i = true from rfl, if_pos rfl]; exact Ev.now _
  | d + 1, i, h => by
    have R := rvalid_l0 own mv hs hn hm d (i + 1) (by omega)
    have s := small_row hs i
    refine Ev.step (fun k => wigeonref04_Validate.l0.eq_2 ..) (evp (by omega) (evp (by omega) (evp (by omega) (evs (rwithin_eq _ _ _) ?_))))
    rw [show vaB (own.length : Int) own mv (d + 1) i = (rowB (own.length : Int) (rd own (i : Int)) (rd_L1 mv (i : Int)) && vaB (own.length : Int) own mv d (i + 1)) from rfl, w64 (n := (i : Int) + 1) (by omega) (by omega)]
    unfold rowB
    by_cases q : 0 ≤ rd own (i : Int) ∧ rd own (i : Int) ≤ 1
    · rw [decide_eq_true q, Bool.true_and]
      refine evp rfl (evp (by omega) ?_)
      by_cases z : rd_L1 mv (i : Int) = []
      · rw [decide_eq_true z, Bool.not_true, Bool.false_and, Bool.false_and, if_neg (by decide)]
        exact evp (by rw [z]; rfl) (Ev.now _)
      · rw [decide_eq_false z, Bool.not_false, Bool.true_and]
        have zl : (rd_L1 mv (i : Int)).length ≠ 0 := fun e => z (List.length_eq_zero_iff.1 e)
        refine evn (by omega) (evb (risSet_ev _ _ (by omega) (by omega) (by omega)) ?_)
        cases setB (rd_L1 mv (i : Int)) (own.length : Int)
        · rw [Bool.false_and, if_neg (by decide)]; exact evn (by decide) (Ev.now _)
        · rw [Bool.true_and]; exact evp rfl R
    · rw [decide_eq_false q, Bool.false_and, Bool.false_and, if_neg (by decide)]; exact evn (by decide) (Ev.now _)
theorem rvalid_ev (own : List Int) (mv : List (List Int)) (hs : ∀ m ∈ mv, m.length ≤ 100) : Ev (fun k => wigeonref04_Validate.f k own mv) (vlR own mv) := by
  unfold wigeonref04_Validate.f vlR
  refine evs (rwithin_eq _ _ _) ?_
  by_cases h : 1 ≤ (own.length : Int) ∧ (own.length : Int) ≤ 16
  · rw [decide_eq_true h, if_pos h]
    refine evp rfl ?_
    by_cases h2 : mv.length = own.length
    · rw [if_pos h2]; exact evp (by omega) (rvalid_l0 own mv hs (by omega) h2 own.length 0 (by omega))
    · rw [if_neg h2]; exact evn (by omega) (Ev.now _)
  · rw [decide_eq_false h, if_neg h]; exact evn (by decide) (Ev.now _)
/-- a valid game -/
structure VG (own : List Int) (mv : List (List Int)) : Prop where
  n1 : 1 ≤ own.length
  n2 : own.length ≤ 16
  len : mv.length = own.length
  own_ : ∀ i : Nat, i < own.length → rd own (i : Int) = 0 ∨ rd own (i : Int) = 1
  ne : ∀ i : Nat, i < own.length → rd_L1 mv (i : Int) ≠ []
  set_ : ∀ i : Nat, i < own.length → setB (rd_L1 mv (i : Int)) (own.length : Int) = true
  small : ∀ i : Nat, (rd_L1 mv (i : Int)).length ≤ 100
theorem vaB_at {n : Int} {own : List Int} {mv : List (List Int)} : ∀ {d i : Nat}, vaB n own mv d i = true → ∀ j, i ≤ j → j < i + d → rowB n (rd own (j : Int)) (rd_L1 mv (j : Int)) = true
  | 0, i, _, j, h1, h2 => by omega
  | d + 1, i, h, j, h1, h2 => by
    unfold vaB at h
    rw [Bool.and_eq_true] at h
    by_cases e : j = i
    · subst e; exact h.1
    · exact vaB_at h.2 j (by omega) (by omega)
theorem vlR_ok {own : List Int} {mv : List (List Int)} (hs : ∀ m ∈ mv, m.length ≤ 100) (h : vlR own mv = 0) : VG own mv := by
  unfold vlR at h
  by_cases h1 : 1 ≤ (own.length : Int) ∧ (own.length : Int) ≤ 16
  · rw [if_pos h1] at h
    by_cases h2 : mv.length = own.length
    · rw [if_pos h2] at h
      by_cases h3 : vaB (own.length : Int) own mv own.length 0 = true
      · have r : ∀ i : Nat, i < own.length → _ := fun i hi => vaB_at h3 i (by omega) (by omega)
        unfold rowB at r
        simp only [Bool.and_eq_true, decide_eq_true_eq, Bool.not_eq_true', decide_eq_false_iff_not] at r
        exact ⟨by omega, by omega, h2, fun i hi => by have := (r i hi).1; omega, fun i hi => (r i hi).2.1, fun i hi => (r i hi).2.2, small_row hs⟩
      · rw [if_neg h3] at h; exact absurd h (by decide)
    · rw [if_neg h2] at h; exact absurd h (by decide)
  · rw [if_neg h1] at h; exact absurd h (by decide)
theorem VG.in_ {own : List Int} {mv : List (List Int)} (G : VG own mv) (i : Nat) (hi : i < own.length) : ∀ k ∈ rd_L1 mv (i : Int), 0 ≤ k ∧ k < (own.length : Int) := setB_in (G.set_ i hi)
def exR (own : List Int) (mv : List (List Int)) (set : List Int) : Int := if vlR own mv = 0 then (if setB set (own.length : Int) = true then 0 else 1) else vlR own mv
theorem exR_v {own : List Int} {mv : List (List Int)} {set : List Int} (h : ¬ vlR own mv = 0) : exR own mv set = vlR own mv := if_neg h
theorem exR_1 {own : List Int} {mv : List (List Int)} {set : List Int} (h : vlR own mv = 0) (h2 : ¬ setB set (own.length : Int) = true) : exR own mv set = 1 := (if_pos h).trans (if_neg h2)
theorem exR_0 {own : List Int} {mv : List (List Int)} {set : List Int} (h : vlR own mv = 0) (h2 : setB set (own.length : Int) = true) : exR own mv set = 0 := (if_pos h).trans (if_pos h2)
theorem exR_ok {own : List Int} {mv : List (List Int)} {set : List Int} (h : exR own mv set = 0) : vlR own mv = 0 ∧ setB set (own.length : Int) = true := by
  by_cases h1 : vlR own mv = 0
  · by_cases h2 : setB set (own.length : Int) = true
    · exact ⟨h1, h2⟩
    · rw [exR_1 h1 h2] at h; exact absurd h (by decide)
  · rw [exR_v h1] at h; exact absurd h h1
theorem examine_ev (own : List Int) (mv : List (List Int)) (hs : ∀ m ∈ mv, m.length ≤ 100) (set : List Int) (hl : set.length ≤ 100) : Ev (fun k => lure_examine.f k own mv [set]) (exR own mv set) := by
  unfold lure_examine.f
  refine evb (valid_ev own mv hs) ?_
  by_cases h : vlR own mv = 0
  · have G := vlR_ok hs h
    have a := G.n2
    refine evp h (Ev.step (fun k => lure_examine.l0.eq_2 ..) (evp (by simp) (evp (by decide) (evp (by simp) (evb (isSet_ev _ _ (by omega) (by omega) (by show set.length ≤ 1000; omega)) ?_)))))
    by_cases h2 : setB set (own.length : Int) = true
    · rw [exR_0 h h2]
      exact evp h2 (Ev.step (fun k => lure_examine.l0.eq_2 ..) (evn (by simp [wrap64]) (Ev.now _)))
    · rw [exR_1 h h2]; exact evn h2 (Ev.now _)
  · rw [exR_v h]; exact evn h (Ev.now _)
theorem asked_ev (own : List Int) (mv : List (List Int)) (hs : ∀ m ∈ mv, m.length ≤ 100) (set : List Int) (hl : set.length ≤ 100) : Ev (fun k => wigeonref04_asked.f k own mv set) (exR own mv set) := by
  unfold wigeonref04_asked.f
  refine evb (rvalid_ev own mv hs) ?_
  by_cases h : vlR own mv = 0
  · have G := vlR_ok hs h
    have a := G.n2
    refine evp h (evb (risSet_ev _ _ (by omega) (by omega) (by omega)) ?_)
    by_cases h2 : setB set (own.length : Int) = true
    · rw [exR_0 h h2]; exact evp h2 (Ev.now _)
    · rw [exR_1 h h2]; exact evn h2 (Ev.now _)
  · rw [exR_v h]; exact evn h (Ev.now _)

def lgB (own : List Int) (mv : List (List Int)) : Bool := decide (own.length > 100 ∨ mv.length > 100) || mv.any fun m => decide (m.length > 100)
theorem large_l0 (own : List Int) (mv : List (List Int)) (hm : mv.length ≤ 100) : ∀ d i : Nat, i + d = mv.length → Ev (fun k => wigeonlaw04_Large.l0 k (i : Int) own mv) ((mv.drop i).any fun m => decide (m.length > 100))
  | 0, i, h => by
    refine Ev.step (fun k => wigeonlaw04_Large.l0.eq_2 ..) (evn (by omega) ?_)
    rw [List.drop_eq_nil_of_le (by omega)]; exact Ev.now _
  | d + 1, i, h => by
    have hlt : i < mv.length := by omega
    have R := large_l0 own mv hm d (i + 1) (by omega)
    have e : rd_L1 mv (i : Int) = mv[i] := by simp [rd_L1, List.getD_eq_getElem?_getD, List.getElem?_eq_getElem hlt]
    refine Ev.step (fun k => wigeonlaw04_Large.l0.eq_2 ..) (evp (by omega) (evp (by omega) ?_))
    rw [e, List.drop_eq_getElem_cons hlt, List.any_cons, w64 (by omega) (by omega)]
    by_cases q : (mv[i]).length > 100
    · rw [decide_eq_true q, Bool.true_or]; exact evp (by omega) (Ev.now _)
    · rw [decide_eq_false q, Bool.false_or]; exact evn (by omega) R
theorem large_ev (own : List Int) (mv : List (List Int)) : Ev (fun k => wigeonlaw04_Large.f k own mv) (lgB own mv) := by
  unfold wigeonlaw04_Large.f lgB
  by_cases h : (own.length : Int) > 100
  · rw [decide_eq_true (show own.length > 100 ∨ mv.length > 100 by omega), Bool.true_or]; exact evp h (Ev.step (fun k => wigeonlaw04_Large.j0.eq_2 ..) (evp rfl (Ev.now _)))
  · refine evn h (Ev.step (fun k => wigeonlaw04_Large.j0.eq_2 ..) ?_)
    by_cases h2 : (mv.length : Int) > 100
    · rw [decide_eq_true (show own.length > 100 ∨ mv.length > 100 by omega), Bool.true_or]; exact evp (decide_eq_true h2) (Ev.now _)
    · rw [decide_eq_false (show ¬ (own.length > 100 ∨ mv.length > 100) by omega), Bool.false_or]
      exact evn (by simpa using h2) (large_l0 own mv (by omega) mv.length 0 (by omega))
theorem large_not {own : List Int} {mv : List (List Int)} (h : ¬ lgB own mv = true) : own.length ≤ 100 ∧ mv.length ≤ 100 ∧ ∀ m ∈ mv, m.length ≤ 100 := by
  unfold lgB at h
  rw [Bool.or_eq_true, not_or, decide_eq_true_eq, Bool.not_eq_true, List.any_eq_false] at h
  refine ⟨by omega, by omega, fun m hm => ?_⟩
  have := h.2 m hm
  simp at this; exact this
/-- a set of places as a test of numbers -/
def pS (S : Nat → Bool) (k : Int) : Bool := S k.toNat
/-- from where the man makes sure of a set -/
def fB (own : List Int) (mv : List (List Int)) (S : Nat → Bool) (i : Nat) : Bool := forB own mv (i : Int) (pS S)
theorem any_ex {l : List Int} {n : Nat} (h : ∀ k ∈ l, 0 ≤ k ∧ k < (n : Int)) (S : Nat → Bool) : l.any (pS S) = false ↔ ∀ k, k < n → (inL l k && S k) = false := by
  rw [List.any_eq_false]
  constructor
  · intro a k hk
    by_cases m : (k : Int) ∈ l
    · have := a _ m
      unfold pS at this
      rw [Int.toNat_natCast] at this
      rw [Bool.not_eq_true] at this
      rw [this, Bool.and_false]
    · unfold inL; rw [decide_eq_false m, Bool.false_and]
  · intro a x hx
    obtain ⟨h0, h1⟩ := h x hx
    obtain ⟨k, rfl⟩ := Int.eq_ofNat_of_zero_le h0
    have := a k (by omega)
    unfold inL at this
    rw [decide_eq_true hx, Bool.true_and] at this
    unfold pS
    rw [Int.toNat_natCast, this]; decide
theorem all_ex {l : List Int} {n : Nat} (h : ∀ k ∈ l, 0 ≤ k ∧ k < (n : Int)) (S : Nat → Bool) : (l.any fun k => !pS S k) = false ↔ ∀ k, k < n → (inL l k && S k) = inL l k := by
  rw [List.any_eq_false]
  constructor
  · intro a k hk
    by_cases m : (k : Int) ∈ l
    · have := a _ m
      unfold pS at this
      rw [Int.toNat_natCast] at this
      simp at this
      rw [this, Bool.and_true]
    · unfold inL; rw [decide_eq_false m, Bool.false_and]
  · intro a x hx
    obtain ⟨h0, h1⟩ := h x hx
    obtain ⟨k, rfl⟩ := Int.eq_ofNat_of_zero_le h0
    have := a k (by omega)
    unfold inL at this
    rw [decide_eq_true hx, Bool.true_and] at this
    unfold pS
    rw [Int.toNat_natCast, this]; decide
theorem rbefore_l0 {own : List Int} {mv : List (List Int)} (G : VG own mv) (S : Nat → Bool) : ∀ d i : Nat, i + d = own.length → Ev (fun k => wigeonref04_before.l0 k (rv S own.length : Int) (rv (fun j => decide (j < i) && fB own mv S j) own.length : Int) (i : Int) own mv) ((rv (fB own mv S) own.length : Nat) : Int)
  | 0, i, h => by
    refine Ev.step (fun k => wigeonref04_before.l0.eq_2 ..) (evn (by omega) ?_)
    rw [rv_congr (p := fun j => decide (j < i) && fB own mv S j) (q := fB own mv S) (fun k hk => by rw [decide_eq_true (show k < i by omega), Bool.true_and])]; exact Ev.now _
  | d + 1, i, h => by
    have hlt : i < own.length := by omega
    have n16 := G.n2
    have gl := G.len
    have R := rbefore_l0 G S d (i + 1) (by omega)
    have Rn : fB own mv S i = false → Ev (fun k => wigeonref04_before.l0 k (rv S own.length : Int) (rv (fun j => decide (j < i) && fB own mv S j) own.length : Int) ((i : Int) + 1) own mv) ((rv (fB own mv S) own.length : Nat) : Int) := fun e => by
      rw [rv_congr (p := fun j => decide (j < i + 1) && fB own mv S j) (q := fun j => decide (j < i) && fB own mv S j) (fun k hk => by
        by_cases q : k = i
        · subst q; rw [e, Bool.and_false, Bool.and_false]
        · rw [decide_eq_decide.2 (show k < i + 1 ↔ k < i by omega)])] at R
      exact R
    have Ry : fB own mv S i = true → Ev (fun k => wigeonref04_before.l0 k (rv S own.length : Int) (Go.bits .or .i64 (rv (fun j => decide (j < i) && fB own mv S j) own.length : Int) (shl .i64 1 (IntKind.u64.wrap (i : Int)))) ((i : Int) + 1) own mv) ((rv (fB own mv S) own.length : Nat) : Int) := fun e => by
      rw [or_one _ n16 hlt]
      rw [rv_congr (p := fun j => decide (j < i + 1) && fB own mv S j) (q := fun j => (decide (j < i) && fB own mv S j) || decide (j = i)) (fun k hk => by
        by_cases q : k = i
        · subst q; rw [e, decide_eq_true (show k < k + 1 by omega), decide_eq_true rfl]; simp
        · rw [decide_eq_decide.2 (show k < i + 1 ↔ k < i by omega), decide_eq_false q, Bool.or_false])] at R
      exact R
    have hin := G.in_ i hlt
    have u0 : 0 ≤ IntKind.u64.wrap (i : Int) := by rw [uw (by omega)]; omega
    refine Ev.step (fun k => wigeonref04_before.l0.eq_2 ..) (evp (by omega) (evp (by omega) (evp (by omega) (evb (bits_ev _ own.length n16 hin (by have := G.small i; omega)) ?_))))
    rw [rv_and _ _ n16, w64 (n := (i : Int) + 1) (by omega) (by omega)]
    have A := any_ex hin S
    have B := all_ex hin S
    rw [← rv_zero] at A
    rw [← rv_inj] at B
    rcases G.own_ i hlt with o | o
    · have f : fB own mv S i = (rd_L1 mv (i : Int)).any (pS S) := if_pos o
      refine evp o ?_
      by_cases q : rv (fun k => inL (rd_L1 mv (i : Int)) k && S k) own.length = 0
      · refine evp (by rw [q]; rfl) (evn (by omega) (Rn ?_))
        rw [f]; exact A.2 q
      · refine evn (by omega) (evp u0 (Ry ?_))
        rw [f]
        cases z : (rd_L1 mv (i : Int)).any (pS S)
        · exact absurd (A.1 z) q
        · rfl
    · have f : fB own mv S i = !((rd_L1 mv (i : Int)).any fun k => !pS S k) := if_neg (by omega)
      refine evn (by omega) (evp o ?_)
      by_cases q : rv (fun k => inL (rd_L1 mv (i : Int)) k && S k) own.length = rv (inL (rd_L1 mv (i : Int))) own.length
      · refine evp (by rw [q]) (evp u0 (Ry ?_))
        rw [f, B.2 q]; rfl
      · refine evn (by omega) (Rn ?_)
        rw [f]
        cases z : ((rd_L1 mv (i : Int)).any fun k => !pS S k)
        · exact absurd (B.1 z) q
        · rfl
theorem rbefore_ev {own : List Int} {mv : List (List Int)} (G : VG own mv) (S : Nat → Bool) : Ev (fun k => wigeonref04_before.f k own mv (rv S own.length : Int)) ((rv (fB own mv S) own.length : Nat) : Int) := by
  have R := rbefore_l0 G S own.length 0 (by omega)
  rw [rv_congr (p := fun j => decide (j < 0) && fB own mv S j) (q := fun _ => false) (fun k hk => by rw [decide_eq_false (by omega), Bool.false_and]), rv_0] at R
  exact R
theorem forB_congr {own : List Int} {mv : List (List Int)} {i : Int} {p q : Int → Bool} (h : ∀ k ∈ rd_L1 mv i, p k = q k) : forB own mv i p = forB own mv i q := by
  have e : ∀ (l : List Int), (∀ k ∈ l, p k = q k) → l.any p = l.any q ∧ (l.any fun k => !p k) = (l.any fun k => !q k) := fun l => by
    induction l with
    | nil => intro _; exact ⟨rfl, rfl⟩
    | cons x l ih =>
      intro a
      obtain ⟨i1, i2⟩ := ih (fun k hk => a k (List.mem_cons_of_mem _ hk))
      simp only [List.any_cons]
      rw [i1, i2, a x List.mem_cons_self]
      exact ⟨rfl, rfl⟩
  obtain ⟨e1, e2⟩ := e _ h
  unfold forB
  rw [e1, e2]

/-- what is reached in so many moves -/
def Rt (own : List Int) (mv : List (List Int)) (g : Nat → Bool) : Nat → Nat → Bool
  | 0, i => g i
  | t + 1, i => g i || fB own mv (Rt own mv g t) i
/-- the rank, as far as t moves tell -/
def rk (own : List Int) (mv : List (List Int)) (g : Nat → Bool) : Nat → Nat → Int
  | 0, i => if g i then 0 else -1
  | t + 1, i => if 0 ≤ rk own mv g t i then rk own mv g t i else if Rt own mv g (t + 1) i then ((t + 1 : Nat) : Int) else -1
theorem fB_congr {own : List Int} {mv : List (List Int)} (G : VG own mv) {p q : Nat → Bool} (h : ∀ k, k < own.length → p k = q k) (i : Nat) (hi : i < own.length) : fB own mv p i = fB own mv q i := by
  refine forB_congr fun k hk => ?_
  obtain ⟨h0, h1⟩ := G.in_ i hi k hk
  exact h k.toNat (by omega)
theorem fB_mono {own : List Int} {mv : List (List Int)} (G : VG own mv) {p q : Nat → Bool} (h : ∀ k, k < own.length → p k = true → q k = true) (i : Nat) (hi : i < own.length) : fB own mv p i = true → fB own mv q i = true := by
  have hin := G.in_ i hi
  have e : ∀ k ∈ rd_L1 mv (i : Int), pS p k = true → pS q k = true := fun k hk hp => by
    obtain ⟨h0, h1⟩ := hin k hk
    exact h k.toNat (by omega) hp
  unfold fB forB
  by_cases o : rd own (i : Int) = 0
  · rw [if_pos o, if_pos o, List.any_eq_true, List.any_eq_true]
    rintro ⟨k, h1, h2⟩
    exact ⟨k, h1, e k h1 h2⟩
  · rw [if_neg o, if_neg o, Bool.not_eq_true', Bool.not_eq_true', List.any_eq_false, List.any_eq_false]
    intro a k hk
    have := a k hk
    simp at this ⊢
    exact e k hk this
theorem Rt_up {own : List Int} {mv : List (List Int)} (G : VG own mv) (g : Nat → Bool) : ∀ (t i : Nat), i < own.length → Rt own mv g t i = true → Rt own mv g (t + 1) i = true
  | 0, i, hi, h => by
    show (g i || _) = true
    rw [show g i = true from h, Bool.true_or]
  | t + 1, i, hi, h => by
    have h : (g i || fB own mv (Rt own mv g t) i) = true := h
    show (g i || fB own mv (Rt own mv g (t + 1)) i) = true
    rw [Bool.or_eq_true] at h ⊢
    rcases h with h | h
    · exact Or.inl h
    · exact Or.inr (fB_mono G (fun k hk => Rt_up G g t k hk) i hi h)
theorem Rt_le {own : List Int} {mv : List (List Int)} (G : VG own mv) (g : Nat → Bool) {i : Nat} (hi : i < own.length) : ∀ (d t : Nat), Rt own mv g t i = true → Rt own mv g (t + d) i = true
  | 0, _, h => h
  | d + 1, t, h => Rt_up G g (t + d) i hi (Rt_le G g hi d t h)
theorem rk_reach {own : List Int} {mv : List (List Int)} (G : VG own mv) (g : Nat → Bool) {i : Nat} (hi : i < own.length) : ∀ t, (0 ≤ rk own mv g t i ↔ Rt own mv g t i = true) ∧ -1 ≤ rk own mv g t i ∧ rk own mv g t i ≤ t
  | 0 => by
    show (0 ≤ (if g i then (0 : Int) else -1) ↔ g i = true) ∧ -1 ≤ (if g i then (0 : Int) else -1) ∧ (if g i then (0 : Int) else -1) ≤ ((0 : Nat) : Int)
    cases g i <;> simp
  | t + 1 => by
    obtain ⟨a, b, c⟩ := rk_reach G g hi t
    show (0 ≤ (if 0 ≤ rk own mv g t i then rk own mv g t i else if Rt own mv g (t + 1) i then ((t + 1 : Nat) : Int) else -1) ↔ _) ∧ -1 ≤ (if 0 ≤ rk own mv g t i then rk own mv g t i else if Rt own mv g (t + 1) i then ((t + 1 : Nat) : Int) else -1) ∧ (if 0 ≤ rk own mv g t i then rk own mv g t i else if Rt own mv g (t + 1) i then ((t + 1 : Nat) : Int) else -1) ≤ ((t + 1 : Nat) : Int)
    by_cases q : 0 ≤ rk own mv g t i
    · rw [if_pos q]
      exact ⟨⟨fun _ => Rt_up G g t i hi (a.1 q), fun _ => q⟩, by omega, by omega⟩
    · rw [if_neg q]
      cases z : Rt own mv g (t + 1) i
      · rw [if_neg (by decide)]; exact ⟨⟨fun h => absurd h (by decide), fun h => absurd h (by decide)⟩, by omega, by omega⟩
      · rw [if_pos rfl]; exact ⟨⟨fun _ => rfl, fun _ => by omega⟩, by omega, by omega⟩
/-- a rank that is there at t stays -/
theorem rk_stay {own : List Int} {mv : List (List Int)} (g : Nat → Bool) {i t : Nat} (h : 0 ≤ rk own mv g t i) : ∀ d, rk own mv g (t + d) i = rk own mv g t i
  | 0 => rfl
  | d + 1 => by
    have e := rk_stay g h d
    show (if 0 ≤ rk own mv g (t + d) i then rk own mv g (t + d) i else _) = _
    rw [if_pos (by omega), e]
theorem rk_within {own : List Int} {mv : List (List Int)} (G : VG own mv) (g : Nat → Bool) {i : Nat} (hi : i < own.length) {t n : Nat} (htn : t ≤ n) : Rt own mv g t i = true ↔ 0 ≤ rk own mv g n i ∧ rk own mv g n i ≤ t := by
  obtain ⟨a, b, c⟩ := rk_reach G g hi t
  constructor
  · intro h
    have p := a.2 h
    have e := rk_stay (own := own) (mv := mv) g p (n - t)
    rw [show t + (n - t) = n by omega] at e
    omega
  · rintro ⟨h1, h2⟩
    by_cases q : 0 ≤ rk own mv g t i
    · exact a.1 q
    · -- the rank came later than t
      have late : ∀ d, rk own mv g (t + d) i < 0 ∨ (t : Int) < rk own mv g (t + d) i := by
        intro d
        induction d with
        | zero => left; show rk own mv g t i < 0; omega
        | succ d ih =>
          show (if 0 ≤ rk own mv g (t + d) i then rk own mv g (t + d) i else if Rt own mv g (t + d + 1) i then ((t + d + 1 : Nat) : Int) else -1) < 0 ∨ (t : Int) < (if 0 ≤ rk own mv g (t + d) i then rk own mv g (t + d) i else if Rt own mv g (t + d + 1) i then ((t + d + 1 : Nat) : Int) else -1)
          by_cases z : 0 ≤ rk own mv g (t + d) i
          · rw [if_pos z]; omega
          · rw [if_neg z]
            cases Rt own mv g (t + d + 1) i
            · left; rw [if_neg (by decide)]; decide
            · right; rw [if_pos rfl]; omega
      have := late (n - t)
      rw [show t + (n - t) = n by omega] at this
      omega
/-- how many are reached -/
def cnt (q : Nat → Bool) : Nat → Nat
  | 0 => 0
  | n + 1 => cnt q n + (if q n then 1 else 0)
theorem cnt_le (q : Nat → Bool) : ∀ n, cnt q n ≤ n
  | 0 => Nat.le_refl _
  | n + 1 => by have := cnt_le q n; unfold cnt; split <;> omega
theorem cnt_mono {p q : Nat → Bool} : ∀ {n : Nat}, (∀ k, k < n → p k = true → q k = true) → cnt p n ≤ cnt q n ∧ ((∃ k, k < n ∧ p k = false ∧ q k = true) → cnt p n < cnt q n)
  | 0, _ => ⟨Nat.le_refl _, fun ⟨k, h, _⟩ => absurd h (by omega)⟩
  | n + 1, h => by
    obtain ⟨a, b⟩ := cnt_mono (n := n) (fun k hk => h k (by omega))
    have c := h n (by omega)
    unfold cnt
    constructor
    · cases hp : p n
      · rw [if_neg (by decide)]; split <;> omega
      · rw [if_pos rfl, c hp, if_pos rfl]; omega
    · rintro ⟨k, h1, h2, h3⟩
      by_cases e : k = n
      · subst e
        rw [h2, h3, if_neg (by decide), if_pos rfl]; omega
      · have := b ⟨k, by omega, h2, h3⟩
        cases hp : p n
        · rw [if_neg (by decide)]; split <;> omega
        · rw [if_pos rfl, c hp, if_pos rfl]; omega
/-- nothing more is reached after t moves -/
def still (own : List Int) (mv : List (List Int)) (g : Nat → Bool) (t : Nat) : Prop := ∀ k, k < own.length → Rt own mv g (t + 1) k = Rt own mv g t k
theorem not_still {own : List Int} {mv : List (List Int)} (G : VG own mv) {g : Nat → Bool} {t : Nat} (h : ¬ still own mv g t) : ∃ k, k < own.length ∧ Rt own mv g t k = false ∧ Rt own mv g (t + 1) k = true := by
  refine Classical.byContradiction fun c => h fun k hk => ?_
  cases a : Rt own mv g t k
  · cases b : Rt own mv g (t + 1) k
    · rfl
    · exact absurd ⟨k, hk, a, b⟩ c
  · exact Rt_up G g t k hk a
theorem still_ex {own : List Int} {mv : List (List Int)} (G : VG own mv) (g : Nat → Bool) : ∃ t, t ≤ own.length ∧ still own mv g t ∧ ∀ s, s < t → ¬ still own mv g s := by
  have grow : ∀ t, (∀ s, s < t → ¬ still own mv g s) → t ≤ cnt (Rt own mv g t) own.length := by
    intro t
    induction t with
    | zero => intro _; exact Nat.zero_le _
    | succ t ih =>
      intro h
      have a := ih (fun s hs => h s (by omega))
      have b := (cnt_mono (p := Rt own mv g t) (q := Rt own mv g (t + 1)) (n := own.length) (fun k hk => Rt_up G g t k hk)).2 (not_still G (h t (by omega)))
      omega
  refine Classical.byContradiction fun c => ?_
  have all : ∀ t, t ≤ own.length + 1 → ∀ s, s < t → ¬ still own mv g s := by
    intro t
    induction t with
    | zero => intro _ s hs; omega
    | succ t ih =>
      intro ht s hs
      by_cases e : s = t
      · subst e
        intro q
        exact c ⟨s, by omega, q, ih (by omega)⟩
      · exact ih (by omega) s (by omega)
  have a := grow (own.length + 1) (all _ (Nat.le_refl _))
  have b := cnt_le (Rt own mv g (own.length + 1)) own.length
  omega
theorem still_on {own : List Int} {mv : List (List Int)} (G : VG own mv) {g : Nat → Bool} {t : Nat} (h : still own mv g t) : ∀ d k, k < own.length → Rt own mv g (t + d) k = Rt own mv g t k
  | 0, _, _ => rfl
  | d + 1, k, hk => by
    have e : Rt own mv g (t + d + 1) k = Rt own mv g (t + 1) k := by
      show (g k || fB own mv (Rt own mv g (t + d)) k) = (g k || fB own mv (Rt own mv g t) k)
      rw [fB_congr G (fun j hj => still_on G h d j hj) k hk]
    show Rt own mv g (t + d + 1) k = _
    rw [e]; exact h k hk
theorem rk_still {own : List Int} {mv : List (List Int)} (G : VG own mv) {g : Nat → Bool} {t : Nat} (h : still own mv g t) {k : Nat} (hk : k < own.length) : ∀ d, rk own mv g (t + d) k = rk own mv g t k
  | 0 => rfl
  | d + 1 => by
    by_cases q : 0 ≤ rk own mv g t k
    · exact rk_stay g q (d + 1)
    · have e := rk_still G h hk d
      obtain ⟨a, b, _⟩ := rk_reach G g hk t
      have f : Rt own mv g (t + d + 1) k = false := by
        rw [show t + d + 1 = t + (d + 1) by omega, still_on G h (d + 1) k hk]
        cases z : Rt own mv g t k
        · rfl
        · exact absurd (a.2 z) q
      show (if 0 ≤ rk own mv g (t + d) k then rk own mv g (t + d) k else if Rt own mv g (t + d + 1) k then ((t + d + 1 : Nat) : Int) else -1) = _
      rw [e, if_neg q, f, if_neg (by decide)]; omega
/-- the list of ranks -/
def rkL (own : List Int) (mv : List (List Int)) (g : Nat → Bool) (t : Nat) : List Int := (List.range own.length).map (rk own mv g t)
theorem rkL_len (own : List Int) (mv : List (List Int)) (g : Nat → Bool) (t : Nat) : (rkL own mv g t).length = own.length := by unfold rkL; rw [List.length_map, List.length_range]
theorem rkL_at (own : List Int) (mv : List (List Int)) (g : Nat → Bool) (t : Nat) {i : Nat} (hi : i < own.length) : rd (rkL own mv g t) (i : Int) = rk own mv g t i := by
  rw [rd_at _ i (by rw [rkL_len]; exact hi)]
  unfold rkL
  rw [List.getElem_map, List.getElem_range]
/-- the list as it stands in the midst of a round: the first j places are of t + 1 -/
def rkM (own : List Int) (mv : List (List Int)) (g : Nat → Bool) (t j : Nat) : List Int := (List.range own.length).map fun i => if i < j then rk own mv g (t + 1) i else rk own mv g t i
theorem rkM_0 (own : List Int) (mv : List (List Int)) (g : Nat → Bool) (t : Nat) : rkM own mv g t 0 = rkL own mv g t := List.map_congr_left fun i _ => if_neg (by omega)
theorem rkM_n (own : List Int) (mv : List (List Int)) (g : Nat → Bool) (t : Nat) : rkM own mv g t own.length = rkL own mv g (t + 1) := List.map_congr_left fun i hi => if_pos (List.mem_range.1 hi)
theorem rkM_same {own : List Int} {mv : List (List Int)} {g : Nat → Bool} {t j : Nat} (h : rk own mv g (t + 1) j = rk own mv g t j) : rkM own mv g t (j + 1) = rkM own mv g t j := List.map_congr_left fun i _ => by
  by_cases e : i = j
  · subst e; rw [if_pos (by omega), if_neg (by omega), h]
  · by_cases q : i < j
    · rw [if_pos (by omega), if_pos q]
    · rw [if_neg (by omega), if_neg q]
theorem rkM_set {own : List Int} {mv : List (List Int)} {g : Nat → Bool} {t j : Nat} : (rkM own mv g t j).set j (rk own mv g (t + 1) j) = rkM own mv g t (j + 1) := by
  apply List.ext_getElem
  · unfold rkM; simp
  · intro i h1 h2
    have hi : i < own.length := by unfold rkM at h2; simpa using h2
    simp only [rkM, List.getElem_set, List.getElem_map, List.getElem_range]
    by_cases e : j = i
    · subst e; rw [if_pos rfl, if_pos (by omega)]
    · rw [if_neg e]
      by_cases q : i < j
      · rw [if_pos q, if_pos (by omega)]
      · rw [if_neg q, if_neg (by omega)]
theorem grow_step {own : List Int} {mv : List (List Int)} (G : VG own mv) (g : Nat → Bool) (t : Nat) : ∀ d j (more : Bool), j + d = own.length → growL own mv ((t + 1 : Nat) : Int) (rkL own mv g t) d j (rkM own mv g t j) more = (rkL own mv g (t + 1), more || (List.range d).any fun e => Rt own mv g (t + 1) (j + e) && !Rt own mv g t (j + e))
  | 0, j, more, h => by
    show (rkM own mv g t j, more) = _
    rw [show j = own.length by omega, rkM_n]; simp
  | d + 1, j, more, h => by
    have hj : j < own.length := by omega
    obtain ⟨a, b, _⟩ := rk_reach G g hj t
    have fe : forB own mv (j : Int) (fun k => decide (0 ≤ rd (rkL own mv g t) k)) = fB own mv (Rt own mv g t) j := forB_congr fun k hk => by
      obtain ⟨h0, h1⟩ := G.in_ j hj k hk
      obtain ⟨k, rfl⟩ := Int.eq_ofNat_of_zero_le h0
      have hk' : k < own.length := by omega
      rw [rkL_at own mv g t hk']
      unfold pS
      rw [Int.toNat_natCast]
      have c := (rk_reach G g hk' t).1
      cases z : Rt own mv g t k
      · exact decide_eq_false (fun q => by have := c.1 q; rw [z] at this; exact absurd this (by decide))
      · exact decide_eq_true (c.2 z)
    have nx : (List.range (d + 1)).any (fun e => Rt own mv g (t + 1) (j + e) && !Rt own mv g t (j + e)) = ((Rt own mv g (t + 1) j && !Rt own mv g t j) || (List.range d).any fun e => Rt own mv g (t + 1) (j + 1 + e) && !Rt own mv g t (j + 1 + e)) := by
      rw [List.range_succ_eq_map, List.any_cons, List.any_map, Nat.add_zero]
      congr 1
      refine congrArg (fun f => List.any (List.range d) f) (funext fun e => ?_)
      show (Rt own mv g (t + 1) (j + (e + 1)) && !Rt own mv g t (j + (e + 1))) = _
      rw [show j + (e + 1) = j + 1 + e by omega]
    unfold growL
    rw [rkL_at own mv g t hj, fe, nx]
    by_cases q : rk own mv g t j < 0 ∧ fB own mv (Rt own mv g t) j = true
    · rw [if_pos q]
      have r0 : Rt own mv g t j = false := by
        cases z : Rt own mv g t j
        · rfl
        · have := a.2 z; omega
      have r1 : Rt own mv g (t + 1) j = true := by show (g j || _) = true; rw [q.2, Bool.or_true]
      have e : rk own mv g (t + 1) j = ((t + 1 : Nat) : Int) := by
        show (if 0 ≤ rk own mv g t j then _ else if Rt own mv g (t + 1) j then ((t + 1 : Nat) : Int) else -1) = _
        rw [if_neg (by omega), r1, if_pos rfl]
      rw [← e, rkM_set, e, grow_step G g t d (j + 1) true (by omega), r0, r1]; simp
    · rw [if_neg q]
      have r : (Rt own mv g (t + 1) j && !Rt own mv g t j) = false := by
        cases z : Rt own mv g t j
        · have n0 : rk own mv g t j < 0 := by
            have : ¬ 0 ≤ rk own mv g t j := fun p => by have := a.1 p; rw [z] at this; exact absurd this (by decide)
            omega
          have f0 : fB own mv (Rt own mv g t) j = false := by
            cases y : fB own mv (Rt own mv g t) j
            · rfl
            · exact absurd ⟨n0, y⟩ q
          have g0 : g j = false := by
            cases y : g j
            · rfl
            · have := Rt_le G g hj t 0 (show Rt own mv g 0 j = true from y)
              rw [Nat.zero_add, z] at this; exact absurd this (by decide)
          show ((g j || fB own mv (Rt own mv g t) j) && _) = false
          rw [g0, f0]; rfl
        · rw [Bool.not_true, Bool.and_false]
      have e : rk own mv g (t + 1) j = rk own mv g t j := by
        show (if 0 ≤ rk own mv g t j then rk own mv g t j else if Rt own mv g (t + 1) j then ((t + 1 : Nat) : Int) else -1) = _
        by_cases p : 0 ≤ rk own mv g t j
        · rw [if_pos p]
        · rw [if_neg p]
          cases z : Rt own mv g (t + 1) j
          · rw [if_neg (by decide)]; omega
          · rw [z, Bool.true_and] at r
            have : Rt own mv g t j = true := by simpa using r
            exact absurd (a.2 this) p
      rw [← rkM_same e, grow_step G g t d (j + 1) more (by omega), r, Bool.false_or]
theorem grow_eq {own : List Int} {mv : List (List Int)} (G : VG own mv) (g : Nat → Bool) (t : Nat) : growR own mv ((t + 1 : Nat) : Int) (rkL own mv g t) = (rkL own mv g (t + 1), (List.range own.length).any fun e => Rt own mv g (t + 1) e && !Rt own mv g t e) := by
  have := grow_step G g t own.length 0 false (by omega)
  rw [rkM_0] at this
  unfold growR
  rw [this, Bool.false_or]
  congr 1
  refine congrArg (fun f => List.any (List.range own.length) f) (funext fun e => ?_)
  rw [Nat.zero_add]
theorem still_any {own : List Int} {mv : List (List Int)} (G : VG own mv) (g : Nat → Bool) (t : Nat) : ((List.range own.length).any fun e => Rt own mv g (t + 1) e && !Rt own mv g t e) = false ↔ still own mv g t := by
  rw [List.any_eq_false]
  constructor
  · intro h k hk
    have a := h k (List.mem_range.2 hk)
    cases z : Rt own mv g t k
    · rw [z] at a; simpa using a
    · exact Rt_up G g t k hk z
  · intro h k hk
    rw [h k (List.mem_range.1 hk)]; simp
/-- the ranks -/
def ranksR (own : List Int) (mv : List (List Int)) (goal : List Int) : List Int := rkL own mv (inL goal) own.length
theorem rkF_ev {own : List Int} {mv : List (List Int)} (G : VG own mv) (g : Nat → Bool) {T : Nat} (hT : T ≤ own.length) (hs : still own mv g T) (hb : ∀ s, s < T → ¬ still own mv g s) : ∀ d t, t + d = T → Ev (fun k => rkF own mv k ((t + 1 : Nat) : Int) (rkL own mv g t)) (rkL own mv g own.length)
  | 0, t, h => by
    refine Ev.step (fun k => rkF.eq_2 ..) ?_
    rw [grow_eq G g t]
    refine evn ?_ ?_
    · rw [Bool.not_eq_true]; exact (still_any G g t).2 (by rw [show t = T by omega]; exact hs)
    · have e : rkL own mv g (t + 1) = rkL own mv g own.length := by
        refine List.map_congr_left fun i hi => ?_
        have hi := List.mem_range.1 hi
        have a := rk_still G hs hi 1
        have b := rk_still G hs hi (own.length - T)
        rw [show T + (own.length - T) = own.length by omega] at b
        rw [show t + 1 = T + 1 by omega, a, b]
      rw [e]; exact Ev.now _
  | d + 1, t, h => by
    have n16 := G.n2
    have R := rkF_ev G g hT hs hb d (t + 1) (by omega)
    refine Ev.step (fun k => rkF.eq_2 ..) ?_
    rw [grow_eq G g t]
    refine evp ?_ ?_
    · cases z : (List.range own.length).any fun e => Rt own mv g (t + 1) e && !Rt own mv g t e
      · exact absurd ((still_any G g t).1 z) (hb t (by omega))
      · rfl
    · rw [w64 (n := ((t + 1 : Nat) : Int) + 1) (by omega) (by omega)]
      exact R
theorem setAll_rd (n : Nat) : ∀ (l xs : List Int), xs.length = n → (∀ k ∈ l, 0 ≤ k ∧ k < (n : Int)) → (setAll l xs).length = n ∧ ∀ i : Nat, i < n → rd (setAll l xs) (i : Int) = if (i : Int) ∈ l then 0 else rd xs (i : Int)
  | [], xs, h, _ => ⟨h, fun i hi => by rw [if_neg (by simp)]; rfl⟩
  | x :: l, xs, h, hl => by
    obtain ⟨h0, h1⟩ := hl x List.mem_cons_self
    obtain ⟨y, rfl⟩ := Int.eq_ofNat_of_zero_le h0
    obtain ⟨a, b⟩ := setAll_rd n l (xs.set y 0) (by rw [List.length_set]; exact h) (fun k hk => hl k (List.mem_cons_of_mem _ hk))
    show (setAll l (xs.set (Int.toNat (y : Int)) 0)).length = n ∧ _
    rw [Int.toNat_natCast]
    refine ⟨a, fun i hi => ?_⟩
    show rd (setAll l (xs.set (Int.toNat (y : Int)) 0)) (i : Int) = _
    rw [Int.toNat_natCast, b i hi]
    by_cases m : (i : Int) ∈ l
    · rw [if_pos m, if_pos (List.mem_cons_of_mem _ m)]
    · rw [if_neg m, rd_at _ i (by rw [List.length_set]; omega), List.getElem_set]
      by_cases e : y = i
      · subst e; rw [if_pos rfl, if_pos List.mem_cons_self]
      · rw [if_neg e, if_neg (fun q => by rcases List.mem_cons.1 q with q | q; · omega
                                          · exact m q), rd_at _ i (by omega)]
theorem init_eq {own : List Int} {mv : List (List Int)} (goal : List Int) (hg : ∀ k ∈ goal, 0 ≤ k ∧ k < (own.length : Int)) : setAll goal (List.replicate own.length (-1)) = rkL own mv (inL goal) 0 := by
  obtain ⟨a, b⟩ := setAll_rd own.length goal (List.replicate own.length (-1)) (by rw [List.length_replicate]) hg
  apply List.ext_getElem
  · rw [a, rkL_len]
  · intro i h1 h2
    have hi : i < own.length := by omega
    rw [← rd_at _ i h1, ← rd_at _ i h2, b i hi, rkL_at own mv _ 0 hi, rd_at _ i (by rw [List.length_replicate]; exact hi), List.getElem_replicate]
    show _ = if inL goal i then (0 : Int) else -1
    unfold inL
    by_cases m : (i : Int) ∈ goal
    · rw [if_pos m, decide_eq_true m, if_pos rfl]
    · rw [if_neg m, decide_eq_false m, if_neg (by decide)]
theorem ranks_ev {own : List Int} {mv : List (List Int)} (G : VG own mv) (goal : List Int) (hg : ∀ k ∈ goal, 0 ≤ k ∧ k < (own.length : Int)) : Ev (fun k => lure_ranks.f k own mv goal) (ranksR own mv goal) := by
  unfold lure_ranks.f
  have ok : okG own mv goal := ⟨G.n1, G.n2, G.len, fun l hl k hk => by
    obtain ⟨i, hi, rfl⟩ := List.mem_iff_getElem.1 hl
    have e : rd_L1 mv (i : Int) = mv[i] := by simp [rd_L1, List.getD_eq_getElem?_getD, List.getElem?_eq_getElem hi]
    exact G.in_ i (by have := G.len; omega) k (by rw [e]; exact hk), hg⟩
  refine evp ok ?_
  rw [init_eq (mv := mv) goal hg]
  obtain ⟨T, h1, h2, h3⟩ := still_ex G (inL goal)
  exact rkF_ev G (inL goal) h1 h2 h3 T 0 (by omega)

theorem reached_l0 {own : List Int} {mv : List (List Int)} (G : VG own mv) (g : Nat → Bool) (moves : Int) (hm : moves ≤ 1000) : ∀ d t : Nat, t + d = min moves.toNat own.length → Ev (fun k => wigeonref04_reached.l0 k (rv g own.length : Int) moves (rv (Rt own mv g t) own.length : Int) (t : Int) own mv) ((rv (Rt own mv g (min moves.toNat own.length)) own.length : Nat) : Int)
  | 0, t, h => by
    have e : t = min moves.toNat own.length := by omega
    refine Ev.step (fun k => wigeonref04_reached.l0.eq_2 ..) ?_
    by_cases q : (t : Int) < moves
    · refine evp q (evn (by omega) ?_)
      rw [e]; exact Ev.now _
    · refine evn q ?_
      rw [e]; exact Ev.now _
  | d + 1, t, h => by
    have n16 := G.n2
    have R := reached_l0 G g moves hm d (t + 1) (by omega)
    refine Ev.step (fun k => wigeonref04_reached.l0.eq_2 ..) (evp (by omega) (evp (by omega) (evb (rbefore_ev G _) ?_)))
    rw [rv_or _ _ n16, w64 (n := (t : Int) + 1) (by omega) (by omega)]
    exact R
theorem reached_ev {own : List Int} {mv : List (List Int)} (G : VG own mv) (g : Nat → Bool) (moves : Int) (hm : moves ≤ 1000) : Ev (fun k => wigeonref04_reached.f k own mv (rv g own.length : Int) moves) ((rv (Rt own mv g (min moves.toNat own.length)) own.length : Nat) : Int) :=
  reached_l0 G g moves hm _ 0 (Nat.zero_add _)
def dn (own : List Int) (mv : List (List Int)) (g : Nat → Bool) (i : Nat) (cur : Int) : Nat → Int
  | 0 => cur
  | c + 1 => if 0 ≤ rk own mv g c i then rk own mv g c i else cur
theorem dn_step (own : List Int) (mv : List (List Int)) (g : Nat → Bool) (i : Nat) (cur : Int) : ∀ c : Nat, dn own mv g i (if Rt own mv g c i then (c : Int) else cur) c = dn own mv g i cur (c + 1)
  | 0 => by
    show (if g i then ((0 : Nat) : Int) else cur) = if 0 ≤ (if g i then (0 : Int) else -1) then (if g i then (0 : Int) else -1) else cur
    cases g i <;> simp
  | c + 1 => by
    show (if 0 ≤ rk own mv g c i then rk own mv g c i else if Rt own mv g (c + 1) i then ((c + 1 : Nat) : Int) else cur) = if 0 ≤ (if 0 ≤ rk own mv g c i then rk own mv g c i else if Rt own mv g (c + 1) i then ((c + 1 : Nat) : Int) else -1) then (if 0 ≤ rk own mv g c i then rk own mv g c i else if Rt own mv g (c + 1) i then ((c + 1 : Nat) : Int) else -1) else cur
    by_cases q : 0 ≤ rk own mv g c i
    · rw [if_pos q, if_pos q, if_pos q]
    · rw [if_neg q, if_neg q]
      cases Rt own mv g (c + 1) i
      · simp
      · rw [if_pos rfl, if_pos rfl, if_pos (by omega)]
theorem ranks_l1 {own : List Int} {mv : List (List Int)} (G : VG own mv) (g : Nat → Bool) (acc : List Int) (ha : acc.length ≤ 1000) (i : Nat) (hi : i < own.length) (r : List Int)
    (K : Ev (fun k => wigeonref04_ranks.l0 k (rv g own.length : Int) (acc ++ [rk own mv g own.length i]) ((i : Int) + 1) own mv) r) : ∀ (c : Nat) (cur : Int), c ≤ own.length + 1 → dn own mv g i cur c = rk own mv g own.length i → Ev (fun k => wigeonref04_ranks.l1 k (rv g own.length : Int) acc (i : Int) cur ((c : Int) - 1) own mv) r
  | 0, cur, hc, e => by
    have n16 := G.n2
    have e : cur = rk own mv g own.length i := e
    refine Ev.step (fun k => wigeonref04_ranks.l1.eq_2 ..) (evn (by omega) (evp (by omega) ?_))
    rw [w64 (n := (i : Int) + 1) (by omega) (by omega), e]; exact K
  | c + 1, cur, hc, e => by
    have n16 := G.n2
    have R := reached_ev G g (((c + 1 : Nat) : Int) - 1) (by omega)
    rw [show (((c + 1 : Nat) : Int) - 1).toNat = c by omega, Nat.min_eq_left (show c ≤ own.length by omega)] at R
    refine Ev.step (fun k => wigeonref04_ranks.l1.eq_2 ..) (evp (by omega) (evb R (evp (by rw [uw (by omega)]; omega) ?_)))
    rw [bit_at _ i (rv_big _ n16) (by omega), rv_bit _ _ i hi, w64 (n := ((c + 1 : Nat) : Int) - 1 - 1) (by omega) (by omega)]
    have d := dn_step own mv g i cur c
    rw [e] at d
    rw [show ((c + 1 : Nat) : Int) - 1 - 1 = (c : Int) - 1 by omega, show ((c + 1 : Nat) : Int) - 1 = (c : Int) by omega]
    cases z : Rt own mv g c i
    · rw [z, if_neg (by decide)] at d
      exact evn (by decide) (ranks_l1 G g acc ha i hi r K c cur (by omega) d)
    · rw [z, if_pos rfl] at d
      exact evp rfl (ranks_l1 G g acc ha i hi r K c (c : Int) (by omega) d)
theorem ranks_l0 {own : List Int} {mv : List (List Int)} (G : VG own mv) (g : Nat → Bool) : ∀ d i : Nat, i + d = own.length → Ev (fun k => wigeonref04_ranks.l0 k (rv g own.length : Int) ((List.range i).map (rk own mv g own.length)) (i : Int) own mv) (rkL own mv g own.length)
  | 0, i, h => by
    refine Ev.step (fun k => wigeonref04_ranks.l0.eq_2 ..) (evn (by omega) ?_)
    rw [show i = own.length by omega]; exact Ev.now _
  | d + 1, i, h => by
    have n16 := G.n2
    have hi : i < own.length := by omega
    have R := ranks_l0 G g d (i + 1) (by omega)
    rw [List.range_succ, List.map_append, List.map_cons, List.map_nil] at R
    obtain ⟨a, b, _⟩ := rk_reach G g hi own.length
    have e : dn own mv g i (-1) (own.length + 1) = rk own mv g own.length i := by
      show (if 0 ≤ rk own mv g own.length i then rk own mv g own.length i else -1) = _
      by_cases q : 0 ≤ rk own mv g own.length i
      · rw [if_pos q]
      · rw [if_neg q]; omega
    have L := ranks_l1 G g ((List.range i).map (rk own mv g own.length)) (by rw [List.length_map, List.length_range]; omega) i hi _ R (own.length + 1) (-1) (Nat.le_refl _) e
    refine Ev.step (fun k => wigeonref04_ranks.l0.eq_2 ..) (evp (by omega) ?_)
    rw [show ((own.length + 1 : Nat) : Int) - 1 = (own.length : Int) by omega] at L
    exact L
theorem rranks_ev {own : List Int} {mv : List (List Int)} (G : VG own mv) (g : Nat → Bool) : Ev (fun k => wigeonref04_ranks.f k own mv (rv g own.length : Int)) (rkL own mv g own.length) := ranks_l0 G g own.length 0 (by omega)

def RaR (own : List Int) (mv : List (List Int)) (goal : List Int) : List Int × Int := if exR own mv goal = 0 then (ranksR own mv goal, 0) else ([], exR own mv goal)
theorem RaR_0 {own : List Int} {mv : List (List Int)} {goal : List Int} (h : exR own mv goal = 0) : RaR own mv goal = (ranksR own mv goal, 0) := if_pos h
theorem RaR_n {own : List Int} {mv : List (List Int)} {goal : List Int} (h : ¬ exR own mv goal = 0) : RaR own mv goal = ([], exR own mv goal) := if_neg h
theorem rRanks_ev (own : List Int) (mv : List (List Int)) (hs : ∀ m ∈ mv, m.length ≤ 100) (goal : List Int) (hl : goal.length ≤ 100) : Ev (fun k => wigeonref04_Ranks.f k own mv goal) (RaR own mv goal) := by
  unfold wigeonref04_Ranks.f
  refine evb (asked_ev own mv hs goal hl) ?_
  by_cases h : exR own mv goal = 0
  · rw [RaR_0 h]
    obtain ⟨h1, h2⟩ := exR_ok h
    have G := vlR_ok hs h1
    exact evp h (evb (bits_ev goal own.length G.n2 (setB_in h2) (by omega)) (evb (rranks_ev G _) (Ev.now _)))
  · rw [RaR_n h]; exact evn h (Ev.now _)

/-- what is won -/
def wonR (own : List Int) (mv : List (List Int)) (goal : List Int) : Nat → Bool := Rt own mv (inL goal) own.length
theorem known_ev : Ev (fun k => wigeonlaw04_known.f k) true := Ev.of wigeonlaw04_known.mono (k := 100) (by decide +kernel)

def badT (own : List Int) (mv : List (List Int)) (goal trap : List Int) (i : Int) : Bool := decide (i ∈ goal) || forB own mv i (fun k => !decide (k ∈ trap))
theorem has_l0 (l : List Int) (x : Int) (hl : l.length ≤ 1000) : ∀ d i : Nat, i + d = l.length → Ev (fun k => wigeonref04_Has.l0 k l x (i : Int)) (decide (x ∈ l.drop i))
  | 0, i, h => by
    refine Ev.step (fun k => wigeonref04_Has.l0.eq_2 ..) (evn (by omega) ?_)
    rw [List.drop_eq_nil_of_le (by omega)]; exact ev_eq (Ev.now _) (by simp)
  | d + 1, i, h => by
    have hlt : i < l.length := by omega
    have R := has_l0 l x hl d (i + 1) (by omega)
    refine Ev.step (fun k => wigeonref04_Has.l0.eq_2 ..) (evp (by omega) (evp (by omega) ?_))
    rw [rd_at l i hlt, w64 (n := (i : Int) + 1) (by omega) (by omega)]
    by_cases q : l[i] = x
    · exact ev_eq (evp q (Ev.now _)) (decide_eq_true (by rw [List.drop_eq_getElem_cons hlt, q]; exact List.mem_cons_self)).symm
    · exact ev_eq (evn q R) (decide_eq_decide.2 (by rw [List.drop_eq_getElem_cons hlt, List.mem_cons]; exact ⟨Or.inr, fun z => z.elim (fun y => absurd y.symm q) id⟩))
theorem has_ev (l : List Int) (x : Int) (hl : l.length ≤ 1000) : Ev (fun k => wigeonref04_Has.f k l x) (decide (x ∈ l)) := has_l0 l x hl l.length 0 (by omega)
theorem Rt_n {own : List Int} {mv : List (List Int)} (G : VG own mv) (g : Nat → Bool) {t i : Nat} (hi : i < own.length) (h : Rt own mv g t i = true) : Rt own mv g own.length i = true := by
  obtain ⟨T, h1, h2, _⟩ := still_ex G g
  have a := still_on G h2 (own.length - T) i hi
  rw [show T + (own.length - T) = own.length by omega] at a
  rw [a]
  rcases Nat.lt_or_ge t T with q | q
  · have := Rt_le G g hi (T - t) t h
    rw [show t + (T - t) = T by omega] at this; exact this
  · have b := still_on G h2 (t - T) i hi
    rw [show T + (t - T) = t by omega] at b
    rw [← b]; exact h
/-- place i has a number that is not borne out -/
def pB (own : List Int) (mv : List (List Int)) (goal ranks : List Int) (i : Nat) : Bool :=
  (decide (rd ranks (i : Int) = 0) && !inL goal i) || (decide (rd ranks (i : Int) > 0) && !forB own mv (i : Int) (fun k => decide (0 ≤ rd ranks k ∧ rd ranks k ≤ wrap64 (rd ranks (i : Int) - 1))))
/-- how many of the moves lead to smaller numbers -/
def sm (ranks : List Int) (r : Int) (m : List Int) : Nat := m.countP fun k => decide (0 ≤ rd ranks k ∧ rd ranks k ≤ wrap64 (r - 1))
theorem ranks_proof {own : List Int} {mv : List (List Int)} (G : VG own mv) (goal : List Int) : badR (ranksR own mv goal) = false ∧ ∀ j, j < own.length → pB own mv goal (ranksR own mv goal) j = false := by
  have n16 := G.n2
  have at_ : ∀ k : Nat, k < own.length → rd (ranksR own mv goal) (k : Int) = rk own mv (inL goal) own.length k := fun k hk => rkL_at own mv _ _ hk
  refine ⟨?_, fun j hj => ?_⟩
  · refine List.any_eq_false.2 fun x hx => ?_
    obtain ⟨k, hk, rfl⟩ := List.mem_map.1 hx
    have hk := List.mem_range.1 hk
    obtain ⟨_, b, c⟩ := rk_reach G (inL goal) hk own.length
    rw [decide_eq_true (by omega)]; decide
  · unfold pB
    rw [at_ j hj]
    obtain ⟨a, b, c⟩ := rk_reach G (inL goal) hj own.length
    by_cases z : rk own mv (inL goal) own.length j = 0
    · have := (rk_within G (inL goal) hj (t := 0) (n := own.length) (by omega)).2 ⟨by omega, by omega⟩
      rw [show inL goal j = true from this, z]; rfl
    · rw [decide_eq_false z, Bool.false_and, Bool.false_or]
      by_cases p : rk own mv (inL goal) own.length j > 0
      · rw [decide_eq_true p, Bool.true_and]
        obtain ⟨t, ht⟩ : ∃ t : Nat, rk own mv (inL goal) own.length j = ((t + 1 : Nat) : Int) := ⟨(rk own mv (inL goal) own.length j).toNat - 1, by omega⟩
        have r1 := (rk_within G (inL goal) hj (t := t + 1) (n := own.length) (by omega)).2 ⟨by omega, by omega⟩
        have r0 : Rt own mv (inL goal) t j = false := by
          cases y : Rt own mv (inL goal) t j
          · rfl
          · have := (rk_within G (inL goal) hj (t := t) (n := own.length) (by omega)).1 y; omega
        have g0 : inL goal j = false := by
          cases y : inL goal j
          · rfl
          · have := Rt_le G (inL goal) hj t 0 (show Rt own mv (inL goal) 0 j = true from y)
            rw [Nat.zero_add, r0] at this; exact absurd this (by decide)
        have f : fB own mv (Rt own mv (inL goal) t) j = true := by
          have : (inL goal j || fB own mv (Rt own mv (inL goal) t) j) = true := r1
          rw [g0, Bool.false_or] at this; exact this
        have e : forB own mv (j : Int) (fun k => decide (0 ≤ rd (ranksR own mv goal) k ∧ rd (ranksR own mv goal) k ≤ wrap64 (rk own mv (inL goal) own.length j - 1))) = fB own mv (Rt own mv (inL goal) t) j := forB_congr fun k hk => by
          obtain ⟨k0, k1⟩ := G.in_ j hj k hk
          obtain ⟨k, rfl⟩ := Int.eq_ofNat_of_zero_le k0
          have hk' : k < own.length := by omega
          rw [at_ k hk', w64 (by omega) (by omega), ht]
          unfold pS
          rw [Int.toNat_natCast]
          have w := rk_within G (inL goal) hk' (t := t) (n := own.length) (by omega)
          cases y : Rt own mv (inL goal) t k
          · exact decide_eq_false (fun q => by have := w.2 ⟨q.1, by omega⟩; rw [y] at this; exact absurd this (by decide))
          · have := w.1 y
            exact decide_eq_true ⟨this.1, by omega⟩
        rw [e, f]; rfl
      · rw [decide_eq_false p, Bool.false_and]
theorem free_trap {own : List Int} {mv : List (List Int)} (G : VG own mv) (goal : List Int) : (asc (fun i => !wonR own mv goal i) own.length).any (badT own mv goal (asc (fun i => !wonR own mv goal i) own.length)) = false := by
  refine List.any_eq_false.2 fun x hx => ?_
  obtain ⟨k, rfl, hk, hw⟩ := (asc_mem _ _ _).1 hx
  have w0 : Rt own mv (inL goal) own.length k = false := by unfold wonR at hw; simpa using hw
  unfold badT
  rw [Bool.not_eq_true, Bool.or_eq_false_iff]
  constructor
  · cases y : decide ((k : Int) ∈ goal)
    · rfl
    · have := Rt_n G (inL goal) (t := 0) hk (show Rt own mv (inL goal) 0 k = true from y)
      rw [w0] at this; exact absurd this (by decide)
  · cases y : forB own mv (k : Int) (fun k => !decide (k ∈ asc (fun i => !wonR own mv goal i) own.length))
    · rfl
    · have e : forB own mv (k : Int) (fun k => !decide (k ∈ asc (fun i => !wonR own mv goal i) own.length)) = fB own mv (Rt own mv (inL goal) own.length) k := forB_congr fun j hj => by
        obtain ⟨j0, j1⟩ := G.in_ k hk j hj
        obtain ⟨j, rfl⟩ := Int.eq_ofNat_of_zero_le j0
        unfold pS
        rw [Int.toNat_natCast]
        cases z : Rt own mv (inL goal) own.length j
        · rw [decide_eq_true ((asc_mem _ _ _).2 ⟨j, rfl, by omega, by unfold wonR; rw [z]; rfl⟩)]; rfl
        · rw [decide_eq_false (fun q => by
            obtain ⟨i, hi, _, hq⟩ := (asc_mem _ _ _).1 q
            obtain rfl : j = i := by omega
            unfold wonR at hq
            rw [z] at hq; exact absurd hq (by decide))]; rfl
      rw [e] at y
      have : Rt own mv (inL goal) (own.length + 1) k = true := by
        show (inL goal k || fB own mv (Rt own mv (inL goal) own.length) k) = true
        rw [y, Bool.or_true]
      have := Rt_n G (inL goal) hk this
      rw [w0] at this; exact absurd this (by decide)

/-- the last one of a list for which something holds -/
def lastOf (p : Int → Bool) : List Int → Int → Int
  | [], c => c
  | k :: t, c => lastOf p t (if p k = true then k else c)
theorem lastOf_or (p : Int → Bool) : ∀ (l : List Int) (c : Int), (lastOf p l c = c ∧ ∀ k ∈ l, ¬ p k = true) ∨ (lastOf p l c ∈ l ∧ p (lastOf p l c) = true)
  | [], _ => Or.inl ⟨rfl, fun _ h => absurd h List.not_mem_nil⟩
  | k :: t, c => by
    show (lastOf p t (if p k = true then k else c) = c ∧ _) ∨ (lastOf p t (if p k = true then k else c) ∈ _ ∧ p (lastOf p t (if p k = true then k else c)) = true)
    rcases lastOf_or p t (if p k = true then k else c) with ⟨a, b⟩ | ⟨a, b⟩
    · by_cases h : p k = true
      · right
        rw [a, if_pos h]
        exact ⟨List.mem_cons_self .., h⟩
      · left
        rw [a, if_neg h]
        refine ⟨rfl, fun z hz => ?_⟩
        rcases List.mem_cons.1 hz with e | e
        · rw [e]; exact h
        · exact b z e
    · exact Or.inr ⟨List.mem_cons_of_mem _ a, b⟩
theorem lastOf_in {p : Int → Bool} {l : List Int} {c : Int} (h : ∃ k ∈ l, p k = true) : lastOf p l c ∈ l ∧ p (lastOf p l c) = true := by
  rcases lastOf_or p l c with ⟨_, b⟩ | b
  · obtain ⟨k, hk, y⟩ := h
    exact absurd y (b k hk)
  · exact b
/-- a list of numbers, told up to a place -/
def upto (V : Nat → Int) (n j : Nat) : List Int := (List.range n).map fun i => if i < j then V i else -1
theorem upto_len (V : Nat → Int) (n j : Nat) : (upto V n j).length = n := by unfold upto; rw [List.length_map, List.length_range]
theorem upto_get (V : Nat → Int) (n j q : Nat) (h : q < (upto V n j).length) : (upto V n j)[q] = if q < j then V q else -1 := by
  simp only [upto, List.getElem_map, List.getElem_range]
theorem upto_0 (V : Nat → Int) (n : Nat) : upto V n 0 = List.replicate n (-1) := by
  refine List.ext_getElem (by rw [upto_len, List.length_replicate]) fun j h1 h2 => ?_
  rw [upto_get, List.getElem_replicate, if_neg (by omega)]
theorem upto_set (V : Nat → Int) (n i : Nat) : (upto V n i).set i (V i) = upto V n (i + 1) := by
  refine List.ext_getElem (by rw [List.length_set, upto_len, upto_len]) fun j h1 h2 => ?_
  rw [List.getElem_set, upto_get, upto_get]
  by_cases e : i = j
  · subst e; rw [if_pos rfl, if_pos (by omega)]
  · rw [if_neg e]
    by_cases g : j < i
    · rw [if_pos g, if_pos (by omega)]
    · rw [if_neg g, if_neg (by omega)]
theorem upto_keep (V : Nat → Int) (n i : Nat) : (upto V n i).set i (-1) = upto V n i := by
  refine List.ext_getElem (by rw [List.length_set]) fun j h1 h2 => ?_
  rw [List.getElem_set]
  by_cases e : i = j
  · subst e
    rw [if_pos rfl, upto_get, if_neg (by omega)]
  · rw [if_neg e]
theorem upto_at (V : Nat → Int) {n i : Nat} (h : i < n) : rd (upto V n n) (i : Int) = V i := by
  rw [rd_at _ i (by rw [upto_len]; exact h), upto_get, if_pos h]
/-- what Plan says of a place -/
def planV (own : List Int) (mv : List (List Int)) (L : List Int) (i : Nat) : Int :=
  if rd L (i : Int) ≤ 0 ∨ ¬ rd own (i : Int) = 0 then -1 else lastOf (fun k => decide (0 ≤ rd L k ∧ rd L k < rd L (i : Int))) (rd_L1 mv (i : Int)) (-1)
theorem plan_l1 {own : List Int} {mv : List (List Int)} (G : VG own mv) {L : List Int} (hL : L.length = own.length) {i : Nat} (hi : i < own.length) (M : List Int) (hM : M.length = own.length) (r : List Int × Int)
    (K : Ev (fun k => lure_Plan.l0 k L (M.set i (lastOf (fun k => decide (0 ≤ rd L k ∧ rd L k < rd L (i : Int))) (rd_L1 mv (i : Int)) (-1))) L (own.length : Int) (wrap64 ((i : Int) + 1)) own mv) r)  (d : Nat) :
    ∀ (j : Nat) (cur : Int), j + d = (rd_L1 mv (i : Int)).length → lastOf (fun k => decide (0 ≤ rd L k ∧ rd L k < rd L (i : Int))) ((rd_L1 mv (i : Int)).drop j) cur = lastOf (fun k => decide (0 ≤ rd L k ∧ rd L k < rd L (i : Int))) (rd_L1 mv (i : Int)) (-1) → Ev (fun k => lure_Plan.l1 k L (M.set i cur) (i : Int) (rd L (i : Int)) L (own.length : Int) (i : Int) (rd_L1 mv (i : Int)) ((rd_L1 mv (i : Int)).length : Int) (j : Int) own mv) r := by
  induction d with
  | zero =>
    intro j cur h e
    have E := Aside0.mk e
    clear e
    have e := E.out
    rw [List.drop_eq_nil_of_le (by omega), ← show cur = lastOf (fun k => decide (0 ≤ rd L k ∧ rd L k < rd L (i : Int))) [] cur from rfl] at e
    rw [← e] at K
    exact Ev.step (fun k => lure_Plan.l1.eq_2 ..) (evn (by omega) K)
  | succ d IH =>
    intro j cur h e
    have E := Aside0.mk e
    clear e
    have hj : j < (rd_L1 mv (i : Int)).length := by omega
    have sm := G.small i
    have n2 := G.n2
    have W : wrap64 ((j : Int) + 1) = ((j + 1 : Nat) : Int) := by rw [w64 (by omega) (by omega)]; omega
    obtain ⟨y, hy⟩ : ∃ y, rd (rd_L1 mv (i : Int)) (j : Int) = y := ⟨_, rfl⟩
    have YM := Aside0.mk ((rd_at _ j hj).symm.trans hy)
    have HY := Aside0.mk hy
    clear hy
    have yin := G.in_ i hi y (by rw [← YM.out]; exact List.getElem_mem hj)
    refine Ev.step (fun k => lure_Plan.l1.eq_2 ..) (evp (by omega) (evp (by omega) (evp (by omega) ?_)))
    rw [HY.out, W]
    refine evp (by omega) (evp (by omega) ?_)
    have E2 := E.out
    rw [List.drop_eq_getElem_cons hj, YM.out] at E2
    have E3 := Aside0.mk (show lastOf (fun k => decide (0 ≤ rd L k ∧ rd L k < rd L (i : Int))) ((rd_L1 mv (i : Int)).drop (j + 1)) (if decide (0 ≤ rd L y ∧ rd L y < rd L (i : Int)) = true then y else cur) = lastOf (fun k => decide (0 ≤ rd L k ∧ rd L k < rd L (i : Int))) (rd_L1 mv (i : Int)) (-1) from E2)
    clear E2
    by_cases c1 : rd L y ≥ 0
    · refine evp c1 ?_
      by_cases c2 : rd L y < rd L (i : Int)
      · refine evp c2 (evp (by omega) (evp (by rw [List.length_set]; omega) ?_))
        have e := E3.out
        rw [if_pos (decide_eq_true ⟨c1, c2⟩)] at e
        have E4 := Aside0.mk e
        clear e
        rw [Int.toNat_natCast, List.set_set]
        exact IH (j + 1) y (by omega) E4.out
      · have e := E3.out
        rw [if_neg (by rw [decide_eq_false (fun q => c2 q.2)]; decide)] at e
        have E4 := Aside0.mk e
        clear e
        exact evn c2 (IH (j + 1) cur (by omega) E4.out)
    · have e := E3.out
      rw [if_neg (by rw [decide_eq_false (fun q => c1 q.1)]; decide)] at e
      have E4 := Aside0.mk e
      clear e
      exact evn c1 (IH (j + 1) cur (by omega) E4.out)
theorem plan_l0 {own : List Int} {mv : List (List Int)} (G : VG own mv) {L : List Int} (hL : L.length = own.length) (d : Nat) : ∀ i : Nat, i + d = own.length → Ev (fun k => lure_Plan.l0 k L (upto (planV own mv L) own.length i) L (own.length : Int) (i : Int) own mv) (upto (planV own mv L) own.length own.length, 0) := by
  induction d with
  | zero =>
    intro i h
    obtain rfl : i = own.length := by omega
    exact Ev.step (fun k => lure_Plan.l0.eq_2 ..) (evn (by omega) (Ev.now _))
  | succ d IH =>
    intro i h
    have hi : i < own.length := by omega
    have n2 := G.n2
    have l := G.len
    have ih := IH (i + 1) (by omega)
    have W : wrap64 ((i : Int) + 1) = ((i + 1 : Nat) : Int) := by rw [w64 (by omega) (by omega)]; omega
    rw [← upto_set] at ih
    refine Ev.step (fun k => lure_Plan.l0.eq_2 ..) (evp (by omega) (evp (by omega) (evp (by omega) ?_)))
    have Z : ∀ c : Bool, (c = true → planV own mv L i = -1) → (c = false → planV own mv L i = lastOf (fun k => decide (0 ≤ rd L k ∧ rd L k < rd L (i : Int))) (rd_L1 mv (i : Int)) (-1)) → Ev (fun k => lure_Plan.j1 k L (upto (planV own mv L) own.length i) (i : Int) (rd L (i : Int)) L (own.length : Int) (i : Int) c own mv) (upto (planV own mv L) own.length own.length, 0) := fun c y n => by
      refine Ev.step (fun k => lure_Plan.j1.eq_2 ..) ?_
      cases c with
      | true =>
        rw [y rfl, upto_keep] at ih
        refine evp rfl ?_
        rw [W]; exact ih
      | false =>
        rw [n rfl, ← W] at ih
        refine evn (by decide) (evp (by omega) (evp (by omega) ?_))
        have K := plan_l1 G hL hi _ (upto_len _ _ i) _ ih _ 0 (-1) (Nat.zero_add _) rfl
        rw [upto_keep] at K
        exact K
    by_cases c1 : rd L (i : Int) ≤ 0
    · exact evp c1 (Z true (fun _ => if_pos (Or.inl c1)) (fun e => absurd e (by decide)))
    · refine evn c1 (evp (by omega) ?_)
      by_cases c2 : rd own (i : Int) = 0
      · rw [show (rd own (i : Int) != 0) = false from bne_eq_false_iff_eq.2 c2]
        exact Z false (fun e => absurd e (by decide)) (fun _ => if_neg (fun q => q.elim (fun q => c1 q) (fun q => q c2)))
      · rw [show (rd own (i : Int) != 0) = true from bne_iff_ne.2 c2]
        exact Z true (fun _ => if_pos (Or.inr c2)) (fun e => absurd e (by decide))
theorem repeat_eq {n : Nat} (h1 : 1 ≤ n) (h16 : n ≤ 16) : slices_Repeat_int_int.f [(-1)] (n : Int) = some (List.replicate n (-1)) := by
  unfold slices_Repeat_int_int.f
  rw [if_pos ⟨rfl, by omega, by omega⟩]
  rfl
/-- what Plan answers -/
def planR (own : List Int) (mv : List (List Int)) (goal : List Int) : List Int := upto (planV own mv (ranksR own mv goal)) own.length own.length
def PlR (own : List Int) (mv : List (List Int)) (goal : List Int) : List Int × Int := if exR own mv goal = 0 then (planR own mv goal, 0) else ([], exR own mv goal)
theorem PlR_0 {own : List Int} {mv : List (List Int)} {goal : List Int} (h : exR own mv goal = 0) : PlR own mv goal = (planR own mv goal, 0) := if_pos h
theorem PlR_n {own : List Int} {mv : List (List Int)} {goal : List Int} (h : ¬ exR own mv goal = 0) : PlR own mv goal = ([], exR own mv goal) := if_neg h
theorem Plan_ev {own : List Int} {mv : List (List Int)} (hs : ∀ m ∈ mv, m.length ≤ 100) (goal : List Int) (hl : goal.length ≤ 100) : Ev (fun k => lure_Plan.f k own mv goal) (PlR own mv goal) := by
  unfold lure_Plan.f
  refine evb (examine_ev own mv hs goal hl) ?_
  by_cases e : exR own mv goal = 0
  · rw [PlR_0 e]
    obtain ⟨v, s⟩ := exR_ok e
    have G := vlR_ok hs v
    have rl : (ranksR own mv goal).length = own.length := rkL_len ..
    refine evp e (evb (ranks_ev G goal (setB_in s)) ?_)
    rw [rl]
    refine evs (repeat_eq G.n1 G.n2) ?_
    rw [← upto_0 (planV own mv (ranksR own mv goal))]
    exact plan_l0 G rl own.length 0 (by omega)
  · rw [PlR_n e]
    exact evn e (Ev.now _)
/-- what Flee says of a place -/
def fleeV (own : List Int) (mv : List (List Int)) (L : List Int) (i : Nat) : Int :=
  if rd L (i : Int) ≥ 0 ∨ ¬ rd own (i : Int) = 1 then -1 else lastOf (fun k => decide (rd L k < 0)) (rd_L1 mv (i : Int)) (-1)
theorem flee_l1 {own : List Int} {mv : List (List Int)} (G : VG own mv) {L : List Int} (hL : L.length = own.length) {i : Nat} (hi : i < own.length) (M : List Int) (hM : M.length = own.length) (r : List Int × Int)
    (K : Ev (fun k => lure_Flee.l0 k L (M.set i (lastOf (fun k => decide (rd L k < 0)) (rd_L1 mv (i : Int)) (-1))) L (own.length : Int) (wrap64 ((i : Int) + 1)) own mv) r)  (d : Nat) :
    ∀ (j : Nat) (cur : Int), j + d = (rd_L1 mv (i : Int)).length → lastOf (fun k => decide (rd L k < 0)) ((rd_L1 mv (i : Int)).drop j) cur = lastOf (fun k => decide (rd L k < 0)) (rd_L1 mv (i : Int)) (-1) → Ev (fun k => lure_Flee.l1 k L (M.set i cur) (i : Int) L (own.length : Int) (i : Int) (rd_L1 mv (i : Int)) ((rd_L1 mv (i : Int)).length : Int) (j : Int) own mv) r := by
  induction d with
  | zero =>
    intro j cur h e
    have E := Aside0.mk e
    clear e
    have e := E.out
    rw [List.drop_eq_nil_of_le (by omega), ← show cur = lastOf (fun k => decide (rd L k < 0)) [] cur from rfl] at e
    rw [← e] at K
    exact Ev.step (fun k => lure_Flee.l1.eq_2 ..) (evn (by omega) K)
  | succ d IH =>
    intro j cur h e
    have E := Aside0.mk e
    clear e
    have hj : j < (rd_L1 mv (i : Int)).length := by omega
    have sm := G.small i
    have n2 := G.n2
    have W : wrap64 ((j : Int) + 1) = ((j + 1 : Nat) : Int) := by rw [w64 (by omega) (by omega)]; omega
    obtain ⟨y, hy⟩ : ∃ y, rd (rd_L1 mv (i : Int)) (j : Int) = y := ⟨_, rfl⟩
    have YM := Aside0.mk ((rd_at _ j hj).symm.trans hy)
    have HY := Aside0.mk hy
    clear hy
    have yin := G.in_ i hi y (by rw [← YM.out]; exact List.getElem_mem hj)
    refine Ev.step (fun k => lure_Flee.l1.eq_2 ..) (evp (by omega) (evp (by omega) (evp (by omega) ?_)))
    rw [HY.out, W]
    refine evp (by omega) (evp (by omega) ?_)
    have E2 := E.out
    rw [List.drop_eq_getElem_cons hj, YM.out] at E2
    have E3 := Aside0.mk (show lastOf (fun k => decide (rd L k < 0)) ((rd_L1 mv (i : Int)).drop (j + 1)) (if decide (rd L y < 0) = true then y else cur) = lastOf (fun k => decide (rd L k < 0)) (rd_L1 mv (i : Int)) (-1) from E2)
    clear E2
    by_cases c1 : rd L y < 0
    · refine evp c1 (evp (by omega) (evp (by rw [List.length_set]; omega) ?_))
      have e := E3.out
      rw [if_pos (decide_eq_true c1)] at e
      have E4 := Aside0.mk e
      clear e
      rw [Int.toNat_natCast, List.set_set]
      exact IH (j + 1) y (by omega) E4.out
    · have e := E3.out
      rw [if_neg (by rw [decide_eq_false c1]; decide)] at e
      have E4 := Aside0.mk e
      clear e
      exact evn c1 (IH (j + 1) cur (by omega) E4.out)
theorem flee_l0 {own : List Int} {mv : List (List Int)} (G : VG own mv) {L : List Int} (hL : L.length = own.length) (d : Nat) : ∀ i : Nat, i + d = own.length → Ev (fun k => lure_Flee.l0 k L (upto (fleeV own mv L) own.length i) L (own.length : Int) (i : Int) own mv) (upto (fleeV own mv L) own.length own.length, 0) := by
  induction d with
  | zero =>
    intro i h
    obtain rfl : i = own.length := by omega
    exact Ev.step (fun k => lure_Flee.l0.eq_2 ..) (evn (by omega) (Ev.now _))
  | succ d IH =>
    intro i h
    have hi : i < own.length := by omega
    have n2 := G.n2
    have l := G.len
    have ih := IH (i + 1) (by omega)
    have W : wrap64 ((i : Int) + 1) = ((i + 1 : Nat) : Int) := by rw [w64 (by omega) (by omega)]; omega
    rw [← upto_set] at ih
    refine Ev.step (fun k => lure_Flee.l0.eq_2 ..) (evp (by omega) (evp (by omega) (evp (by omega) ?_)))
    have Z : ∀ c : Bool, (c = true → fleeV own mv L i = -1) → (c = false → fleeV own mv L i = lastOf (fun k => decide (rd L k < 0)) (rd_L1 mv (i : Int)) (-1)) → Ev (fun k => lure_Flee.j1 k L (upto (fleeV own mv L) own.length i) (i : Int) L (own.length : Int) (i : Int) c own mv) (upto (fleeV own mv L) own.length own.length, 0) := fun c y n => by
      refine Ev.step (fun k => lure_Flee.j1.eq_2 ..) ?_
      cases c with
      | true =>
        rw [y rfl, upto_keep] at ih
        refine evp rfl ?_
        rw [W]; exact ih
      | false =>
        rw [n rfl, ← W] at ih
        refine evn (by decide) (evp (by omega) (evp (by omega) ?_))
        have K := flee_l1 G hL hi _ (upto_len _ _ i) _ ih _ 0 (-1) (Nat.zero_add _) rfl
        rw [upto_keep] at K
        exact K
    by_cases c1 : rd L (i : Int) ≥ 0
    · exact evp c1 (Z true (fun _ => if_pos (Or.inl c1)) (fun e => absurd e (by decide)))
    · refine evn c1 (evp (by omega) ?_)
      by_cases c2 : rd own (i : Int) = 1
      · rw [show (rd own (i : Int) != 1) = false from bne_eq_false_iff_eq.2 c2]
        exact Z false (fun e => absurd e (by decide)) (fun _ => if_neg (fun q => q.elim (fun q => c1 q) (fun q => q c2)))
      · rw [show (rd own (i : Int) != 1) = true from bne_iff_ne.2 c2]
        exact Z true (fun _ => if_pos (Or.inr c2)) (fun e => absurd e (by decide))
/-- what Flee answers -/
def fleeR (own : List Int) (mv : List (List Int)) (goal : List Int) : List Int := upto (fleeV own mv (ranksR own mv goal)) own.length own.length
def FlR (own : List Int) (mv : List (List Int)) (goal : List Int) : List Int × Int := if exR own mv goal = 0 then (fleeR own mv goal, 0) else ([], exR own mv goal)
theorem FlR_0 {own : List Int} {mv : List (List Int)} {goal : List Int} (h : exR own mv goal = 0) : FlR own mv goal = (fleeR own mv goal, 0) := if_pos h
theorem FlR_n {own : List Int} {mv : List (List Int)} {goal : List Int} (h : ¬ exR own mv goal = 0) : FlR own mv goal = ([], exR own mv goal) := if_neg h
theorem Flee_ev {own : List Int} {mv : List (List Int)} (hs : ∀ m ∈ mv, m.length ≤ 100) (goal : List Int) (hl : goal.length ≤ 100) : Ev (fun k => lure_Flee.f k own mv goal) (FlR own mv goal) := by
  unfold lure_Flee.f
  refine evb (examine_ev own mv hs goal hl) ?_
  by_cases e : exR own mv goal = 0
  · rw [FlR_0 e]
    obtain ⟨v, s⟩ := exR_ok e
    have G := vlR_ok hs v
    have rl : (ranksR own mv goal).length = own.length := rkL_len ..
    refine evp e (evb (ranks_ev G goal (setB_in s)) ?_)
    rw [rl]
    refine evs (repeat_eq G.n1 G.n2) ?_
    rw [← upto_0 (fleeV own mv (ranksR own mv goal))]
    exact flee_l0 G rl own.length 0 (by omega)
  · rw [FlR_n e]
    exact evn e (Ev.now _)

theorem rank_top {own : List Int} {mv : List (List Int)} (G : VG own mv) (goal : List Int) {i : Nat} (hi : i < own.length) : -1 ≤ rd (ranksR own mv goal) (i : Int) ∧ rd (ranksR own mv goal) (i : Int) ≤ 16 := by
  have n2 := G.n2
  obtain ⟨_, b, c⟩ := rk_reach G (inL goal) hi own.length
  rw [show rd (ranksR own mv goal) (i : Int) = rk own mv (inL goal) own.length i from rkL_at own mv _ _ hi]
  omega
theorem rank_step {own : List Int} {mv : List (List Int)} (G : VG own mv) {goal : List Int} {i : Nat} (hi : i < own.length) (h : rd (ranksR own mv goal) (i : Int) > 0) :
    (rd own (i : Int) = 0 → ∃ k ∈ rd_L1 mv (i : Int), 0 ≤ rd (ranksR own mv goal) k ∧ rd (ranksR own mv goal) k < rd (ranksR own mv goal) (i : Int)) ∧ (¬ rd own (i : Int) = 0 → ∀ k ∈ rd_L1 mv (i : Int), 0 ≤ rd (ranksR own mv goal) k ∧ rd (ranksR own mv goal) k < rd (ranksR own mv goal) (i : Int)) := by
  have p := (ranks_proof G goal).2 i hi
  have tp := rank_top G goal hi
  unfold pB at p
  rw [Bool.or_eq_false_iff, decide_eq_true h, Bool.true_and] at p
  have f : forB own mv (i : Int) (fun k => decide (0 ≤ rd (ranksR own mv goal) k ∧ rd (ranksR own mv goal) k ≤ wrap64 (rd (ranksR own mv goal) (i : Int) - 1))) = true := by
    cases y : forB own mv (i : Int) (fun k => decide (0 ≤ rd (ranksR own mv goal) k ∧ rd (ranksR own mv goal) k ≤ wrap64 (rd (ranksR own mv goal) (i : Int) - 1)))
    · rw [y] at p; exact absurd p.2 (by decide)
    · rfl
  rw [w64 (by omega) (by omega)] at f
  unfold forB at f
  constructor
  · intro o
    rw [if_pos o] at f
    obtain ⟨k, hk, y⟩ := List.any_eq_true.1 f
    have y := of_decide_eq_true y
    exact ⟨k, hk, y.1, by omega⟩
  · intro o k hk
    rw [if_neg o] at f
    have g : ((rd_L1 mv (i : Int)).any fun k => !decide (0 ≤ rd (ranksR own mv goal) k ∧ rd (ranksR own mv goal) k ≤ rd (ranksR own mv goal) (i : Int) - 1)) = false := by
      cases y : (rd_L1 mv (i : Int)).any fun k => !decide (0 ≤ rd (ranksR own mv goal) k ∧ rd (ranksR own mv goal) k ≤ rd (ranksR own mv goal) (i : Int) - 1)
      · rfl
      · rw [y] at f; exact absurd f (by decide)
    have y := List.any_eq_false.1 g k hk
    by_cases q : 0 ≤ rd (ranksR own mv goal) k ∧ rd (ranksR own mv goal) k ≤ rd (ranksR own mv goal) (i : Int) - 1
    · exact ⟨q.1, by omega⟩
    · exact absurd (by rw [decide_eq_false q]; rfl) y
theorem neg_iff {own : List Int} {mv : List (List Int)} (G : VG own mv) {goal : List Int} {i : Nat} (hi : i < own.length) : rd (ranksR own mv goal) (i : Int) < 0 ↔ (i : Int) ∈ asc (fun i => !wonR own mv goal i) own.length := by
  obtain ⟨a, _, _⟩ := rk_reach G (inL goal) hi own.length
  rw [show rd (ranksR own mv goal) (i : Int) = rk own mv (inL goal) own.length i from rkL_at own mv _ _ hi, asc_mem]
  constructor
  · intro h
    refine ⟨i, rfl, hi, ?_⟩
    cases y : wonR own mv goal i
    · rfl
    · have := a.2 y; omega
  · rintro ⟨k, e, hk, w⟩
    obtain rfl : i = k := by omega
    by_cases h : 0 ≤ rk own mv (inL goal) own.length i
    · have := a.1 h
      rw [show wonR own mv goal i = true from this] at w
      exact absurd w (by decide)
    · omega
theorem free_step {own : List Int} {mv : List (List Int)} (G : VG own mv) {goal : List Int} {i : Nat} (hi : i < own.length) (h : rd (ranksR own mv goal) (i : Int) < 0) :
    (rd own (i : Int) = 0 → ∀ k ∈ rd_L1 mv (i : Int), rd (ranksR own mv goal) k < 0) ∧ (¬ rd own (i : Int) = 0 → ∃ k ∈ rd_L1 mv (i : Int), rd (ranksR own mv goal) k < 0) ∧ (i : Int) ∉ goal := by
  have p := List.any_eq_false.1 (free_trap G goal) _ ((neg_iff G hi).1 h)
  unfold badT at p
  rw [Bool.not_eq_true, Bool.or_eq_false_iff] at p
  have N : ∀ k ∈ rd_L1 mv (i : Int), k ∈ asc (fun i => !wonR own mv goal i) own.length → rd (ranksR own mv goal) k < 0 := fun k hk m => by
    have r := G.in_ i hi k hk
    obtain ⟨z, rfl⟩ := Int.eq_ofNat_of_zero_le r.1
    exact (neg_iff G (by omega)).2 m
  obtain ⟨p1, p2⟩ := p
  unfold forB at p2
  refine ⟨fun o k hk => ?_, fun o => ?_, of_decide_eq_false p1⟩
  · rw [if_pos o] at p2
    have y := List.any_eq_false.1 p2 k hk
    by_cases q : k ∈ asc (fun i => !wonR own mv goal i) own.length
    · exact N k hk q
    · exact absurd (by rw [decide_eq_false q]; rfl) y
  · rw [if_neg o] at p2
    have g : ((rd_L1 mv (i : Int)).any fun k => !!decide (k ∈ asc (fun i => !wonR own mv goal i) own.length)) = true := by
      cases y : (rd_L1 mv (i : Int)).any fun k => !!decide (k ∈ asc (fun i => !wonR own mv goal i) own.length)
      · rw [y] at p2; exact absurd p2 (by decide)
      · rfl
    obtain ⟨k, hk, y⟩ := List.any_eq_true.1 g
    rw [Bool.not_not] at y
    exact ⟨k, hk, N k hk (of_decide_eq_true y)⟩
theorem planV_ok {own : List Int} {mv : List (List Int)} (G : VG own mv) {goal : List Int} {i : Nat} (hi : i < own.length) (o : rd own (i : Int) = 0) (h : rd (ranksR own mv goal) (i : Int) > 0) :
    planV own mv (ranksR own mv goal) i ∈ rd_L1 mv (i : Int) ∧ 0 ≤ rd (ranksR own mv goal) (planV own mv (ranksR own mv goal) i) ∧ rd (ranksR own mv goal) (planV own mv (ranksR own mv goal) i) < rd (ranksR own mv goal) (i : Int) := by
  obtain ⟨k, hk, y⟩ := (rank_step G hi h).1 o
  unfold planV
  rw [if_neg (fun q => q.elim (fun q => absurd h (by omega)) (fun q => q o))]
  obtain ⟨a, b⟩ := lastOf_in (p := fun k => decide (0 ≤ rd (ranksR own mv goal) k ∧ rd (ranksR own mv goal) k < rd (ranksR own mv goal) (i : Int))) (c := -1) ⟨k, hk, decide_eq_true y⟩
  exact ⟨a, of_decide_eq_true b⟩
theorem fleeV_ok {own : List Int} {mv : List (List Int)} (G : VG own mv) {goal : List Int} {i : Nat} (hi : i < own.length) (o : rd own (i : Int) = 1) (h : rd (ranksR own mv goal) (i : Int) < 0) :
    fleeV own mv (ranksR own mv goal) i ∈ rd_L1 mv (i : Int) ∧ rd (ranksR own mv goal) (fleeV own mv (ranksR own mv goal) i) < 0 := by
  obtain ⟨k, hk, y⟩ := (free_step G hi h).2.1 (by omega)
  unfold fleeV
  rw [if_neg (fun q => q.elim (fun q => absurd h (by omega)) (fun q => q o))]
  obtain ⟨a, b⟩ := lastOf_in (p := fun k => decide (rd (ranksR own mv goal) k < 0)) (c := -1) ⟨k, hk, decide_eq_true y⟩
  exact ⟨a, of_decide_eq_true b⟩

theorem plans_l0 {own : List Int} {mv : List (List Int)} (G : VG own mv) (goal : List Int) (d : Nat) : ∀ i : Nat, i + d = own.length → Ev (fun k => wigeonlaw04_LurePlans.l0 k (planR own mv goal) (fleeR own mv goal) (ranksR own mv goal) (i : Int) own mv) true := by
  have l := G.len
  have rl : (ranksR own mv goal).length = own.length := rkL_len ..
  have pl : (planR own mv goal).length = own.length := upto_len ..
  have fl : (fleeR own mv goal).length = own.length := upto_len ..
  have n2 := G.n2
  induction d with
  | zero =>
    intro i h
    exact Ev.step (fun k => wigeonlaw04_LurePlans.l0.eq_2 ..) (evn (by omega) (evb known_ev (Ev.now _)))
  | succ d IH =>
    intro i h
    have hi : i < own.length := by omega
    have ih := IH (i + 1) (by omega)
    have W : wrap64 ((i : Int) + 1) = ((i + 1 : Nat) : Int) := by rw [w64 (by omega) (by omega)]; omega
    rw [← W] at ih
    have mm : Aside0 (rd (planR own mv goal) (i : Int) = planV own mv (ranksR own mv goal) i) := ⟨upto_at _ hi⟩
    have ff : Aside0 (rd (fleeR own mv goal) (i : Int) = fleeV own mv (ranksR own mv goal) i) := ⟨upto_at _ hi⟩
    have sm := G.small i
    have J7 : ∀ x13 : Bool, (x13 = true → rd own (i : Int) = 1 ∧ rd (ranksR own mv goal) (i : Int) < 0) → Ev (fun k => wigeonlaw04_LurePlans.j7 k (planR own mv goal) (fleeR own mv goal) (ranksR own mv goal) (i : Int) x13 false own mv) true := fun x13 hx => by
      refine Ev.step (fun k => wigeonlaw04_LurePlans.j7.eq_2 ..) (evn (by decide) ?_)
      cases x13 with
      | false => exact evn (by decide) ih
      | true =>
        obtain ⟨o, r⟩ := hx rfl
        obtain ⟨a, b⟩ := fleeV_ok G hi o r
        rw [← ff.out] at a b
        have c := G.in_ i hi _ a
        exact evp rfl (evp (by omega) (evp (by omega) (evp (by omega) (evb (has_ev _ _ (by omega)) (evp (decide_eq_true a) (evp (by omega) (evp (by omega) (evn (by omega) ih))))))))
    have J6 : ∀ x12 x13 : Bool, (x12 = true → rd own (i : Int) = 0 ∧ rd (ranksR own mv goal) (i : Int) > 0) → (x13 = true → rd own (i : Int) = 1 ∧ rd (ranksR own mv goal) (i : Int) < 0) → Ev (fun k => wigeonlaw04_LurePlans.j6 k (planR own mv goal) (fleeR own mv goal) (ranksR own mv goal) (i : Int) x12 x13 false own mv) true := fun x12 x13 hx hy => by
      refine Ev.step (fun k => wigeonlaw04_LurePlans.j6.eq_2 ..) (evn (by decide) ?_)
      cases x12 with
      | false => exact evn (by decide) (J7 _ hy)
      | true =>
        obtain ⟨o, r⟩ := hx rfl
        obtain ⟨a, b, b2⟩ := planV_ok G hi o r
        rw [← mm.out] at a b b2
        have c := G.in_ i hi _ a
        refine evp rfl (evp (by omega) (evp (by omega) (evp (by omega) (evb (has_ev _ _ (by omega)) (evp (decide_eq_true a) (evp (by omega) (evp (by omega) (evn (by omega) (evp (by omega) ?_)))))))))
        rw [decide_eq_false (by omega : ¬ rd (ranksR own mv goal) (rd (planR own mv goal) (i : Int)) ≥ rd (ranksR own mv goal) (i : Int))]
        exact J7 _ hy
    have J5 : ∀ x12 x13 : Bool, (x12 = true → rd own (i : Int) = 0 ∧ rd (ranksR own mv goal) (i : Int) > 0) → (x13 = true → rd own (i : Int) = 1 ∧ rd (ranksR own mv goal) (i : Int) < 0) → (x12 = false → rd (planR own mv goal) (i : Int) = -1) → (x13 = false → rd (fleeR own mv goal) (i : Int) = -1) → Ev (fun k => wigeonlaw04_LurePlans.j5 k (planR own mv goal) (fleeR own mv goal) (ranksR own mv goal) (i : Int) x12 x13 own mv) true := fun x12 x13 hx hy hm hf => by
      refine Ev.step (fun k => wigeonlaw04_LurePlans.j5.eq_2 ..) ?_
      have K : x13 = false → ((rd (fleeR own mv goal) (i : Int)) != (-1)) = false := fun e => bne_eq_false_iff_eq.2 (hf e)
      cases x12 with
      | true =>
        refine evp rfl ?_
        cases x13 with
        | true => exact evp rfl (J6 _ _ hx hy)
        | false =>
          refine evn (by decide) (evp (by omega) (evp (by omega) ?_))
          rw [K rfl]
          exact J6 _ _ hx hy
      | false =>
        refine evn (by decide) (evp (by omega) (evp (by omega) (evp (hm rfl) ?_)))
        cases x13 with
        | true => exact evp rfl (J6 _ _ hx hy)
        | false =>
          refine evn (by decide) (evp (by omega) ?_)
          rw [K rfl]
          exact J6 _ _ hx hy
    have J4 : ∀ x12 : Bool, (x12 = true → rd own (i : Int) = 0 ∧ rd (ranksR own mv goal) (i : Int) > 0) → (x12 = false → rd (planR own mv goal) (i : Int) = -1) → Ev (fun k => wigeonlaw04_LurePlans.j4 k (planR own mv goal) (fleeR own mv goal) (ranksR own mv goal) (i : Int) x12 own mv) true := fun x12 hx hm => by
      refine Ev.step (fun k => wigeonlaw04_LurePlans.j4.eq_2 ..) (evp (by omega) (evp (by omega) ?_))
      by_cases o : rd own (i : Int) = 1
      · refine evp o (evp (by omega) ?_)
        by_cases r : rd (ranksR own mv goal) (i : Int) < 0
        · rw [decide_eq_true r]
          exact J5 _ _ hx (fun _ => ⟨o, r⟩) hm (fun e => absurd e (by decide))
        · rw [decide_eq_false r]
          refine J5 _ _ hx (fun e => absurd e (by decide)) hm (fun _ => ?_)
          rw [ff.out]; exact if_pos (Or.inl (by omega))
      · refine evn o (J5 _ _ hx (fun e => absurd e (by decide)) hm (fun _ => ?_))
        rw [ff.out]; exact if_pos (Or.inr o)
    refine Ev.step (fun k => wigeonlaw04_LurePlans.l0.eq_2 ..) (evp (by omega) (evp (by omega) (evp (by omega) ?_)))
    by_cases o : rd own (i : Int) = 0
    · refine evp o ?_
      by_cases r : rd (ranksR own mv goal) (i : Int) > 0
      · rw [decide_eq_true r]
        exact J4 _ (fun _ => ⟨o, r⟩) (fun e => absurd e (by decide))
      · rw [decide_eq_false r]
        refine J4 _ (fun e => absurd e (by decide)) (fun _ => ?_)
        rw [mm.out]; exact if_pos (Or.inl (by omega))
    · refine evn o (J4 _ (fun e => absurd e (by decide)) (fun _ => ?_))
      rw [mm.out]; exact if_pos (Or.inr o)
theorem LurePlans (a0_0 : List Int) (a0_1 : List (List Int)) (a1 : List Int) (h0_0 : (a0_0.length ≤ 9223372036854775807 ∧ ∀ x_ ∈ a0_0, (Lit.int .i64 x_).wf = true)) (h0_1 : (a0_1.length ≤ 9223372036854775807 ∧ ∀ x_ ∈ a0_1, (x_.length ≤ 9223372036854775807 ∧ ∀ x__ ∈ x_, (Lit.int .i64 x__).wf = true))) (h1 : (a1.length ≤ 9223372036854775807 ∧ ∀ x_ ∈ a1, (Lit.int .i64 x_).wf = true)) : ∃ k, wigeonlaw04_LurePlans.f k a0_0 a0_1 a1 = some true := by
  refine Ev.rounds (g := fun k => wigeonlaw04_LurePlans.f k a0_0 a0_1 a1) ?_
  unfold wigeonlaw04_LurePlans.f
  refine evb (large_ev a0_0 a0_1) ?_
  have Z : Ev (fun k => wigeonlaw04_LurePlans.j0 k a1 true a0_0 a0_1) true := Ev.step (fun k => wigeonlaw04_LurePlans.j0.eq_2 ..) (evp rfl (evb known_ev (Ev.now _)))
  by_cases h : lgB a0_0 a0_1 = true
  · exact evp h Z
  · refine evn h ?_
    obtain ⟨hn, _, hs⟩ := large_not h
    by_cases h2 : (a1.length : Int) > 100
    · rw [decide_eq_true h2]; exact Z
    · rw [decide_eq_false h2]
      refine Ev.step (fun k => wigeonlaw04_LurePlans.j0.eq_2 ..) (evn (by decide) (evb (Plan_ev hs a1 (by omega)) (evb (Flee_ev hs a1 (by omega)) (evb (rRanks_ev _ _ hs _ (by omega)) ?_))))
      by_cases e : exR a0_0 a0_1 a1 = 0
      · rw [PlR_0 e, FlR_0 e, RaR_0 e]
        have G := vlR_ok hs (exR_ok e).1
        have rl : (ranksR a0_0 a0_1 a1).length = a0_0.length := rkL_len ..
        have pl : (planR a0_0 a0_1 a1).length = a0_0.length := upto_len ..
        have fl : (fleeR a0_0 a0_1 a1).length = a0_0.length := upto_len ..
        refine evp rfl (Ev.step (fun k => wigeonlaw04_LurePlans.j1.eq_2 ..) (evn (show ¬ ((0 : Int) != 0) = true from by decide) (evp rfl (evp (by dsimp only; omega) ?_))))
        rw [show (((fleeR a0_0 a0_1 a1, (0 : Int)).1.length : Int) != ((ranksR a0_0 a0_1 a1, (0 : Int)).1.length : Int)) = false by dsimp only; rw [fl, rl]; exact bne_self_eq_false _]
        exact Ev.step (fun k => wigeonlaw04_LurePlans.j2.eq_2 ..) (evn (by decide) (plans_l0 G a1 a0_0.length 0 (by omega)))
      · rw [PlR_n e, FlR_n e, RaR_n e]
        refine evp rfl ?_
        rw [show ((([] : List Int), exR a0_0 a0_1 a1).2 != (([] : List Int), exR a0_0 a0_1 a1).2) = false from bne_self_eq_false _]
        exact Ev.step (fun k => wigeonlaw04_LurePlans.j1.eq_2 ..) (evn (by decide) (evn e (evp rfl (evp rfl (evb known_ev (Ev.now _))))))

end Go.Proofs.Ytnmaonampilmoaa.Pure

