/- Of the text PureLurePlays, what the row of LurePlays reaches. -/
import Derived.Test.YtnmaonampilmoaaZLurePlaysLPx18
namespace Go.Proofs.Ytnmaonampilmoaa.Pure
set_option linter.unusedVariables false
set_option linter.unusedSimpArgs false
open Go.RowKit Go.Proofs.Ytnmaonampilmoaa.LP Go.Proofs.YtnmaonampilmoaaW.PrintWords Go.Proofs.YtnmaonampilmoaaW.PrintLast Go.Proofs.YtnmaonampilmoaaW.PrintMore

theorem evp {α : Type} {c : Prop} [Decidable c] {f g : Nat → Option α} {r : α} (h : c) (k : Ev f r) : Ev (fun n => if c then f n else g n) r :=
  Ev.congr (fun _ => if_pos h) k
theorem evn {α : Type} {c : Prop} [Decidable c] {f g : Nat → Option α} {r : α} (h : ¬ c) (k : Ev g r) : Ev (fun n => if c then f n else g n) r :=
  Ev.congr (fun _ => if_neg h) k
theorem evb {α β : Type} {g : Nat → Option α} {f : Nat → α → Option β} {a : α} {r : β} (h : Ev g a) (k : Ev (fun n => f n a) r) : Ev (fun n => (g n).bind (f n)) r := Ev.bind h k
theorem evs {α β : Type} {x : Option α} {f : Nat → α → Option β} {a : α} {r : β} (h : x = some a) (k : Ev (fun n => f n a) r) : Ev (fun n => x.bind (f n)) r := by
  subst h; exact k
theorem w64 {n : Int} (h : -9223372036854775808 ≤ n) (h2 : n ≤ 9223372036854775807) : wrap64 n = n := by unfold wrap64; omega
theorem rd_at (l : List Int) (i : Nat) (h : i < l.length) : rd l (i : Int) = l[i] := by
  simp [rd, List.getD_eq_getElem?_getD, List.getElem?_eq_getElem h]

/-- the number whose ones are told by q -/
def rv (q : Nat → Bool) : Nat → Nat
  | 0 => 0
  | n + 1 => rv q n + (if q n then 2 ^ n else 0)
theorem rv_lt (q : Nat → Bool) : ∀ n, rv q n < 2 ^ n
  | 0 => by simp [rv]
  | n + 1 => by
    have := rv_lt q n
    unfold rv
    rw [Nat.pow_succ]
    split <;> omega
theorem rv_bit (q : Nat → Bool) : ∀ n k, k < n → (rv q n).testBit k = q k
  | 0, k, h => absurd h (by omega)
  | n + 1, k, h => by
    unfold rv
    by_cases e : k = n
    · subst e
      have lo := Nat.testBit_lt_two_pow (rv_lt q k)
      cases hq : q k
      · rw [if_neg (by decide), Nat.add_zero]; exact lo
      · rw [if_pos rfl, Nat.add_comm, Nat.testBit_two_pow_add_eq, lo]; rfl
    · have R := rv_bit q n k (by omega)
      cases hq : q n
      · rw [if_neg (by decide), Nat.add_zero]; exact R
      · rw [if_pos rfl, Nat.add_comm, Nat.testBit_two_pow_add_gt (by omega)]; exact R
theorem i64_small (n : Int) (h : 0 ≤ n) (h2 : n < 2 ^ 62) : IntKind.i64.wrap n = n := by
  rw [IntKind.wrap_i64]
  rw [show (2 : Int) ^ 62 = 4611686018427387904 from by decide] at h2
  omega
theorem pow_small {k : Nat} (h : k ≤ 16) : 2 ^ k ≤ 65536 := Nat.le_trans (Nat.pow_le_pow_right (by decide) h) (by decide)
theorem pow_int (k : Nat) : (2 : Int) ^ k = ((2 ^ k : Nat) : Int) := by rw [Int.natCast_pow]; rfl
theorem shl1 {k : Nat} (h : k ≤ 16) : shl .i64 1 (k : Int) = ((2 ^ k : Nat) : Int) := by
  unfold shl
  have := pow_small h
  rw [Int.toNat_natCast, show IntKind.i64.bits = 64 from rfl, Nat.min_eq_left (by omega), Int.one_mul, pow_int]
  refine i64_small _ (Int.natCast_nonneg _) ?_
  rw [show (2 : Int) ^ 62 = 4611686018427387904 from by decide]
  generalize 2 ^ k = z at *
  omega
theorem bits64 (a b : Nat) (ha : a < 2 ^ 62) (hb : b < 2 ^ 62) : Go.bits .and .i64 (a : Int) (b : Int) = ((a &&& b : Nat) : Int) ∧ Go.bits .or .i64 (a : Int) (b : Int) = ((a ||| b : Nat) : Int) := bits_nat .i64 62 (by decide) i64_small a b ha hb
theorem bit_at (v k : Nat) (hv : v < 2 ^ 62) (hk : k ≤ 16) : Go.bits .and .i64 (shr .i64 (v : Int) (IntKind.u64.wrap (k : Int))) 1 = if v.testBit k then 1 else 0 := by
  have w : IntKind.u64.wrap (k : Int) = k := by
    simp only [IntKind.wrap, IntKind.bits, IntKind.signed, Bool.false_and]
    rw [if_neg (by decide)]
    omega
  rw [w]
  unfold shr
  rw [Int.toNat_natCast, show IntKind.i64.bits = 64 from rfl, Nat.min_eq_left (by omega), pow_int, ← Int.natCast_ediv]
  have lt : v / 2 ^ k < 2 ^ 62 := Nat.lt_of_le_of_lt (Nat.div_le_self _ _) hv
  have c := bits64 (v / 2 ^ k) 1 lt (by decide)
  have e : v / 2 ^ k &&& 1 = v / 2 ^ k % 2 := Nat.and_one_is_mod _
  rw [e] at c
  have f : ((v / 2 ^ k % 2 : Nat) : Int) = if v.testBit k then 1 else 0 := by
    rw [Nat.testBit_eq_decide_div_mod_eq]
    by_cases g : v / 2 ^ k % 2 = 1
    · rw [decide_eq_true g, if_pos rfl, g]; rfl
    · rw [decide_eq_false g, if_neg (by decide)]; omega
  rw [← f]
  exact c.1

theorem rv_hi (q : Nat → Bool) {n k : Nat} (h : n ≤ k) : (rv q n).testBit k = false := Nat.testBit_lt_two_pow (Nat.lt_of_lt_of_le (rv_lt q n) (Nat.pow_le_pow_right (by decide) h))
theorem rv_ext (a : Nat) (q : Nat → Bool) (n : Nat) (h1 : ∀ k, k < n → a.testBit k = q k) (h2 : ∀ k, n ≤ k → a.testBit k = false) : a = rv q n := by
  refine Nat.eq_of_testBit_eq fun k => ?_
  rcases Nat.lt_or_ge k n with h | h
  · rw [h1 k h, rv_bit q n k h]
  · rw [h2 k h, rv_hi q h]
theorem rv_congr {p q : Nat → Bool} {n : Nat} (h : ∀ k, k < n → p k = q k) : rv p n = rv q n :=
  rv_ext _ q n (fun k hk => by rw [rv_bit p n k hk, h k hk]) (fun k hk => rv_hi p hk)
theorem rv_big (q : Nat → Bool) {n : Nat} (h : n ≤ 16) : rv q n < 2 ^ 62 := Nat.lt_of_lt_of_le (rv_lt q n) (Nat.pow_le_pow_right (by decide) (by omega))
theorem rv_or (p q : Nat → Bool) {n : Nat} (h : n ≤ 16) : Go.bits .or .i64 (rv p n : Int) (rv q n : Int) = ((rv (fun i => p i || q i) n : Nat) : Int) := by
  rw [(bits64 _ _ (rv_big p h) (rv_big q h)).2, rv_ext (rv p n ||| rv q n) (fun i => p i || q i) n (fun k hk => by rw [Nat.testBit_or, rv_bit p n k hk, rv_bit q n k hk]) (fun k hk => by rw [Nat.testBit_or, rv_hi p hk, rv_hi q hk, Bool.false_or])]
theorem uw {k : Nat} (h : k ≤ 100) : IntKind.u64.wrap (k : Int) = k := by
  simp only [IntKind.wrap, IntKind.bits, IntKind.signed, Bool.false_and]
  rw [if_neg (by decide)]
  omega
theorem pow_rv {k n : Nat} (h : k < n) : 2 ^ k = rv (fun i => decide (i = k)) n :=
  rv_ext _ _ n (fun j _ => by rw [Nat.testBit_two_pow]; exact decide_eq_decide.2 ⟨Eq.symm, Eq.symm⟩) (fun j hj => by rw [Nat.testBit_two_pow]; exact decide_eq_false (by omega))
theorem or_one (q : Nat → Bool) {n k : Nat} (h : n ≤ 16) (hk : k < n) : Go.bits .or .i64 (rv q n : Int) (shl .i64 1 (IntKind.u64.wrap (k : Int))) = ((rv (fun i => q i || decide (i = k)) n : Nat) : Int) := by
  rw [uw (by omega), shl1 (by omega), pow_rv hk]; exact rv_or _ _ h
theorem rv_0 (n : Nat) : rv (fun _ => false) n = 0 := by
  induction n with
  | zero => rfl
  | succ n ih => unfold rv; rw [ih]; rfl
/-- a list as a set -/
def inL (l : List Int) (i : Nat) : Bool := decide ((i : Int) ∈ l)
theorem bits_l0 (l : List Int) (n : Nat) (hn : n ≤ 16) (hl : ∀ x ∈ l, 0 ≤ x ∧ x < (n : Int)) (hs : l.length ≤ 1000) : ∀ d j : Nat, j + d = l.length → Ev (fun k => wigeonref04_bits.l0 k l (rv (inL (l.take j)) n : Int) (j : Int)) ((rv (inL l) n : Nat) : Int)
  | 0, j, e => by
    refine Ev.step (fun k => wigeonref04_bits.l0.eq_2 ..) (evn (by omega) ?_)
    rw [List.take_of_length_le (by omega)]; exact Ev.now _
  | d + 1, j, e => by
    have hj : j < l.length := by omega
    have R := bits_l0 l n hn hl hs d (j + 1) (by omega)
    obtain ⟨h0, h1⟩ := hl _ (List.getElem_mem hj)
    obtain ⟨x, hx⟩ := Int.eq_ofNat_of_zero_le h0
    have hx' : l[j] = (x : Int) := hx
    refine Ev.step (fun k => wigeonref04_bits.l0.eq_2 ..) (evp (by omega) (evp (by omega) ?_))
    rw [rd_at l j hj, hx', w64 (n := (j : Int) + 1) (by omega) (by omega)]
    refine evp (by rw [uw (by omega)]; omega) ?_
    rw [or_one _ hn (by omega)]
    rw [rv_congr (q := fun i => inL (l.take j) i || decide (i = x)) (fun k _ => by
      unfold inL
      rw [List.take_succ_eq_append_getElem hj, hx']
      rw [← Bool.decide_or]
      refine decide_eq_decide.2 ?_
      rw [List.mem_append, List.mem_singleton]
      constructor
      · rintro (h | h)
        · exact Or.inl h
        · exact Or.inr (by omega)
      · rintro (h | h)
        · exact Or.inl h
        · exact Or.inr (by omega))] at R
    exact R
theorem bits_ev (l : List Int) (n : Nat) (hn : n ≤ 16) (hl : ∀ x ∈ l, 0 ≤ x ∧ x < (n : Int)) (hs : l.length ≤ 1000) : Ev (fun k => wigeonref04_bits.f k l) ((rv (inL l) n : Nat) : Int) := by
  have := bits_l0 l n hn hl hs l.length 0 (by omega)
  rw [List.take_zero, show rv (inL []) n = 0 by rw [← rv_0 n]; exact rv_congr (fun k _ => by simp [inL])] at this
  exact this

theorem within_eq (a lo hi : Int) : lure_within.f a lo hi = some (decide (lo ≤ a ∧ a ≤ hi)) := by
  unfold lure_within.f
  by_cases h : a ≥ lo
  · rw [if_pos h, decide_eq_decide.2 (show a ≤ hi ↔ lo ≤ a ∧ a ≤ hi by omega)]
  · rw [if_neg h, decide_eq_false (show ¬ (lo ≤ a ∧ a ≤ hi) by omega)]
theorem rwithin_eq (a lo hi : Int) : wigeonref04_within.f a lo hi = some (decide (lo ≤ a ∧ a ≤ hi)) := by
  unfold wigeonref04_within.f
  by_cases h : a ≥ lo
  · rw [if_pos h, decide_eq_decide.2 (show a ≤ hi ↔ lo ≤ a ∧ a ≤ hi by omega)]
  · rw [if_neg h, decide_eq_false (show ¬ (lo ≤ a ∧ a ≤ hi) by omega)]
/-- ascending numbers from 0 to n - 1, above lo -/
def stB (n : Int) : Int → List Int → Bool
  | _, [] => true
  | lo, x :: l => decide (0 ≤ x ∧ x ≤ n - 1) && (decide (lo < x) && stB n x l)
def setB (l : List Int) (n : Int) : Bool := stB n (-1) l
def pv (l : List Int) (i : Nat) : Int := if i = 0 then -1 else rd l ((i : Int) - 1)
theorem isSet_l0 (l : List Int) (n : Int) (h0 : 0 ≤ n) (h1 : n ≤ 1000) (hl : l.length ≤ 1000) : ∀ d i : Nat, i + d = l.length → Ev (fun k => lure_isSet.l0 k l n l (l.length : Int) (i : Int)) (stB n (pv l i) (l.drop i))
  | 0, i, h => by
    refine Ev.step (fun k => lure_isSet.l0.eq_2 ..) (evn (by omega) ?_)
    rw [List.drop_eq_nil_of_le (by omega)]; exact Ev.now _
  | d + 1, i, h => by
    have hlt : i < l.length := by omega
    have R := isSet_l0 l n h0 h1 hl d (i + 1) (by omega)
    have hp : pv l (i + 1) = l[i] := by
      unfold pv
      rw [if_neg (by omega), show ((i + 1 : Nat) : Int) - 1 = (i : Int) by omega, rd_at l i hlt]
    rw [hp] at R
    refine Ev.step (fun k => lure_isSet.l0.eq_2 ..) (evp (by omega) (evp (by omega) (evp (by omega) (evs (within_eq _ _ _) ?_))))
    rw [rd_at l i hlt, List.drop_eq_getElem_cons hlt, w64 (n := n - 1) (by omega) (by omega), w64 (n := (i : Int) + 1) (by omega) (by omega)]
    unfold stB
    by_cases q : 0 ≤ l[i] ∧ l[i] ≤ n - 1
    · rw [decide_eq_true q, Bool.true_and]
      refine evp rfl ?_
      by_cases hi : i = 0
      · subst hi
        refine evn (by omega) ?_
        rw [show decide (pv l 0 < l[0]) = true from decide_eq_true (by unfold pv; rw [if_pos rfl]; omega), Bool.true_and]; exact R
      · refine evp (by omega) ?_
        rw [w64 (n := (i : Int) - 1) (by omega) (by omega)]
        refine evp (by omega) (evp (by omega) ?_)
        have e : pv l i = rd l ((i : Int) - 1) := if_neg hi
        rw [e]
        by_cases g : rd l ((i : Int) - 1) ≥ l[i]
        · rw [decide_eq_false (by omega), Bool.false_and]; exact evp g (Ev.now _)
        · rw [decide_eq_true (by omega), Bool.true_and]; exact evn g R
    · rw [decide_eq_false q, Bool.false_and]; exact evn (by decide) (Ev.now _)
theorem isSet_ev (l : List Int) (n : Int) (h0 : 0 ≤ n) (h1 : n ≤ 1000) (hl : l.length ≤ 1000) : Ev (fun k => lure_isSet.f k l n) (setB l n) := isSet_l0 l n h0 h1 hl l.length 0 (by omega)
theorem risSet_l0 (l : List Int) (n : Int) (h0 : 0 ≤ n) (h1 : n ≤ 1000) (hl : l.length ≤ 1000) : ∀ d i : Nat, i + d = l.length → Ev (fun k => wigeonref04_isSet.l0 k l n (i : Int)) (stB n (pv l i) (l.drop i))
  | 0, i, h => by
    refine Ev.step (fun k => wigeonref04_isSet.l0.eq_2 ..) (evn (by omega) ?_)
    rw [List.drop_eq_nil_of_le (by omega)]; exact Ev.now _
  | d + 1, i, h => by
    have hlt : i < l.length := by omega
    have R := risSet_l0 l n h0 h1 hl d (i + 1) (by omega)
    have hp : pv l (i + 1) = l[i] := by
      unfold pv
      rw [if_neg (by omega), show ((i + 1 : Nat) : Int) - 1 = (i : Int) by omega, rd_at l i hlt]
    rw [hp] at R
    refine Ev.step (fun k => wigeonref04_isSet.l0.eq_2 ..) (evp (by omega) (evp (by omega) (evs (rwithin_eq _ _ _) ?_)))
    rw [rd_at l i hlt, List.drop_eq_getElem_cons hlt, w64 (n := n - 1) (by omega) (by omega), w64 (n := (i : Int) + 1) (by omega) (by omega)]
    unfold stB
    by_cases q : 0 ≤ l[i] ∧ l[i] ≤ n - 1
    · rw [decide_eq_true q, Bool.true_and]
      refine evp rfl ?_
      by_cases hi : i = 0
      · subst hi
        refine evn (by omega) ?_
        rw [show decide (pv l 0 < l[0]) = true from decide_eq_true (by unfold pv; rw [if_pos rfl]; omega), Bool.true_and]; exact R
      · refine evp (by omega) ?_
        rw [w64 (n := (i : Int) - 1) (by omega) (by omega)]
        refine evp (by omega) (evp (by omega) ?_)
        have e : pv l i = rd l ((i : Int) - 1) := if_neg hi
        rw [e]
        by_cases g : l[i] ≤ rd l ((i : Int) - 1)
        · rw [decide_eq_false (by omega), Bool.false_and]; exact evp g (Ev.now _)
        · rw [decide_eq_true (by omega), Bool.true_and]; exact evn g R
    · rw [decide_eq_false q, Bool.false_and]; exact evn (by decide) (Ev.now _)
theorem risSet_ev (l : List Int) (n : Int) (h0 : 0 ≤ n) (h1 : n ≤ 1000) (hl : l.length ≤ 1000) : Ev (fun k => wigeonref04_isSet.f k l n) (setB l n) := risSet_l0 l n h0 h1 hl l.length 0 (by omega)
theorem stB_in {n : Int} : ∀ {l : List Int} {lo : Int}, stB n lo l = true → ∀ x ∈ l, 0 ≤ x ∧ x < n ∧ lo < x
  | [], _, _, x, hx => absurd hx (by simp)
  | y :: l, lo, h, x, hx => by
    unfold stB at h
    rw [Bool.and_eq_true, Bool.and_eq_true, decide_eq_true_eq, decide_eq_true_eq] at h
    rcases List.mem_cons.1 hx with e | e
    · subst e; omega
    · have := stB_in h.2.2 x e; omega
theorem setB_in {l : List Int} {n : Int} (h : setB l n = true) : ∀ x ∈ l, 0 ≤ x ∧ x < n := fun x hx => by
  have := stB_in h x hx; omega
/-- one place: whose turn, and its moves -/
def rowB (n : Int) (o : Int) (m : List Int) : Bool := decide (0 ≤ o ∧ o ≤ 1) && (!decide (m = []) && setB m n)
def vaB (n : Int) (own : List Int) (mv : List (List Int)) : Nat → Nat → Bool
  | 0, _ => true
  | d + 1, i => rowB n (rd own (i : Int)) (rd_L1 mv (i : Int)) && vaB n own mv d (i + 1)
def vlR (own : List Int) (mv : List (List Int)) : Int := if 1 ≤ (own.length : Int) ∧ (own.length : Int) ≤ 16 then (if mv.length = own.length then (if vaB (own.length : Int) own mv own.length 0 = true then 0 else 1) else 1) else 3
theorem small_row {mv : List (List Int)} (hs : ∀ m ∈ mv, m.length ≤ 100) (i : Nat) : (rd_L1 mv (i : Int)).length ≤ 100 := by
  by_cases h : i < mv.length
  · exact hs _ (getD_mem h)
  · have : rd_L1 mv (i : Int) = [] := by simp [rd_L1, List.getD_eq_getElem?_getD, List.getElem?_eq_none (show mv.length ≤ i by omega)]
    rw [this]; simp
theorem valid_l0 (own : List Int) (mv : List (List Int)) (hs : ∀ m ∈ mv, m.length ≤ 100) (hn : own.length ≤ 16) (hm : mv.length = own.length) : ∀ d i : Nat, i + d = own.length → Ev (fun k => lure_Validate.l0 k (own.length : Int) own (own.length : Int) (i : Int) own mv) (if vaB (own.length : Int) own mv d i = true then (0 : Int) else 1)
  | 0, i, h => by
    refine Ev.step (fun k => lure_Validate.l0.eq_2 ..) (evn (by omega) ?_)
    rw [show vaB (own.length : Int) own mv 0 i = true from rfl, if_pos rfl]; exact Ev.now _
  | d + 1, i, h => by
    have R := valid_l0 own mv hs hn hm d (i + 1) (by omega)
    have s := small_row hs i
    refine Ev.step (fun k => lure_Validate.l0.eq_2 ..) (evp (by omega) (evp (by omega) (evp (by omega) (evs (within_eq _ _ _) ?_))))
    rw [show vaB (own.length : Int) own mv (d + 1) i = (rowB (own.length : Int) (rd own (i : Int)) (rd_L1 mv (i : Int)) && vaB (own.length : Int) own mv d (i + 1)) from rfl, w64 (n := (i : Int) + 1) (by omega) (by omega)]
    unfold rowB
    by_cases q : 0 ≤ rd own (i : Int) ∧ rd own (i : Int) ≤ 1
    · rw [decide_eq_true q, Bool.true_and]
      refine evp rfl (evp (by omega) ?_)
      by_cases z : rd_L1 mv (i : Int) = []
      · rw [decide_eq_true z, Bool.not_true, Bool.false_and, Bool.false_and, if_neg (by decide)]
        exact evp (by rw [z]; rfl) (Ev.now _)
      · rw [decide_eq_false z, Bool.not_false, Bool.true_and]
        have zl : (rd_L1 mv (i : Int)).length ≠ 0 := fun e => z (List.length_eq_zero_iff.1 e)
        refine evn (by omega) (evb (isSet_ev _ _ (by omega) (by omega) (by omega)) ?_)
        cases setB (rd_L1 mv (i : Int)) (own.length : Int)
        · rw [Bool.false_and, if_neg (by decide)]; exact evn (by decide) (Ev.now _)
        · rw [Bool.true_and]; exact evp rfl R
    · rw [decide_eq_false q, Bool.false_and, Bool.false_and, if_neg (by decide)]; exact evn (by decide) (Ev.now _)
theorem valid_ev (own : List Int) (mv : List (List Int)) (hs : ∀ m ∈ mv, m.length ≤ 100) : Ev (fun k => lure_Validate.f k own mv) (vlR own mv) := by
  unfold lure_Validate.f vlR
  refine evs (within_eq _ _ _) ?_
  by_cases h : 1 ≤ (own.length : Int) ∧ (own.length : Int) ≤ 16
  · rw [decide_eq_true h, if_pos h]
    refine evp rfl ?_
    by_cases h2 : mv.length = own.length
    · rw [if_pos h2]; exact evp (by omega) (valid_l0 own mv hs (by omega) h2 own.length 0 (by omega))
    · rw [if_neg h2]; exact evn (by omega) (Ev.now _)
  · rw [decide_eq_false h, if_neg h]; exact evn (by decide) (Ev.now _)
theorem rvalid_l0 (own : List Int) (mv : List (List Int)) (hs : ∀ m ∈ mv, m.length ≤ 100) (hn : own.length ≤ 16) (hm : mv.length = own.length) : ∀ d i : Nat, i + d = own.length → Ev (fun k => wigeonref04_Validate.l0 k (own.length : Int) (i : Int) own mv) (if vaB (own.length : Int) own mv d i = true then (0 : Int) else 1)
  | 0, i, h => by
    refine Ev.step (fun k => wigeonref04_Validate.l0.eq_2 ..) (evn (by omega) ?_)
    rw [show vaB (own.length : Int) own mv 0 i = true from rfl, if_pos rfl]; exact Ev.now _
  | d + 1, i, h => by
    have R := rvalid_l0 own mv hs hn hm d (i + 1) (by omega)
    have s := small_row hs i
    refine Ev.step (fun k => wigeonref04_Validate.l0.eq_2 ..) (evp (by omega) (evp (by omega) (evp (by omega) (evs (rwithin_eq _ _ _) ?_))))
    rw [show vaB (own.length : Int) own mv (d + 1) i = (rowB (own.length : Int) (rd own (i : Int)) (rd_L1 mv (i : Int)) && vaB (own.length : Int) own mv d (i + 1)) from rfl, w64 (n := (i : Int) + 1) (by omega) (by omega)]
    unfold rowB
    by_cases q : 0 ≤ rd own (i : Int) ∧ rd own (i : Int) ≤ 1
    · rw [decide_eq_true q, Bool.true_and]
      refine evp rfl (evp (by omega) ?_)
      by_cases z : rd_L1 mv (i : Int) = []
      · rw [decide_eq_true z, Bool.not_true, Bool.false_and, Bool.false_and, if_neg (by decide)]
        exact evp (by rw [z]; rfl) (Ev.now _)
      · rw [decide_eq_false z, Bool.not_false, Bool.true_and]
        have zl : (rd_L1 mv (i : Int)).length ≠ 0 := fun e => z (List.length_eq_zero_iff.1 e)
        refine evn (by omega) (evb (risSet_ev _ _ (by omega) (by omega) (by omega)) ?_)
        cases setB (rd_L1 mv (i : Int)) (own.length : Int)
        · rw [Bool.false_and, if_neg (by decide)]; exact evn (by decide) (Ev.now _)
        · rw [Bool.true_and]; exact evp rfl R
    · rw [decide_eq_false q, Bool.false_and, Bool.false_and, if_neg (by decide)]; exact evn (by decide) (Ev.now _)
theorem rvalid_ev (own : List Int) (mv : List (List Int)) (hs : ∀ m ∈ mv, m.length ≤ 100) : Ev (fun k => wigeonref04_Validate.f k own mv) (vlR own mv) := by
  unfold wigeonref04_Validate.f vlR
  refine evs (rwithin_eq _ _ _) ?_
  by_cases h : 1 ≤ (own.length : Int) ∧ (own.length : Int) ≤ 16
  · rw [decide_eq_true h, if_pos h]
    refine evp rfl ?_
    by_cases h2 : mv.length = own.length
    · rw [if_pos h2]; exact evp (by omega) (rvalid_l0 own mv hs (by omega) h2 own.length 0 (by omega))
    · rw [if_neg h2]; exact evn (by omega) (Ev.now _)
  · rw [decide_eq_false h, if_neg h]; exact evn (by decide) (Ev.now _)
/-- a valid game -/
structure VG (own : List Int) (mv : List (List Int)) : Prop where
  n1 : 1 ≤ own.length
  n2 : own.length ≤ 16
  len : mv.length = own.length
  own_ : ∀ i : Nat, i < own.length → rd own (i : Int) = 0 ∨ rd own (i : Int) = 1
  ne : ∀ i : Nat, i < own.length → rd_L1 mv (i : Int) ≠ []
  set_ : ∀ i : Nat, i < own.length → setB (rd_L1 mv (i : Int)) (own.length : Int) = true
  small : ∀ i : Nat, (rd_L1 mv (i : Int)).length ≤ 100
theorem vaB_at {n : Int} {own : List Int} {mv : List (List Int)} : ∀ {d i : Nat}, vaB n own mv d i = true → ∀ j, i ≤ j → j < i + d → rowB n (rd own (j : Int)) (rd_L1 mv (j : Int)) = true
  | 0, i, _, j, h1, h2 => by omega
  | d + 1, i, h, j, h1, h2 => by
    unfold vaB at h
    rw [Bool.and_eq_true] at h
    by_cases e : j = i
    · subst e; exact h.1
    · exact vaB_at h.2 j (by omega) (by omega)
theorem vlR_ok {own : List Int} {mv : List (List Int)} (hs : ∀ m ∈ mv, m.length ≤ 100) (h : vlR own mv = 0) : VG own mv := by
  unfold vlR at h
  by_cases h1 : 1 ≤ (own.length : Int) ∧ (own.length : Int) ≤ 16
  · rw [if_pos h1] at h
    by_cases h2 : mv.length = own.length
    · rw [if_pos h2] at h
      by_cases h3 : vaB (own.length : Int) own mv own.length 0 = true
      · have r : ∀ i : Nat, i < own.length → _ := fun i hi => vaB_at h3 i (by omega) (by omega)
        unfold rowB at r
        simp only [Bool.and_eq_true, decide_eq_true_eq, Bool.not_eq_true', decide_eq_false_iff_not] at r
        exact ⟨by omega, by omega, h2, fun i hi => by have := (r i hi).1; omega, fun i hi => (r i hi).2.1, fun i hi => (r i hi).2.2, small_row hs⟩
      · rw [if_neg h3] at h; exact absurd h (by decide)
    · rw [if_neg h2] at h; exact absurd h (by decide)
  · rw [if_neg h1] at h; exact absurd h (by decide)
theorem VG.in_ {own : List Int} {mv : List (List Int)} (G : VG own mv) (i : Nat) (hi : i < own.length) : ∀ k ∈ rd_L1 mv (i : Int), 0 ≤ k ∧ k < (own.length : Int) := setB_in (G.set_ i hi)
def lgB (own : List Int) (mv : List (List Int)) : Bool := decide (own.length > 100 ∨ mv.length > 100) || mv.any fun m => decide (m.length > 100)
theorem large_l0 (own : List Int) (mv : List (List Int)) (hm : mv.length ≤ 100) : ∀ d i : Nat, i + d = mv.length → Ev (fun k => wigeonlaw04_Large.l0 k (i : Int) own mv) ((mv.drop i).any fun m => decide (m.length > 100))
  | 0, i, h => by
    refine Ev.step (fun k => wigeonlaw04_Large.l0.eq_2 ..) (evn (by omega) ?_)
    rw [List.drop_eq_nil_of_le (by omega)]; exact Ev.now _
  | d + 1, i, h => by
    have hlt : i < mv.length := by omega
    have R := large_l0 own mv hm d (i + 1) (by omega)
    have e : rd_L1 mv (i : Int) = mv[i] := by simp [rd_L1, List.getD_eq_getElem?_getD, List.getElem?_eq_getElem hlt]
    refine Ev.step (fun k => wigeonlaw04_Large.l0.eq_2 ..) (evp (by omega) (evp (by omega) ?_))
    rw [e, List.drop_eq_getElem_cons hlt, List.any_cons, w64 (by omega) (by omega)]
    by_cases q : (mv[i]).length > 100
    · rw [decide_eq_true q, Bool.true_or]; exact evp (by omega) (Ev.now _)
    · rw [decide_eq_false q, Bool.false_or]; exact evn (by omega) R
theorem large_ev (own : List Int) (mv : List (List Int)) : Ev (fun k => wigeonlaw04_Large.f k own mv) (lgB own mv) := by
  unfold wigeonlaw04_Large.f lgB
  by_cases h : (own.length : Int) > 100
  · rw [decide_eq_true (show own.length > 100 ∨ mv.length > 100 by omega), Bool.true_or]; exact evp h (Ev.step (fun k => wigeonlaw04_Large.j0.eq_2 ..) (evp rfl (Ev.now _)))
  · refine evn h (Ev.step (fun k => wigeonlaw04_Large.j0.eq_2 ..) ?_)
    by_cases h2 : (mv.length : Int) > 100
    · rw [decide_eq_true (show own.length > 100 ∨ mv.length > 100 by omega), Bool.true_or]; exact evp (decide_eq_true h2) (Ev.now _)
    · rw [decide_eq_false (show ¬ (own.length > 100 ∨ mv.length > 100) by omega), Bool.false_or]
      exact evn (by simpa using h2) (large_l0 own mv (by omega) mv.length 0 (by omega))
theorem large_not {own : List Int} {mv : List (List Int)} (h : ¬ lgB own mv = true) : own.length ≤ 100 ∧ mv.length ≤ 100 ∧ ∀ m ∈ mv, m.length ≤ 100 := by
  unfold lgB at h
  rw [Bool.or_eq_true, not_or, decide_eq_true_eq, Bool.not_eq_true, List.any_eq_false] at h
  refine ⟨by omega, by omega, fun m hm => ?_⟩
  have := h.2 m hm
  simp at this; exact this
theorem same_l0 (l : List Int) (hl : l.length ≤ 1000) : ∀ d i : Nat, i + d = l.length → Ev (fun k => wigeonref04_SameInts.l0 k l l (i : Int)) true
  | 0, i, h => Ev.step (fun k => wigeonref04_SameInts.l0.eq_2 ..) (evn (by omega) (Ev.now _))
  | d + 1, i, h => by
    refine Ev.step (fun k => wigeonref04_SameInts.l0.eq_2 ..) (evp (by omega) (evp (by omega) (evp (by omega) (evp rfl ?_))))
    rw [w64 (by omega) (by omega)]; exact same_l0 l hl d (i + 1) (by omega)
theorem same_ev (l : List Int) (hl : l.length ≤ 1000) : Ev (fun k => wigeonref04_SameInts.f k l l) true := by
  unfold wigeonref04_SameInts.f
  exact evp rfl (same_l0 l hl l.length 0 (by omega))

theorem known_ev : Ev (fun k => wigeonlaw04_known.f k) true := Ev.of wigeonlaw04_known.mono (k := 100) (by decide +kernel)

/-- the places of a game, move after move -/
def goR (own : List Int) (mv : List (List Int)) (man ducks : List Int) : Nat → List Int → Int → List Int
  | 0, out, _ => out
  | d + 1, out, i => goR own mv man ducks d (out ++ [nextP own mv man ducks i]) (nextP own mv man ducks i)
theorem goR_len (own : List Int) (mv : List (List Int)) (man ducks : List Int) : ∀ (d : Nat) (out : List Int) (i : Int), (goR own mv man ducks d out i).length = out.length + d
  | 0, _, _ => rfl
  | d + 1, out, i => by
    show (goR own mv man ducks d (out ++ [nextP own mv man ducks i]) (nextP own mv man ducks i)).length = _
    rw [goR_len own mv man ducks d, List.length_append, List.length_singleton]; omega
theorem first_in {l : List Int} (h : l ≠ []) : rd l 0 ∈ l := by
  cases l with
  | nil => exact absurd rfl h
  | cons a t => exact List.mem_cons_self ..
theorem pick_in {own : List Int} {mv : List (List Int)} (G : VG own mv) (i : Nat) (hi : i < own.length) (t : Int) : (if t ∈ rd_L1 mv (i : Int) then t else rd (rd_L1 mv (i : Int)) 0) ∈ rd_L1 mv (i : Int) := by
  by_cases m : t ∈ rd_L1 mv (i : Int)
  · rw [if_pos m]; exact m
  · rw [if_neg m]; exact first_in (G.ne i hi)
theorem next_mem {own : List Int} {mv : List (List Int)} (G : VG own mv) (man ducks : List Int) (i : Nat) (hi : i < own.length) : nextP own mv man ducks (i : Int) ∈ rd_L1 mv (i : Int) := pick_in G i hi _
theorem next_in {own : List Int} {mv : List (List Int)} (G : VG own mv) (man ducks : List Int) (i : Nat) (hi : i < own.length) : ∃ y : Nat, nextP own mv man ducks (i : Int) = (y : Int) ∧ y < own.length := by
  obtain ⟨a, b⟩ := G.in_ i hi _ (next_mem G man ducks i hi)
  exact ⟨(nextP own mv man ducks (i : Int)).toNat, by omega, by omega⟩
theorem plL_ev {own : List Int} {mv : List (List Int)} (G : VG own mv) {man ducks : List Int} (hm : man.length = own.length) (hd : ducks.length = own.length) (moves : Int) (hv : moves ≤ 1000) : ∀ (d : Nat) (out : List Int) (x : Nat), (out.length : Int) + d = moves + 1 → x < own.length → Ev (fun k => plL own mv man ducks moves k out (x : Int)) (goR own mv man ducks d out (x : Int))
  | 0, out, x, h, _ => Ev.step (fun k => plL.eq_2 ..) (evn (by omega) (Ev.now _))
  | d + 1, out, x, h, hx => by
    obtain ⟨y, ey, hy⟩ := next_in G man ducks x hx
    have l := G.len
    have ne : 0 < (rd_L1 mv (x : Int)).length := List.length_pos_iff.2 (G.ne x hx)
    refine Ev.step (fun k => plL.eq_2 ..) (evp (by omega) (evp ⟨⟨by omega, by omega, by omega, by omega, by omega, G.own_ x hx, ne⟩, by omega⟩ ?_))
    show Ev _ (goR own mv man ducks d (out ++ [nextP own mv man ducks (x : Int)]) (nextP own mv man ducks (x : Int)))
    rw [ey]
    exact plL_ev G hm hd moves hv d _ y (by rw [List.length_append, List.length_singleton]; omega) hy
theorem rj2_ev {own : List Int} {mv : List (List Int)} (G : VG own mv) (man ducks : List Int) (moves : Int) (x : Nat) (hx : x < own.length) (out : List Int) (ol : out.length ≤ 2000) (i : Int) (t : Int) (r : List Int × Int)
    (h : Ev (fun k => wigeonref04_Play.l0 k man ducks (if t ∈ rd_L1 mv (x : Int) then t else rd (rd_L1 mv (x : Int)) 0) moves (own.length : Int) (out ++ [if t ∈ rd_L1 mv (x : Int) then t else rd (rd_L1 mv (x : Int)) 0]) (wrap64 (i + 1)) own mv) r) :
    Ev (fun k => wigeonref04_Play.j2 k man ducks (x : Int) moves (own.length : Int) out i t own mv) r := by
  have n1 := G.n1
  have n2 := G.n2
  have l := G.len
  have ne : 0 < (rd_L1 mv (x : Int)).length := List.length_pos_iff.2 (G.ne x hx)
  refine Ev.step (fun k => wigeonref04_Play.j2.eq_2 ..) ?_
  rw [w64 (by omega) (by omega)]
  refine evs (rwithin_eq ..) ?_
  have F : t ∉ rd_L1 mv (x : Int) → Ev (fun k => if 0 < ((rd_L1 mv (x : Int)).length : Int) then (if out.length < 17592186044416 then (wigeonref04_Play.l0 k man ducks (rd (rd_L1 mv (x : Int)) 0) moves (own.length : Int) (out ++ [rd (rd_L1 mv (x : Int)) 0]) (wrap64 (i + 1)) own mv) else none) else none) r := fun m => by
    rw [if_neg m] at h
    exact evp (by omega) (evp (by omega) h)
  by_cases w : 0 ≤ t ∧ t ≤ (own.length : Int) - 1
  · obtain ⟨k, rfl⟩ := Int.eq_ofNat_of_zero_le w.1
    have hk : k < own.length := by omega
    refine evp (decide_eq_true w) (evp (by omega) (evp (by omega) (evb (bits_ev _ own.length n2 (G.in_ x hx) (by have := G.small x; omega)) (evp (by rw [uw (by omega)]; omega) ?_))))
    rw [bit_at _ k (rv_big _ n2) (by omega), rv_bit _ _ _ hk]
    by_cases m : (k : Int) ∈ rd_L1 mv (x : Int)
    · rw [if_pos m] at h
      rw [if_pos (show inL (rd_L1 mv (x : Int)) k = true from decide_eq_true m)]
      exact evn (by decide) (evp (by omega) h)
    · rw [if_neg (by rw [inL, decide_eq_false m]; decide)]
      exact evp rfl (F m)
  · refine evn (by rw [decide_eq_false w]; decide) (evp (by omega) (evp (by omega) (F fun m => w ?_)))
    have := G.in_ x hx t m
    omega
theorem rplay_l0 {own : List Int} {mv : List (List Int)} (G : VG own mv) {man ducks : List Int} (hm : man.length = own.length) (hd : ducks.length = own.length) (moves : Nat) (hv : moves ≤ 1000) (d : Nat) : ∀ (i : Nat) (out : List Int) (x : Nat), i + d = moves → out.length = i + 1 → x < own.length → Ev (fun k => wigeonref04_Play.l0 k man ducks (x : Int) (moves : Int) (own.length : Int) out (i : Int) own mv) (goR own mv man ducks d out (x : Int), 0) := by
  induction d with
  | zero =>
    intro i out x h _ _
    exact Ev.step (fun k => wigeonref04_Play.l0.eq_2 ..) (evn (by omega) (Ev.now _))
  | succ d IH =>
    intro i out x h ho hx
    obtain ⟨y, ey, hy⟩ := next_in G man ducks x hx
    have ih := IH (i + 1) (out ++ [nextP own mv man ducks (x : Int)]) y (by omega) (by rw [List.length_append, List.length_singleton]; omega) hy
    refine Ev.step (fun k => wigeonref04_Play.l0.eq_2 ..) (evp (by omega) (evp (by omega) (evp (by omega) (evp (by omega) ?_))))
    have W : wrap64 ((i : Int) + 1) = ((i + 1 : Nat) : Int) := by rw [w64 (by omega) (by omega)]; omega
    rw [← ey] at ih
    have ol : out.length ≤ 2000 := by clear ih IH ey; omega
    rcases G.own_ x hx with o | o
    · have Q := rj2_ev G man ducks (moves : Int) x hx out ol (i : Int) (rd man (x : Int)) (goR own mv man ducks (d + 1) out (x : Int), 0)
      rw [show (if rd man (x : Int) ∈ rd_L1 mv (x : Int) then rd man (x : Int) else rd (rd_L1 mv (x : Int)) 0) = nextP own mv man ducks (x : Int) by unfold nextP; rw [if_pos o], W] at Q
      exact evn (by omega) (Q ih)
    · have Q := rj2_ev G man ducks (moves : Int) x hx out ol (i : Int) (rd ducks (x : Int)) (goR own mv man ducks (d + 1) out (x : Int), 0)
      rw [show (if rd ducks (x : Int) ∈ rd_L1 mv (x : Int) then rd ducks (x : Int) else rd (rd_L1 mv (x : Int)) 0) = nextP own mv man ducks (x : Int) by unfold nextP; rw [if_neg (show ¬ rd own (x : Int) = 0 by omega)], W] at Q
      exact evp o (evp (by omega) (Q ih))
/-- what Play answers -/
def playR (own : List Int) (mv : List (List Int)) (man ducks : List Int) (from_ moves : Int) : List Int × Int :=
  if vlR own mv = 0 then (if man.length = own.length ∧ ducks.length = own.length ∧ (0 ≤ from_ ∧ from_ ≤ (own.length : Int) - 1) ∧ 0 ≤ moves ∧ moves ≤ 100 then (goR own mv man ducks moves.toNat [from_] from_, 0) else ([], 1)) else ([], vlR own mv)
theorem play_ev {own : List Int} {mv : List (List Int)} (hs : ∀ m ∈ mv, m.length ≤ 100) (man ducks : List Int) (from_ moves : Int) : Ev (fun k => lure_Play.f k own mv man ducks from_ moves) (playR own mv man ducks from_ moves) := by
  unfold lure_Play.f playR
  refine evb (valid_ev own mv hs) ?_
  by_cases v : vlR own mv = 0
  · rw [if_pos v]
    refine evp v ?_
    have G := vlR_ok hs v
    by_cases c : man.length = own.length ∧ ducks.length = own.length ∧ (0 ≤ from_ ∧ from_ ≤ (own.length : Int) - 1) ∧ 0 ≤ moves ∧ moves ≤ 100
    · rw [if_pos c]
      refine evp c (evb (a := goR own mv man ducks moves.toNat [from_] from_) ?_ (Ev.now _))
      obtain ⟨c1, c2, c3, c4⟩ := c
      obtain ⟨x, rfl⟩ := Int.eq_ofNat_of_zero_le c3.1
      exact plL_ev G c1 c2 moves (by omega) _ _ x (by rw [List.length_singleton]; omega) (by omega)
    · rw [if_neg c]
      exact evn c (Ev.now _)
  · rw [if_neg v]
    exact evn v (Ev.now _)
theorem rplay_ev {own : List Int} {mv : List (List Int)} (hs : ∀ m ∈ mv, m.length ≤ 100) (hn : own.length ≤ 100) (man ducks : List Int) (from_ moves : Int) : Ev (fun k => wigeonref04_Play.f k own mv man ducks from_ moves) (playR own mv man ducks from_ moves) := by
  unfold wigeonref04_Play.f playR
  refine evb (rvalid_ev own mv hs) ?_
  by_cases v : vlR own mv = 0
  · rw [if_pos v]
    refine evp v ?_
    have G := vlR_ok hs v
    have J : ∀ c : Bool, (c = true → ¬ (man.length = own.length ∧ ducks.length = own.length ∧ (0 ≤ from_ ∧ from_ ≤ (own.length : Int) - 1) ∧ 0 ≤ moves ∧ moves ≤ 100)) → (c = false → (man.length = own.length ∧ ducks.length = own.length ∧ (0 ≤ from_ ∧ from_ ≤ (own.length : Int) - 1) ∧ 0 ≤ moves ∧ moves ≤ 100)) → Ev (fun k => wigeonref04_Play.j0 k man ducks from_ moves (own.length : Int) c own mv) (if man.length = own.length ∧ ducks.length = own.length ∧ (0 ≤ from_ ∧ from_ ≤ (own.length : Int) - 1) ∧ 0 ≤ moves ∧ moves ≤ 100 then (goR own mv man ducks moves.toNat [from_] from_, 0) else ([], 1)) := fun c n y => by
      refine Ev.step (fun k => wigeonref04_Play.j0.eq_2 ..) ?_
      cases c with
      | true => rw [if_neg (n rfl)]; exact evp rfl (Ev.now _)
      | false =>
        obtain ⟨c1, c2, c3, c4⟩ := y rfl
        rw [if_pos (y rfl)]
        refine evn (by decide) ?_
        obtain ⟨x, rfl⟩ := Int.eq_ofNat_of_zero_le c3.1
        obtain ⟨m, rfl⟩ := Int.eq_ofNat_of_zero_le c4.1
        exact rplay_l0 G c1 c2 m (by omega) _ 0 _ x (by omega) rfl (by omega)
    by_cases c1 : man.length = own.length
    · refine evp (by omega) ?_
      by_cases c2 : ducks.length = own.length
      · refine evp (by omega) ?_
        rw [w64 (by omega) (by omega)]
        refine evs (rwithin_eq ..) ?_
        by_cases c3 : 0 ≤ from_ ∧ from_ ≤ (own.length : Int) - 1
        · refine evp (decide_eq_true c3) (evs (rwithin_eq ..) (J _ (fun e c => ?_) (fun e => ?_)))
          · rw [decide_eq_true c.2.2.2] at e; exact absurd e (by decide)
          · refine ⟨c1, c2, c3, ?_⟩
            by_cases q : 0 ≤ moves ∧ moves ≤ 100
            · exact q
            · rw [decide_eq_false q] at e; exact absurd e (by decide)
        · exact evn (by rw [decide_eq_false c3]; decide) (J _ (fun _ c => c3 c.2.2.1) (fun e => absurd e (by decide)))
      · exact evn (by omega) (J _ (fun _ c => c2 c.2.1) (fun e => absurd e (by decide)))
    · exact evn (by omega) (J _ (fun _ c => c1 c.1) (fun e => absurd e (by decide)))
  · rw [if_neg v]
    exact evn v (Ev.now _)

theorem LurePlays (a0_0 : List Int) (a0_1 : List (List Int)) (a1_0 : List Int) (a1_1 : List Int) (a1_2 : Int) (a1_3 : Int) (h0_0 : (a0_0.length ≤ 9223372036854775807 ∧ ∀ x_ ∈ a0_0, (Lit.int .i64 x_).wf = true)) (h0_1 : (a0_1.length ≤ 9223372036854775807 ∧ ∀ x_ ∈ a0_1, (x_.length ≤ 9223372036854775807 ∧ ∀ x__ ∈ x_, (Lit.int .i64 x__).wf = true))) (h1_0 : (a1_0.length ≤ 9223372036854775807 ∧ ∀ x_ ∈ a1_0, (Lit.int .i64 x_).wf = true)) (h1_1 : (a1_1.length ≤ 9223372036854775807 ∧ ∀ x_ ∈ a1_1, (Lit.int .i64 x_).wf = true)) (h1_2 : (Lit.int .i64 a1_2).wf = true) (h1_3 : (Lit.int .i64 a1_3).wf = true) : ∃ k, wigeonlaw04_LurePlays.f k a0_0 a0_1 a1_0 a1_1 a1_2 a1_3 = some true := by
  refine Ev.rounds (g := fun k => wigeonlaw04_LurePlays.f k a0_0 a0_1 a1_0 a1_1 a1_2 a1_3) ?_
  unfold wigeonlaw04_LurePlays.f
  refine evb (large_ev a0_0 a0_1) ?_
  have Z : Ev (fun k => wigeonlaw04_LurePlays.j0 k true a0_0 a0_1 a1_0 a1_1 a1_2 a1_3) true := Ev.step (fun k => wigeonlaw04_LurePlays.j0.eq_2 ..) (evp rfl (evb known_ev (Ev.now _)))
  by_cases h : lgB a0_0 a0_1 = true
  · exact evp h Z
  · refine evn h ?_
    obtain ⟨hn, _, hs⟩ := large_not h
    by_cases h2 : (a1_0.length : Int) > 100
    · exact evp h2 Z
    · refine evn h2 ?_
      by_cases h3 : (a1_1.length : Int) > 100
      · rw [decide_eq_true h3]; exact Z
      · rw [decide_eq_false h3]
        refine Ev.step (fun k => wigeonlaw04_LurePlays.j0.eq_2 ..) (evn (by decide) (evb (play_ev hs _ _ _ _) (evb (rplay_ev hs hn _ _ _ _) (evp rfl (evb (same_ev _ ?_) (evp rfl (evb known_ev (Ev.now _))))))))
        unfold playR
        split
        · rename_i v
          split
          · rename_i c
            rw [goR_len]
            show ([a1_2] : List Int).length + _ ≤ _
            rw [List.length_singleton]; omega
          · exact Nat.zero_le _
        · exact Nat.zero_le _

end Go.Proofs.Ytnmaonampilmoaa.Pure

