/- Of the text PureLureExchanges, what the row of LureExchanges reaches. -/
import Derived.Test.YtnmaonampilmoaaZLureExchangesLEx22
namespace Go.Proofs.Ytnmaonampilmoaa.Pure
set_option linter.unusedVariables false
set_option linter.unusedSimpArgs false
open Go.RowKit Go.Proofs.Ytnmaonampilmoaa.LE Go.Proofs.YtnmaonampilmoaaW.PrintWords Go.Proofs.YtnmaonampilmoaaW.PrintLast Go.Proofs.YtnmaonampilmoaaW.PrintMore

theorem evp {α : Type} {c : Prop} [Decidable c] {f g : Nat → Option α} {r : α} (h : c) (k : Ev f r) : Ev (fun n => if c then f n else g n) r :=
  Ev.congr (fun _ => if_pos h) k
theorem evn {α : Type} {c : Prop} [Decidable c] {f g : Nat → Option α} {r : α} (h : ¬ c) (k : Ev g r) : Ev (fun n => if c then f n else g n) r :=
  Ev.congr (fun _ => if_neg h) k
theorem evb {α β : Type} {g : Nat → Option α} {f : Nat → α → Option β} {a : α} {r : β} (h : Ev g a) (k : Ev (fun n => f n a) r) : Ev (fun n => (g n).bind (f n)) r := Ev.bind h k
theorem evs {α β : Type} {x : Option α} {f : Nat → α → Option β} {a : α} {r : β} (h : x = some a) (k : Ev (fun n => f n a) r) : Ev (fun n => x.bind (f n)) r := by
  subst h; exact k
theorem w64 {n : Int} (h : -9223372036854775808 ≤ n) (h2 : n ≤ 9223372036854775807) : wrap64 n = n := by unfold wrap64; omega
theorem rd_at (l : List Int) (i : Nat) (h : i < l.length) : rd l (i : Int) = l[i] := by
  simp [rd, List.getD_eq_getElem?_getD, List.getElem?_eq_getElem h]

theorem ev_eq {α : Type} {f : Nat → Option α} {r s : α} (h : Ev f r) (e : r = s) : Ev f s := e ▸ h
/-- the numbers below n for which q holds, in ascending order -/
def asc (q : Nat → Bool) : Nat → List Int
  | 0 => []
  | n + 1 => asc q n ++ (if q n then [(n : Int)] else [])
theorem asc_succ (q : Nat → Bool) (n : Nat) : asc q (n + 1) = asc q n ++ (if q n then [(n : Int)] else []) := rfl
theorem asc_len (q : Nat → Bool) : ∀ n, (asc q n).length ≤ n
  | 0 => Nat.le_refl _
  | n + 1 => by
    have := asc_len q n
    unfold asc
    rw [List.length_append]
    split <;> simp <;> omega
theorem asc_congr {p q : Nat → Bool} : ∀ {n : Nat}, (∀ k, k < n → p k = q k) → asc p n = asc q n
  | 0, _ => rfl
  | n + 1, h => by
    unfold asc
    rw [asc_congr (fun k hk => h k (by omega)), h n (by omega)]
theorem asc_mem (q : Nat → Bool) : ∀ (n : Nat) (x : Int), x ∈ asc q n ↔ ∃ k : Nat, x = k ∧ k < n ∧ q k = true
  | 0, x => by simp [asc]
  | n + 1, x => by
    unfold asc
    rw [List.mem_append, asc_mem q n x]
    constructor
    · rintro (⟨k, h1, h2, h3⟩ | h)
      · exact ⟨k, h1, by omega, h3⟩
      · by_cases e : q n = true
        · rw [if_pos e] at h
          exact ⟨n, by simpa using h, by omega, e⟩
        · rw [if_neg e] at h; exact absurd h (by simp)
    · rintro ⟨k, h1, h2, h3⟩
      by_cases e : k = n
      · subst e
        right; rw [if_pos h3, h1]; exact List.mem_cons_self
      · left; exact ⟨k, h1, by omega, h3⟩
theorem some_l0 (qf : Int → Option Bool) (q : Nat → Bool) (n : Nat) (hn : n ≤ 1000) (h : ∀ i : Nat, i < n → qf i = some (q i)) : ∀ d i : Nat, i + d = n → Ev (fun k => lure_some.l0 qf k (asc q i) (n : Int) (i : Int)) (asc q n)
  | 0, i, e => by
    refine Ev.step (fun k => lure_some.l0.eq_2 ..) (evn (by omega) ?_)
    rw [show i = n by omega]; exact Ev.now _
  | d + 1, i, e => by
    have R := some_l0 qf q n hn h d (i + 1) (by omega)
    have l := asc_len q i
    refine Ev.step (fun k => lure_some.l0.eq_2 ..) (evp (by omega) (evs (h i (by omega)) ?_))
    rw [w64 (n := (i : Int) + 1) (by omega) (by omega)]
    rw [asc_succ] at R
    cases hq : q i
    · rw [hq, if_neg (by decide), List.append_nil] at R
      exact evn (by decide) R
    · rw [hq, if_pos rfl] at R
      exact evp rfl (evp (by omega) R)
theorem some_ev (qf : Int → Option Bool) (q : Nat → Bool) (n : Nat) (hn : n ≤ 1000) (h : ∀ i : Nat, i < n → qf i = some (q i)) : Ev (fun k => lure_some.f qf k (n : Int) 0) (asc q n) := some_l0 qf q n hn h n 0 (by omega)
/-- a list as a set -/
def inL (l : List Int) (i : Nat) : Bool := decide ((i : Int) ∈ l)

theorem within_eq (a lo hi : Int) : lure_within.f a lo hi = some (decide (lo ≤ a ∧ a ≤ hi)) := by
  unfold lure_within.f
  by_cases h : a ≥ lo
  · rw [if_pos h, decide_eq_decide.2 (show a ≤ hi ↔ lo ≤ a ∧ a ≤ hi by omega)]
  · rw [if_neg h, decide_eq_false (show ¬ (lo ≤ a ∧ a ≤ hi) by omega)]
theorem rwithin_eq (a lo hi : Int) : wigeonref04_within.f a lo hi = some (decide (lo ≤ a ∧ a ≤ hi)) := by
  unfold wigeonref04_within.f
  by_cases h : a ≥ lo
  · rw [if_pos h, decide_eq_decide.2 (show a ≤ hi ↔ lo ≤ a ∧ a ≤ hi by omega)]
  · rw [if_neg h, decide_eq_false (show ¬ (lo ≤ a ∧ a ≤ hi) by omega)]
/-- ascending numbers from 0 to n - 1, above lo -/
def stB (n : Int) : Int → List Int → Bool
  | _, [] => true
  | lo, x :: l => decide (0 ≤ x ∧ x ≤ n - 1) && (decide (lo < x) && stB n x l)
def setB (l : List Int) (n : Int) : Bool := stB n (-1) l
def pv (l : List Int) (i : Nat) : Int := if i = 0 then -1 else rd l ((i : Int) - 1)
theorem isSet_l0 (l : List Int) (n : Int) (h0 : 0 ≤ n) (h1 : n ≤ 1000) (hl : l.length ≤ 1000) : ∀ d i : Nat, i + d = l.length → Ev (fun k => lure_isSet.l0 k l n l (l.length : Int) (i : Int)) (stB n (pv l i) (l.drop i))
  | 0, i, h => by
    refine Ev.step (fun k => lure_isSet.l0.eq_2 ..) (evn (by omega) ?_)
    rw [List.drop_eq_nil_of_le (by omega)]; exact Ev.now _
  | d + 1, i, h => by
    have hlt : i < l.length := by omega
    have R := isSet_l0 l n h0 h1 hl d (i + 1) (by omega)
    have hp : pv l (i + 1) = l[i] := by
      unfold pv
      rw [if_neg (by omega), show ((i + 1 : Nat) : Int) - 1 = (i : Int) by omega, rd_at l i hlt]
    rw [hp] at R
    refine Ev.step (fun k => lure_isSet.l0.eq_2 ..) (evp (by omega) (evp (by omega) (evp (by omega) (evs (within_eq _ _ _) ?_))))
    rw [rd_at l i hlt, List.drop_eq_getElem_cons hlt, w64 (n := n - 1) (by omega) (by omega), w64 (n := (i : Int) + 1) (by omega) (by omega)]
    unfold stB
    by_cases q : 0 ≤ l[i] ∧ l[i] ≤ n - 1
    · rw [decide_eq_true q, Bool.true_and]
      refine evp rfl ?_
      by_cases hi : i = 0
      · subst hi
        refine evn (by omega) ?_
        rw [show decide (pv l 0 < l[0]) = true from decide_eq_true (by unfold pv; rw [if_pos rfl]; omega), Bool.true_and]; exact R
      · refine evp (by omega) ?_
        rw [w64 (n := (i : Int) - 1) (by omega) (by omega)]
        refine evp (by omega) (evp (by omega) ?_)
        have e : pv l i = rd l ((i : Int) - 1) := if_neg hi
        rw [e]
        by_cases g : rd l ((i : Int) - 1) ≥ l[i]
        · rw [decide_eq_false (by omega), Bool.false_and]; exact evp g (Ev.now _)
        · rw [decide_eq_true (by omega), Bool.true_and]; exact evn g R
    · rw [decide_eq_false q, Bool.false_and]; exact evn (by decide) (Ev.now _)
theorem isSet_ev (l : List Int) (n : Int) (h0 : 0 ≤ n) (h1 : n ≤ 1000) (hl : l.length ≤ 1000) : Ev (fun k => lure_isSet.f k l n) (setB l n) := isSet_l0 l n h0 h1 hl l.length 0 (by omega)
theorem risSet_l0 (l : List Int) (n : Int) (h0 : 0 ≤ n) (h1 : n ≤ 1000) (hl : l.length ≤ 1000) : ∀ d i : Nat, i + d = l.length → Ev (fun k => wigeonref04_isSet.l0 k l n (i : Int)) (stB n (pv l i) (l.drop i))
  | 0, i, h => by
    refine Ev.step (fun k => wigeonref04_isSet.l0.eq_2 ..) (evn (by omega) ?_)
    rw [List.drop_eq_nil_of_le (by omega)]; exact Ev.now _
  | d + 1, i, h => by
    have hlt : i < l.length := by omega
    have R := risSet_l0 l n h0 h1 hl d (i + 1) (by omega)
    have hp : pv l (i + 1) = l[i] := by
      unfold pv
      rw [if_neg (by omega), show ((i + 1 : Nat) : Int) - 1 = (i : Int) by omega, rd_at l i hlt]
    rw [hp] at R
    refine Ev.step (fun k => wigeonref04_isSet.l0.eq_2 ..) (evp (by omega) (evp (by omega) (evs (rwithin_eq _ _ _) ?_)))
    rw [rd_at l i hlt, List.drop_eq_getElem_cons hlt, w64 (n := n - 1) (by omega) (by omega), w64 (n := (i : Int) + 1) (by omega) (by omega)]
    unfold stB
    by_cases q : 0 ≤ l[i] ∧ l[i] ≤ n - 1
    · rw [decide_eq_true q, Bool.true_and]
      refine evp rfl ?_
      by_cases hi : i = 0
      · subst hi
        refine evn (by omega) ?_
        rw [show decide (pv l 0 < l[0]) = true from decide_eq_true (by unfold pv; rw [if_pos rfl]; omega), Bool.true_and]; exact R
      · refine evp (by omega) ?_
        rw [w64 (n := (i : Int) - 1) (by omega) (by omega)]
        refine evp (by omega) (evp (by omega) ?_)
        have e : pv l i = rd l ((i : Int) - 1) := if_neg hi
        rw [e]
        by_cases g : l[i] ≤ rd l ((i : Int) - 1)
        · rw [decide_eq_false (by omega), Bool.false_and]; exact evp g (Ev.now _)
        · rw [decide_eq_true (by omega), Bool.true_and]; exact evn g R
    · rw [decide_eq_false q, Bool.false_and]; exact evn (by decide) (Ev.now _)
theorem risSet_ev (l : List Int) (n : Int) (h0 : 0 ≤ n) (h1 : n ≤ 1000) (hl : l.length ≤ 1000) : Ev (fun k => wigeonref04_isSet.f k l n) (setB l n) := risSet_l0 l n h0 h1 hl l.length 0 (by omega)
theorem stB_in {n : Int} : ∀ {l : List Int} {lo : Int}, stB n lo l = true → ∀ x ∈ l, 0 ≤ x ∧ x < n ∧ lo < x
  | [], _, _, x, hx => absurd hx (by simp)
  | y :: l, lo, h, x, hx => by
    unfold stB at h
    rw [Bool.and_eq_true, Bool.and_eq_true, decide_eq_true_eq, decide_eq_true_eq] at h
    rcases List.mem_cons.1 hx with e | e
    · subst e; omega
    · have := stB_in h.2.2 x e; omega
theorem setB_in {l : List Int} {n : Int} (h : setB l n = true) : ∀ x ∈ l, 0 ≤ x ∧ x < n := fun x hx => by
  have := stB_in h x hx; omega
/-- one place: whose turn, and its moves -/
def rowB (n : Int) (o : Int) (m : List Int) : Bool := decide (0 ≤ o ∧ o ≤ 1) && (!decide (m = []) && setB m n)
def vaB (n : Int) (own : List Int) (mv : List (List Int)) : Nat → Nat → Bool
  | 0, _ => true
  | d + 1, i => rowB n (rd own (i : Int)) (rd_L1 mv (i : Int)) && vaB n own mv d (i + 1)
def vlR (own : List Int) (mv : List (List Int)) : Int := if 1 ≤ (own.length : Int) ∧ (own.length : Int) ≤ 16 then (if mv.length = own.length then (if vaB (own.length : Int) own mv own.length 0 = true then 0 else 1) else 1) else 3
theorem small_row {mv : List (List Int)} (hs : ∀ m ∈ mv, m.length ≤ 100) (i : Nat) : (rd_L1 mv (i : Int)).length ≤ 100 := by
  by_cases h : i < mv.length
  · exact hs _ (getD_mem h)
  · have : rd_L1 mv (i : Int) = [] := by simp [rd_L1, List.getD_eq_getElem?_getD, List.getElem?_eq_none (show mv.length ≤ i by omega)]
    rw [this]; simp
theorem valid_l0 (own : List Int) (mv : List (List Int)) (hs : ∀ m ∈ mv, m.length ≤ 100) (hn : own.length ≤ 16) (hm : mv.length = own.length) : ∀ d i : Nat, i + d = own.length → Ev (fun k => lure_Validate.l0 k (own.length : Int) own (own.length : Int) (i : Int) own mv) (if vaB (own.length : Int) own mv d i = true then (0 : Int) else 1)
  | 0, i, h => by
    refine Ev.step (fun k => lure_Validate.l0.eq_2 ..) (evn (by omega) ?_)
    rw [show vaB (own.length : Int) own mv 0 i = true from rfl, if_pos rfl]; exact Ev.now _
  | d + 1, i, h => by
    have R := valid_l0 own mv hs hn hm d (i + 1) (by omega)
    have s := small_row hs i
    refine Ev.step (fun k => lure_Validate.l0.eq_2 ..) (evp (by omega) (evp (by omega) (evp (by omega) (evs (within_eq _ _ _) ?_))))
    rw [show vaB (own.length : Int) own mv (d + 1) i = (rowB (own.length : Int) (rd own (i : Int)) (rd_L1 mv (i : Int)) && vaB (own.length : Int) own mv d (i + 1)) from rfl, w64 (n := (i : Int) + 1) (by omega) (by omega)]
    unfold rowB
    by_cases q : 0 ≤ rd own (i : Int) ∧ rd own (i : Int) ≤ 1
    · rw [decide_eq_true q, Bool.true_and]
      refine evp rfl (evp (by omega) ?_)
      by_cases z : rd_L1 mv (i : Int) = []
      · rw [decide_eq_true z, Bool.not_true, Bool.false_and, Bool.false_and, if_neg (by decide)]
        exact evp (by rw [z]; rfl) (Ev.now _)
      · rw [decide_eq_false z, Bool.not_false, Bool.true_and]
        have zl : (rd_L1 mv (i : Int)).length ≠ 0 := fun e => z (List.length_eq_zero_iff.1 e)
        refine evn (by omega) (evb (isSet_ev _ _ (by omega) (by omega) (by omega)) ?_)
        cases setB (rd_L1 mv (i : Int)) (own.length : Int)
        · rw [Bool.false_and, if_neg (by decide)]; exact evn (by decide) (Ev.now _)
        · rw [Bool.true_and]; exact evp rfl R
    · rw [decide_eq_false q, Bool.false_and, Bool.false_and, if_neg (by decide)]; exact evn (by decide) (Ev.now _)
theorem valid_ev (own : List Int) (mv : List (List Int)) (hs : ∀ m ∈ mv, m.length ≤ 100) : Ev (fun k => lure_Validate.f k own mv) (vlR own mv) := by
  unfold lure_Validate.f vlR
  refine evs (within_eq _ _ _) ?_
  by_cases h : 1 ≤ (own.length : Int) ∧ (own.length : Int) ≤ 16
  · rw [decide_eq_true h, if_pos h]
    refine evp rfl ?_
    by_cases h2 : mv.length = own.length
    · rw [if_pos h2]; exact evp (by omega) (valid_l0 own mv hs (by omega) h2 own.length 0 (by omega))
    · rw [if_neg h2]; exact evn (by omega) (Ev.now _)
  · rw [decide_eq_false h, if_neg h]; exact evn (by decide) (Ev.now _)
theorem rvalid_l0 (own : List Int) (mv : List (List Int)) (hs : ∀ m ∈ mv, m.length ≤ 100) (hn : own.length ≤ 16) (hm : mv.length = own.length) : ∀ d i : Nat, i + d = own.length → Ev (fun k => wigeonref04_Validate.l0 k (own.length : Int) (i : Int) own mv) (if vaB (own.length : Int) own mv d i = true then (0 : Int) else 1)
  | 0, i, h => by
    refine Ev.step (fun k => wigeonref04_Validate.l0.eq_2 ..) (evn (by omega) ?_)
    rw [show vaB (own.length : Int) own mv 0 i = true from rfl, if_pos rfl]; exact Ev.now _
  | d + 1, i, h => by
    have R := rvalid_l0 own mv hs hn hm d (i + 1) (by omega)
    have s := small_row hs i
    refine Ev.step (fun k => wigeonref04_Validate.l0.eq_2 ..) (evp (by omega) (evp (by omega) (evp (by omega) (evs (rwithin_eq _ _ _) ?_))))
    rw [show vaB (own.length : Int) own mv (d + 1) i = (rowB (own.length : Int) (rd own (i : Int)) (rd_L1 mv (i : Int)) && vaB (own.length : Int) own mv d (i + 1)) from rfl, w64 (n := (i : Int) + 1) (by omega) (by omega)]
    unfold rowB
    by_cases q : 0 ≤ rd own (i : Int) ∧ rd own (i : Int) ≤ 1
    · rw [decide_eq_true q, Bool.true_and]
      refine evp rfl (evp (by omega) ?_)
      by_cases z : rd_L1 mv (i : Int) = []
      · rw [decide_eq_true z, Bool.not_true, Bool.false_and, Bool.false_and, if_neg (by decide)]
        exact evp (by rw [z]; rfl) (Ev.now _)
      · rw [decide_eq_false z, Bool.not_false, Bool.true_and]
        have zl : (rd_L1 mv (i : Int)).length ≠ 0 := fun e => z (List.length_eq_zero_iff.1 e)
        refine evn (by omega) (evb (risSet_ev _ _ (by omega) (by omega) (by omega)) ?_)
        cases setB (rd_L1 mv (i : Int)) (own.length : Int)
        · rw [Bool.false_and, if_neg (by decide)]; exact evn (by decide) (Ev.now _)
        · rw [Bool.true_and]; exact evp rfl R
    · rw [decide_eq_false q, Bool.false_and, Bool.false_and, if_neg (by decide)]; exact evn (by decide) (Ev.now _)
theorem rvalid_ev (own : List Int) (mv : List (List Int)) (hs : ∀ m ∈ mv, m.length ≤ 100) : Ev (fun k => wigeonref04_Validate.f k own mv) (vlR own mv) := by
  unfold wigeonref04_Validate.f vlR
  refine evs (rwithin_eq _ _ _) ?_
  by_cases h : 1 ≤ (own.length : Int) ∧ (own.length : Int) ≤ 16
  · rw [decide_eq_true h, if_pos h]
    refine evp rfl ?_
    by_cases h2 : mv.length = own.length
    · rw [if_pos h2]; exact evp (by omega) (rvalid_l0 own mv hs (by omega) h2 own.length 0 (by omega))
    · rw [if_neg h2]; exact evn (by omega) (Ev.now _)
  · rw [decide_eq_false h, if_neg h]; exact evn (by decide) (Ev.now _)
/-- a valid game -/
structure VG (own : List Int) (mv : List (List Int)) : Prop where
  n1 : 1 ≤ own.length
  n2 : own.length ≤ 16
  len : mv.length = own.length
  own_ : ∀ i : Nat, i < own.length → rd own (i : Int) = 0 ∨ rd own (i : Int) = 1
  ne : ∀ i : Nat, i < own.length → rd_L1 mv (i : Int) ≠ []
  set_ : ∀ i : Nat, i < own.length → setB (rd_L1 mv (i : Int)) (own.length : Int) = true
  small : ∀ i : Nat, (rd_L1 mv (i : Int)).length ≤ 100
theorem vaB_at {n : Int} {own : List Int} {mv : List (List Int)} : ∀ {d i : Nat}, vaB n own mv d i = true → ∀ j, i ≤ j → j < i + d → rowB n (rd own (j : Int)) (rd_L1 mv (j : Int)) = true
  | 0, i, _, j, h1, h2 => by omega
  | d + 1, i, h, j, h1, h2 => by
    unfold vaB at h
    rw [Bool.and_eq_true] at h
    by_cases e : j = i
    · subst e; exact h.1
    · exact vaB_at h.2 j (by omega) (by omega)
theorem vlR_ok {own : List Int} {mv : List (List Int)} (hs : ∀ m ∈ mv, m.length ≤ 100) (h : vlR own mv = 0) : VG own mv := by
  unfold vlR at h
  by_cases h1 : 1 ≤ (own.length : Int) ∧ (own.length : Int) ≤ 16
  · rw [if_pos h1] at h
    by_cases h2 : mv.length = own.length
    · rw [if_pos h2] at h
      by_cases h3 : vaB (own.length : Int) own mv own.length 0 = true
      · have r : ∀ i : Nat, i < own.length → _ := fun i hi => vaB_at h3 i (by omega) (by omega)
        unfold rowB at r
        simp only [Bool.and_eq_true, decide_eq_true_eq, Bool.not_eq_true', decide_eq_false_iff_not] at r
        exact ⟨by omega, by omega, h2, fun i hi => by have := (r i hi).1; omega, fun i hi => (r i hi).2.1, fun i hi => (r i hi).2.2, small_row hs⟩
      · rw [if_neg h3] at h; exact absurd h (by decide)
    · rw [if_neg h2] at h; exact absurd h (by decide)
  · rw [if_neg h1] at h; exact absurd h (by decide)
theorem VG.in_ {own : List Int} {mv : List (List Int)} (G : VG own mv) (i : Nat) (hi : i < own.length) : ∀ k ∈ rd_L1 mv (i : Int), 0 ≤ k ∧ k < (own.length : Int) := setB_in (G.set_ i hi)
def exR (own : List Int) (mv : List (List Int)) (set : List Int) : Int := if vlR own mv = 0 then (if setB set (own.length : Int) = true then 0 else 1) else vlR own mv
theorem exR_v {own : List Int} {mv : List (List Int)} {set : List Int} (h : ¬ vlR own mv = 0) : exR own mv set = vlR own mv := if_neg h
theorem exR_1 {own : List Int} {mv : List (List Int)} {set : List Int} (h : vlR own mv = 0) (h2 : ¬ setB set (own.length : Int) = true) : exR own mv set = 1 := (if_pos h).trans (if_neg h2)
theorem exR_0 {own : List Int} {mv : List (List Int)} {set : List Int} (h : vlR own mv = 0) (h2 : setB set (own.length : Int) = true) : exR own mv set = 0 := (if_pos h).trans (if_pos h2)
theorem exR_ok {own : List Int} {mv : List (List Int)} {set : List Int} (h : exR own mv set = 0) : vlR own mv = 0 ∧ setB set (own.length : Int) = true := by
  by_cases h1 : vlR own mv = 0
  · by_cases h2 : setB set (own.length : Int) = true
    · exact ⟨h1, h2⟩
    · rw [exR_1 h1 h2] at h; exact absurd h (by decide)
  · rw [exR_v h1] at h; exact absurd h h1
theorem examine_ev (own : List Int) (mv : List (List Int)) (hs : ∀ m ∈ mv, m.length ≤ 100) (set : List Int) (hl : set.length ≤ 100) : Ev (fun k => lure_examine.f k own mv [set]) (exR own mv set) := by
  unfold lure_examine.f
  refine evb (valid_ev own mv hs) ?_
  by_cases h : vlR own mv = 0
  · have G := vlR_ok hs h
    have a := G.n2
    refine evp h (Ev.step (fun k => lure_examine.l0.eq_2 ..) (evp (by simp) (evp (by decide) (evp (by simp) (evb (isSet_ev _ _ (by omega) (by omega) (by show set.length ≤ 1000; omega)) ?_)))))
    by_cases h2 : setB set (own.length : Int) = true
    · rw [exR_0 h h2]
      exact evp h2 (Ev.step (fun k => lure_examine.l0.eq_2 ..) (evn (by simp [wrap64]) (Ev.now _)))
    · rw [exR_1 h h2]; exact evn h2 (Ev.now _)
  · rw [exR_v h]; exact evn h (Ev.now _)

def lgB (own : List Int) (mv : List (List Int)) : Bool := decide (own.length > 100 ∨ mv.length > 100) || mv.any fun m => decide (m.length > 100)
theorem large_l0 (own : List Int) (mv : List (List Int)) (hm : mv.length ≤ 100) : ∀ d i : Nat, i + d = mv.length → Ev (fun k => wigeonlaw04_Large.l0 k (i : Int) own mv) ((mv.drop i).any fun m => decide (m.length > 100))
  | 0, i, h => by
    refine Ev.step (fun k => wigeonlaw04_Large.l0.eq_2 ..) (evn (by omega) ?_)
    rw [List.drop_eq_nil_of_le (by omega)]; exact Ev.now _
  | d + 1, i, h => by
    have hlt : i < mv.length := by omega
    have R := large_l0 own mv hm d (i + 1) (by omega)
    have e : rd_L1 mv (i : Int) = mv[i] := by simp [rd_L1, List.getD_eq_getElem?_getD, List.getElem?_eq_getElem hlt]
    refine Ev.step (fun k => wigeonlaw04_Large.l0.eq_2 ..) (evp (by omega) (evp (by omega) ?_))
    rw [e, List.drop_eq_getElem_cons hlt, List.any_cons, w64 (by omega) (by omega)]
    by_cases q : (mv[i]).length > 100
    · rw [decide_eq_true q, Bool.true_or]; exact evp (by omega) (Ev.now _)
    · rw [decide_eq_false q, Bool.false_or]; exact evn (by omega) R
theorem large_ev (own : List Int) (mv : List (List Int)) : Ev (fun k => wigeonlaw04_Large.f k own mv) (lgB own mv) := by
  unfold wigeonlaw04_Large.f lgB
  by_cases h : (own.length : Int) > 100
  · rw [decide_eq_true (show own.length > 100 ∨ mv.length > 100 by omega), Bool.true_or]; exact evp h (Ev.step (fun k => wigeonlaw04_Large.j0.eq_2 ..) (evp rfl (Ev.now _)))
  · refine evn h (Ev.step (fun k => wigeonlaw04_Large.j0.eq_2 ..) ?_)
    by_cases h2 : (mv.length : Int) > 100
    · rw [decide_eq_true (show own.length > 100 ∨ mv.length > 100 by omega), Bool.true_or]; exact evp (decide_eq_true h2) (Ev.now _)
    · rw [decide_eq_false (show ¬ (own.length > 100 ∨ mv.length > 100) by omega), Bool.false_or]
      exact evn (by simpa using h2) (large_l0 own mv (by omega) mv.length 0 (by omega))
theorem large_not {own : List Int} {mv : List (List Int)} (h : ¬ lgB own mv = true) : own.length ≤ 100 ∧ mv.length ≤ 100 ∧ ∀ m ∈ mv, m.length ≤ 100 := by
  unfold lgB at h
  rw [Bool.or_eq_true, not_or, decide_eq_true_eq, Bool.not_eq_true, List.any_eq_false] at h
  refine ⟨by omega, by omega, fun m hm => ?_⟩
  have := h.2 m hm
  simp at this; exact this
theorem same_l0 (l : List Int) (hl : l.length ≤ 1000) : ∀ d i : Nat, i + d = l.length → Ev (fun k => wigeonref04_SameInts.l0 k l l (i : Int)) true
  | 0, i, h => Ev.step (fun k => wigeonref04_SameInts.l0.eq_2 ..) (evn (by omega) (Ev.now _))
  | d + 1, i, h => by
    refine Ev.step (fun k => wigeonref04_SameInts.l0.eq_2 ..) (evp (by omega) (evp (by omega) (evp (by omega) (evp rfl ?_))))
    rw [w64 (by omega) (by omega)]; exact same_l0 l hl d (i + 1) (by omega)
theorem same_ev (l : List Int) (hl : l.length ≤ 1000) : Ev (fun k => wigeonref04_SameInts.f k l l) true := by
  unfold wigeonref04_SameInts.f
  exact evp rfl (same_l0 l hl l.length 0 (by omega))

/-- a set of places as a test of numbers -/
def pS (S : Nat → Bool) (k : Int) : Bool := S k.toNat
/-- from where the man makes sure of a set -/
def fB (own : List Int) (mv : List (List Int)) (S : Nat → Bool) (i : Nat) : Bool := forB own mv (i : Int) (pS S)
theorem forB_congr {own : List Int} {mv : List (List Int)} {i : Int} {p q : Int → Bool} (h : ∀ k ∈ rd_L1 mv i, p k = q k) : forB own mv i p = forB own mv i q := by
  have e : ∀ (l : List Int), (∀ k ∈ l, p k = q k) → l.any p = l.any q ∧ (l.any fun k => !p k) = (l.any fun k => !q k) := fun l => by
    induction l with
    | nil => intro _; exact ⟨rfl, rfl⟩
    | cons x l ih =>
      intro a
      obtain ⟨i1, i2⟩ := ih (fun k hk => a k (List.mem_cons_of_mem _ hk))
      simp only [List.any_cons]
      rw [i1, i2, a x List.mem_cons_self]
      exact ⟨rfl, rfl⟩
  obtain ⟨e1, e2⟩ := e _ h
  unfold forB
  rw [e1, e2]

def befR (own : List Int) (mv : List (List Int)) (set : List Int) : List Int := asc (fB own mv (inL set)) own.length
theorem before_ev {own : List Int} {mv : List (List Int)} (G : VG own mv) (set : List Int) : Ev (fun k => lure_before.f k own mv set) (befR own mv set) := by
  have n16 := G.n2
  have gl := G.len
  refine some_ev _ _ own.length (by omega) fun i hi => ?_
  unfold holdsF
  rw [if_pos ⟨by omega, by omega, by omega⟩]
  congr 1
  refine forB_congr fun k hk => ?_
  obtain ⟨h0, h1⟩ := G.in_ i hi k hk
  unfold pS inL
  rw [Int.toNat_of_nonneg h0]
/-- what is reached in so many moves -/
def Rt (own : List Int) (mv : List (List Int)) (g : Nat → Bool) : Nat → Nat → Bool
  | 0, i => g i
  | t + 1, i => g i || fB own mv (Rt own mv g t) i
/-- the rank, as far as t moves tell -/
def rk (own : List Int) (mv : List (List Int)) (g : Nat → Bool) : Nat → Nat → Int
  | 0, i => if g i then 0 else -1
  | t + 1, i => if 0 ≤ rk own mv g t i then rk own mv g t i else if Rt own mv g (t + 1) i then ((t + 1 : Nat) : Int) else -1
theorem fB_congr {own : List Int} {mv : List (List Int)} (G : VG own mv) {p q : Nat → Bool} (h : ∀ k, k < own.length → p k = q k) (i : Nat) (hi : i < own.length) : fB own mv p i = fB own mv q i := by
  refine forB_congr fun k hk => ?_
  obtain ⟨h0, h1⟩ := G.in_ i hi k hk
  exact h k.toNat (by omega)
theorem fB_mono {own : List Int} {mv : List (List Int)} (G : VG own mv) {p q : Nat → Bool} (h : ∀ k, k < own.length → p k = true → q k = true) (i : Nat) (hi : i < own.length) : fB own mv p i = true → fB own mv q i = true := by
  have hin := G.in_ i hi
  have e : ∀ k ∈ rd_L1 mv (i : Int), pS p k = true → pS q k = true := fun k hk hp => by
    obtain ⟨h0, h1⟩ := hin k hk
    exact h k.toNat (by omega) hp
  unfold fB forB
  by_cases o : rd own (i : Int) = 0
  · rw [if_pos o, if_pos o, List.any_eq_true, List.any_eq_true]
    rintro ⟨k, h1, h2⟩
    exact ⟨k, h1, e k h1 h2⟩
  · rw [if_neg o, if_neg o, Bool.not_eq_true', Bool.not_eq_true', List.any_eq_false, List.any_eq_false]
    intro a k hk
    have := a k hk
    simp at this ⊢
    exact e k hk this
theorem Rt_up {own : List Int} {mv : List (List Int)} (G : VG own mv) (g : Nat → Bool) : ∀ (t i : Nat), i < own.length → Rt own mv g t i = true → Rt own mv g (t + 1) i = true
  | 0, i, hi, h => by
    show (g i || _) = true
    rw [show g i = true from h, Bool.true_or]
  | t + 1, i, hi, h => by
    have h : (g i || fB own mv (Rt own mv g t) i) = true := h
    show (g i || fB own mv (Rt own mv g (t + 1)) i) = true
    rw [Bool.or_eq_true] at h ⊢
    rcases h with h | h
    · exact Or.inl h
    · exact Or.inr (fB_mono G (fun k hk => Rt_up G g t k hk) i hi h)
theorem Rt_le {own : List Int} {mv : List (List Int)} (G : VG own mv) (g : Nat → Bool) {i : Nat} (hi : i < own.length) : ∀ (d t : Nat), Rt own mv g t i = true → Rt own mv g (t + d) i = true
  | 0, _, h => h
  | d + 1, t, h => Rt_up G g (t + d) i hi (Rt_le G g hi d t h)
theorem rk_reach {own : List Int} {mv : List (List Int)} (G : VG own mv) (g : Nat → Bool) {i : Nat} (hi : i < own.length) : ∀ t, (0 ≤ rk own mv g t i ↔ Rt own mv g t i = true) ∧ -1 ≤ rk own mv g t i ∧ rk own mv g t i ≤ t
  | 0 => by
    show (0 ≤ (if g i then (0 : Int) else -1) ↔ g i = true) ∧ -1 ≤ (if g i then (0 : Int) else -1) ∧ (if g i then (0 : Int) else -1) ≤ ((0 : Nat) : Int)
    cases g i <;> simp
  | t + 1 => by
    obtain ⟨a, b, c⟩ := rk_reach G g hi t
    show (0 ≤ (if 0 ≤ rk own mv g t i then rk own mv g t i else if Rt own mv g (t + 1) i then ((t + 1 : Nat) : Int) else -1) ↔ _) ∧ -1 ≤ (if 0 ≤ rk own mv g t i then rk own mv g t i else if Rt own mv g (t + 1) i then ((t + 1 : Nat) : Int) else -1) ∧ (if 0 ≤ rk own mv g t i then rk own mv g t i else if Rt own mv g (t + 1) i then ((t + 1 : Nat) : Int) else -1) ≤ ((t + 1 : Nat) : Int)
    by_cases q : 0 ≤ rk own mv g t i
    · rw [if_pos q]
      exact ⟨⟨fun _ => Rt_up G g t i hi (a.1 q), fun _ => q⟩, by omega, by omega⟩
    · rw [if_neg q]
      cases z : Rt own mv g (t + 1) i
      · rw [if_neg (by decide)]; exact ⟨⟨fun h => absurd h (by decide), fun h => absurd h (by decide)⟩, by omega, by omega⟩
      · rw [if_pos rfl]; exact ⟨⟨fun _ => rfl, fun _ => by omega⟩, by omega, by omega⟩
/-- a rank that is there at t stays -/
theorem rk_stay {own : List Int} {mv : List (List Int)} (g : Nat → Bool) {i t : Nat} (h : 0 ≤ rk own mv g t i) : ∀ d, rk own mv g (t + d) i = rk own mv g t i
  | 0 => rfl
  | d + 1 => by
    have e := rk_stay g h d
    show (if 0 ≤ rk own mv g (t + d) i then rk own mv g (t + d) i else _) = _
    rw [if_pos (by omega), e]
/-- how many are reached -/
def cnt (q : Nat → Bool) : Nat → Nat
  | 0 => 0
  | n + 1 => cnt q n + (if q n then 1 else 0)
theorem cnt_le (q : Nat → Bool) : ∀ n, cnt q n ≤ n
  | 0 => Nat.le_refl _
  | n + 1 => by have := cnt_le q n; unfold cnt; split <;> omega
theorem cnt_mono {p q : Nat → Bool} : ∀ {n : Nat}, (∀ k, k < n → p k = true → q k = true) → cnt p n ≤ cnt q n ∧ ((∃ k, k < n ∧ p k = false ∧ q k = true) → cnt p n < cnt q n)
  | 0, _ => ⟨Nat.le_refl _, fun ⟨k, h, _⟩ => absurd h (by omega)⟩
  | n + 1, h => by
    obtain ⟨a, b⟩ := cnt_mono (n := n) (fun k hk => h k (by omega))
    have c := h n (by omega)
    unfold cnt
    constructor
    · cases hp : p n
      · rw [if_neg (by decide)]; split <;> omega
      · rw [if_pos rfl, c hp, if_pos rfl]; omega
    · rintro ⟨k, h1, h2, h3⟩
      by_cases e : k = n
      · subst e
        rw [h2, h3, if_neg (by decide), if_pos rfl]; omega
      · have := b ⟨k, by omega, h2, h3⟩
        cases hp : p n
        · rw [if_neg (by decide)]; split <;> omega
        · rw [if_pos rfl, c hp, if_pos rfl]; omega
/-- nothing more is reached after t moves -/
def still (own : List Int) (mv : List (List Int)) (g : Nat → Bool) (t : Nat) : Prop := ∀ k, k < own.length → Rt own mv g (t + 1) k = Rt own mv g t k
theorem not_still {own : List Int} {mv : List (List Int)} (G : VG own mv) {g : Nat → Bool} {t : Nat} (h : ¬ still own mv g t) : ∃ k, k < own.length ∧ Rt own mv g t k = false ∧ Rt own mv g (t + 1) k = true := by
  refine Classical.byContradiction fun c => h fun k hk => ?_
  cases a : Rt own mv g t k
  · cases b : Rt own mv g (t + 1) k
    · rfl
    · exact absurd ⟨k, hk, a, b⟩ c
  · exact Rt_up G g t k hk a
theorem still_ex {own : List Int} {mv : List (List Int)} (G : VG own mv) (g : Nat → Bool) : ∃ t, t ≤ own.length ∧ still own mv g t ∧ ∀ s, s < t → ¬ still own mv g s := by
  have grow : ∀ t, (∀ s, s < t → ¬ still own mv g s) → t ≤ cnt (Rt own mv g t) own.length := by
    intro t
    induction t with
    | zero => intro _; exact Nat.zero_le _
    | succ t ih =>
      intro h
      have a := ih (fun s hs => h s (by omega))
      have b := (cnt_mono (p := Rt own mv g t) (q := Rt own mv g (t + 1)) (n := own.length) (fun k hk => Rt_up G g t k hk)).2 (not_still G (h t (by omega)))
      omega
  refine Classical.byContradiction fun c => ?_
  have all : ∀ t, t ≤ own.length + 1 → ∀ s, s < t → ¬ still own mv g s := by
    intro t
    induction t with
    | zero => intro _ s hs; omega
    | succ t ih =>
      intro ht s hs
      by_cases e : s = t
      · subst e
        intro q
        exact c ⟨s, by omega, q, ih (by omega)⟩
      · exact ih (by omega) s (by omega)
  have a := grow (own.length + 1) (all _ (Nat.le_refl _))
  have b := cnt_le (Rt own mv g (own.length + 1)) own.length
  omega
theorem still_on {own : List Int} {mv : List (List Int)} (G : VG own mv) {g : Nat → Bool} {t : Nat} (h : still own mv g t) : ∀ d k, k < own.length → Rt own mv g (t + d) k = Rt own mv g t k
  | 0, _, _ => rfl
  | d + 1, k, hk => by
    have e : Rt own mv g (t + d + 1) k = Rt own mv g (t + 1) k := by
      show (g k || fB own mv (Rt own mv g (t + d)) k) = (g k || fB own mv (Rt own mv g t) k)
      rw [fB_congr G (fun j hj => still_on G h d j hj) k hk]
    show Rt own mv g (t + d + 1) k = _
    rw [e]; exact h k hk
theorem rk_still {own : List Int} {mv : List (List Int)} (G : VG own mv) {g : Nat → Bool} {t : Nat} (h : still own mv g t) {k : Nat} (hk : k < own.length) : ∀ d, rk own mv g (t + d) k = rk own mv g t k
  | 0 => rfl
  | d + 1 => by
    by_cases q : 0 ≤ rk own mv g t k
    · exact rk_stay g q (d + 1)
    · have e := rk_still G h hk d
      obtain ⟨a, b, _⟩ := rk_reach G g hk t
      have f : Rt own mv g (t + d + 1) k = false := by
        rw [show t + d + 1 = t + (d + 1) by omega, still_on G h (d + 1) k hk]
        cases z : Rt own mv g t k
        · rfl
        · exact absurd (a.2 z) q
      show (if 0 ≤ rk own mv g (t + d) k then rk own mv g (t + d) k else if Rt own mv g (t + d + 1) k then ((t + d + 1 : Nat) : Int) else -1) = _
      rw [e, if_neg q, f, if_neg (by decide)]; omega
/-- the list of ranks -/
def rkL (own : List Int) (mv : List (List Int)) (g : Nat → Bool) (t : Nat) : List Int := (List.range own.length).map (rk own mv g t)
theorem rkL_len (own : List Int) (mv : List (List Int)) (g : Nat → Bool) (t : Nat) : (rkL own mv g t).length = own.length := by unfold rkL; rw [List.length_map, List.length_range]
theorem rkL_at (own : List Int) (mv : List (List Int)) (g : Nat → Bool) (t : Nat) {i : Nat} (hi : i < own.length) : rd (rkL own mv g t) (i : Int) = rk own mv g t i := by
  rw [rd_at _ i (by rw [rkL_len]; exact hi)]
  unfold rkL
  rw [List.getElem_map, List.getElem_range]
/-- the list as it stands in the midst of a round: the first j places are of t + 1 -/
def rkM (own : List Int) (mv : List (List Int)) (g : Nat → Bool) (t j : Nat) : List Int := (List.range own.length).map fun i => if i < j then rk own mv g (t + 1) i else rk own mv g t i
theorem rkM_0 (own : List Int) (mv : List (List Int)) (g : Nat → Bool) (t : Nat) : rkM own mv g t 0 = rkL own mv g t := List.map_congr_left fun i _ => if_neg (by omega)
theorem rkM_n (own : List Int) (mv : List (List Int)) (g : Nat → Bool) (t : Nat) : rkM own mv g t own.length = rkL own mv g (t + 1) := List.map_congr_left fun i hi => if_pos (List.mem_range.1 hi)
theorem rkM_same {own : List Int} {mv : List (List Int)} {g : Nat → Bool} {t j : Nat} (h : rk own mv g (t + 1) j = rk own mv g t j) : rkM own mv g t (j + 1) = rkM own mv g t j := List.map_congr_left fun i _ => by
  by_cases e : i = j
  · subst e; rw [if_pos (by omega), if_neg (by omega), h]
  · by_cases q : i < j
    · rw [if_pos (by omega), if_pos q]
    · rw [if_neg (by omega), if_neg q]
theorem rkM_set {own : List Int} {mv : List (List Int)} {g : Nat → Bool} {t j : Nat} : (rkM own mv g t j).set j (rk own mv g (t + 1) j) = rkM own mv g t (j + 1) := by
  apply List.ext_getElem
  · unfold rkM; simp
  · intro i h1 h2
    have hi : i < own.length := by unfold rkM at h2; simpa using h2
    simp only [rkM, List.getElem_set, List.getElem_map, List.getElem_range]
    by_cases e : j = i
    · subst e; rw [if_pos rfl, if_pos (by omega)]
    · rw [if_neg e]
      by_cases q : i < j
      · rw [if_pos q, if_pos (by omega)]
      · rw [if_neg q, if_neg (by omega)]
theorem grow_step {own : List Int} {mv : List (List Int)} (G : VG own mv) (g : Nat → Bool) (t : Nat) : ∀ d j (more : Bool), j + d = own.length → growL own mv ((t + 1 : Nat) : Int) (rkL own mv g t) d j (rkM own mv g t j) more = (rkL own mv g (t + 1), more || (List.range d).any fun e => Rt own mv g (t + 1) (j + e) && !Rt own mv g t (j + e))
  | 0, j, more, h => by
    show (rkM own mv g t j, more) = _
    rw [show j = own.length by omega, rkM_n]; simp
  | d + 1, j, more, h => by
    have hj : j < own.length := by omega
    obtain ⟨a, b, _⟩ := rk_reach G g hj t
    have fe : forB own mv (j : Int) (fun k => decide (0 ≤ rd (rkL own mv g t) k)) = fB own mv (Rt own mv g t) j := forB_congr fun k hk => by
      obtain ⟨h0, h1⟩ := G.in_ j hj k hk
      obtain ⟨k, rfl⟩ := Int.eq_ofNat_of_zero_le h0
      have hk' : k < own.length := by omega
      rw [rkL_at own mv g t hk']
      unfold pS
      rw [Int.toNat_natCast]
      have c := (rk_reach G g hk' t).1
      cases z : Rt own mv g t k
      · exact decide_eq_false (fun q => by have := c.1 q; rw [z] at this; exact absurd this (by decide))
      · exact decide_eq_true (c.2 z)
    have nx : (List.range (d + 1)).any (fun e => Rt own mv g (t + 1) (j + e) && !Rt own mv g t (j + e)) = ((Rt own mv g (t + 1) j && !Rt own mv g t j) || (List.range d).any fun e => Rt own mv g (t + 1) (j + 1 + e) && !Rt own mv g t (j + 1 + e)) := by
      rw [List.range_succ_eq_map, List.any_cons, List.any_map, Nat.add_zero]
      congr 1
      refine congrArg (fun f => List.any (List.range d) f) (funext fun e => ?_)
      show (Rt own mv g (t + 1) (j + (e + 1)) && !Rt own mv g t (j + (e + 1))) = _
      rw [show j + (e + 1) = j + 1 + e by omega]
    unfold growL
    rw [rkL_at own mv g t hj, fe, nx]
    by_cases q : rk own mv g t j < 0 ∧ fB own mv (Rt own mv g t) j = true
    · rw [if_pos q]
      have r0 : Rt own mv g t j = false := by
        cases z : Rt own mv g t j
        · rfl
        · have := a.2 z; omega
      have r1 : Rt own mv g (t + 1) j = true := by show (g j || _) = true; rw [q.2, Bool.or_true]
      have e : rk own mv g (t + 1) j = ((t + 1 : Nat) : Int) := by
        show (if 0 ≤ rk own mv g t j then _ else if Rt own mv g (t + 1) j then ((t + 1 : Nat) : Int) else -1) = _
        rw [if_neg (by omega), r1, if_pos rfl]
      rw [← e, rkM_set, e, grow_step G g t d (j + 1) true (by omega), r0, r1]; simp
    · rw [if_neg q]
      have r : (Rt own mv g (t + 1) j && !Rt own mv g t j) = false := by
        cases z : Rt own mv g t j
        · have n0 : rk own mv g t j < 0 := by
            have : ¬ 0 ≤ rk own mv g t j := fun p => by have := a.1 p; rw [z] at this; exact absurd this (by decide)
            omega
          have f0 : fB own mv (Rt own mv g t) j = false := by
            cases y : fB own mv (Rt own mv g t) j
            · rfl
            · exact absurd ⟨n0, y⟩ q
          have g0 : g j = false := by
            cases y : g j
            · rfl
            · have := Rt_le G g hj t 0 (show Rt own mv g 0 j = true from y)
              rw [Nat.zero_add, z] at this; exact absurd this (by decide)
          show ((g j || fB own mv (Rt own mv g t) j) && _) = false
          rw [g0, f0]; rfl
        · rw [Bool.not_true, Bool.and_false]
      have e : rk own mv g (t + 1) j = rk own mv g t j := by
        show (if 0 ≤ rk own mv g t j then rk own mv g t j else if Rt own mv g (t + 1) j then ((t + 1 : Nat) : Int) else -1) = _
        by_cases p : 0 ≤ rk own mv g t j
        · rw [if_pos p]
        · rw [if_neg p]
          cases z : Rt own mv g (t + 1) j
          · rw [if_neg (by decide)]; omega
          · rw [z, Bool.true_and] at r
            have : Rt own mv g t j = true := by simpa using r
            exact absurd (a.2 this) p
      rw [← rkM_same e, grow_step G g t d (j + 1) more (by omega), r, Bool.false_or]
theorem grow_eq {own : List Int} {mv : List (List Int)} (G : VG own mv) (g : Nat → Bool) (t : Nat) : growR own mv ((t + 1 : Nat) : Int) (rkL own mv g t) = (rkL own mv g (t + 1), (List.range own.length).any fun e => Rt own mv g (t + 1) e && !Rt own mv g t e) := by
  have := grow_step G g t own.length 0 false (by omega)
  rw [rkM_0] at this
  unfold growR
  rw [this, Bool.false_or]
  congr 1
  refine congrArg (fun f => List.any (List.range own.length) f) (funext fun e => ?_)
  rw [Nat.zero_add]
theorem still_any {own : List Int} {mv : List (List Int)} (G : VG own mv) (g : Nat → Bool) (t : Nat) : ((List.range own.length).any fun e => Rt own mv g (t + 1) e && !Rt own mv g t e) = false ↔ still own mv g t := by
  rw [List.any_eq_false]
  constructor
  · intro h k hk
    have a := h k (List.mem_range.2 hk)
    cases z : Rt own mv g t k
    · rw [z] at a; simpa using a
    · exact Rt_up G g t k hk z
  · intro h k hk
    rw [h k (List.mem_range.1 hk)]; simp
/-- the ranks -/
def ranksR (own : List Int) (mv : List (List Int)) (goal : List Int) : List Int := rkL own mv (inL goal) own.length
theorem rkF_ev {own : List Int} {mv : List (List Int)} (G : VG own mv) (g : Nat → Bool) {T : Nat} (hT : T ≤ own.length) (hs : still own mv g T) (hb : ∀ s, s < T → ¬ still own mv g s) : ∀ d t, t + d = T → Ev (fun k => rkF own mv k ((t + 1 : Nat) : Int) (rkL own mv g t)) (rkL own mv g own.length)
  | 0, t, h => by
    refine Ev.step (fun k => rkF.eq_2 ..) ?_
    rw [grow_eq G g t]
    refine evn ?_ ?_
    · rw [Bool.not_eq_true]; exact (still_any G g t).2 (by rw [show t = T by omega]; exact hs)
    · have e : rkL own mv g (t + 1) = rkL own mv g own.length := by
        refine List.map_congr_left fun i hi => ?_
        have hi := List.mem_range.1 hi
        have a := rk_still G hs hi 1
        have b := rk_still G hs hi (own.length - T)
        rw [show T + (own.length - T) = own.length by omega] at b
        rw [show t + 1 = T + 1 by omega, a, b]
      rw [e]; exact Ev.now _
  | d + 1, t, h => by
    have n16 := G.n2
    have R := rkF_ev G g hT hs hb d (t + 1) (by omega)
    refine Ev.step (fun k => rkF.eq_2 ..) ?_
    rw [grow_eq G g t]
    refine evp ?_ ?_
    · cases z : (List.range own.length).any fun e => Rt own mv g (t + 1) e && !Rt own mv g t e
      · exact absurd ((still_any G g t).1 z) (hb t (by omega))
      · rfl
    · rw [w64 (n := ((t + 1 : Nat) : Int) + 1) (by omega) (by omega)]
      exact R
theorem setAll_rd (n : Nat) : ∀ (l xs : List Int), xs.length = n → (∀ k ∈ l, 0 ≤ k ∧ k < (n : Int)) → (setAll l xs).length = n ∧ ∀ i : Nat, i < n → rd (setAll l xs) (i : Int) = if (i : Int) ∈ l then 0 else rd xs (i : Int)
  | [], xs, h, _ => ⟨h, fun i hi => by rw [if_neg (by simp)]; rfl⟩
  | x :: l, xs, h, hl => by
    obtain ⟨h0, h1⟩ := hl x List.mem_cons_self
    obtain ⟨y, rfl⟩ := Int.eq_ofNat_of_zero_le h0
    obtain ⟨a, b⟩ := setAll_rd n l (xs.set y 0) (by rw [List.length_set]; exact h) (fun k hk => hl k (List.mem_cons_of_mem _ hk))
    show (setAll l (xs.set (Int.toNat (y : Int)) 0)).length = n ∧ _
    rw [Int.toNat_natCast]
    refine ⟨a, fun i hi => ?_⟩
    show rd (setAll l (xs.set (Int.toNat (y : Int)) 0)) (i : Int) = _
    rw [Int.toNat_natCast, b i hi]
    by_cases m : (i : Int) ∈ l
    · rw [if_pos m, if_pos (List.mem_cons_of_mem _ m)]
    · rw [if_neg m, rd_at _ i (by rw [List.length_set]; omega), List.getElem_set]
      by_cases e : y = i
      · subst e; rw [if_pos rfl, if_pos List.mem_cons_self]
      · rw [if_neg e, if_neg (fun q => by rcases List.mem_cons.1 q with q | q; · omega
                                          · exact m q), rd_at _ i (by omega)]
theorem init_eq {own : List Int} {mv : List (List Int)} (goal : List Int) (hg : ∀ k ∈ goal, 0 ≤ k ∧ k < (own.length : Int)) : setAll goal (List.replicate own.length (-1)) = rkL own mv (inL goal) 0 := by
  obtain ⟨a, b⟩ := setAll_rd own.length goal (List.replicate own.length (-1)) (by rw [List.length_replicate]) hg
  apply List.ext_getElem
  · rw [a, rkL_len]
  · intro i h1 h2
    have hi : i < own.length := by omega
    rw [← rd_at _ i h1, ← rd_at _ i h2, b i hi, rkL_at own mv _ 0 hi, rd_at _ i (by rw [List.length_replicate]; exact hi), List.getElem_replicate]
    show _ = if inL goal i then (0 : Int) else -1
    unfold inL
    by_cases m : (i : Int) ∈ goal
    · rw [if_pos m, decide_eq_true m, if_pos rfl]
    · rw [if_neg m, decide_eq_false m, if_neg (by decide)]
theorem ranks_ev {own : List Int} {mv : List (List Int)} (G : VG own mv) (goal : List Int) (hg : ∀ k ∈ goal, 0 ≤ k ∧ k < (own.length : Int)) : Ev (fun k => lure_ranks.f k own mv goal) (ranksR own mv goal) := by
  unfold lure_ranks.f
  have ok : okG own mv goal := ⟨G.n1, G.n2, G.len, fun l hl k hk => by
    obtain ⟨i, hi, rfl⟩ := List.mem_iff_getElem.1 hl
    have e : rd_L1 mv (i : Int) = mv[i] := by simp [rd_L1, List.getD_eq_getElem?_getD, List.getElem?_eq_getElem hi]
    exact G.in_ i (by have := G.len; omega) k (by rw [e]; exact hk), hg⟩
  refine evp ok ?_
  rw [init_eq (mv := mv) goal hg]
  obtain ⟨T, h1, h2, h3⟩ := still_ex G (inL goal)
  exact rkF_ev G (inL goal) h1 h2 h3 T 0 (by omega)

theorem ranked_ev {own : List Int} {mv : List (List Int)} (G : VG own mv) (goal : List Int) (hg : ∀ k ∈ goal, 0 ≤ k ∧ k < (own.length : Int)) (lo hi : Int) : Ev (fun k => lure_ranked.f k own mv goal lo hi) (asc (fun i => decide (lo ≤ rk own mv (inL goal) own.length i ∧ rk own mv (inL goal) own.length i ≤ hi)) own.length) := by
  have n16 := G.n2
  unfold lure_ranked.f
  refine evb (ranks_ev G goal hg) ?_
  have e : (ranksR own mv goal).length = own.length := rkL_len ..
  rw [e]
  refine some_ev _ _ own.length (by omega) fun i hi => ?_
  unfold rankedF
  rw [if_pos ⟨by omega, by omega⟩, within_eq, show rd (ranksR own mv goal) (i : Int) = rk own mv (inL goal) own.length i from rkL_at own mv _ _ hi]
/-- what is won -/
def wonR (own : List Int) (mv : List (List Int)) (goal : List Int) : Nat → Bool := Rt own mv (inL goal) own.length
theorem free_ev {own : List Int} {mv : List (List Int)} (G : VG own mv) (goal : List Int) (hg : ∀ k ∈ goal, 0 ≤ k ∧ k < (own.length : Int)) : Ev (fun k => lure_ranked.f k own mv goal (-1) (-1)) (asc (fun i => !wonR own mv goal i) own.length) := by
  refine ev_eq (ranked_ev G goal hg (-1) (-1)) (asc_congr fun i hi => ?_)
  obtain ⟨a, b, c⟩ := rk_reach G (inL goal) hi own.length
  unfold wonR
  cases z : Rt own mv (inL goal) own.length i
  · exact decide_eq_true (by have : ¬ 0 ≤ rk own mv (inL goal) own.length i := fun q => by have := a.1 q; rw [z] at this; exact absurd this (by decide)
                             omega)
  · have := a.2 z
    exact decide_eq_false (by omega)
def FrR (own : List Int) (mv : List (List Int)) (goal : List Int) : List Int × Int := if exR own mv goal = 0 then (asc (fun i => !wonR own mv goal i) own.length, 0) else ([], exR own mv goal)
theorem FrR_0 {own : List Int} {mv : List (List Int)} {goal : List Int} (h : exR own mv goal = 0) : FrR own mv goal = (asc (fun i => !wonR own mv goal i) own.length, 0) := if_pos h
theorem FrR_n {own : List Int} {mv : List (List Int)} {goal : List Int} (h : ¬ exR own mv goal = 0) : FrR own mv goal = ([], exR own mv goal) := if_neg h
theorem Free_ev (own : List Int) (mv : List (List Int)) (hs : ∀ m ∈ mv, m.length ≤ 100) (goal : List Int) (hl : goal.length ≤ 100) : Ev (fun k => lure_Free.f k own mv goal) (FrR own mv goal) := by
  unfold lure_Free.f
  refine evb (examine_ev own mv hs goal hl) ?_
  by_cases h : exR own mv goal = 0
  · rw [FrR_0 h]
    obtain ⟨h1, h2⟩ := exR_ok h
    exact evp h (evb (free_ev (vlR_ok hs h1) goal (setB_in h2)) (Ev.now _))
  · rw [FrR_n h]; exact evn h (Ev.now _)
theorem known_ev : Ev (fun k => wigeonlaw04_known.f k) true := Ev.of wigeonlaw04_known.mono (k := 100) (by decide +kernel)

theorem has_l0 (l : List Int) (x : Int) (hl : l.length ≤ 1000) : ∀ d i : Nat, i + d = l.length → Ev (fun k => wigeonref04_Has.l0 k l x (i : Int)) (decide (x ∈ l.drop i))
  | 0, i, h => by
    refine Ev.step (fun k => wigeonref04_Has.l0.eq_2 ..) (evn (by omega) ?_)
    rw [List.drop_eq_nil_of_le (by omega)]; exact ev_eq (Ev.now _) (by simp)
  | d + 1, i, h => by
    have hlt : i < l.length := by omega
    have R := has_l0 l x hl d (i + 1) (by omega)
    refine Ev.step (fun k => wigeonref04_Has.l0.eq_2 ..) (evp (by omega) (evp (by omega) ?_))
    rw [rd_at l i hlt, w64 (n := (i : Int) + 1) (by omega) (by omega)]
    by_cases q : l[i] = x
    · exact ev_eq (evp q (Ev.now _)) (decide_eq_true (by rw [List.drop_eq_getElem_cons hlt, q]; exact List.mem_cons_self)).symm
    · exact ev_eq (evn q R) (decide_eq_decide.2 (by rw [List.drop_eq_getElem_cons hlt, List.mem_cons]; exact ⟨Or.inr, fun z => z.elim (fun y => absurd y.symm q) id⟩))
theorem has_ev (l : List Int) (x : Int) (hl : l.length ≤ 1000) : Ev (fun k => wigeonref04_Has.f k l x) (decide (x ∈ l)) := has_l0 l x hl l.length 0 (by omega)
/-- place i has a number that is not borne out -/
def pB (own : List Int) (mv : List (List Int)) (goal ranks : List Int) (i : Nat) : Bool :=
  (decide (rd ranks (i : Int) = 0) && !inL goal i) || (decide (rd ranks (i : Int) > 0) && !forB own mv (i : Int) (fun k => decide (0 ≤ rd ranks k ∧ rd ranks k ≤ wrap64 (rd ranks (i : Int) - 1))))
def cp (own : List Int) (mv : List (List Int)) (goal ranks : List Int) : Nat → Nat → Int
  | 0, _ => 0
  | d + 1, i => if pB own mv goal ranks i = true then 7 else cp own mv goal ranks d (i + 1)
/-- how many of the moves lead to smaller numbers -/
def sm (ranks : List Int) (r : Int) (m : List Int) : Nat := m.countP fun k => decide (0 ≤ rd ranks k ∧ rd ranks k ≤ wrap64 (r - 1))
theorem stB_iff (n : Int) : ∀ (l : List Int) (lo : Int), stB n lo l = true ↔ (∀ x ∈ l, 0 ≤ x ∧ x < n) ∧ List.Pairwise (· < ·) (lo :: l)
  | [], lo => by simp [stB]
  | x :: l, lo => by
    unfold stB
    rw [Bool.and_eq_true, Bool.and_eq_true, decide_eq_true_eq, decide_eq_true_eq, stB_iff n l x]
    constructor
    · rintro ⟨a, b, c, d⟩
      refine ⟨fun y hy => ?_, List.pairwise_cons.2 ⟨fun y hy => ?_, d⟩⟩
      · rcases List.mem_cons.1 hy with e | e
        · subst e; omega
        · exact c y e
      · rcases List.mem_cons.1 hy with e | e
        · subst e; exact b
        · have := (List.pairwise_cons.1 d).1 y e; omega
    · rintro ⟨a, b⟩
      obtain ⟨b1, b2⟩ := List.pairwise_cons.1 b
      have := a x List.mem_cons_self
      exact ⟨by omega, b1 x List.mem_cons_self, fun y hy => a y (List.mem_cons_of_mem _ hy), b2⟩
theorem asc_pair (q : Nat → Bool) : ∀ n, List.Pairwise (· < ·) (asc q n)
  | 0 => List.Pairwise.nil
  | n + 1 => by
    rw [asc_succ]
    refine List.pairwise_append.2 ⟨asc_pair q n, by split <;> simp, fun a ha b hb => ?_⟩
    obtain ⟨k, rfl, hk, _⟩ := (asc_mem q n a).1 ha
    split at hb
    · have := List.mem_singleton.1 hb; omega
    · exact absurd hb (by simp)
theorem setB_asc (q : Nat → Bool) (n : Nat) : setB (asc q n) (n : Int) = true := by
  refine (stB_iff _ _ _).2 ⟨fun x hx => ?_, List.pairwise_cons.2 ⟨fun x hx => ?_, asc_pair q n⟩⟩
  · obtain ⟨k, rfl, hk, _⟩ := (asc_mem q n x).1 hx; omega
  · obtain ⟨k, rfl, hk, _⟩ := (asc_mem q n x).1 hx; omega
theorem inL_asc {q : Nat → Bool} {n i : Nat} (h : i < n) : inL (asc q n) i = q i := by
  unfold inL
  cases y : q i
  · refine decide_eq_false fun m => ?_
    obtain ⟨k, e, _, z⟩ := (asc_mem q n _).1 m
    obtain rfl : i = k := by omega
    rw [y] at z; exact absurd z (by decide)
  · exact decide_eq_true ((asc_mem q n _).2 ⟨i, rfl, h, y⟩)
theorem asc_filter (q : Nat → Bool) (p : Int → Bool) : ∀ n, (asc q n).filter p = asc (fun i => q i && p (i : Int)) n
  | 0 => rfl
  | n + 1 => by
    rw [asc_succ, asc_succ, List.filter_append, asc_filter q p n]
    congr 1
    cases q n
    · rfl
    · show List.filter p [(n : Int)] = if p (n : Int) = true then [(n : Int)] else []
      cases y : p (n : Int)
      · rw [List.filter_cons_of_neg (by rw [y]; decide)]; rfl
      · rw [List.filter_cons_of_pos y]; rfl
/-- what is left of a set by a second one -/
theorem asc_both (T U : Nat → Bool) (n : Nat) : ((asc T n).filter fun x => decide (x ∈ asc U n)) = asc (fun i => T i && U i) n := by
  rw [asc_filter]
  refine asc_congr fun k hk => ?_
  rw [show decide ((k : Int) ∈ asc U n) = U k from inL_asc hk]
theorem both_len (T U : Nat → Bool) (n : Nat) : (asc (fun i => T i && U i) n).length = (asc T n).length ↔ ∀ i, i < n → T i = true → U i = true := by
  rw [← asc_both, List.length_filter_eq_length_iff]
  constructor
  · intro h i hi t
    have := of_decide_eq_true (h (i : Int) ((asc_mem T n _).2 ⟨i, rfl, hi, t⟩))
    obtain ⟨k, e, _, z⟩ := (asc_mem U n _).1 this
    obtain rfl : i = k := by omega
    exact z
  · intro h x hx
    obtain ⟨i, rfl, hi, t⟩ := (asc_mem T n x).1 hx
    exact decide_eq_true ((asc_mem U n _).2 ⟨i, rfl, hi, h i hi t⟩)
theorem mix_set {α : Type} (A B : List α) (i : Nat) (h : i < A.length) (e : B.length = A.length) : (A.take i ++ B.drop i).set i A[i] = A.take (i + 1) ++ B.drop (i + 1) := by
  have hb : i < B.length := by omega
  rw [List.set_append_right _ _ (by rw [List.length_take]; omega), List.length_take, Nat.min_eq_left (by omega), Nat.sub_self, List.drop_eq_getElem_cons hb, List.set_cons_zero, List.take_succ_eq_append_getElem h, List.append_assoc]
  rfl
theorem mix_get {α : Type} (A B : List α) (i : Nat) (h : i < A.length) (e : B.length = A.length) (d : α) : (A.take i ++ B.drop i).getD i d = B.getD i d := by
  rw [List.getD_eq_getElem?_getD, List.getD_eq_getElem?_getD, List.getElem?_append_right (by rw [List.length_take]; omega), List.length_take, Nat.min_eq_left (by omega), Nat.sub_self, List.getElem?_drop, Nat.add_zero]
theorem mix_len {α : Type} (A B : List α) (i : Nat) (h : i ≤ A.length) (e : B.length = A.length) : (A.take i ++ B.drop i).length = A.length := by
  rw [List.length_append, List.length_take, List.length_drop]; omega
theorem rdL_at (l : List (List Int)) (i : Nat) (h : i < l.length) : rd_L1 l (i : Int) = l[i] := by
  simp [rd_L1, List.getD_eq_getElem?_getD, List.getElem?_eq_getElem h]
/-- the owners exchanged -/
def xch (own : List Int) : List Int := own.map fun x => wrap64 (1 - x)
theorem xch_len (own : List Int) : (xch own).length = own.length := List.length_map ..
theorem xch_rd (own : List Int) (i : Nat) (h : i < own.length) : rd (xch own) (i : Int) = wrap64 (1 - rd own (i : Int)) := by
  rw [rd_at _ i (by rw [xch_len]; exact h), rd_at _ i h]
  exact List.getElem_map ..
theorem copy_l0 {own : List Int} {mv : List (List Int)} (hm : mv.length ≤ 100) (hs : ∀ m ∈ mv, m.length ≤ 100) (b : List Int) (d : Nat) : ∀ i : Nat, i + d = mv.length → Ev (fun k => wigeonref04_Copy.l0 k (i : Int) own mv b (mv.take i)) (b, mv) := by
  induction d with
  | zero =>
    intro i h
    rw [List.take_of_length_le (by omega)]
    exact Ev.step (fun k => wigeonref04_Copy.l0.eq_2 ..) (evn (by omega) (Ev.now _))
  | succ d IH =>
    intro i h
    have hi : i < mv.length := by omega
    have ih := IH (i + 1) (by omega)
    have W : wrap64 ((i : Int) + 1) = ((i + 1 : Nat) : Int) := by rw [w64 (by omega) (by omega)]; omega
    have sm : (rd_L1 mv (i : Int)).length ≤ 100 := small_row hs i
    have tl : (mv.take i).length ≤ 100 := by rw [List.length_take]; omega
    refine Ev.step (fun k => wigeonref04_Copy.l0.eq_2 ..) (evp (by omega) (evs rfl (evp (by omega) (evp (by show 0 + _ < _; omega) (evp (by omega) ?_)))))
    rw [W, List.nil_append, rdL_at mv i hi, ← List.take_succ_eq_append_getElem hi]
    exact ih
theorem Copy_ev {own : List Int} {mv : List (List Int)} (hn : own.length ≤ 100) (hm : mv.length ≤ 100) (hs : ∀ m ∈ mv, m.length ≤ 100) : Ev (fun k => wigeonref04_Copy.f k own mv) (own, mv) := by
  unfold wigeonref04_Copy.f
  exact evs rfl (evp (by show 0 + _ < _; omega) (copy_l0 hm hs own mv.length 0 (Nat.zero_add _)))
theorem exch_l0 {own : List Int} {mv : List (List Int)} (G : VG own mv) (hs : ∀ m ∈ mv, m.length ≤ 100) (d : Nat) : ∀ i : Nat, i + d = own.length → Ev (fun k => lure_Exchange.l0 k own (own.length : Int) (i : Int) own mv ((xch own).take i ++ (List.replicate own.length 0).drop i) (mv.take i ++ (List.replicate mv.length []).drop i)) (xch own, mv, 0) := by
  have gl := G.len
  have n2 := G.n2
  have xl := xch_len own
  induction d with
  | zero =>
    intro i h
    rw [List.take_of_length_le (by omega), List.take_of_length_le (by omega), List.drop_eq_nil_of_le (by rw [List.length_replicate]; omega), List.drop_eq_nil_of_le (by rw [List.length_replicate]; omega), List.append_nil, List.append_nil]
    exact Ev.step (fun k => lure_Exchange.l0.eq_2 ..) (evn (by omega) (Ev.now _))
  | succ d IH =>
    intro i h
    have hi : i < own.length := by omega
    have ih := IH (i + 1) (by omega)
    have W : wrap64 ((i : Int) + 1) = ((i + 1 : Nat) : Int) := by rw [w64 (by omega) (by omega)]; omega
    have sm := G.small i
    have ne := List.length_pos_iff.2 (G.ne i hi)
    have l1 := mix_len (xch own) (List.replicate own.length 0) i (by omega) (by rw [List.length_replicate]; omega)
    have l2 := mix_len mv (List.replicate mv.length []) i (by omega) (by rw [List.length_replicate])
    refine Ev.step (fun k => lure_Exchange.l0.eq_2 ..) (evp (by omega) (evp (by omega) (evp (by omega) (evp (by omega) (evp (by omega) (evp (by omega) (evp (by omega) (evp (by omega) (evp (by omega) ?_)))))))))
    rw [W, ← xch_rd own i hi, rd_at (xch own) i (by omega), rdL_at mv i (by omega), Int.toNat_natCast, mix_set (xch own) _ i (by omega) (by rw [List.length_replicate]; omega), mix_set mv _ i (by omega) (by rw [List.length_replicate])]
    exact ih
/-- what Exchange answers -/
def exchR (own : List Int) (mv : List (List Int)) : List Int × List (List Int) × Int := if vlR own mv = 0 then (xch own, mv, 0) else ([], [], vlR own mv)
theorem exchR_0 {own : List Int} {mv : List (List Int)} (h : vlR own mv = 0) : exchR own mv = (xch own, mv, 0) := if_pos h
theorem exchR_n {own : List Int} {mv : List (List Int)} (h : ¬ vlR own mv = 0) : exchR own mv = ([], [], vlR own mv) := if_neg h
theorem Exchange_ev (own : List Int) (mv : List (List Int)) (hs : ∀ m ∈ mv, m.length ≤ 100) : Ev (fun k => lure_Exchange.f k own mv) (exchR own mv) := by
  unfold lure_Exchange.f
  refine evb (valid_ev own mv hs) ?_
  by_cases h : vlR own mv = 0
  · have G := vlR_ok hs h
    have gl := G.len
    have n2 := G.n2
    rw [exchR_0 h]
    refine evp h (evp (by omega) (evp (by omega) (evp (by omega) (evp (by omega) ?_))))
    rw [Int.toNat_natCast, Int.toNat_natCast]
    exact exch_l0 G hs own.length 0 (Nat.zero_add _)
  · rw [exchR_n h]; exact evn h (Ev.now _)
theorem rexch_l0 {own : List Int} {mv : List (List Int)} (hn : own.length ≤ 100) (d : Nat) : ∀ i : Nat, i + d = own.length → Ev (fun k => wigeonref04_Exchange.l0 k (i : Int) ((xch own).take i ++ own.drop i) mv) (xch own, mv, 0) := by
  have xl := xch_len own
  induction d with
  | zero =>
    intro i h
    rw [List.take_of_length_le (by omega), List.drop_eq_nil_of_le (by omega), List.append_nil]
    exact Ev.step (fun k => wigeonref04_Exchange.l0.eq_2 ..) (evn (by omega) (Ev.now _))
  | succ d IH =>
    intro i h
    have hi : i < own.length := by omega
    have ih := IH (i + 1) (by omega)
    have W : wrap64 ((i : Int) + 1) = ((i + 1 : Nat) : Int) := by rw [w64 (by omega) (by omega)]; omega
    have l1 := mix_len (xch own) own i (by omega) (by omega)
    refine Ev.step (fun k => wigeonref04_Exchange.l0.eq_2 ..) (evp (by omega) (evp (by omega) ?_))
    have e : rd ((xch own).take i ++ own.drop i) (i : Int) = rd own (i : Int) := mix_get (xch own) own i (by omega) (by omega) 0
    rw [W, e, ← xch_rd own i hi, rd_at (xch own) i (by omega), Int.toNat_natCast, mix_set (xch own) own i (by omega) (by omega)]
    exact ih
theorem rExchange_ev (own : List Int) (mv : List (List Int)) (hn : own.length ≤ 100) (hm : mv.length ≤ 100) (hs : ∀ m ∈ mv, m.length ≤ 100) : Ev (fun k => wigeonref04_Exchange.f k own mv) (exchR own mv) := by
  unfold wigeonref04_Exchange.f
  refine evb (rvalid_ev own mv hs) ?_
  by_cases h : vlR own mv = 0
  · rw [exchR_0 h]
    exact evp h (evb (Copy_ev hn hm hs) (rexch_l0 hn own.length 0 (Nat.zero_add _)))
  · rw [exchR_n h]; exact evn h (Ev.now _)
theorem same2_l0 (own : List Int) (mv : List (List Int)) (hm : mv.length ≤ 100) (hs : ∀ m ∈ mv, m.length ≤ 100) (d : Nat) : ∀ i : Nat, i + d = mv.length → Ev (fun k => wigeonref04_Same.l0 k (i : Int) own mv own mv) true := by
  induction d with
  | zero =>
    intro i h
    exact Ev.step (fun k => wigeonref04_Same.l0.eq_2 ..) (evn (by omega) (Ev.now _))
  | succ d IH =>
    intro i h
    have W : wrap64 ((i : Int) + 1) = ((i + 1 : Nat) : Int) := by rw [w64 (by omega) (by omega)]; omega
    have sm : (rd_L1 mv (i : Int)).length ≤ 100 := small_row hs i
    refine Ev.step (fun k => wigeonref04_Same.l0.eq_2 ..) (evp (by omega) (evp (by omega) (evp (by omega) (evb (same_ev _ (by omega)) (evp rfl ?_)))))
    rw [W]; exact IH (i + 1) (by omega)
theorem Same_ev (own : List Int) (mv : List (List Int)) (hn : own.length ≤ 100) (hm : mv.length ≤ 100) (hs : ∀ m ∈ mv, m.length ≤ 100) : Ev (fun k => wigeonref04_Same.f k own mv own mv) true := by
  unfold wigeonref04_Same.f
  refine evb (same_ev own (by omega)) (evp rfl ?_)
  rw [bne_self_eq_false]
  exact Ev.step (fun k => wigeonref04_Same.j0.eq_2 ..) (evn (by decide) (same2_l0 own mv hm hs mv.length 0 (Nat.zero_add _)))
theorem xch_va {own : List Int} {mv : List (List Int)} {n : Int} (d : Nat) : ∀ i : Nat, i + d = own.length → vaB n own mv d i = true → vaB n (xch own) mv d i = true := by
  induction d with
  | zero => intro i _ _; rfl
  | succ d IH =>
    intro i h v
    unfold vaB at v ⊢
    rw [Bool.and_eq_true] at v ⊢
    refine ⟨?_, IH (i + 1) (by omega) v.2⟩
    have v1 := v.1
    unfold rowB at v1 ⊢
    rw [Bool.and_eq_true, decide_eq_true_eq] at v1 ⊢
    refine ⟨?_, v1.2⟩
    rw [xch_rd own i (by omega), w64 (by omega) (by omega)]; omega
theorem xch_valid {own : List Int} {mv : List (List Int)} (h : vlR own mv = 0) : vlR (xch own) mv = 0 := by
  unfold vlR at h ⊢
  rw [xch_len]
  by_cases h1 : 1 ≤ (own.length : Int) ∧ (own.length : Int) ≤ 16
  · rw [if_pos h1] at h ⊢
    by_cases h2 : mv.length = own.length
    · rw [if_pos h2] at h ⊢
      by_cases h3 : vaB (own.length : Int) own mv own.length 0 = true
      · rw [if_pos (xch_va own.length 0 (Nat.zero_add _) h3)]
      · rw [if_neg h3] at h; exact absurd h (by decide)
    · rw [if_neg h2] at h; exact absurd h (by decide)
  · rw [if_neg h1] at h; exact absurd h (by decide)
/-- what the man can force, the ducks can't prevent -/
theorem xch_force {own : List Int} {mv : List (List Int)} (G : VG own mv) (S : Nat → Bool) {i : Nat} (hi : i < own.length) : fB (xch own) mv (fun j => !S j) i = !fB own mv S i := by
  unfold fB forB
  rw [xch_rd own i hi]
  have e : (rd_L1 mv (i : Int)).any (pS fun j => !S j) = (rd_L1 mv (i : Int)).any fun k => !pS S k := rfl
  have e2 : ((rd_L1 mv (i : Int)).any fun k => !pS (fun j => !S j) k) = (rd_L1 mv (i : Int)).any (pS S) := by
    congr 1
    funext k
    unfold pS
    exact Bool.not_not _
  rcases G.own_ i hi with o | o
  · rw [o, if_neg (by unfold wrap64; omega), if_pos rfl, e2]
  · rw [o, if_pos (by unfold wrap64; omega), if_neg (by decide), e]
    cases (rd_L1 mv (i : Int)).any fun k => !pS S k <;> rfl
theorem xkeeps {own : List Int} {mv : List (List Int)} (G : VG own mv) (G' : VG (xch own) mv) (g : Nat → Bool) {T : Nat} (hT : still own mv g T) (hb : ∀ s, s < T → ¬ still own mv g s) (d : Nat) : ∀ t, t + d = T → Ev (fun k => keepsF (xch own) mv k (asc (fun i => !Rt own mv g t i) own.length)) (asc (fun i => !Rt own mv g T i) own.length) := by
  have n16 := G.n2
  have xl := xch_len own
  have stp : ∀ t, ((asc (fun i => !Rt own mv g t i) own.length).filter fun x => decide (x ∈ befR (xch own) mv (asc (fun i => !Rt own mv g t i) own.length))) = asc (fun i => !Rt own mv g (t + 1) i) own.length := fun t => by
    unfold befR
    rw [xl, asc_both]
    refine asc_congr fun i hi => ?_
    have e : fB (xch own) mv (inL (asc (fun i => !Rt own mv g t i) own.length)) i = fB (xch own) mv (fun j => !Rt own mv g t j) i := fB_congr G' (fun k hk => inL_asc (by omega)) i (by omega)
    rw [e, xch_force G _ hi]
    have up := Rt_up G g t i hi
    show (!Rt own mv g t i && !fB own mv (Rt own mv g t) i) = !(g i || fB own mv (Rt own mv g t) i)
    have base : g i = true → Rt own mv g t i = true := fun z => by
      have := Rt_le G g hi t 0 (show Rt own mv g 0 i = true from z)
      rwa [Nat.zero_add] at this
    have conv : Rt own mv g t i = true → (g i || fB own mv (Rt own mv g t) i) = true := fun z => up z
    revert base conv
    cases g i <;> cases Rt own mv g t i <;> cases fB own mv (Rt own mv g t) i <;> simp
  have len : ∀ t, (asc (fun i => !Rt own mv g t i) own.length).length = (asc (fun i => !Rt own mv g (t + 1) i) own.length).length → still own mv g t := fun t h k hk => by
    have e : asc (fun i => !Rt own mv g (t + 1) i) own.length = asc (fun i => (!Rt own mv g t i) && !Rt own mv g (t + 1) i) own.length := asc_congr fun i hi => by
      have up := Rt_up G g t i hi
      revert up
      cases Rt own mv g t i <;> cases Rt own mv g (t + 1) i <;> simp
    rw [e] at h
    have z := (both_len (fun i => !Rt own mv g t i) (fun i => !Rt own mv g (t + 1) i) own.length).1 h.symm k hk
    have up := Rt_up G g t k hk
    revert z up
    cases Rt own mv g t k <;> cases Rt own mv g (t + 1) k <;> simp
  induction d with
  | zero =>
    intro t h
    obtain rfl : t = T := by omega
    have L := asc_len (fun i => !Rt own mv g t i) own.length
    refine Ev.step (fun k => keepsF.eq_2 ..) (evp (by omega) (evb (before_ev G' _) ?_))
    rw [stp]
    have e : asc (fun i => !Rt own mv g (t + 1) i) own.length = asc (fun i => !Rt own mv g t i) own.length := asc_congr fun k hk => by rw [hT k hk]
    rw [e]
    exact evp rfl (Ev.now _)
  | succ d IH =>
    intro t h
    have L := asc_len (fun i => !Rt own mv g t i) own.length
    refine Ev.step (fun k => keepsF.eq_2 ..) (evp (by omega) (evb (before_ev G' _) ?_))
    rw [stp]
    exact evn (fun z => hb t (by omega) (len t z.symm)) (IH (t + 1) (by omega))
theorem others_l0 {own : List Int} {mv : List (List Int)} (n2 : own.length ≤ 16) (goal x10 : List Int) (hl : goal.length ≤ 100) (a0 : List Int) (a1 : List (List Int)) (b0 : List Int) (b1 : List (List Int))
    (R : Ev (fun k => wigeonlaw04_LureExchanges.l0 k goal x10 (asc (fun i => !inL goal i) own.length) (own.length : Int) own mv a0 a1 b0 b1) true) (d : Nat) : ∀ i : Nat, i + d = own.length → Ev (fun k => wigeonlaw04_LureExchanges.l0 k goal x10 (asc (fun i => !inL goal i) i) (i : Int) own mv a0 a1 b0 b1) true := by
  induction d with
  | zero => intro i h; obtain rfl : i = own.length := by omega
            exact R
  | succ d IH =>
    intro i h
    have W : wrap64 ((i : Int) + 1) = ((i + 1 : Nat) : Int) := by rw [w64 (by omega) (by omega)]; omega
    have L := asc_len (fun i => !inL goal i) i
    have ih := IH (i + 1) (by omega)
    rw [asc_succ] at ih
    refine Ev.step (fun k => wigeonlaw04_LureExchanges.l0.eq_2 ..) (evp (by omega) (evb (has_ev _ _ (by omega)) ?_))
    rw [W]
    by_cases m : (i : Int) ∈ goal
    · rw [show (!inL goal i) = false by rw [show inL goal i = true from decide_eq_true m]; rfl, if_neg (by decide), List.append_nil] at ih
      exact evp (decide_eq_true m) ih
    · rw [show (!inL goal i) = true by rw [show inL goal i = false from decide_eq_false m]; rfl, if_pos rfl] at ih
      exact evn (by rw [decide_eq_false m]; decide) (evp (by omega) ih)
theorem spoil_l1 {own : List Int} {mv : List (List Int)} (G : VG own mv) (R : Ev (fun k => (wigeonref04_Same.f k own mv own mv).bind fun t281 => (if t281 = true then ((wigeonlaw04_known.f k).bind fun t282 => (some t282)) else (some false))) true) (d : Nat) : ∀ (i : Nat) (b0 : List Int) (b1 : List (List Int)), i + d = own.length → b0.length = own.length → b1.length = own.length → (∀ j : Nat, i ≤ j → j < own.length → rd_L1 b1 (j : Int) = rd_L1 mv (j : Int)) → Ev (fun k => wigeonlaw04_LureExchanges.l1 k (i : Int) own mv own mv b0 b1) true := by
  have n2 := G.n2
  induction d with
  | zero =>
    intro i b0 b1 h h0 h1 hr
    exact Ev.step (fun k => wigeonlaw04_LureExchanges.l1.eq_2 ..) (evn (by omega) R)
  | succ d IH =>
    intro i b0 b1 h h0 h1 hr
    have W : wrap64 ((i : Int) + 1) = ((i + 1 : Nat) : Int) := by rw [w64 (by omega) (by omega)]; omega
    have ne := List.length_pos_iff.2 (G.ne i (by omega))
    rw [← hr i (Nat.le_refl _) (by omega)] at ne
    refine Ev.step (fun k => wigeonlaw04_LureExchanges.l1.eq_2 ..) (evp (by omega) (evp (by omega) (evp (by omega) (evp (by omega) ?_))))
    rw [W]
    refine IH (i + 1) _ _ (by omega) (by rw [List.length_set]; exact h0) (by rw [List.length_set]; exact h1) (fun j hj hj2 => ?_)
    rw [← hr j (by omega) hj2]
    show (b1.set i _).getD j [] = b1.getD j []
    rw [List.getD_eq_getElem?_getD, List.getD_eq_getElem?_getD, List.getElem?_set_ne (by omega)]
theorem LureExchanges (a0_0 : List Int) (a0_1 : List (List Int)) (a1 : List Int) (h0_0 : (a0_0.length ≤ 9223372036854775807 ∧ ∀ x_ ∈ a0_0, (Lit.int .i64 x_).wf = true)) (h0_1 : (a0_1.length ≤ 9223372036854775807 ∧ ∀ x_ ∈ a0_1, (x_.length ≤ 9223372036854775807 ∧ ∀ x__ ∈ x_, (Lit.int .i64 x__).wf = true))) (h1 : (a1.length ≤ 9223372036854775807 ∧ ∀ x_ ∈ a1, (Lit.int .i64 x_).wf = true)) : ∃ k, wigeonlaw04_LureExchanges.f k a0_0 a0_1 a1 = some true := by
  refine Ev.rounds (g := fun k => wigeonlaw04_LureExchanges.f k a0_0 a0_1 a1) ?_
  unfold wigeonlaw04_LureExchanges.f
  refine evb (large_ev a0_0 a0_1) ?_
  have Z : Ev (fun k => wigeonlaw04_LureExchanges.j0 k a1 true a0_0 a0_1) true := Ev.step (fun k => wigeonlaw04_LureExchanges.j0.eq_2 ..) (evp rfl (evb known_ev (Ev.now _)))
  by_cases h : lgB a0_0 a0_1 = true
  · exact evp h Z
  refine evn h ?_
  obtain ⟨hn, hm, hs⟩ := large_not h
  by_cases h2 : (a1.length : Int) > 100
  · rw [decide_eq_true h2]; exact Z
  rw [decide_eq_false h2]
  have SE := Same_ev a0_0 a0_1 hn hm hs
  have E0 : ∀ (a : List Int) (b : List (List Int)) (x : Int), exchR a0_0 a0_1 = (a, b, x) → Ev (fun k => wigeonlaw04_LureExchanges.j1 k a1 x false a0_0 a0_1 a0_0 a0_1 a b) true → Ev (fun k => wigeonref04_Same.f k a b a b) true → Ev (fun k => wigeonlaw04_LureExchanges.j0 k a1 false a0_0 a0_1) true := fun a b x e R S => by
    have A := Exchange_ev a0_0 a0_1 hs
    have B := rExchange_ev a0_0 a0_1 hn hm hs
    rw [e] at A B
    exact Ev.step (fun k => wigeonlaw04_LureExchanges.j0.eq_2 ..) (evn (by decide) (evb (Copy_ev hn hm hs) (evp rfl (evb A (evb B (evp rfl (evb S R)))))))
  have F := Free_ev a0_0 a0_1 hs a1 (by omega)
  have E2 : ∀ (x10 : List Int) (b0 : List Int) (b1 : List (List Int)), Ev (fun k => wigeonlaw04_LureExchanges.j2 k a1 x10 true a0_0 a0_1 a0_0 a0_1 b0 b1) true := fun x10 b0 b1 =>
    Ev.step (fun k => wigeonlaw04_LureExchanges.j2.eq_2 ..) (evp rfl (evb SE (evp rfl (evb known_ev (Ev.now _)))))
  by_cases v : vlR a0_0 a0_1 = 0
  · have G := vlR_ok hs v
    have G' := vlR_ok hs (xch_valid v)
    have n2 := G.n2
    have gl := G.len
    have xl := xch_len a0_0
    refine E0 _ _ _ (exchR_0 v) ?_ (Same_ev _ _ (by omega) hm hs)
    refine Ev.step (fun k => wigeonlaw04_LureExchanges.j1.eq_2 ..) (evn (by decide) (evb F (evp rfl ?_)))
    by_cases e : exR a0_0 a0_1 a1 = 0
    · rw [FrR_0 e]
      rw [show ((asc (fun i => !wonR a0_0 a0_1 a1 i) a0_0.length, (0 : Int)).2 != 0) = false from rfl]
      refine Ev.step (fun k => wigeonlaw04_LureExchanges.j2.eq_2 ..) (evn (by decide) ?_)
      refine others_l0 n2 a1 _ (by omega) _ _ _ _ ?_ a0_0.length 0 (Nat.zero_add _)
      obtain ⟨T, hT, st, nst⟩ := still_ex G (inL a1)
      have K := xkeeps G G' (inL a1) st nst T 0 (Nat.zero_add _)
      have eT : asc (fun i => !Rt a0_0 a0_1 (inL a1) T i) a0_0.length = asc (fun i => !wonR a0_0 a0_1 a1 i) a0_0.length := asc_congr fun k hk => by
        have := still_on G st (a0_0.length - T) k hk
        rw [show T + (a0_0.length - T) = a0_0.length by omega] at this
        show (!Rt a0_0 a0_1 (inL a1) T k) = !Rt a0_0 a0_1 (inL a1) a0_0.length k
        rw [this]
      rw [eT] at K
      have L := asc_len (fun i => !inL a1 i) a0_0.length
      have L2 := asc_len (fun i => !wonR a0_0 a0_1 a1 i) a0_0.length
      have KE : Ev (fun k => lure_Keeps.f k (xch a0_0) a0_1 (asc (fun i => !inL a1 i) a0_0.length)) (asc (fun i => !wonR a0_0 a0_1 a1 i) a0_0.length, 0) := by
        unfold lure_Keeps.f lure_keeps.f
        refine evb (examine_ev _ _ hs _ (by omega)) (evp (exR_0 (xch_valid v) (by rw [xl]; exact setB_asc _ _)) (evb K (Ev.now _)))
      refine Ev.step (fun k => wigeonlaw04_LureExchanges.l0.eq_2 ..) (evn (by omega) (evb KE (evp rfl (evb (same_ev _ (by dsimp only; omega)) ?_))))
      exact Ev.step (fun k => wigeonlaw04_LureExchanges.j4.eq_2 ..) (evn (by decide) (spoil_l1 G (evb SE (evp rfl (evb known_ev (Ev.now _)))) a0_0.length 0 _ _ (Nat.zero_add _) xl gl (fun _ _ _ => rfl)))
    · rw [FrR_n e]
      rw [show ((([] : List Int), exR a0_0 a0_1 a1).2 != 0) = true from bne_iff_ne.2 e]
      exact E2 ..
  · refine E0 _ _ _ (exchR_n v) ?_ (Same_ev _ _ (Nat.zero_le _) (Nat.zero_le _) (fun _ hm => absurd hm List.not_mem_nil))
    exact Ev.step (fun k => wigeonlaw04_LureExchanges.j1.eq_2 ..) (evn (by decide) (evb F (evn v (E2 ..))))

end Go.Proofs.Ytnmaonampilmoaa.Pure

