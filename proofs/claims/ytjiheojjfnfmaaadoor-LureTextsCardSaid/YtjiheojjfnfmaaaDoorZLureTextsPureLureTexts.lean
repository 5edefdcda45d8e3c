/- Of the text PureLureTexts, what the row of LureTexts reaches. -/
import Derived.Test.YtjiheojjfnfmaaaDoorZLureTextsLTx30
import Derived.Lib.AtoiAllCases
namespace Go.Proofs.YtjiheojjfnfmaaaDoor.Pure
set_option linter.unusedVariables false
set_option linter.unusedSimpArgs false
open Go.RowKit Go.Proofs.YtjiheojjfnfmaaaDoor.LT Go.Proofs.YtjiheojjfnfmaaaDoorW.PrintWords Go.Proofs.YtjiheojjfnfmaaaDoorW.PrintLast

theorem evp {α : Type} {c : Prop} [Decidable c] {f g : Nat → Option α} {r : α} (h : c) (k : Ev f r) : Ev (fun n => if c then f n else g n) r :=
  Ev.congr (fun _ => if_pos h) k
theorem evn {α : Type} {c : Prop} [Decidable c] {f g : Nat → Option α} {r : α} (h : ¬ c) (k : Ev g r) : Ev (fun n => if c then f n else g n) r :=
  Ev.congr (fun _ => if_neg h) k
theorem evb {α β : Type} {g : Nat → Option α} {f : Nat → α → Option β} {a : α} {r : β} (h : Ev g a) (k : Ev (fun n => f n a) r) : Ev (fun n => (g n).bind (f n)) r := Ev.bind h k
theorem evs {α β : Type} {x : Option α} {f : Nat → α → Option β} {a : α} {r : β} (h : x = some a) (k : Ev (fun n => f n a) r) : Ev (fun n => x.bind (f n)) r := by
  subst h; exact k
theorem w64 {n : Int} (h : -9223372036854775808 ≤ n) (h2 : n ≤ 9223372036854775807) : wrap64 n = n := by unfold wrap64; omega
theorem rd_at (l : List Int) (i : Nat) (h : i < l.length) : rd l (i : Int) = l[i] := by
  simp [rd, List.getD_eq_getElem?_getD, List.getElem?_eq_getElem h]

theorem within_eq (a lo hi : Int) : lure_within.f a lo hi = some (decide (lo ≤ a ∧ a ≤ hi)) := by
  unfold lure_within.f
  by_cases h : a ≥ lo
  · rw [if_pos h, decide_eq_decide.2 (show a ≤ hi ↔ lo ≤ a ∧ a ≤ hi by omega)]
  · rw [if_neg h, decide_eq_false (show ¬ (lo ≤ a ∧ a ≤ hi) by omega)]
theorem rwithin_eq (a lo hi : Int) : wigeonref04_within.f a lo hi = some (decide (lo ≤ a ∧ a ≤ hi)) := by
  unfold wigeonref04_within.f
  by_cases h : a ≥ lo
  · rw [if_pos h, decide_eq_decide.2 (show a ≤ hi ↔ lo ≤ a ∧ a ≤ hi by omega)]
  · rw [if_neg h, decide_eq_false (show ¬ (lo ≤ a ∧ a ≤ hi) by omega)]
/-- ascending numbers from 0 to n - 1, above lo -/
def stB (n : Int) : Int → List Int → Bool
  | _, [] => true
  | lo, x :: l => decide (0 ≤ x ∧ x ≤ n - 1) && (decide (lo < x) && stB n x l)
def setB (l : List Int) (n : Int) : Bool := stB n (-1) l
def pv (l : List Int) (i : Nat) : Int := if i = 0 then -1 else rd l ((i : Int) - 1)
theorem isSet_l0 (l : List Int) (n : Int) (h0 : 0 ≤ n) (h1 : n ≤ 1000) (hl : l.length ≤ 100000) : ∀ d i : Nat, i + d = l.length → Ev (fun k => lure_isSet.l0 k l n l (l.length : Int) (i : Int)) (stB n (pv l i) (l.drop i))
  | 0, i, h => by
    refine Ev.step (fun k => lure_isSet.l0.eq_2 ..) (evn (by omega) ?_)
    rw [List.drop_eq_nil_of_le (by omega)]; exact Ev.now _
  | d + 1, i, h => by
    have hlt : i < l.length := by omega
    have R := isSet_l0 l n h0 h1 hl d (i + 1) (by omega)
    have hp : pv l (i + 1) = l[i] := by
      unfold pv
      rw [if_neg (by omega), show ((i + 1 : Nat) : Int) - 1 = (i : Int) by omega, rd_at l i hlt]
    rw [hp] at R
    refine Ev.step (fun k => lure_isSet.l0.eq_2 ..) (evp (by omega) (evp (by omega) (evp (by omega) (evs (within_eq _ _ _) ?_))))
    rw [rd_at l i hlt, List.drop_eq_getElem_cons hlt, w64 (n := n - 1) (by omega) (by omega), w64 (n := (i : Int) + 1) (by omega) (by omega)]
    unfold stB
    by_cases q : 0 ≤ l[i] ∧ l[i] ≤ n - 1
    · rw [decide_eq_true q, Bool.true_and]
      refine evp rfl ?_
      by_cases hi : i = 0
      · subst hi
        refine evn (by omega) ?_
        rw [show decide (pv l 0 < l[0]) = true from decide_eq_true (by unfold pv; rw [if_pos rfl]; omega), Bool.true_and]; exact R
      · refine evp (by omega) ?_
        rw [w64 (n := (i : Int) - 1) (by omega) (by omega)]
        refine evp (by omega) (evp (by omega) ?_)
        have e : pv l i = rd l ((i : Int) - 1) := if_neg hi
        rw [e]
        by_cases g : rd l ((i : Int) - 1) ≥ l[i]
        · rw [decide_eq_false (by omega), Bool.false_and]; exact evp g (Ev.now _)
        · rw [decide_eq_true (by omega), Bool.true_and]; exact evn g R
    · rw [decide_eq_false q, Bool.false_and]; exact evn (by decide) (Ev.now _)
theorem isSet_ev (l : List Int) (n : Int) (h0 : 0 ≤ n) (h1 : n ≤ 1000) (hl : l.length ≤ 100000) : Ev (fun k => lure_isSet.f k l n) (setB l n) := isSet_l0 l n h0 h1 hl l.length 0 (by omega)
theorem risSet_l0 (l : List Int) (n : Int) (h0 : 0 ≤ n) (h1 : n ≤ 1000) (hl : l.length ≤ 100000) : ∀ d i : Nat, i + d = l.length → Ev (fun k => wigeonref04_isSet.l0 k l n (i : Int)) (stB n (pv l i) (l.drop i))
  | 0, i, h => by
    refine Ev.step (fun k => wigeonref04_isSet.l0.eq_2 ..) (evn (by omega) ?_)
    rw [List.drop_eq_nil_of_le (by omega)]; exact Ev.now _
  | d + 1, i, h => by
    have hlt : i < l.length := by omega
    have R := risSet_l0 l n h0 h1 hl d (i + 1) (by omega)
    have hp : pv l (i + 1) = l[i] := by
      unfold pv
      rw [if_neg (by omega), show ((i + 1 : Nat) : Int) - 1 = (i : Int) by omega, rd_at l i hlt]
    rw [hp] at R
    refine Ev.step (fun k => wigeonref04_isSet.l0.eq_2 ..) (evp (by omega) (evp (by omega) (evs (rwithin_eq _ _ _) ?_)))
    rw [rd_at l i hlt, List.drop_eq_getElem_cons hlt, w64 (n := n - 1) (by omega) (by omega), w64 (n := (i : Int) + 1) (by omega) (by omega)]
    unfold stB
    by_cases q : 0 ≤ l[i] ∧ l[i] ≤ n - 1
    · rw [decide_eq_true q, Bool.true_and]
      refine evp rfl ?_
      by_cases hi : i = 0
      · subst hi
        refine evn (by omega) ?_
        rw [show decide (pv l 0 < l[0]) = true from decide_eq_true (by unfold pv; rw [if_pos rfl]; omega), Bool.true_and]; exact R
      · refine evp (by omega) ?_
        rw [w64 (n := (i : Int) - 1) (by omega) (by omega)]
        refine evp (by omega) (evp (by omega) ?_)
        have e : pv l i = rd l ((i : Int) - 1) := if_neg hi
        rw [e]
        by_cases g : l[i] ≤ rd l ((i : Int) - 1)
        · rw [decide_eq_false (by omega), Bool.false_and]; exact evp g (Ev.now _)
        · rw [decide_eq_true (by omega), Bool.true_and]; exact evn g R
    · rw [decide_eq_false q, Bool.false_and]; exact evn (by decide) (Ev.now _)
theorem risSet_ev (l : List Int) (n : Int) (h0 : 0 ≤ n) (h1 : n ≤ 1000) (hl : l.length ≤ 100000) : Ev (fun k => wigeonref04_isSet.f k l n) (setB l n) := risSet_l0 l n h0 h1 hl l.length 0 (by omega)
theorem stB_in {n : Int} : ∀ {l : List Int} {lo : Int}, stB n lo l = true → ∀ x ∈ l, 0 ≤ x ∧ x < n ∧ lo < x
  | [], _, _, x, hx => absurd hx (by simp)
  | y :: l, lo, h, x, hx => by
    unfold stB at h
    rw [Bool.and_eq_true, Bool.and_eq_true, decide_eq_true_eq, decide_eq_true_eq] at h
    rcases List.mem_cons.1 hx with e | e
    · subst e; omega
    · have := stB_in h.2.2 x e; omega
theorem setB_in {l : List Int} {n : Int} (h : setB l n = true) : ∀ x ∈ l, 0 ≤ x ∧ x < n := fun x hx => by
  have := stB_in h x hx; omega
/-- one place: whose turn, and its moves -/
def rowB (n : Int) (o : Int) (m : List Int) : Bool := decide (0 ≤ o ∧ o ≤ 1) && (!decide (m = []) && setB m n)
def vaB (n : Int) (own : List Int) (mv : List (List Int)) : Nat → Nat → Bool
  | 0, _ => true
  | d + 1, i => rowB n (rd own (i : Int)) (rd_L1 mv (i : Int)) && vaB n own mv d (i + 1)
def vlR (own : List Int) (mv : List (List Int)) : Int := if 1 ≤ (own.length : Int) ∧ (own.length : Int) ≤ 16 then (if mv.length = own.length then (if vaB (own.length : Int) own mv own.length 0 = true then 0 else 1) else 1) else 3
theorem small_row {mv : List (List Int)} (hs : ∀ m ∈ mv, m.length ≤ 10000) (i : Nat) : (rd_L1 mv (i : Int)).length ≤ 10000 := by
  by_cases h : i < mv.length
  · exact hs _ (getD_mem h)
  · have : rd_L1 mv (i : Int) = [] := by simp [rd_L1, List.getD_eq_getElem?_getD, List.getElem?_eq_none (show mv.length ≤ i by omega)]
    rw [this]; simp
theorem valid_l0 (own : List Int) (mv : List (List Int)) (hs : ∀ m ∈ mv, m.length ≤ 10000) (hn : own.length ≤ 16) (hm : mv.length = own.length) : ∀ d i : Nat, i + d = own.length → Ev (fun k => lure_Validate.l0 k (own.length : Int) own (own.length : Int) (i : Int) own mv) (if vaB (own.length : Int) own mv d i = true then (0 : Int) else 1)
  | 0, i, h => by
    refine Ev.step (fun k => lure_Validate.l0.eq_2 ..) (evn (by omega) ?_)
    rw [show vaB (own.length : Int) own mv 0 i = true from rfl, if_pos rfl]; exact Ev.now _
  | d + 1, i, h => by
    have R := valid_l0 own mv hs hn hm d (i + 1) (by omega)
    have s := small_row hs i
    refine Ev.step (fun k => lure_Validate.l0.eq_2 ..) (evp (by omega) (evp (by omega) (evp (by omega) (evs (within_eq _ _ _) ?_))))
    rw [show vaB (own.length : Int) own mv (d + 1) i = (rowB (own.length : Int) (rd own (i : Int)) (rd_L1 mv (i : Int)) && vaB (own.length : Int) own mv d (i + 1)) from rfl, w64 (n := (i : Int) + 1) (by omega) (by omega)]
    unfold rowB
    by_cases q : 0 ≤ rd own (i : Int) ∧ rd own (i : Int) ≤ 1
    · rw [decide_eq_true q, Bool.true_and]
      refine evp rfl (evp (by omega) ?_)
      by_cases z : rd_L1 mv (i : Int) = []
      · rw [decide_eq_true z, Bool.not_true, Bool.false_and, Bool.false_and, if_neg (by decide)]
        exact evp (by rw [z]; rfl) (Ev.now _)
      · rw [decide_eq_false z, Bool.not_false, Bool.true_and]
        have zl : (rd_L1 mv (i : Int)).length ≠ 0 := fun e => z (List.length_eq_zero_iff.1 e)
        refine evn (by omega) (evb (isSet_ev _ _ (by omega) (by omega) (by omega)) ?_)
        cases setB (rd_L1 mv (i : Int)) (own.length : Int)
        · rw [Bool.false_and, if_neg (by decide)]; exact evn (by decide) (Ev.now _)
        · rw [Bool.true_and]; exact evp rfl R
    · rw [decide_eq_false q, Bool.false_and, Bool.false_and, if_neg (by decide)]; exact evn (by decide) (Ev.now _)
theorem valid_ev (own : List Int) (mv : List (List Int)) (hs : ∀ m ∈ mv, m.length ≤ 10000) : Ev (fun k => lure_Validate.f k own mv) (vlR own mv) := by
  unfold lure_Validate.f vlR
  refine evs (within_eq _ _ _) ?_
  by_cases h : 1 ≤ (own.length : Int) ∧ (own.length : Int) ≤ 16
  · rw [decide_eq_true h, if_pos h]
    refine evp rfl ?_
    by_cases h2 : mv.length = own.length
    · rw [if_pos h2]; exact evp (by omega) (valid_l0 own mv hs (by omega) h2 own.length 0 (by omega))
    · rw [if_neg h2]; exact evn (by omega) (Ev.now _)
  · rw [decide_eq_false h, if_neg h]; exact evn (by decide) (Ev.now _)
theorem rvalid_l0 (own : List Int) (mv : List (List Int)) (hs : ∀ m ∈ mv, m.length ≤ 10000) (hn : own.length ≤ 16) (hm : mv.length = own.length) : ∀ d i : Nat, i + d = own.length → Ev (fun k => wigeonref04_Validate.l0 k (own.length : Int) (i : Int) own mv) (if vaB (own.length : Int) own mv d i = true then (0 : Int) else 1)
  | 0, i, h => by
    refine Ev.step (fun k => wigeonref04_Validate.l0.eq_2 ..) (evn (by omega) ?_)
    rw [show vaB (own.length : Int) own mv 0 i = true from rfl, if_pos rfl]; exact Ev.now _
  | d + 1, i, h => by
    have R := rvalid_l0 own mv hs hn hm d (i + 1) (by omega)
    have s := small_row hs i
    refine Ev.step (fun k => wigeonref04_Validate.l0.eq_2 ..) (evp (by omega) (evp (by omega) (evp (by omega) (evs (rwithin_eq _ _ _) ?_))))
    rw [show vaB (own.length : Int) own mv (d + 1) i = (rowB (own.length : Int) (rd own (i : Int)) (rd_L1 mv (i : Int)) && vaB (own.length : Int) own mv d (i + 1)) from rfl, w64 (n := (i : Int) + 1) (by omega) (by omega)]
    unfold rowB
    by_cases q : 0 ≤ rd own (i : Int) ∧ rd own (i : Int) ≤ 1
    · rw [decide_eq_true q, Bool.true_and]
      refine evp rfl (evp (by omega) ?_)
      by_cases z : rd_L1 mv (i : Int) = []
      · rw [decide_eq_true z, Bool.not_true, Bool.false_and, Bool.false_and, if_neg (by decide)]
        exact evp (by rw [z]; rfl) (Ev.now _)
      · rw [decide_eq_false z, Bool.not_false, Bool.true_and]
        have zl : (rd_L1 mv (i : Int)).length ≠ 0 := fun e => z (List.length_eq_zero_iff.1 e)
        refine evn (by omega) (evb (risSet_ev _ _ (by omega) (by omega) (by omega)) ?_)
        cases setB (rd_L1 mv (i : Int)) (own.length : Int)
        · rw [Bool.false_and, if_neg (by decide)]; exact evn (by decide) (Ev.now _)
        · rw [Bool.true_and]; exact evp rfl R
    · rw [decide_eq_false q, Bool.false_and, Bool.false_and, if_neg (by decide)]; exact evn (by decide) (Ev.now _)
theorem rvalid_ev (own : List Int) (mv : List (List Int)) (hs : ∀ m ∈ mv, m.length ≤ 10000) : Ev (fun k => wigeonref04_Validate.f k own mv) (vlR own mv) := by
  unfold wigeonref04_Validate.f vlR
  refine evs (rwithin_eq _ _ _) ?_
  by_cases h : 1 ≤ (own.length : Int) ∧ (own.length : Int) ≤ 16
  · rw [decide_eq_true h, if_pos h]
    refine evp rfl ?_
    by_cases h2 : mv.length = own.length
    · rw [if_pos h2]; exact evp (by omega) (rvalid_l0 own mv hs (by omega) h2 own.length 0 (by omega))
    · rw [if_neg h2]; exact evn (by omega) (Ev.now _)
  · rw [decide_eq_false h, if_neg h]; exact evn (by decide) (Ev.now _)
/-- a valid game -/
structure VG (own : List Int) (mv : List (List Int)) : Prop where
  n1 : 1 ≤ own.length
  n2 : own.length ≤ 16
  len : mv.length = own.length
  own_ : ∀ i : Nat, i < own.length → rd own (i : Int) = 0 ∨ rd own (i : Int) = 1
  ne : ∀ i : Nat, i < own.length → rd_L1 mv (i : Int) ≠ []
  set_ : ∀ i : Nat, i < own.length → setB (rd_L1 mv (i : Int)) (own.length : Int) = true
  small : ∀ i : Nat, (rd_L1 mv (i : Int)).length ≤ 10000
theorem vaB_at {n : Int} {own : List Int} {mv : List (List Int)} : ∀ {d i : Nat}, vaB n own mv d i = true → ∀ j, i ≤ j → j < i + d → rowB n (rd own (j : Int)) (rd_L1 mv (j : Int)) = true
  | 0, i, _, j, h1, h2 => by omega
  | d + 1, i, h, j, h1, h2 => by
    unfold vaB at h
    rw [Bool.and_eq_true] at h
    by_cases e : j = i
    · subst e; exact h.1
    · exact vaB_at h.2 j (by omega) (by omega)
theorem VG.in_ {own : List Int} {mv : List (List Int)} (G : VG own mv) (i : Nat) (hi : i < own.length) : ∀ k ∈ rd_L1 mv (i : Int), 0 ≤ k ∧ k < (own.length : Int) := setB_in (G.set_ i hi)

def lgB (own : List Int) (mv : List (List Int)) : Bool := decide (own.length > 100 ∨ mv.length > 100) || mv.any fun m => decide (m.length > 100)
theorem large_l0 (own : List Int) (mv : List (List Int)) (hm : mv.length ≤ 100) : ∀ d i : Nat, i + d = mv.length → Ev (fun k => wigeonlaw04_Large.l0 k (i : Int) own mv) ((mv.drop i).any fun m => decide (m.length > 100))
  | 0, i, h => by
    refine Ev.step (fun k => wigeonlaw04_Large.l0.eq_2 ..) (evn (by omega) ?_)
    rw [List.drop_eq_nil_of_le (by omega)]; exact Ev.now _
  | d + 1, i, h => by
    have hlt : i < mv.length := by omega
    have R := large_l0 own mv hm d (i + 1) (by omega)
    have e : rd_L1 mv (i : Int) = mv[i] := by simp [rd_L1, List.getD_eq_getElem?_getD, List.getElem?_eq_getElem hlt]
    refine Ev.step (fun k => wigeonlaw04_Large.l0.eq_2 ..) (evp (by omega) (evp (by omega) ?_))
    rw [e, List.drop_eq_getElem_cons hlt, List.any_cons, w64 (by omega) (by omega)]
    by_cases q : (mv[i]).length > 100
    · rw [decide_eq_true q, Bool.true_or]; exact evp (by omega) (Ev.now _)
    · rw [decide_eq_false q, Bool.false_or]; exact evn (by omega) R
theorem large_ev (own : List Int) (mv : List (List Int)) : Ev (fun k => wigeonlaw04_Large.f k own mv) (lgB own mv) := by
  unfold wigeonlaw04_Large.f lgB
  by_cases h : (own.length : Int) > 100
  · rw [decide_eq_true (show own.length > 100 ∨ mv.length > 100 by omega), Bool.true_or]; exact evp h (Ev.step (fun k => wigeonlaw04_Large.j0.eq_2 ..) (evp rfl (Ev.now _)))
  · refine evn h (Ev.step (fun k => wigeonlaw04_Large.j0.eq_2 ..) ?_)
    by_cases h2 : (mv.length : Int) > 100
    · rw [decide_eq_true (show own.length > 100 ∨ mv.length > 100 by omega), Bool.true_or]; exact evp (decide_eq_true h2) (Ev.now _)
    · rw [decide_eq_false (show ¬ (own.length > 100 ∨ mv.length > 100) by omega), Bool.false_or]
      exact evn (by simpa using h2) (large_l0 own mv (by omega) mv.length 0 (by omega))
theorem large_not {own : List Int} {mv : List (List Int)} (h : ¬ lgB own mv = true) : own.length ≤ 100 ∧ mv.length ≤ 100 ∧ ∀ m ∈ mv, m.length ≤ 100 := by
  unfold lgB at h
  rw [Bool.or_eq_true, not_or, decide_eq_true_eq, Bool.not_eq_true, List.any_eq_false] at h
  refine ⟨by omega, by omega, fun m hm => ?_⟩
  have := h.2 m hm
  simp at this; exact this
theorem same_l0 (l : List Int) (hl : l.length ≤ 1000) : ∀ d i : Nat, i + d = l.length → Ev (fun k => wigeonref04_SameInts.l0 k l l (i : Int)) true
  | 0, i, h => Ev.step (fun k => wigeonref04_SameInts.l0.eq_2 ..) (evn (by omega) (Ev.now _))
  | d + 1, i, h => by
    refine Ev.step (fun k => wigeonref04_SameInts.l0.eq_2 ..) (evp (by omega) (evp (by omega) (evp (by omega) (evp rfl ?_))))
    rw [w64 (by omega) (by omega)]; exact same_l0 l hl d (i + 1) (by omega)
theorem same_ev (l : List Int) (hl : l.length ≤ 1000) : Ev (fun k => wigeonref04_SameInts.f k l l) true := by
  unfold wigeonref04_SameInts.f
  exact evp rfl (same_l0 l hl l.length 0 (by omega))

theorem known_ev : Ev (fun k => wigeonlaw04_known.f k) true := Ev.of wigeonlaw04_known.mono (k := 100) (by decide +kernel)

theorem rdS_at (l : List ByteArray) (i : Nat) (h : i < l.length) : rdOf ByteArray.empty l (i : Int) = l[i] := by
  simp [rdOf, List.getD_eq_getElem?_getD, List.getElem?_eq_getElem h]
theorem bt_bytes (s : ByteArray) (i : Nat) (h : i < (bytesOf s).length) : bt s (i : Int) = (bytesOf s)[i] := by
  rw [← rd_bytesOf, rd_at _ _ h]

def bl (s : ByteArray) : List UInt8 := s.data.toList
def ofL (l : List UInt8) : ByteArray := ⟨l.toArray⟩
theorem bl_ofL (l : List UInt8) : bl (ofL l) = l := by simp [bl, ofL]
theorem ofL_bl (s : ByteArray) : ofL (bl s) = s := by cases s; simp [bl, ofL]
theorem bl_len (s : ByteArray) : (bl s).length = s.size := by cases s; simp [bl, ByteArray.size]
theorem ofL_size (l : List UInt8) : (ofL l).size = l.length := by rw [← bl_len, bl_ofL]
theorem bl_inj {a b : ByteArray} (h : bl a = bl b) : a = b := by rw [← ofL_bl a, h, ofL_bl]
theorem bl_tl (s : ByteArray) : s.toList = bl s := ByteArray.toList_eq s
theorem bl_app (a b : ByteArray) : bl (a ++ b) = bl a ++ bl b := by simp [bl]
theorem bl_ext (s : ByteArray) (i j : Nat) : bl (s.extract i j) = ((bl s).take j).drop i := by
  simp only [bl, ByteArray.data_extract, Array.toList_extract, List.extract_eq_take_drop, List.drop_take]
theorem bl_from (s : ByteArray) (i : Nat) : bl (s.extract i s.size) = (bl s).drop i := by
  rw [bl_ext, List.take_of_length_le (by rw [bl_len]; omega)]
theorem bl_to (s : ByteArray) (j : Nat) : bl (s.extract 0 j) = (bl s).take j := by rw [bl_ext, List.drop_zero]
theorem bt_bl (s : ByteArray) (i : Nat) (h : i < (bl s).length) : bt s (i : Int) = (((bl s)[i]).toNat : Int) := by
  rw [bt_bytes s i (by rw [bytesOf_length, ← bl_len]; exact h)]
  simp [bytesOf, bl]

def digs (l : List UInt8) : Prop := ∀ c ∈ l, 48 ≤ c.toNat ∧ c.toNat ≤ 57
def val (x : Nat) (l : List UInt8) : Nat := l.foldl (fun x c => 10 * x + (c.toNat - 48)) x
theorem val_cons (x : Nat) (c : UInt8) (l : List UInt8) : val x (c :: l) = val (10 * x + (c.toNat - 48)) l := by unfold val; rw [List.foldl_cons]
theorem dec_small {n : Nat} (h : n < 10) : Lib.decDigits n = [UInt8.ofNat (48 + n)] := by rw [Lib.decDigits, dif_pos h]
theorem dec_big {n : Nat} (h : ¬ n < 10) : Lib.decDigits n = Lib.decDigits (n / 10) ++ [UInt8.ofNat (48 + n % 10)] := by rw [Lib.decDigits, dif_neg h]
theorem ch_nat {d : Nat} (h : d < 10) : (UInt8.ofNat (48 + d)).toNat = 48 + d := by
  rw [UInt8.toNat_ofNat']; omega
theorem dec_digs (n : Nat) : digs (Lib.decDigits n) := by
  induction n using Nat.strongRecOn with
  | _ n ih =>
    by_cases h : n < 10
    · rw [dec_small h]; intro c hc; rw [List.mem_singleton.1 hc, ch_nat h]; omega
    · rw [dec_big h]
      intro c hc
      rcases List.mem_append.1 hc with q | q
      · exact ih (n / 10) (by omega) c q
      · rw [List.mem_singleton.1 q, ch_nat (by omega)]; omega
theorem dec_val (n : Nat) : val 0 (Lib.decDigits n) = n := by
  induction n using Nat.strongRecOn with
  | _ n ih =>
    by_cases h : n < 10
    · rw [dec_small h]; unfold val; simp only [List.foldl_cons, List.foldl_nil]; rw [ch_nat h]; omega
    · rw [dec_big h]; unfold val at ih ⊢; rw [List.foldl_append, ih (n / 10) (by omega)]
      simp only [List.foldl_cons, List.foldl_nil]; rw [ch_nat (by omega)]; omega
theorem dec_ne (n : Nat) : Lib.decDigits n ≠ [] := by
  by_cases h : n < 10
  · rw [dec_small h]; simp
  · rw [dec_big h]; simp
theorem dec_len : ∀ (k n : Nat), n < 10 ^ (k + 1) → (Lib.decDigits n).length ≤ k + 1
  | 0, n, h => by rw [dec_small (by simpa using h)]; simp
  | k + 1, n, h => by
    by_cases h2 : n < 10
    · rw [dec_small h2]; simp
    · rw [dec_big h2]
      have := dec_len k (n / 10) (by rw [Nat.pow_succ] at h; omega)
      simp; omega
theorem parse_val : ∀ (l : List UInt8) (acc a : Nat), digs l → acc < 10 ^ a → a + l.length ≤ 18 → Lib.parseUint10 acc l = .ok (val acc l)
  | [], acc, a, _, _, _ => rfl
  | c :: l, acc, a, hd, ha, hl => by
    have h1 := hd c List.mem_cons_self
    rw [List.length_cons] at hl
    have hp : 10 ^ a ≤ 10 ^ 17 := Nat.pow_le_pow_right (by decide) (by omega)
    have hs : acc * 10 + (c.toNat - 48) < 10 ^ (a + 1) := by rw [Nat.pow_succ]; omega
    have hn : (10 : Nat) ^ 17 = 100000000000000000 := by decide
    unfold Lib.parseUint10
    rw [if_pos h1, if_neg (by omega), if_neg (by omega), parse_val l _ (a + 1) (fun c q => hd c (List.mem_cons_of_mem _ q)) hs (by omega), val_cons, Nat.mul_comm]
theorem atoi_dec (n : Nat) (h : n < 10 ^ 10) : Lib.atoiAll (Lib.decDigits n) = .ok (n : Int) := by
  have hd := dec_digs n
  have hl := dec_len 9 n h
  have hp := parse_val (Lib.decDigits n) 0 0 hd (by decide) (by omega)
  rw [dec_val] at hp
  cases e : Lib.decDigits n with
  | nil => exact absurd e (dec_ne n)
  | cons c r =>
    have hc := hd c (by rw [e]; exact List.mem_cons_self)
    rw [e] at hp
    have hn : (10 : Nat) ^ 10 = 10000000000 := by decide
    unfold Lib.atoiAll Lib.parseMag
    simp only [if_neg (show ¬ (c.toNat = 43 ∨ c.toNat = 45) by omega), if_neg (List.cons_ne_nil c r), hp]
    rw [if_neg (fun q => by omega), if_neg (fun q => by omega), if_neg (by omega)]
theorem itoa_at (n : Nat) : Lib.itoa (n : Int) = Lib.decDigits n := by unfold Lib.itoa; rw [if_neg (by omega)]; rfl

def splC (sepc : UInt8) (cur : List UInt8) : List UInt8 → List (List UInt8)
  | [] => [cur]
  | c :: l => if c = sepc then cur :: splC sepc [] l else splC sepc (cur ++ [c]) l
theorem splC_cons (sepc : UInt8) (cur : List UInt8) (c : UInt8) (l : List UInt8) : splC sepc cur (c :: l) = if c = sepc then cur :: splC sepc [] l else splC sepc (cur ++ [c]) l := rfl
theorem splC_none (sepc : UInt8) : ∀ l cur : List UInt8, l.count sepc = 0 → splC sepc cur l = [cur ++ l]
  | [], cur, _ => by simp [splC]
  | c :: l, cur, h => by
    unfold splC
    have hc : ¬ c = sepc := fun e => by subst e; simp at h
    rw [if_neg hc, splC_none sepc l _ (by rwa [List.count_cons_of_ne hc] at h)]; simp
theorem splC_at (sepc : UInt8) : ∀ (l cur : List UInt8) (m : Nat), l[m]? = some sepc → (∀ k, k < m → l[k]? ≠ some sepc) → splC sepc cur l = (cur ++ l.take m) :: splC sepc [] (l.drop (m + 1))
  | [], _, m, h, _ => by simp at h
  | c :: l, cur, m, h, g => by
    rw [splC_cons]
    cases m with
    | zero =>
      simp only [List.getElem?_cons_zero, Option.some.injEq] at h
      rw [if_pos h]; simp
    | succ m =>
      have hc : ¬ c = sepc := fun e => g 0 (by omega) (by simp [e])
      rw [if_neg hc, splC_at sepc l _ m (by simpa using h) (fun k hk => by simpa using g (k + 1) (by omega))]
      simp
theorem splC_app (sepc : UInt8) : ∀ (a b cur : List UInt8), a.count sepc = 0 → splC sepc cur (a ++ sepc :: b) = (cur ++ a) :: splC sepc [] b
  | [], b, cur, _ => by rw [List.nil_append, splC_cons, if_pos rfl, List.append_nil]
  | c :: a, b, cur, h => by
    have hc : ¬ c = sepc := fun e => by subst e; simp at h
    rw [List.cons_append, splC_cons, if_neg hc, splC_app sepc a b _ (by rwa [List.count_cons_of_ne hc] at h)]; simp
theorem countC_at (sepc : UInt8) (l : List UInt8) (m : Nat) (h : l[m]? = some sepc) (g : ∀ k, k < m → l[k]? ≠ some sepc) : l.count sepc = (l.drop (m + 1)).count sepc + 1 := by
  have hm : m < l.length := by
    rcases Nat.lt_or_ge m l.length with q | q
    · exact q
    · rw [List.getElem?_eq_none q] at h; cases h
  have e : l = l.take m ++ sepc :: l.drop (m + 1) := by
    rw [List.getElem?_eq_getElem hm] at h
    rw [← Option.some.inj h, ← List.drop_eq_getElem_cons hm, List.take_append_drop]
  have z : (l.take m).count sepc = 0 := by
    refine List.count_eq_zero.2 fun q => ?_
    obtain ⟨k, hk, hq⟩ := List.getElem_of_mem q
    have hk2 : k < m := by rw [List.length_take] at hk; omega
    exact g k hk2 (by rw [List.getElem_take] at hq; rw [List.getElem?_eq_getElem (by omega), hq])
  rw [show l.count sepc = (l.take m ++ sepc :: l.drop (m + 1)).count sepc from congrArg _ e, List.count_append, z, List.count_cons_self]; omega
theorem idx_none {l : List UInt8} {c : UInt8} (h : Lib.indexByte l c < 0) : l.count c = 0 := by
  have h1 : Lib.indexByte l c = -1 := by have := Lib.indexByte_ge l c; omega
  refine List.count_eq_zero.2 fun q => ?_
  obtain ⟨k, hk, hq⟩ := List.getElem_of_mem q
  exact Lib.indexByte_none h1 k (by rw [List.getElem?_eq_getElem hk, hq])
theorem idx_some {l : List UInt8} {c : UInt8} (h : 0 ≤ Lib.indexByte l c) : ∃ m : Nat, Lib.indexByte l c = m ∧ m < l.length ∧ l[m]? = some c ∧ ∀ k, k < m → l[k]? ≠ some c := by
  obtain ⟨m, hm⟩ := Int.eq_ofNat_of_zero_le h
  obtain ⟨h1, h2⟩ := Lib.indexByte_some hm
  refine ⟨m, hm, ?_, h1, h2⟩
  rcases Nat.lt_or_ge m l.length with q | q
  · exact q
  · rw [List.getElem?_eq_none q] at h1; cases h1
theorem idx_pos {l : List UInt8} {c : UInt8} (h : l.count c ≠ 0) : 0 ≤ Lib.indexByte l c := by
  rcases Int.lt_or_le (Lib.indexByte l c) 0 with q | q
  · exact absurd (idx_none q) h
  · exact q

theorem Index_eq (s : ByteArray) (c : UInt8) : strings_Index.f s ⟨#[c]⟩ = some (Lib.indexByte (bl s) c) := rfl
theorem Count_eq (s : ByteArray) (c : UInt8) : strings_Count.f s ⟨#[c]⟩ = some (((bl s).count c : Nat) : Int) := rfl
theorem split_l0 (sepc : UInt8) : ∀ (d : Nat) (s : ByteArray) (arr : List ByteArray) (i : Nat), (bl s).count sepc = d → arr.length = i + d + 1 → s.size ≤ 100000 → i + d ≤ 100000 →
    Ev (fun k => strings_genSplit.l0 k s ⟨#[sepc]⟩ 0 ((i + d : Nat) : Int) arr (i : Int)) (arr.take i ++ (splC sepc [] (bl s)).map ofL)
  | 0, s, arr, i, hc, ha, hs, hi => by
    refine Ev.step (fun k => strings_genSplit.l0.eq_2 ..) (evn (by omega) (evp (by omega) (evp (by omega) ?_)))
    rw [w64 (by omega) (by omega)]
    refine evp (by omega) (evp (by omega) ?_)
    rw [splC_none _ _ _ hc, List.nil_append, List.map_cons, List.map_nil, ofL_bl, show ((i : Int) + 1).toNat = i + 1 by omega, show (i : Int).toNat = i by omega]
    rw [show (arr.set i s).take (i + 1) = arr.take i ++ [s] by
      rw [List.take_succ_eq_append_getElem (by rw [List.length_set]; omega), List.getElem_set_self, List.take_set_of_le (by omega)]]
    exact Ev.now _
  | d + 1, s, arr, i, hc, ha, hs, hi => by
    obtain ⟨m, hm, hl, h1, h2⟩ := idx_some (idx_pos (c := sepc) (l := bl s) (by omega))
    have hl2 : m < s.size := by rw [← bl_len]; exact hl
    have hk := countC_at _ _ m h1 h2
    refine Ev.step (fun k => strings_genSplit.l0.eq_2 ..) (evp (by omega) (evs (Index_eq s sepc) ?_))
    rw [hm]
    refine evn (by omega) ?_
    rw [show (⟨#[sepc]⟩ : ByteArray).size = 1 from rfl, Int.add_zero, w64 (by omega) (by omega), w64 (by omega) (by omega), w64 (by omega) (by omega)]
    refine evp (by omega) (evp (by omega) (evp (by omega) (evp (by omega) (evp (by omega) (evp (by omega) ?_)))))
    rw [show ((m : Int) + ((1 : Nat) : Int)).toNat = m + 1 by omega, show (m : Int).toNat = m by omega, show (i : Int).toNat = i by omega]
    have R := split_l0 sepc d (s.extract (m + 1) s.size) (arr.set i (s.extract 0 m)) (i + 1) (by rw [bl_from]; omega) (by rw [List.length_set]; omega) (by rw [ByteArray.size_extract]; omega) (by omega)
    rw [show i + 1 + d = i + (d + 1) by omega, bl_from, List.take_succ_eq_append_getElem (by rw [List.length_set]; omega), List.getElem_set_self, List.take_set_of_le (by omega)] at R
    rw [splC_at _ _ _ m h1 h2, List.nil_append, List.map_cons, ← bl_to, ofL_bl]
    rw [List.append_assoc] at R
    exact R
def spl (sepc : UInt8) (s : ByteArray) : List ByteArray := (splC sepc [] (bl s)).map ofL
theorem Split_ev (sepc : UInt8) (s : ByteArray) (hs : s.size ≤ 10000) : Ev (fun k => strings_Split.f k s ⟨#[sepc]⟩) (spl sepc s) := by
  unfold strings_Split.f strings_genSplit.f
  have hcl : (bl s).count sepc ≤ s.size := by rw [← bl_len]; exact List.count_le_length
  refine evb (evn (by decide) (evn (by simp [bl_tl, bl]) (evp (by decide) (evs (Count_eq s sepc) ?_)))) (Ev.now _)
  refine Ev.step (fun k => strings_genSplit.j0.eq_2 ..) ?_
  rw [w64 (by omega) (by omega), w64 (by omega) (by omega), show mn (((bl s).count sepc : Nat) + 1 : Int) ((s.size : Int) + 1) = (((bl s).count sepc + 1 : Nat) : Int) by unfold mn; split <;> omega]
  refine evp (by omega) (evp (by omega) ?_)
  rw [w64 (by omega) (by omega)]
  have R := split_l0 sepc _ s (List.replicate ((bl s).count sepc + 1) ⟨#[]⟩) 0 rfl (by simp) (by omega) (by omega)
  rw [List.take_zero, List.nil_append, Nat.zero_add] at R
  rw [show ((((bl s).count sepc + 1 : Nat) : Int) - 1) = (((bl s).count sepc : Nat) : Int) by omega, show (((bl s).count sepc + 1 : Nat) : Int).toNat = (bl s).count sepc + 1 by omega]
  exact R
theorem splC_len (sepc : UInt8) : ∀ (l cur : List UInt8), (splC sepc cur l).length ≤ l.length + 1 ∧ ∀ w ∈ splC sepc cur l, w.length ≤ cur.length + l.length
  | [], cur => by simp [splC]
  | c :: l, cur => by
    rw [splC_cons]
    split
    · have h := splC_len sepc l []
      refine ⟨by rw [List.length_cons, List.length_cons]; omega, fun w hw => ?_⟩
      rcases List.mem_cons.1 hw with e | e
      · subst e; rw [List.length_cons]; omega
      · have := h.2 w e; rw [List.length_cons]; rw [List.length_nil] at this; omega
    · have h := splC_len sepc l (cur ++ [c])
      rw [List.length_append, List.length_singleton] at h
      refine ⟨by rw [List.length_cons]; omega, fun w hw => ?_⟩
      have := h.2 w hw; rw [List.length_cons]; omega
theorem splC_ne (sepc : UInt8) : ∀ (l cur : List UInt8), splC sepc cur l ≠ []
  | [], _ => by simp [splC]
  | c :: l, cur => by
    rw [splC_cons]
    split
    · simp
    · exact splC_ne sepc l _
theorem spl_len (sepc : UInt8) (s : ByteArray) : 1 ≤ (spl sepc s).length ∧ (spl sepc s).length ≤ s.size + 1 ∧ ∀ w ∈ spl sepc s, w.size ≤ s.size := by
  have h := splC_len sepc (bl s) []
  have e := splC_ne sepc (bl s) []
  rw [bl_len] at h
  unfold spl
  rw [List.length_map]
  refine ⟨by rcases List.length_pos_iff.2 e with q; omega, h.1, fun w hw => ?_⟩
  obtain ⟨z, hz, rfl⟩ := List.mem_map.1 hw
  have := h.2 z hz
  rw [ofL_size]; rw [List.length_nil] at this; omega

theorem VG.mk' {own : List Int} {mv : List (List Int)} (h : vlR own mv = 0) : VG own mv := by
  have sb : ∀ {n : Int} {l : List Int} {lo : Int}, stB n lo l = true → -1 ≤ lo → lo ≤ n - 1 → (l.length : Int) ≤ n - 1 - lo := by
    intro n l
    induction l with
    | nil => intro lo _ _ _; simp; omega
    | cons x l ih =>
      intro lo h h0 h1
      unfold stB at h
      rw [Bool.and_eq_true, Bool.and_eq_true, decide_eq_true_eq, decide_eq_true_eq] at h
      have := ih h.2.2 (by omega) (by omega)
      rw [List.length_cons]; omega
  unfold vlR at h
  by_cases h1 : 1 ≤ (own.length : Int) ∧ (own.length : Int) ≤ 16
  · rw [if_pos h1] at h
    by_cases h2 : mv.length = own.length
    · rw [if_pos h2] at h
      by_cases h3 : vaB (own.length : Int) own mv own.length 0 = true
      · have r : ∀ i : Nat, i < own.length → _ := fun i hi => vaB_at h3 i (by omega) (by omega)
        unfold rowB at r
        simp only [Bool.and_eq_true, decide_eq_true_eq, Bool.not_eq_true', decide_eq_false_iff_not] at r
        refine ⟨by omega, by omega, h2, fun i hi => by have := (r i hi).1; omega, fun i hi => (r i hi).2.1, fun i hi => (r i hi).2.2, fun i => ?_⟩
        by_cases hi : i < own.length
        · have := sb (lo := -1) (r i hi).2.2 (by omega) (by omega); omega
        · rw [show rd_L1 mv (i : Int) = [] by simp [rd_L1, List.getD_eq_getElem?_getD, List.getElem?_eq_none (show mv.length ≤ i by omega)]]; simp
      · rw [if_neg h3] at h; exact absurd h (by decide)
    · rw [if_neg h2] at h; exact absurd h (by decide)
  · rw [if_neg h1] at h; exact absurd h (by decide)
theorem stB_len {n : Int} : ∀ {l : List Int} {lo : Int}, stB n lo l = true → -1 ≤ lo → lo ≤ n - 1 → (l.length : Int) ≤ n - 1 - lo
  | [], lo, _, _, _ => by simp; omega
  | x :: l, lo, h, h0, h1 => by
    unfold stB at h
    rw [Bool.and_eq_true, Bool.and_eq_true, decide_eq_true_eq, decide_eq_true_eq] at h
    have := stB_len h.2.2 (by omega) (by omega)
    rw [List.length_cons]; omega
theorem VG.mlen {own : List Int} {mv : List (List Int)} (G : VG own mv) (i : Nat) (hi : i < own.length) : (rd_L1 mv (i : Int)).length ≤ 16 := by
  have h1 := G.n1
  have h2 := G.n2
  have := stB_len (lo := -1) (G.set_ i hi) (by omega) (by omega)
  omega
theorem VG.k16 {own : List Int} {mv : List (List Int)} (G : VG own mv) (i : Nat) (hi : i < own.length) : ∀ k ∈ rd_L1 mv (i : Int), 0 ≤ k ∧ k < 16 := fun k q => by
  have := G.in_ i hi k q; have := G.n2; omega
theorem VG.o16 {own : List Int} {mv : List (List Int)} (G : VG own mv) (i : Nat) (hi : i < own.length) : 0 ≤ rd own (i : Int) ∧ rd own (i : Int) < 16 := by
  have := G.own_ i hi; omega
theorem Itoa_eq (x : Int) (h : 0 ≤ x ∧ x < 16) : strconv_Itoa_22.f x = some (ofL (Lib.itoa x)) := if_pos (by omega)
theorem it_dec (x : Int) (h : 0 ≤ x ∧ x < 16) : ∃ n : Nat, x = n ∧ n < 16 ∧ Lib.itoa x = Lib.decDigits n := by
  obtain ⟨n, rfl⟩ := Int.eq_ofNat_of_zero_le h.1
  exact ⟨n, rfl, by omega, itoa_at n⟩
theorem it_len (x : Int) (h : 0 ≤ x ∧ x < 16) : (Lib.itoa x).length ≤ 2 := by
  obtain ⟨n, rfl, hn, e⟩ := it_dec x h
  rw [e]; exact dec_len 1 n (by omega)
def mvT (m : List Int) : List UInt8 := m.flatMap fun k => 32 :: Lib.itoa k
def rowT (o : Int) (m : List Int) : List UInt8 := Lib.itoa o ++ (mvT m ++ [10])
def fmtD (own : List Int) (mv : List (List Int)) : Nat → Nat → List UInt8
  | 0, _ => []
  | d + 1, i => rowT (rd own (i : Int)) (rd_L1 mv (i : Int)) ++ fmtD own mv d (i + 1)
theorem mvT_cons (k : Int) (m : List Int) : mvT (k :: m) = 32 :: (Lib.itoa k ++ mvT m) := by simp [mvT]
theorem mvT_len : ∀ m : List Int, (∀ k ∈ m, 0 ≤ k ∧ k < 16) → (mvT m).length ≤ m.length * 3
  | [], _ => by simp [mvT]
  | k :: m, h => by
    have a := it_len k (h k (by simp))
    have b := mvT_len m (fun x hx => h x (by simp [hx]))
    rw [mvT_cons, List.length_cons, List.length_append, List.length_cons]; omega
theorem row_len {own : List Int} {mv : List (List Int)} (G : VG own mv) (i : Nat) (hi : i < own.length) : (rowT (rd own (i : Int)) (rd_L1 mv (i : Int))).length ≤ 60 := by
  have a := it_len _ (G.o16 i hi)
  have b := mvT_len _ (G.k16 i hi)
  have c := G.mlen i hi
  unfold rowT
  rw [List.length_append, List.length_append, List.length_singleton]; omega
theorem fmt_len {own : List Int} {mv : List (List Int)} (G : VG own mv) : ∀ d i : Nat, i + d = own.length → (fmtD own mv d i).length ≤ d * 60
  | 0, i, _ => by simp [fmtD]
  | d + 1, i, h => by
    have a := row_len G i (by omega)
    have b := fmt_len G d (i + 1) (by omega)
    rw [fmtD, List.length_append]; omega
theorem ofL_app (a b : List UInt8) : ofL a ++ ofL b = ofL (a ++ b) := bl_inj (by rw [bl_app, bl_ofL, bl_ofL, bl_ofL])

theorem format_l1 (own : List Int) (mv : List (List Int)) (i : Nat) (m : List Int) (hm : ∀ k ∈ m, 0 ≤ k ∧ k < 16) (hl : m.length ≤ 16) (R : ByteArray) : ∀ (d j : Nat) (acc : List UInt8), j + d = m.length → acc.length + d * 3 ≤ 10000 →
    Ev (fun k => lure_format.l0 k (ofL (acc ++ (mvT (m.drop j) ++ [10]))) own (own.length : Int) (wrap64 ((i : Int) + 1)) own mv) R →
    Ev (fun k => lure_format.l1 k (ofL acc) own (own.length : Int) (i : Int) m (m.length : Int) (j : Int) own mv) R
  | 0, j, acc, h, ha, H => by
    refine Ev.step (fun k => lure_format.l1.eq_2 ..) (evn (by omega) (evp (by rw [ofL_size]; omega) ?_))
    rw [List.drop_eq_nil_of_le (by omega)] at H
    rw [show (⟨#[10]⟩ : ByteArray) = ofL [10] from rfl, ofL_app]
    exact H
  | d + 1, j, acc, h, ha, H => by
    have hj : j < m.length := by omega
    have hk := hm m[j] (List.getElem_mem hj)
    have hi := it_len m[j] hk
    refine Ev.step (fun k => lure_format.l1.eq_2 ..) (evp (by omega) (evp (by omega) (evp (by omega) ?_)))
    rw [rd_at m j hj]
    refine evs (Itoa_eq _ hk) (evp (by rw [ofL_size]; omega) ?_)
    rw [show (⟨#[32]⟩ : ByteArray) = ofL [32] from rfl, ofL_app, List.singleton_append]
    refine evp (by rw [ofL_size, ofL_size, List.length_cons]; omega) ?_
    rw [ofL_app, w64 (n := (j : Int) + 1) (by omega) (by omega)]
    refine format_l1 own mv i m hm hl R d (j + 1) (acc ++ 32 :: Lib.itoa m[j]) (by omega) (by rw [List.length_append, List.length_cons]; omega) ?_
    rw [List.drop_eq_getElem_cons hj, mvT_cons] at H
    rw [show acc ++ 32 :: Lib.itoa m[j] ++ (mvT (m.drop (j + 1)) ++ [10]) = acc ++ (32 :: (Lib.itoa m[j] ++ mvT (m.drop (j + 1))) ++ [10]) by simp]
    exact H
theorem format_l0 (own : List Int) (mv : List (List Int)) (G : VG own mv) : ∀ (d i : Nat) (acc : List UInt8), i + d = own.length → acc.length ≤ i * 60 →
    Ev (fun k => lure_format.l0 k (ofL acc) own (own.length : Int) (i : Int) own mv) (ofL (acc ++ fmtD own mv d i))
  | 0, i, acc, h, ha => by
    refine Ev.step (fun k => lure_format.l0.eq_2 ..) (evn (by omega) ?_)
    rw [show fmtD own mv 0 i = [] from rfl, List.append_nil]; exact Ev.now _
  | d + 1, i, acc, h, ha => by
    have n2 := G.n2
    have hi : i < own.length := by omega
    have ho := G.o16 i hi
    have hl := it_len _ ho
    have hm := G.mlen i hi
    have rl := row_len G i hi
    have gl := G.len
    refine Ev.step (fun k => lure_format.l0.eq_2 ..) (evp (by omega) (evp (by omega) (evp (by omega) (evs (Itoa_eq _ ho) (evp (by rw [ofL_size, ofL_size]; omega) (evp (by omega) ?_))))))
    rw [ofL_app]
    refine format_l1 own mv i (rd_L1 mv (i : Int)) (G.k16 i hi) hm _ _ 0 (acc ++ Lib.itoa (rd own (i : Int))) (Nat.zero_add _) (by rw [List.length_append]; omega) ?_
    rw [w64 (n := (i : Int) + 1) (by omega) (by omega), List.drop_zero]
    have R := format_l0 own mv G d (i + 1) (acc ++ rowT (rd own (i : Int)) (rd_L1 mv (i : Int))) (by omega) (by rw [List.length_append]; omega)
    rw [show acc ++ Lib.itoa (rd own (i : Int)) ++ (mvT (rd_L1 mv (i : Int)) ++ [10]) = acc ++ rowT (rd own (i : Int)) (rd_L1 mv (i : Int)) by simp [rowT]]
    rw [show fmtD own mv (d + 1) i = rowT (rd own (i : Int)) (rd_L1 mv (i : Int)) ++ fmtD own mv d (i + 1) from rfl, ← List.append_assoc]
    exact R
theorem format_ev (own : List Int) (mv : List (List Int)) (G : VG own mv) : Ev (fun k => lure_format.f k own mv) (ofL (fmtD own mv own.length 0)) := by
  have R := format_l0 own mv G own.length 0 [] (by omega) (by simp)
  rw [List.nil_append] at R
  exact R
def fmR (own : List Int) (mv : List (List Int)) : ByteArray × Int := if vlR own mv = 0 then (ofL (fmtD own mv own.length 0), 0) else (⟨#[]⟩, vlR own mv)
theorem Format_ev (own : List Int) (mv : List (List Int)) (hs : ∀ m ∈ mv, m.length ≤ 10000) : Ev (fun k => lure_Format.f k own mv) (fmR own mv) := by
  unfold lure_Format.f fmR
  refine evb (valid_ev own mv hs) ?_
  by_cases h : vlR own mv = 0
  · rw [if_pos h]; exact evp h (evb (format_ev own mv (VG.mk' h)) (Ev.now _))
  · rw [if_neg h]; exact evn h (Ev.now _)
theorem rformat_l1 (own : List Int) (mv : List (List Int)) (i : Nat) (hi : i < mv.length) (hm : ∀ k ∈ rd_L1 mv (i : Int), 0 ≤ k ∧ k < 16) (hl : (rd_L1 mv (i : Int)).length ≤ 16) (R : ByteArray × Int) : ∀ (d j : Nat) (acc : List UInt8), j + d = (rd_L1 mv (i : Int)).length → acc.length + d * 3 ≤ 10000 →
    Ev (fun k => wigeonref04_Format.l0 k (ofL (acc ++ (mvT ((rd_L1 mv (i : Int)).drop j) ++ [10]))) (wrap64 ((i : Int) + 1)) own mv) R →
    Ev (fun k => wigeonref04_Format.l1 k (ofL acc) (i : Int) (j : Int) own mv) R
  | 0, j, acc, h, ha, H => by
    refine Ev.step (fun k => wigeonref04_Format.l1.eq_2 ..) (evp (by omega) (evp (by omega) (evn (by omega) (evp (by rw [ofL_size]; omega) ?_))))
    rw [List.drop_eq_nil_of_le (by omega)] at H
    rw [show (⟨#[10]⟩ : ByteArray) = ofL [10] from rfl, ofL_app]
    exact H
  | d + 1, j, acc, h, ha, H => by
    have hj : j < (rd_L1 mv (i : Int)).length := by omega
    have hk := hm (rd_L1 mv (i : Int))[j] (List.getElem_mem hj)
    have hq := it_len (rd_L1 mv (i : Int))[j] hk
    refine Ev.step (fun k => wigeonref04_Format.l1.eq_2 ..) (evp (by omega) (evp (by omega) (evp (by omega) (evp (by omega) ?_))))
    rw [rd_at (rd_L1 mv (i : Int)) j hj]
    refine evs (Itoa_eq _ hk) (evp (by rw [ofL_size]; omega) ?_)
    rw [show (⟨#[32]⟩ : ByteArray) = ofL [32] from rfl, ofL_app, List.singleton_append]
    refine evp (by rw [ofL_size, ofL_size, List.length_cons]; omega) ?_
    rw [ofL_app, w64 (n := (j : Int) + 1) (by omega) (by omega)]
    refine rformat_l1 own mv i hi hm hl R d (j + 1) (acc ++ 32 :: Lib.itoa (rd_L1 mv (i : Int))[j]) (by omega) (by rw [List.length_append, List.length_cons]; omega) ?_
    rw [List.drop_eq_getElem_cons hj, mvT_cons] at H
    rw [show acc ++ 32 :: Lib.itoa (rd_L1 mv (i : Int))[j] ++ (mvT ((rd_L1 mv (i : Int)).drop (j + 1)) ++ [10]) = acc ++ (32 :: (Lib.itoa (rd_L1 mv (i : Int))[j] ++ mvT ((rd_L1 mv (i : Int)).drop (j + 1))) ++ [10]) by simp]
    exact H
theorem rformat_l0 (own : List Int) (mv : List (List Int)) (G : VG own mv) : ∀ (d i : Nat) (acc : List UInt8), i + d = own.length → acc.length ≤ i * 60 →
    Ev (fun k => wigeonref04_Format.l0 k (ofL acc) (i : Int) own mv) (ofL (acc ++ fmtD own mv d i), 0)
  | 0, i, acc, h, ha => by
    refine Ev.step (fun k => wigeonref04_Format.l0.eq_2 ..) (evn (by omega) ?_)
    rw [show fmtD own mv 0 i = [] from rfl, List.append_nil]; exact Ev.now _
  | d + 1, i, acc, h, ha => by
    have n2 := G.n2
    have hi : i < own.length := by omega
    have ho := G.o16 i hi
    have hl := it_len _ ho
    have hm := G.mlen i hi
    have rl := row_len G i hi
    have gl := G.len
    refine Ev.step (fun k => wigeonref04_Format.l0.eq_2 ..) (evp (by omega) (evp (by omega) (evs (Itoa_eq _ ho) (evp (by rw [ofL_size, ofL_size]; omega) ?_))))
    rw [ofL_app]
    refine rformat_l1 own mv i (by omega) (G.k16 i hi) hm _ _ 0 (acc ++ Lib.itoa (rd own (i : Int))) (Nat.zero_add _) (by rw [List.length_append]; omega) ?_
    rw [w64 (n := (i : Int) + 1) (by omega) (by omega), List.drop_zero]
    have R := rformat_l0 own mv G d (i + 1) (acc ++ rowT (rd own (i : Int)) (rd_L1 mv (i : Int))) (by omega) (by rw [List.length_append]; omega)
    rw [show acc ++ Lib.itoa (rd own (i : Int)) ++ (mvT (rd_L1 mv (i : Int)) ++ [10]) = acc ++ rowT (rd own (i : Int)) (rd_L1 mv (i : Int)) by simp [rowT]]
    rw [show fmtD own mv (d + 1) i = rowT (rd own (i : Int)) (rd_L1 mv (i : Int)) ++ fmtD own mv d (i + 1) from rfl, ← List.append_assoc]
    exact R
theorem rFormat_ev (own : List Int) (mv : List (List Int)) (hs : ∀ m ∈ mv, m.length ≤ 10000) : Ev (fun k => wigeonref04_Format.f k own mv) (fmR own mv) := by
  unfold wigeonref04_Format.f fmR
  refine evb (rvalid_ev own mv hs) ?_
  by_cases h : vlR own mv = 0
  · rw [if_pos h]
    have R := rformat_l0 own mv (VG.mk' h) own.length 0 [] (by omega) (by simp)
    rw [List.nil_append] at R
    exact evp h R
  · rw [if_neg h]; exact evn h (Ev.now _)

def at1 (w : ByteArray) : Option Int := match Lib.atoiAll (bl w) with | .ok v => some v | _ => none
theorem Atoi_eq (w : ByteArray) (hs : w.size ≤ 10000) : ∃ r : Int × Option Int, strconv_Atoi_29.f w = some r ∧ (∀ v, at1 w = some v → r = (v, none)) ∧ (at1 w = none → ¬ r.2.isNone = true) := by
  unfold strconv_Atoi_29.f at1
  rw [if_pos (by omega), show w.data.toList = bl w from rfl]
  cases h : Lib.atoiAll (bl w) with
  | ok v => exact ⟨(v, none), rfl, fun x e => (by rw [Option.some.inj e]), fun e => (by cases e)⟩
  | «syntax» => exact ⟨(0, some 0), rfl, fun x e => (by cases e), fun _ => (by simp)⟩
  | range => exact ⟨_, rfl, fun x e => (by cases e), fun _ => (by simp)⟩
def ats : List ByteArray → Option (List Int)
  | [] => some []
  | w :: ws => (at1 w).bind fun v => (ats ws).map fun l => v :: l
def errR : List Int × List (List Int) × Int := ([], [], 2)
theorem parse_l1 (x0 : ByteArray) (lines : List ByteArray) (n j : Int) (o : List Int) (mv : List (List Int)) (ws : List ByteArray) (hw : ∀ w ∈ ws, w.size ≤ 10000) (hl : 1 ≤ ws.length ∧ ws.length ≤ 100000) (ho : o.length ≤ 100000) (hv : mv.length ≤ 100000) (R : List Int × List (List Int) × Int) :
    ∀ (d i : Nat) (pre : List Int), i + d = ws.length → pre.length = i →
      (∀ vs, ats (ws.drop i) = some vs → Ev (fun k => lure_Parse.l0 k x0 lines n (wrap64 (j + 1)) (o ++ [rd (pre ++ vs) 0]) (mv ++ [(pre ++ vs).drop 1])) R) → (ats (ws.drop i) = none → R = errR) →
      Ev (fun k => lure_Parse.l1 k x0 (pre ++ List.replicate d 0) lines n j ws (ws.length : Int) (i : Int) o mv) R
  | 0, i, pre, h, hp, H, _ => by
    rw [List.drop_eq_nil_of_le (by omega)] at H
    have K := H [] rfl
    rw [List.append_nil] at K
    rw [List.replicate_zero, List.append_nil]
    exact Ev.step (fun k => lure_Parse.l1.eq_2 ..) (evn (by omega) (evp (by omega) (evp (by omega) (evp (by omega) (evp (by omega) K)))))
  | d + 1, i, pre, h, hp, H, N => by
    have hi : i < ws.length := by omega
    obtain ⟨r, e, r1, r2⟩ := Atoi_eq ws[i] (hw _ (List.getElem_mem hi))
    rw [List.drop_eq_getElem_cons hi] at H N
    refine Ev.step (fun k => lure_Parse.l1.eq_2 ..) (evp (by omega) (evp (by omega) (evp (by omega) ?_)))
    rw [rdS_at ws i hi]
    refine evs e ?_
    cases q : at1 ws[i] with
    | none =>
      rw [N (by rw [ats, q]; rfl)]
      exact evn (r2 q) (Ev.now _)
    | some v =>
      obtain rfl := r1 v q
      refine evp rfl (evp (by rw [List.length_append, List.length_replicate]; omega) ?_)
      rw [show List.set (pre ++ List.replicate (d + 1) (0 : Int)) (i : Int).toNat v = (pre ++ [v]) ++ List.replicate d (0 : Int) from by
        rw [Int.toNat_natCast, List.set_append_right _ _ (by omega), hp, Nat.sub_self, List.replicate_succ, List.set_cons_zero]; simp, w64 (n := (i : Int) + 1) (by omega) (by omega)]
      refine parse_l1 x0 lines n j o mv ws hw hl ho hv R d (i + 1) (pre ++ [v]) (by omega) (by simp; omega) (fun vs hvs => ?_) (fun hn => N (by rw [ats, q, Option.bind_some, hn]; rfl))
      have K := H (v :: vs) (by rw [ats, q, Option.bind_some, hvs]; rfl)
      rw [show pre ++ [v] ++ vs = pre ++ v :: vs by simp]
      exact K
def pAll : List ByteArray → List Int → List (List Int) → Option (List Int × List (List Int))
  | [], o, m => some (o, m)
  | s :: ls, o, m => (ats (spl 32 s)).bind fun vs => pAll ls (o ++ [rd vs 0]) (m ++ [vs.drop 1])
def finR (t : List UInt8) : Option (List Int × List (List Int)) → List Int × List (List Int) × Int
  | none => errR
  | some p => if vlR p.1 p.2 = 0 ∧ fmtD p.1 p.2 p.1.length 0 = t then (p.1, p.2, 0) else errR
theorem ats_len : ∀ (ws : List ByteArray) (vs : List Int), ats ws = some vs → vs.length = ws.length
  | [], vs, h => by obtain rfl := Option.some.inj h; rfl
  | w :: ws, vs, h => by
    unfold ats at h
    obtain ⟨v, _, h⟩ := Option.bind_eq_some_iff.1 h
    obtain ⟨l, e, rfl⟩ := Option.map_eq_some_iff.1 h
    rw [List.length_cons, List.length_cons, ats_len ws l e]
theorem parse_l0 (x0 : ByteArray) (lines : List ByteArray) (hl : lines.length ≤ 10000) (hs : ∀ s ∈ lines, s.size ≤ 9000) : ∀ (d i : Nat) (o : List Int) (m : List (List Int)), i + d = lines.length → o.length ≤ i → m.length ≤ i → (∀ r ∈ m, r.length ≤ 10000) →
    Ev (fun k => lure_Parse.l0 k x0 lines (lines.length : Int) (i : Int) o m) (finR (bl x0) (pAll (lines.drop i) o m))
  | 0, i, o, m, h, ho, hm, hr => by
    rw [List.drop_eq_nil_of_le (by omega)]
    refine Ev.step (fun k => lure_Parse.l0.eq_2 ..) (evn (by omega) (evb (valid_ev o m hr) ?_))
    show Ev _ (finR (bl x0) (some (o, m)))
    by_cases hv : vlR o m = 0
    · refine evp hv (evb (format_ev o m (VG.mk' hv)) ?_)
      by_cases hf : fmtD o m o.length 0 = bl x0
      · rw [show finR (bl x0) (some (o, m)) = (o, m, 0) from if_pos ⟨hv, hf⟩]; exact evp (by rw [bl_tl, bl_ofL, bl_tl, hf]) (Ev.now _)
      · rw [show finR (bl x0) (some (o, m)) = errR from if_neg (fun q => hf q.2)]; exact evn (by rw [bl_tl, bl_ofL, bl_tl]; exact hf) (Ev.now _)
    · rw [show finR (bl x0) (some (o, m)) = errR from if_neg (fun q => hv q.1)]; exact evn hv (Ev.now _)
  | d + 1, i, o, m, h, ho, hm, hr => by
    have hi : i < lines.length := by omega
    have hz := hs _ (List.getElem_mem hi)
    obtain ⟨l1, l2, l3⟩ := spl_len 32 lines[i]
    refine Ev.step (fun k => lure_Parse.l0.eq_2 ..) (evp (by omega) (evp (by omega) (evp (by omega) ?_)))
    rw [rdS_at lines i hi]
    refine evb (Split_ev 32 lines[i] (by omega)) (evp (by omega) (evp (by omega) ?_))
    rw [Int.toNat_natCast, List.drop_eq_getElem_cons hi]
    refine parse_l1 x0 lines (lines.length : Int) (i : Int) o m (spl 32 lines[i]) (fun w hw => by have := l3 w hw; omega) (by omega) (by omega) (by omega) _ (spl 32 lines[i]).length 0 [] (by omega) rfl (fun vs hvs => ?_) (fun hn => ?_)
    · rw [List.drop_zero] at hvs
      have vl := ats_len _ _ hvs
      rw [w64 (n := (i : Int) + 1) (by omega) (by omega), List.nil_append, pAll, hvs, Option.bind_some]
      exact parse_l0 x0 lines hl hs d (i + 1) _ _ (by omega) (by simp; omega) (by simp; omega) (fun r hr2 => by
        rcases List.mem_append.1 hr2 with e | e
        · exact hr r e
        · rw [List.mem_singleton.1 e, List.length_drop]; omega)
    · rw [List.drop_zero] at hn
      rw [pAll, hn]; rfl
theorem trim_eq (t : ByteArray) (hs : t.size ≤ 10000) : ∃ t', strings_TrimSuffix.f t ⟨#[10]⟩ = some t' ∧ t'.size ≤ t.size ∧ ∀ T, bl t = T ++ [10] → bl t' = T := by
  unfold strings_TrimSuffix.f stringslite_TrimSuffix.f stringslite_HasSuffix.f
  have e1 : ((⟨#[10]⟩ : ByteArray).size : Int) = 1 := rfl
  rw [e1]
  by_cases h : (t.size : Int) ≥ 1
  · rw [if_pos h, w64 (by omega) (by omega), if_pos (by omega), if_pos (by omega), Option.bind_some]
    have en : ((t.size : Int) - 1).toNat = t.size - 1 := by omega
    rw [en]
    by_cases q : ((t.extract (t.size - 1) t.size).toList == (⟨#[10]⟩ : ByteArray).toList) = true
    · rw [if_pos q, if_pos (by omega), if_pos (by omega), Option.bind_some]
      refine ⟨_, rfl, by rw [ByteArray.size_extract]; omega, fun T hT => ?_⟩
      have hl := bl_len t
      rw [hT, List.length_append, List.length_singleton] at hl
      rw [bl_to, hT, show t.size - 1 = T.length by omega, List.take_left' rfl]
    · rw [if_neg q, Option.bind_some]
      refine ⟨_, rfl, Nat.le_refl _, fun T hT => absurd ?_ q⟩
      have hl := bl_len t
      rw [hT, List.length_append, List.length_singleton] at hl
      rw [bl_tl, bl_tl, bl_from, hT, show t.size - 1 = T.length by omega, List.drop_left' rfl]; rfl
  · rw [if_neg h, Option.bind_some, if_neg (by decide), Option.bind_some]
    refine ⟨_, rfl, Nat.le_refl _, fun T hT => ?_⟩
    have hl := bl_len t
    rw [hT, List.length_append, List.length_singleton] at hl; omega
theorem parse_ev (t : ByteArray) (hs : t.size ≤ 4000) : ∃ ls : List ByteArray, Ev (fun k => lure_Parse.f k t) (finR (bl t) (pAll ls [] [])) ∧ ∀ T, bl t = T ++ [10] → ls = (splC 10 [] T).map ofL := by
  obtain ⟨t', e, hz, hT⟩ := trim_eq t (by omega)
  obtain ⟨l1, l2, l3⟩ := spl_len 10 t'
  refine ⟨spl 10 t', ?_, fun T h => by unfold spl; rw [hT T h]⟩
  unfold lure_Parse.f
  refine evn (by omega) (evs e (evb (Split_ev 10 t' (by omega)) ?_))
  have R := parse_l0 t (spl 10 t') (by omega) (fun s hs2 => by have := l3 s hs2; omega) (spl 10 t').length 0 [] [] (by omega) (by simp) (by simp) (fun r hr => absurd hr (by simp))
  rw [List.drop_zero] at R
  exact R

def digB (l : List UInt8) : Bool := l.all fun c => decide (48 ≤ c.toNat ∧ c.toNat ≤ 57)
def num2 (w : List UInt8) : Option Int := if 1 ≤ w.length ∧ w.length ≤ 2 ∧ digB w = true then some ((val 0 w : Nat) : Int) else none
theorem rnumber_l0 (w : ByteArray) (hs : w.size ≤ 2) : ∀ d i x : Nat, i + d = w.size → x < 10 ^ i → Ev (fun k => wigeonref04_number.l0 k w (x : Int) (i : Int)) (if digB ((bl w).drop i) = true then (((val x ((bl w).drop i) : Nat) : Int), true) else (0, false))
  | 0, i, x, h, hx => by
    refine Ev.step (fun k => wigeonref04_number.l0.eq_2 ..) (evn (by omega) ?_)
    rw [List.drop_eq_nil_of_le (by rw [bl_len]; omega)]; exact Ev.now _
  | d + 1, i, x, h, hx => by
    have hi : i < (bl w).length := by rw [bl_len]; omega
    have hp : (10 : Nat) ^ i ≤ 100 := Nat.le_trans (Nat.pow_le_pow_right (by decide) (show i ≤ 2 by omega)) (by decide)
    refine Ev.step (fun k => wigeonref04_number.l0.eq_2 ..) (evp (by omega) (evp (by omega) ?_))
    rw [bt_bl w i hi, List.drop_eq_getElem_cons hi]
    by_cases h1 : 48 ≤ (bl w)[i].toNat
    · refine evn (by omega) ?_
      by_cases h2 : (bl w)[i].toNat ≤ 57
      · refine evn (by omega) ?_
        rw [w64 (n := 10 * (x : Int)) (by omega) (by omega), w64 (by omega) (by omega), w64 (n := (i : Int) + 1) (by omega) (by omega)]
        have R := rnumber_l0 w hs d (i + 1) (10 * x + ((bl w)[i].toNat - 48)) (by omega) (by rw [Nat.pow_succ]; omega)
        rw [show (10 * (x : Int) + (((bl w)[i].toNat : Int) - 48) % 256) = ((10 * x + ((bl w)[i].toNat - 48) : Nat) : Int) by omega, val_cons, digB, List.all_cons, decide_eq_true ⟨h1, h2⟩, Bool.true_and]
        exact R
      · rw [digB, List.all_cons, decide_eq_false (fun q => h2 q.2), Bool.false_and, if_neg (by decide)]
        exact evp (by omega) (Ev.now _)
    · rw [digB, List.all_cons, decide_eq_false (fun q => h1 q.1), Bool.false_and, if_neg (by decide)]
      exact evp (by omega) (Ev.now _)
def nmR (w : List UInt8) : Int × Bool := match num2 w with | some x => (x, true) | none => (0, false)
theorem rnumber_ev (w : ByteArray) (hs : w.size ≤ 10000) : Ev (fun k => wigeonref04_number.f k w) (nmR (bl w)) := by
  unfold wigeonref04_number.f nmR num2
  have hb := bl_len w
  by_cases h1 : 1 ≤ w.size
  · refine evn (by omega) ?_
    by_cases h2 : w.size ≤ 2
    · rw [show decide ((w.size : Int) > 2) = false from decide_eq_false (by omega)]
      have R := rnumber_l0 w h2 w.size 0 0 (by omega) (by decide)
      rw [List.drop_zero] at R
      refine Ev.step (fun k => wigeonref04_number.j0.eq_2 ..) (evn (by decide) ?_)
      by_cases h3 : digB (bl w) = true
      · rw [if_pos h3] at R
        rw [if_pos ⟨by omega, by omega, h3⟩]; exact R
      · rw [if_neg h3] at R
        rw [if_neg (fun q => h3 q.2.2)]; exact R
    · rw [show decide ((w.size : Int) > 2) = true from decide_eq_true (by omega), if_neg (by omega)]
      exact Ev.step (fun k => wigeonref04_number.j0.eq_2 ..) (evp rfl (Ev.now _))
  · rw [if_neg (by omega)]
    exact evp (by omega) (Ev.step (fun k => wigeonref04_number.j0.eq_2 ..) (evp rfl (Ev.now _)))
def rAll : List UInt8 → List UInt8 → List Int → List Int → List (List Int) → Option (List Int × List (List Int))
  | [], _, _, o, m => some (o, m)
  | c :: l, cur, n, o, m => if c = 32 ∨ c = 10 then (num2 cur).bind fun x => if c = 10 then rAll l [] [] (o ++ [rd (n ++ [x]) 0]) (m ++ [(n ++ [x]).drop 1]) else rAll l [] (n ++ [x]) o m else rAll l (cur ++ [c]) n o m
theorem rparse_l0 (t : ByteArray) (hs : t.size ≤ 4000) : ∀ (d i b : Nat) (n o : List Int) (m : List (List Int)), i + d = t.size → b ≤ i → n.length ≤ i → o.length ≤ i → m.length ≤ i → (∀ r ∈ m, r.length ≤ 10000) →
    Ev (fun k => wigeonref04_Parse.l0 k t n (b : Int) (i : Int) o m) (finR (bl t) (rAll ((bl t).drop i) (((bl t).take i).drop b) n o m))
  | 0, i, b, n, o, m, h, hb, hn, ho, hm, hr => by
    rw [List.drop_eq_nil_of_le (show (bl t).length ≤ i by rw [bl_len]; omega)]
    refine Ev.step (fun k => wigeonref04_Parse.l0.eq_2 ..) (evn (by omega) (evb (rFormat_ev o m hr) ?_))
    show Ev _ (finR (bl t) (some (o, m)))
    by_cases hv : vlR o m = 0
    · rw [show fmR o m = (ofL (fmtD o m o.length 0), 0) from if_pos hv]
      refine evp rfl ?_
      by_cases hf : fmtD o m o.length 0 = bl t
      · rw [show finR (bl t) (some (o, m)) = (o, m, 0) from if_pos ⟨hv, hf⟩]; exact evp (by show (ofL _).toList = _; rw [bl_tl, bl_ofL, bl_tl, hf]) (Ev.now _)
      · rw [show finR (bl t) (some (o, m)) = errR from if_neg (fun q => hf q.2)]; exact evn (by show ¬ (ofL _).toList = _; rw [bl_tl, bl_ofL, bl_tl]; exact hf) (Ev.now _)
    · rw [show fmR o m = (⟨#[]⟩, vlR o m) from if_neg hv, show finR (bl t) (some (o, m)) = errR from if_neg (fun q => hv q.1)]; exact evn hv (Ev.now _)
  | d + 1, i, b, n, o, m, h, hb, hn, ho, hm, hr => by
    have hi : i < (bl t).length := by rw [bl_len]; omega
    have hc : ((bl t).take (i + 1)).drop b = ((bl t).take i).drop b ++ [(bl t)[i]] := by
      rw [List.take_succ_eq_append_getElem hi, List.drop_append_of_le_length (by rw [List.length_take]; omega)]
    refine Ev.step (fun k => wigeonref04_Parse.l0.eq_2 ..) (evp (by omega) (evp (by omega) ?_))
    rw [bt_bl t i hi, List.drop_eq_getElem_cons hi, rAll]
    have hsep : ∀ c : UInt8, (c = 32 ∨ c = 10) → (bl t)[i] = c → Ev (fun k => wigeonref04_Parse.j1 k t n (b : Int) (i : Int) false o m) (finR (bl t) ((num2 (((bl t).take i).drop b)).bind fun x => if c = 10 then rAll ((bl t).drop (i + 1)) [] [] (o ++ [rd (n ++ [x]) 0]) (m ++ [(n ++ [x]).drop 1]) else rAll ((bl t).drop (i + 1)) [] (n ++ [x]) o m)) := by
      intro c hcc ec
      refine Ev.step (fun k => wigeonref04_Parse.j1.eq_2 ..) (evn (by decide) (evp (by omega) (evp (by omega) (evp (by omega) ?_))))
      rw [show ((b : Int)).toNat = b from rfl, show ((i : Int)).toNat = i from rfl]
      refine evb (rnumber_ev _ (by rw [ByteArray.size_extract]; omega)) ?_
      rw [bl_ext]
      unfold nmR
      cases hx : num2 (((bl t).take i).drop b) with
      | none => exact evn (by decide) (Ev.now _)
      | some x =>
        rw [Option.bind_some]
        refine evp rfl (evp (by omega) (evs rfl (evp (by omega) (evp (by omega) ?_))))
        rw [bt_bl t i hi, ec, w64 (n := (i : Int) + 1) (by omega) (by omega)]
        by_cases e10 : c = 10
        · rw [if_pos e10]
          have nl : (n ++ [x]).length = n.length + 1 := by simp
          refine evp (by rw [e10]; rfl) (evp (by rw [nl]; omega) (evp (by omega) (evp (by rw [nl]; omega) (evp (by omega) (evp (by omega) ?_)))))
          rw [Int.toNat_natCast, List.take_length]
          have R := rparse_l0 t hs d (i + 1) (i + 1) [] (o ++ [rd (n ++ [x]) 0]) (m ++ [(n ++ [x]).drop 1]) (by omega) (by omega) (by simp) (by simp; omega) (by simp; omega) (fun r hr2 => by
            rcases List.mem_append.1 hr2 with e | e
            · exact hr r e
            · rw [List.mem_singleton.1 e, List.length_drop, nl]; omega)
          rw [List.drop_eq_nil_of_le (show ((bl t).take (i + 1)).length ≤ i + 1 by rw [List.length_take]; omega)] at R
          exact R
        · rw [if_neg e10]
          have R := rparse_l0 t hs d (i + 1) (i + 1) (n ++ [x]) o m (by omega) (by omega) (by simp; omega) (by omega) (by omega) hr
          rw [List.drop_eq_nil_of_le (show ((bl t).take (i + 1)).length ≤ i + 1 by rw [List.length_take]; omega)] at R
          exact evn (fun q => e10 (UInt8.toNat_inj.1 (by show _ = 10; omega))) R
    by_cases h1 : ((bl t)[i].toNat : Int) = 32
    · have e : (bl t)[i] = 32 := UInt8.toNat_inj.1 (by show _ = 32; omega)
      rw [if_pos (Or.inl e)]
      exact evp h1 (hsep _ (Or.inl e) rfl)
    · refine evn h1 ?_
      by_cases h2 : ((bl t)[i].toNat : Int) = 10
      · have e : (bl t)[i] = 10 := UInt8.toNat_inj.1 (by show _ = 10; omega)
        rw [if_pos (Or.inr e), show (((bl t)[i].toNat : Int) != 10) = false by rw [h2]; rfl]
        exact hsep _ (Or.inr e) rfl
      · rw [if_neg (fun q => by rcases q with q | q <;> rw [q] at h1 h2 <;> first | exact h1 rfl | exact h2 rfl), show (((bl t)[i].toNat : Int) != 10) = true from bne_iff_ne.2 h2]
        refine Ev.step (fun k => wigeonref04_Parse.j1.eq_2 ..) (evp rfl ?_)
        rw [w64 (n := (i : Int) + 1) (by omega) (by omega), ← hc]
        exact rparse_l0 t hs d (i + 1) b n o m (by omega) (by omega) (by omega) (by omega) (by omega) hr
theorem rparse_ev (t : ByteArray) (hs : t.size ≤ 4000) : Ev (fun k => wigeonref04_Parse.f k t) (finR (bl t) (rAll (bl t) [] [] [] [])) := by
  unfold wigeonref04_Parse.f
  have R := rparse_l0 t hs t.size 0 0 [] [] [] (by omega) (by omega) (by simp) (by simp) (by simp) (fun r hr => absurd hr (by simp))
  rw [List.drop_zero, List.take_zero, List.drop_zero] at R
  exact evn (by omega) R

theorem dec_no (n : Nat) (c : UInt8) (hc : c.toNat < 48) : (Lib.decDigits n).count c = 0 :=
  List.count_eq_zero.2 fun q => by have := dec_digs n c q; omega
theorem it_no (x : Int) (h : 0 ≤ x ∧ x < 16) (c : UInt8) (hc : c.toNat < 48) : (Lib.itoa x).count c = 0 := by
  obtain ⟨n, rfl, _, e⟩ := it_dec x h
  rw [e]; exact dec_no n c hc
theorem it_num (x : Int) (h : 0 ≤ x ∧ x < 16) : num2 (Lib.itoa x) = some x := by
  obtain ⟨n, rfl, hn, e⟩ := it_dec x h
  have l1 : 1 ≤ (Lib.decDigits n).length := List.length_pos_iff.2 (dec_ne n)
  have l2 := dec_len 1 n (by omega)
  unfold num2
  rw [e, if_pos ⟨l1, by omega, List.all_eq_true.2 fun c hc => decide_eq_true (dec_digs n c hc)⟩, dec_val]
theorem it_at1 (x : Int) (h : 0 ≤ x ∧ x < 16) : at1 (ofL (Lib.itoa x)) = some x := by
  obtain ⟨n, rfl, hn, e⟩ := it_dec x h
  unfold at1
  rw [bl_ofL, e, atoi_dec n (by omega)]
theorem rAll_word : ∀ (W l cur : List UInt8) (n o : List Int) (m : List (List Int)), W.count 32 = 0 → W.count 10 = 0 → rAll (W ++ l) cur n o m = rAll l (cur ++ W) n o m
  | [], l, cur, n, o, m, _, _ => by simp
  | c :: W, l, cur, n, o, m, h1, h2 => by
    have c1 : ¬ c = 32 := fun e => by subst e; simp at h1
    have c2 : ¬ c = 10 := fun e => by subst e; simp at h2
    rw [List.cons_append, rAll, if_neg (fun q => q.elim c1 c2), rAll_word W l _ n o m (by rwa [List.count_cons_of_ne c1] at h1) (by rwa [List.count_cons_of_ne c2] at h2)]
    simp
theorem rAll_row (rest : List UInt8) (o : List Int) (m : List (List Int)) : ∀ (ks : List Int) (x : Int) (n : List Int), (0 ≤ x ∧ x < 16) → (∀ k ∈ ks, 0 ≤ k ∧ k < 16) →
    rAll (Lib.itoa x ++ (mvT ks ++ 10 :: rest)) [] n o m = rAll rest [] [] (o ++ [rd (n ++ x :: ks) 0]) (m ++ [(n ++ x :: ks).drop 1])
  | [], x, n, hx, _ => by
    rw [rAll_word _ _ _ _ _ _ (it_no x hx 32 (by decide)) (it_no x hx 10 (by decide)), List.nil_append, show mvT [] ++ 10 :: rest = 10 :: rest from rfl, rAll, if_pos (Or.inr rfl), it_num x hx, Option.bind_some, if_pos rfl]
  | k :: ks, x, n, hx, hk => by
    rw [rAll_word _ _ _ _ _ _ (it_no x hx 32 (by decide)) (it_no x hx 10 (by decide)), List.nil_append, mvT_cons, List.cons_append, rAll, if_pos (Or.inl rfl), it_num x hx, Option.bind_some, if_neg (by decide), List.append_assoc,
      rAll_row rest o m ks k (n ++ [x]) (hk k (by simp)) (fun z hz => hk z (by simp [hz]))]
    simp
theorem take_row {mv : List (List Int)} (i : Nat) (h : i < mv.length) : mv.take (i + 1) = mv.take i ++ [rd_L1 mv (i : Int)] := by
  rw [List.take_succ_eq_append_getElem h, show rd_L1 mv (i : Int) = mv[i] by simp [rd_L1, List.getD_eq_getElem?_getD, List.getElem?_eq_getElem h]]
theorem take_own {own : List Int} (i : Nat) (h : i < own.length) : own.take (i + 1) = own.take i ++ [rd own (i : Int)] := by
  rw [List.take_succ_eq_append_getElem h, rd_at own i h]
theorem rAll_fmt {own : List Int} {mv : List (List Int)} (G : VG own mv) : ∀ d i : Nat, i + d = own.length → rAll (fmtD own mv d i) [] [] (own.take i) (mv.take i) = some (own, mv)
  | 0, i, h => by
    have := G.len
    rw [fmtD, rAll, List.take_of_length_le (by omega), List.take_of_length_le (by omega)]
  | d + 1, i, h => by
    have hl := G.len
    have hi : i < own.length := by omega
    have R := rAll_row (fmtD own mv d (i + 1)) (own.take i) (mv.take i) (rd_L1 mv (i : Int)) (rd own (i : Int)) [] (G.o16 i hi) (G.k16 i hi)
    rw [fmtD, rowT, List.append_assoc, List.append_assoc, List.singleton_append, R, List.nil_append, List.drop_one, List.tail_cons, show rd (rd own (i : Int) :: rd_L1 mv (i : Int)) 0 = rd own (i : Int) from rfl, ← take_own i hi, ← take_row i (by omega)]
    exact rAll_fmt G d (i + 1) (by omega)
theorem splC_mv : ∀ (ks : List Int) (x : Int), (0 ≤ x ∧ x < 16) → (∀ k ∈ ks, 0 ≤ k ∧ k < 16) → splC 32 [] (Lib.itoa x ++ mvT ks) = Lib.itoa x :: ks.map Lib.itoa
  | [], x, hx, _ => by
    rw [show mvT [] = [] from rfl, List.append_nil, splC_none _ _ _ (it_no x hx 32 (by decide))]; rfl
  | k :: ks, x, hx, hk => by
    rw [mvT_cons, splC_app _ _ _ _ (it_no x hx 32 (by decide)), List.nil_append, splC_mv ks k (hk k (by simp)) (fun z hz => hk z (by simp [hz]))]; rfl
theorem ats_it : ∀ ks : List Int, (∀ k ∈ ks, 0 ≤ k ∧ k < 16) → ats ((ks.map Lib.itoa).map ofL) = some ks
  | [], _ => rfl
  | k :: ks, h => by
    rw [List.map_cons, List.map_cons, ats, it_at1 k (h k (by simp)), Option.bind_some, ats_it ks (fun z hz => h z (by simp [hz]))]; rfl
def linD (own : List Int) (mv : List (List Int)) : Nat → Nat → List (List UInt8)
  | 0, _ => []
  | d + 1, i => (Lib.itoa (rd own (i : Int)) ++ mvT (rd_L1 mv (i : Int))) :: linD own mv d (i + 1)
theorem mvT_no : ∀ ks : List Int, (∀ k ∈ ks, 0 ≤ k ∧ k < 16) → (mvT ks).count 10 = 0
  | [], _ => rfl
  | k :: ks, h => by
    rw [mvT_cons, List.count_cons_of_ne (by decide), List.count_append, it_no k (h k (by simp)) 10 (by decide), mvT_no ks (fun z hz => h z (by simp [hz]))]
theorem splC_fmt {own : List Int} {mv : List (List Int)} (G : VG own mv) : ∀ d i : Nat, i + d = own.length → splC 10 [] (fmtD own mv d i) = linD own mv d i ++ [[]]
  | 0, i, h => rfl
  | d + 1, i, h => by
    have hi : i < own.length := by omega
    have hz : (Lib.itoa (rd own (i : Int)) ++ mvT (rd_L1 mv (i : Int))).count 10 = 0 := by rw [List.count_append, it_no _ (G.o16 i hi) 10 (by decide), mvT_no _ (G.k16 i hi)]
    rw [fmtD, rowT, ← List.append_assoc, List.append_assoc, List.singleton_append, splC_app _ _ _ _ hz, splC_fmt G d (i + 1) (by omega)]; rfl
theorem splC_snoc (c : UInt8) : ∀ (T cur : List UInt8), splC c cur (T ++ [c]) = splC c cur T ++ [[]]
  | [], cur => by rw [List.nil_append, splC_cons, if_pos rfl]; rfl
  | x :: T, cur => by
    rw [List.cons_append, splC_cons, splC_cons]
    split
    · rw [splC_snoc c T []]; rfl
    · exact splC_snoc c T _
theorem pAll_lin {own : List Int} {mv : List (List Int)} (G : VG own mv) : ∀ d i : Nat, i + d = own.length → pAll ((linD own mv d i).map ofL) (own.take i) (mv.take i) = some (own, mv)
  | 0, i, h => by
    have := G.len
    rw [linD, List.map_nil, pAll, List.take_of_length_le (by omega), List.take_of_length_le (by omega)]
  | d + 1, i, h => by
    have hl := G.len
    have hi : i < own.length := by omega
    have A := ats_it (rd own (i : Int) :: rd_L1 mv (i : Int)) (fun k hk => by
      rcases List.mem_cons.1 hk with e | e
      · rw [e]; exact G.o16 i hi
      · exact G.k16 i hi k e)
    rw [List.map_cons] at A
    rw [linD, List.map_cons, pAll]
    unfold spl
    rw [bl_ofL, splC_mv _ _ (G.o16 i hi) (G.k16 i hi), A, Option.bind_some, List.drop_one, List.tail_cons, show rd (rd own (i : Int) :: rd_L1 mv (i : Int)) 0 = rd own (i : Int) from rfl, ← take_own i hi, ← take_row i (by omega)]
    exact pAll_lin G d (i + 1) (by omega)
theorem fmt_end {own : List Int} {mv : List (List Int)} : ∀ d i : Nat, ∃ T, fmtD own mv (d + 1) i = T ++ [10]
  | 0, i => ⟨Lib.itoa (rd own (i : Int)) ++ mvT (rd_L1 mv (i : Int)), by simp [fmtD, rowT]⟩
  | d + 1, i => by
    obtain ⟨T, e⟩ := fmt_end (own := own) (mv := mv) d (i + 1)
    exact ⟨rowT (rd own (i : Int)) (rd_L1 mv (i : Int)) ++ T, by rw [fmtD, e, List.append_assoc]⟩
theorem finR_no {t : List UInt8} (H : ¬ ∃ o m, vlR o m = 0 ∧ fmtD o m o.length 0 = t) : ∀ q, finR t q = errR
  | none => rfl
  | some p => if_neg fun z => H ⟨p.1, p.2, z⟩
theorem finR_ok {t : List UInt8} {o : List Int} {m : List (List Int)} (h : vlR o m = 0 ∧ fmtD o m o.length 0 = t) : finR t (some (o, m)) = (o, m, 0) := if_pos h
theorem both (t : ByteArray) (hs : t.size ≤ 4000) : ∃ R : List Int × List (List Int) × Int, Ev (fun k => lure_Parse.f k t) R ∧ Ev (fun k => wigeonref04_Parse.f k t) R ∧ (R.1.length ≤ 16 ∧ R.2.1.length ≤ 16 ∧ ∀ r ∈ R.2.1, r.length ≤ 16) ∧ ∀ o m, vlR o m = 0 → fmtD o m o.length 0 = bl t → R = (o, m, 0) := by
  obtain ⟨ls, P, hls⟩ := parse_ev t hs
  have Q := rparse_ev t hs
  by_cases H : ∃ o m, vlR o m = 0 ∧ fmtD o m o.length 0 = bl t
  · have key : ∀ o m, vlR o m = 0 → fmtD o m o.length 0 = bl t → pAll ls [] [] = some (o, m) ∧ rAll (bl t) [] [] [] [] = some (o, m) := by
      intro o m hv hf
      have G := VG.mk' hv
      have n1 := G.n1
      refine ⟨?_, by rw [← hf]; exact rAll_fmt G o.length 0 (by omega)⟩
      obtain ⟨T, e⟩ := fmt_end (own := o) (mv := m) (o.length - 1) 0
      rw [show o.length - 1 + 1 = o.length by omega] at e
      have S := splC_fmt G o.length 0 (by omega)
      rw [e, splC_snoc] at S
      rw [hls T (by rw [← hf, e]), List.append_cancel_right S]
      exact pAll_lin G o.length 0 (by omega)
    obtain ⟨o, m, hv, hf⟩ := H
    have G := VG.mk' hv
    have n2 := G.n2
    have gl := G.len
    obtain ⟨k1, k2⟩ := key o m hv hf
    rw [k1, finR_ok ⟨hv, hf⟩] at P
    rw [k2, finR_ok ⟨hv, hf⟩] at Q
    refine ⟨(o, m, 0), P, Q, ⟨n2, by show m.length ≤ 16; omega, fun r hr => ?_⟩, fun o' m' hv' hf' => ?_⟩
    · obtain ⟨i, hi, rfl⟩ := List.getElem_of_mem hr
      have hi2 : i < m.length := hi
      have := G.mlen i (by omega)
      rwa [show rd_L1 m (i : Int) = m[i] by simp [rd_L1, List.getD_eq_getElem?_getD, List.getElem?_eq_getElem hi2]] at this
    · obtain ⟨k3, _⟩ := key o' m' hv' hf'
      rw [k1] at k3
      obtain ⟨rfl, rfl⟩ := Prod.mk.inj (Option.some.inj k3)
      rfl
  · rw [finR_no H] at P Q
    exact ⟨errR, P, Q, ⟨by decide, by decide, fun r hr => absurd hr (by simp [errR])⟩, fun o m hv hf => absurd ⟨o, m, hv, hf⟩ H⟩

theorem sameg_l0 (o : List Int) (m : List (List Int)) (hm : m.length ≤ 100) (hr : ∀ r ∈ m, r.length ≤ 100) : ∀ d i : Nat, i + d = m.length → Ev (fun k => wigeonref04_Same.l0 k (i : Int) o m o m) true
  | 0, i, h => Ev.step (fun k => wigeonref04_Same.l0.eq_2 ..) (evn (by omega) (Ev.now _))
  | d + 1, i, h => by
    have hi : i < m.length := by omega
    have e : rd_L1 m (i : Int) = m[i] := by simp [rd_L1, List.getD_eq_getElem?_getD, List.getElem?_eq_getElem hi]
    refine Ev.step (fun k => wigeonref04_Same.l0.eq_2 ..) (evp (by omega) (evp (by omega) (evp (by omega) ?_)))
    rw [e, w64 (n := (i : Int) + 1) (by omega) (by omega)]
    exact evb (same_ev _ (by have := hr _ (List.getElem_mem hi); omega)) (evp rfl (sameg_l0 o m hm hr d (i + 1) (by omega)))
theorem sameg_ev (o : List Int) (m : List (List Int)) (ho : o.length ≤ 100) (hm : m.length ≤ 100) (hr : ∀ r ∈ m, r.length ≤ 100) : Ev (fun k => wigeonref04_Same.f k o m o m) true := by
  unfold wigeonref04_Same.f
  refine evb (same_ev o (by omega)) (evp rfl ?_)
  rw [bne_self_eq_false]
  exact Ev.step (fun k => wigeonref04_Same.j0.eq_2 ..) (evn (by decide) (sameg_l0 o m hm hr m.length 0 (by omega)))

theorem LureTexts (a0_0 : List Int) (a0_1 : List (List Int)) (a1 : ByteArray) (h0_0 : (a0_0.length ≤ 9223372036854775807 ∧ ∀ x_ ∈ a0_0, (Lit.int .i64 x_).wf = true)) (h0_1 : (a0_1.length ≤ 9223372036854775807 ∧ ∀ x_ ∈ a0_1, (x_.length ≤ 9223372036854775807 ∧ ∀ x__ ∈ x_, (Lit.int .i64 x__).wf = true))) (h1 : a1.size ≤ 9223372036854775807) : ∃ k, wigeonlaw04_LureTexts.f k a0_0 a0_1 a1 = some true := by
  refine Ev.rounds (g := fun k => wigeonlaw04_LureTexts.f k a0_0 a0_1 a1) ?_
  unfold wigeonlaw04_LureTexts.f
  have kn : Ev (fun k => wigeonlaw04_LureTexts.j0 k a1 true a0_0 a0_1) true := Ev.step (fun k => wigeonlaw04_LureTexts.j0.eq_2 ..) (evp rfl (evb known_ev (Ev.now _)))
  refine evb (large_ev a0_0 a0_1) ?_
  by_cases h : lgB a0_0 a0_1 = true
  · exact evp h kn
  refine evn h ?_
  obtain ⟨g1, g2, g3⟩ := large_not h
  by_cases h2 : (a1.size : Int) > 20000
  · rw [decide_eq_true h2]; exact kn
  rw [decide_eq_false h2]
  have hs : ∀ m ∈ a0_1, m.length ≤ 10000 := fun m hm => by have := g3 m hm; omega
  obtain ⟨R, P, Q, ⟨r1, r2, r3⟩, _⟩ : ∃ R : List Int × List (List Int) × Int, Ev (fun k => lure_Parse.f k a1) R ∧ Ev (fun k => wigeonref04_Parse.f k a1) R ∧ (R.1.length ≤ 16 ∧ R.2.1.length ≤ 16 ∧ ∀ r ∈ R.2.1, r.length ≤ 16) ∧ True := by
    by_cases h3 : a1.size ≤ 4000
    · obtain ⟨R, P, Q, r, _⟩ := both a1 h3
      exact ⟨R, P, Q, r, trivial⟩
    · refine ⟨([], [], 3), ?_, ?_, ⟨by decide, by decide, fun r hr => absurd hr (by simp)⟩, trivial⟩
      · unfold lure_Parse.f; exact evp (by omega) (Ev.now _)
      · unfold wigeonref04_Parse.f; exact evp (by omega) (Ev.now _)
  refine Ev.step (fun k => wigeonlaw04_LureTexts.j0.eq_2 ..) (evn (by decide) (evb (Format_ev _ _ hs) (evb (rFormat_ev _ _ hs) (evb P (evb Q (evp rfl (evp rfl (evb (sameg_ev _ _ (by omega) (by omega) (fun r hr => by have := r3 r hr; omega)) (evp rfl ?_)))))))))
  rw [bne_self_eq_false]
  by_cases hv : vlR a0_0 a0_1 = 0
  · have G := VG.mk' hv
    have n2 := G.n2
    have fl := fmt_len G a0_0.length 0 (by omega)
    have e : fmR a0_0 a0_1 = (ofL (fmtD a0_0 a0_1 a0_0.length 0), 0) := if_pos hv
    rw [e]
    obtain ⟨S, A, _, _, s4⟩ := both (ofL (fmtD a0_0 a0_1 a0_0.length 0)) (by rw [ofL_size]; omega)
    rw [s4 a0_0 a0_1 hv (by rw [bl_ofL])] at A
    exact Ev.step (fun k => wigeonlaw04_LureTexts.j1.eq_2 ..) (evn (by decide) (evb A (evp rfl (evp rfl (evb (sameg_ev _ _ g1 g2 g3) (evp rfl (evb known_ev (Ev.now _))))))))
  · have e : fmR a0_0 a0_1 = (⟨#[]⟩, vlR a0_0 a0_1) := if_neg hv
    rw [e]
    obtain ⟨S, A, _⟩ := both ⟨#[]⟩ (by decide)
    exact Ev.step (fun k => wigeonlaw04_LureTexts.j1.eq_2 ..) (evn (by decide) (evb A (evn hv (evb known_ev (Ev.now _)))))

end Go.Proofs.YtjiheojjfnfmaaaDoor.Pure

