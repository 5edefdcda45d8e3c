/- Of the text PureCountHistories, what the row of CountHistories reaches. -/
import Derived.Test.YtkmhccllligcmaaDoorZCountHistoriesCHx24
namespace Go.Proofs.YtkmhccllligcmaaDoor.Pure
set_option linter.unusedVariables false
set_option linter.unusedSimpArgs false
open Go.RowKit Go.Proofs.YtkmhccllligcmaaDoor.CH Go.Proofs.YtkmhccllligcmaaDoorW.PrintWords Go.Proofs.YtkmhccllligcmaaDoorW.PrintLast Go.Proofs.YtkmhccllligcmaaDoorW.PrintMore

theorem evp {α : Type} {c : Prop} [Decidable c] {f g : Nat → Option α} {r : α} (h : c) (k : Ev f r) : Ev (fun n => if c then f n else g n) r :=
  Ev.congr (fun _ => if_pos h) k
theorem evn {α : Type} {c : Prop} [Decidable c] {f g : Nat → Option α} {r : α} (h : ¬ c) (k : Ev g r) : Ev (fun n => if c then f n else g n) r :=
  Ev.congr (fun _ => if_neg h) k
theorem evb {α β : Type} {g : Nat → Option α} {f : Nat → α → Option β} {a : α} {r : β} (h : Ev g a) (k : Ev (fun n => f n a) r) : Ev (fun n => (g n).bind (f n)) r := Ev.bind h k
theorem evs {α β : Type} {x : Option α} {f : Nat → α → Option β} {a : α} {r : β} (h : x = some a) (k : Ev (fun n => f n a) r) : Ev (fun n => x.bind (f n)) r := by
  subst h; exact k
theorem w64 {n : Int} (h : -9223372036854775808 ≤ n) (h2 : n ≤ 9223372036854775807) : wrap64 n = n := by unfold wrap64; omega
theorem rd_at (l : List Int) (i : Nat) (h : i < l.length) : rd l (i : Int) = l[i] := by
  simp [rd, List.getD_eq_getElem?_getD, List.getElem?_eq_getElem h]

/-- on which days a bird was caught -/
def hb (s : ByteArray) : List Bool := s.data.toList.map (fun b => b == 49)
theorem hb_len (s : ByteArray) : (hb s).length = s.size := by simp [hb]
theorem rdOf_at (l : List ByteArray) (i : Nat) (h : i < l.length) : rdOf ByteArray.empty l (i : Int) = l[i] := by
  simp [rdOf, List.getD_eq_getElem?_getD, List.getElem?_eq_getElem h]
theorem bt_val (s : ByteArray) (i : Nat) (h : i < s.size) : bt s (i : Int) = ((s.data.toList[i]'(by simpa using h)).toNat : Int) := by
  unfold bt
  rw [dif_pos (by simpa using h)]
  rfl
theorem bt_49 (s : ByteArray) (i : Nat) (h : i < s.size) : (bt s (i : Int) = 49) ↔ (hb s).getD i false = true := by
  have hl : i < s.data.toList.length := by simpa using h
  rw [bt_val s i h]
  have e : (hb s).getD i false = (s.data.toList[i] == 49) := by
    unfold hb
    rw [List.getD_eq_getElem?_getD, List.getElem?_map, List.getElem?_eq_getElem hl]
    rfl
  rw [e, beq_iff_eq]
  constructor
  · intro q; exact UInt8.toNat_inj.1 (by show _ = 49; omega)
  · intro q; rw [q]; rfl
/-- caught from day i on, ahead of day j -/
def cau (h : List Bool) (i j : Nat) : Bool := ((h.drop i).take (j - i)).any id
theorem cau_nil (h : List Bool) (i j : Nat) (k : j ≤ i) : cau h i j = false := by
  unfold cau; rw [show j - i = 0 by omega]; simp
theorem cau_step (h : List Bool) (i j : Nat) (k : i < j) (hl : i < h.length) : cau h i j = (h.getD i false || cau h (i + 1) j) := by
  unfold cau
  rw [List.drop_eq_getElem_cons hl, show j - i = (j - (i + 1)) + 1 by omega, List.take_succ_cons, List.any_cons]
  rw [List.getD_eq_getElem?_getD, List.getElem?_eq_getElem hl]
  rfl
theorem cau_end (h : List Bool) (i : Nat) : ∀ (n j : Nat), j = i + n → j < h.length → cau h i (j + 1) = (cau h i j || h.getD j false)
  | 0, j, e, hl => by
    obtain rfl : j = i := by omega
    rw [cau_step h j (j + 1) (by omega) hl, cau_nil _ _ _ (Nat.le_refl _), cau_nil _ _ _ (Nat.le_refl _), Bool.or_false, Bool.false_or]
  | n + 1, j, e, hl => by
    rw [cau_step h i (j + 1) (by omega) (by omega), cau_step h i j (by omega) (by omega), cau_end h (i + 1) n j (by omega) hl, Bool.or_assoc]
theorem caught_l0 (s : ByteArray) (hs : s.size ≤ 1000) : ∀ (n i j : Nat), j = i + n → j ≤ s.size → Ev (fun k => wigeonref06_caught.l0 k s (j : Int) (i : Int)) (cau (hb s) i j)
  | 0, i, j, e, hj => by
    rw [cau_nil _ _ _ (by omega)]
    exact Ev.step (fun k => wigeonref06_caught.l0.eq_2 ..) (evn (by omega) (Ev.now _))
  | n + 1, i, j, e, hj => by
    have hi : i < s.size := by omega
    rw [cau_step (hb s) i j (by omega) (by rw [hb_len]; exact hi)]
    refine Ev.step (fun k => wigeonref06_caught.l0.eq_2 ..) (evp (by omega) (evp (by omega) (evp (by omega) ?_)))
    by_cases z : bt s (i : Int) = 49
    · rw [(bt_49 s i hi).1 z]; exact evp z (Ev.now _)
    · rw [Bool.eq_false_iff.2 (fun q => z ((bt_49 s i hi).2 q)), Bool.false_or]
      refine evn z ?_
      rw [w64 (by omega) (by omega)]
      exact caught_l0 s hs n (i + 1) j (by omega) hj
theorem caught_ev (s : ByteArray) (hs : s.size ≤ 1000) (i j : Nat) (hj : j ≤ s.size) : Ev (fun k => wigeonref06_caught.f k s (i : Int) (j : Int)) (cau (hb s) i j) := by
  by_cases h : i ≤ j
  · exact caught_l0 s hs (j - i) i j (by omega) hj
  · rw [cau_nil _ _ _ (by omega)]
    show Ev (fun k => wigeonref06_caught.l0 k s (j : Int) (i : Int)) _
    exact Ev.step (fun k => wigeonref06_caught.l0.eq_2 ..) (evn (by omega) (Ev.now _))

theorem idx_lo (c : UInt8) : ∀ l : List UInt8, -1 ≤ Lib.indexByte l c
  | [] => by simp [Lib.indexByte]
  | b :: l => by
    have := idx_lo c l
    unfold Lib.indexByte
    split
    · omega
    · split <;> omega
theorem idx_any : ∀ l : List UInt8, decide (0 ≤ Lib.indexByte l 49) = l.any (fun b => b == 49)
  | [] => by simp [Lib.indexByte]
  | b :: l => by
    have ih := idx_any l
    have lo := idx_lo 49 l
    unfold Lib.indexByte
    rw [List.any_cons]
    by_cases h : (b == 49) = true
    · rw [if_pos h, h]; simp
    · rw [if_neg h, Bool.eq_false_iff.2 h, Bool.false_or, ← ih]
      by_cases z : (Lib.indexByte l 49 == -1) = true
      · rw [if_pos z]
        have z' : Lib.indexByte l 49 = -1 := by simpa using z
        rw [z']
      · rw [if_neg z]
        have z' : Lib.indexByte l 49 ≠ -1 := by simpa using z
        exact decide_eq_decide.2 (by omega)
theorem contains_eq (a : ByteArray) : strings_Contains.f a (⟨#[49]⟩ : ByteArray) = some ((hb a).any id) := by
  unfold strings_Contains.f
  rw [if_pos rfl, idx_any]
  unfold hb
  rw [List.any_map]
  rfl
theorem hb_extract (s : ByteArray) (a b : Nat) : hb (s.extract a b) = ((hb s).drop a).take (b - a) := by
  unfold hb
  rw [← Lib.toList_data, Lib.extract_toList, ← List.map_drop, ← List.map_take]
theorem contains_cut (s : ByteArray) (a b : Nat) : strings_Contains.f (s.extract a b) (⟨#[49]⟩ : ByteArray) = some (cau (hb s) a b) := by
  rw [contains_eq, hb_extract]; rfl

theorem on_eq (s : ByteArray) (d : Nat) (h : d < s.size) : count_bird_on.f s (d : Int) = some ((hb s).getD d false) := by
  unfold count_bird_on.f
  rw [if_pos (by omega), if_pos (by omega)]
  have := bt_49 s d h
  by_cases z : bt s (d : Int) = 49
  · rw [z, this.1 z]; rfl
  · rw [Bool.eq_false_iff.2 (fun q => z (this.2 q))]; simpa using z
theorem ahead_eq (s : ByteArray) (d : Nat) (h : d ≤ s.size) : count_bird_ahead.f s (d : Int) = some (cau (hb s) 0 d) := by
  unfold count_bird_ahead.f
  rw [if_pos (by omega), if_pos (by omega), Int.toNat_natCast, contains_cut]
  rfl
theorem c1_eq (s : ByteArray) (d : Nat) (h : d < s.size) : count_Catches_1.f s (d : Int) = some ((hb s).getD d false && cau (hb s) 0 d) := by
  unfold count_Catches_1.f
  rw [on_eq s d h, ahead_eq s d (by omega)]
  cases (hb s).getD d false <;> rfl
def freshB (h : List Bool) (d : Nat) : Bool := h.getD d false && !cau h 0 d
theorem fresh_eq (s : ByteArray) (d : Nat) (h : d < s.size) : count_bird_fresh.f s (d : Int) = some (freshB (hb s) d) := by
  unfold count_bird_fresh.f freshB
  rw [on_eq s d h, ahead_eq s d (by omega)]
  cases (hb s).getD d false <;> cases cau (hb s) 0 d <;> rfl

def okB (s : ByteArray) : Bool := s.data.toList.all (fun b => b == 48 || b == 49)
def dys (l : List ByteArray) : Nat := (l.headD ByteArray.empty).size
def vhs (n : Nat) : List ByteArray → Int
  | [] => 0
  | s :: l => if s.size > 8 then 3 else if s.size = n ∧ okB s = true then (if (hb s).any id = true then vhs n l else 8) else 1
def vhR (l : List ByteArray) : Int := if l.length > 60 then 3 else vhs (dys l) l
theorem days_eq (l : List ByteArray) : count_days.f l = some (dys l : Int) := by
  unfold count_days.f dys
  cases l with
  | nil => rfl
  | cons s l =>
    rw [if_neg (by simp <;> omega), if_pos (by simp <;> omega)]
    rfl
theorem rdays_eq (l : List ByteArray) : wigeonref06_days.f l = some (dys l : Int) := by
  unfold wigeonref06_days.f dys
  cases l with
  | nil => rfl
  | cons s l =>
    rw [if_neg (by simp <;> omega), if_pos (by simp <;> omega)]
    rfl
theorem dropWhile_nil {α : Type} (p : α → Bool) : ∀ l : List α, (l.dropWhile p).isEmpty = l.all p
  | [] => rfl
  | x :: l => by
    rw [List.dropWhile_cons, List.all_cons]
    cases h : p x
    · simp
    · simpa using dropWhile_nil p l
theorem dropWhile_all {α : Type} (p : α → Bool) (l : List α) (h : l.all p = true) : l.dropWhile p = [] := by
  have := dropWhile_nil p l
  rw [h] at this
  exact List.isEmpty_iff.1 this
theorem trim_eq (s : ByteArray) (hs : s.size ≤ 1000) : ∃ r, strings_Trim.f s (⟨#[48, 49]⟩ : ByteArray) = some r ∧ (r.toList != ([] : List UInt8)) = !okB s := by
  refine ⟨⟨(Lib.trimS s.data.toList [48, 49]).toArray⟩, by unfold strings_Trim.f; rw [if_pos ⟨rfl, by omega⟩], ?_⟩
  rw [Lib.toList_data]
  show (((Lib.trimS s.data.toList [48, 49]).toArray).toList != ([] : List UInt8)) = _
  rw [List.toList_toArray]
  have cp : (fun b : UInt8 => [48, 49].contains b) = fun b => b == 48 || b == 49 := by
    funext b; simp [List.contains, List.elem]
    cases h1 : b == 48 <;> cases h2 : b == 49 <;> simp_all
  unfold Lib.trimS Lib.trimLeftS Lib.trimRightS okB
  rw [cp]
  by_cases h : s.data.toList.all (fun b => b == 48 || b == 49) = true
  · have z := dropWhile_all (fun b : UInt8 => b == 48 || b == 49) s.data.toList.reverse (by rw [List.all_reverse]; exact h)
    rw [h, z]; rfl
  · rw [Bool.eq_false_iff.2 h]
    have h1 : (s.data.toList.reverse.dropWhile (fun b => b == 48 || b == 49)).isEmpty = false := by rw [dropWhile_nil, List.all_reverse]; exact Bool.eq_false_iff.2 h
    -- its first one is neither
    obtain ⟨x, t, e⟩ : ∃ x t, s.data.toList.reverse.dropWhile (fun b => b == 48 || b == 49) = x :: t := by
      cases q : s.data.toList.reverse.dropWhile (fun b => b == 48 || b == 49) with
      | nil => rw [q] at h1; cases h1
      | cons x t => exact ⟨x, t, rfl⟩
    have hx : (x == 48 || x == 49) = false := by
      have := List.head?_dropWhile_not (fun b : UInt8 => b == 48 || b == 49) s.data.toList.reverse
      rw [e] at this
      simpa using this
    have h2 : ((x :: t).reverse.dropWhile (fun b => b == 48 || b == 49)).isEmpty = false := by
      rw [dropWhile_nil, List.all_reverse, List.all_cons, hx]; rfl
    rw [e]
    cases q : (x :: t).reverse.dropWhile (fun b => b == 48 || b == 49) with
    | nil => rw [q] at h2; cases h2
    | cons => rfl

theorem vh_l0 (L : List ByteArray) (hL : L.length ≤ 60) : ∀ (d i : Nat), i + d = L.length → Ev (fun k => count_ValidateHistories.l0 k L L (L.length : Int) (i : Int)) (vhs (dys L) (L.drop i))
  | 0, i, h => by
    rw [List.drop_of_length_le (by omega)]
    exact Ev.step (fun k => count_ValidateHistories.l0.eq_2 ..) (evn (by omega) (Ev.now _))
  | d + 1, i, h => by
    have hi : i < L.length := by omega
    have R := vh_l0 L hL d (i + 1) (by omega)
    have ws : wrap64 ((i : Int) + 1) = ((i + 1 : Nat) : Int) := by rw [w64 (by omega) (by omega)]; rfl
    rw [List.drop_eq_getElem_cons hi]
    refine Ev.step (fun k => count_ValidateHistories.l0.eq_2 ..) (evp (by omega) (evp (by omega) (evp (by omega) ?_)))
    rw [rdOf_at L i hi]
    generalize L[i] = s at *
    unfold vhs
    by_cases z : s.size > 8
    · rw [if_pos z]; exact evp (by omega) (Ev.now _)
    · rw [if_neg z]
      refine evn (by omega) (evs (days_eq L) ?_)
      have J : ∀ b : Bool, Ev (fun k => count_ValidateHistories.j1 k L s L (L.length : Int) (i : Int) b) (if b = true then 1 else (if (hb s).any id = true then vhs (dys L) (L.drop (i + 1)) else 8)) := fun b => by
        refine Ev.step (fun k => count_ValidateHistories.j1.eq_2 ..) ?_
        cases b with
        | true => exact evp rfl (Ev.now _)
        | false =>
          refine evn (by simp) (evs (contains_eq s) ?_)
          rw [if_neg (by simp)]
          by_cases y : (hb s).any id = true
          · rw [if_pos y]; refine evp y ?_; rw [ws]; exact R
          · rw [if_neg y]; exact evn y (Ev.now _)
      by_cases y : s.size = dys L
      · obtain ⟨r, e1, e2⟩ := trim_eq s (by omega)
        refine evp (by omega) (evs e1 ?_)
        rw [e2]
        have := J (!okB s)
        by_cases q : okB s = true
        · rw [if_pos ⟨y, q⟩]
          rw [q] at this ⊢
          simpa using this
        · rw [if_neg (fun k => q k.2)]
          rw [Bool.eq_false_iff.2 q] at this ⊢
          simpa using this
      · rw [if_neg (fun k => y k.1)]
        exact evn (by omega) (by simpa using J true)
theorem vh_ev (L : List ByteArray) (hL : L.length ≤ 1000) : Ev (fun k => count_ValidateHistories.f k L) (vhR L) := by
  unfold count_ValidateHistories.f vhR
  by_cases h : L.length > 60
  · rw [if_pos h]; exact evp (by omega) (Ev.now _)
  · rw [if_neg h]; exact evn (by omega) (by simpa using vh_l0 L (by omega) L.length 0 (by omega))
theorem all_drop {s : ByteArray} {j : Nat} (h : j < s.size) : (s.data.toList.drop j).all (fun b => b == 48 || b == 49) = ((bt s (j : Int) == 48 || bt s (j : Int) == 49) && (s.data.toList.drop (j + 1)).all (fun b => b == 48 || b == 49)) := by
  have hl : j < s.data.toList.length := by simpa using h
  rw [List.drop_eq_getElem_cons hl, List.all_cons, bt_val s j h]
  congr 1
  generalize s.data.toList[j] = c
  have e : ∀ n : Nat, n < 256 → (c == UInt8.ofNat n) = (((c.toNat : Nat) : Int) == (n : Int)) := fun n hn => by
    by_cases q : c = UInt8.ofNat n
    · subst q; simp [Nat.mod_eq_of_lt hn]
    · have : c.toNat ≠ n := fun k => q (UInt8.toNat_inj.1 (by rw [k]; simp [Nat.mod_eq_of_lt hn]))
      rw [beq_eq_false_iff_ne.2 q, beq_eq_false_iff_ne.2 (by omega)]
  rw [show (48 : UInt8) = UInt8.ofNat 48 from rfl, show (49 : UInt8) = UInt8.ofNat 49 from rfl, e 48 (by omega), e 49 (by omega)]
  rfl
theorem rvh_l1 (L : List ByteArray) (i : Nat) (hi : i < L.length) (hL : L.length ≤ 60) (hs : (L[i]).size ≤ 8) (r : Int) (H : Ev (fun k => wigeonref06_ValidateHistories.l0 k L (((i + 1 : Nat)) : Int)) r) :
    ∀ (d j : Nat), j + d = (L[i]).size → Ev (fun k => wigeonref06_ValidateHistories.l1 k L (i : Int) (j : Int)) (if ((L[i]).data.toList.drop j).all (fun b => b == 48 || b == 49) = true then (if (hb L[i]).any id = true then r else 8) else 1)
  | 0, j, h => by
    have hl : (L[i]).data.toList.length = (L[i]).size := by simp
    rw [List.drop_of_length_le (by omega), if_pos (by rfl)]
    have C := caught_ev L[i] (by omega) 0 (L[i]).size (Nat.le_refl _)
    have e : cau (hb L[i]) 0 (L[i]).size = (hb L[i]).any id := by
      unfold cau; rw [List.drop_zero, Nat.sub_zero, List.take_of_length_le (by rw [hb_len]; exact Nat.le_refl _)]
    rw [e] at C
    refine Ev.step (fun k => wigeonref06_ValidateHistories.l1.eq_2 ..) (evp (by omega) (evp (by omega) ?_))
    rw [rdOf_at L i hi]
    refine evn (by omega) (evb C ?_)
    have ws : wrap64 ((i : Int) + 1) = ((i + 1 : Nat) : Int) := by rw [w64 (by omega) (by omega)]; rfl
    by_cases y : (hb L[i]).any id = true
    · rw [if_pos y]; refine evp y ?_; rw [ws]; exact H
    · rw [if_neg y]; exact evn y (Ev.now _)
  | d + 1, j, h => by
    have R := rvh_l1 L i hi hL hs r H d (j + 1) (by omega)
    have hj : j < (L[i]).size := by omega
    rw [all_drop hj]
    have ws : wrap64 ((j : Int) + 1) = ((j + 1 : Nat) : Int) := by rw [w64 (by omega) (by omega)]; rfl
    refine Ev.step (fun k => wigeonref06_ValidateHistories.l1.eq_2 ..) (evp (by omega) (evp (by omega) ?_))
    rw [rdOf_at L i hi]
    refine evp (by omega) (evp (by omega) ?_)
    by_cases a : bt L[i] (j : Int) = 48
    · refine evp a ?_
      rw [ws, beq_iff_eq.2 a, Bool.true_or, Bool.true_and]; exact R
    · refine evn a ?_
      by_cases b : bt L[i] (j : Int) = 49
      · refine evp b ?_
        rw [ws, beq_iff_eq.2 b, Bool.or_true, Bool.true_and]; exact R
      · rw [beq_eq_false_iff_ne.2 a, beq_eq_false_iff_ne.2 b]
        exact evn b (Ev.now _)
theorem rvh_l0 (L : List ByteArray) (hL : L.length ≤ 60) : ∀ (d i : Nat), i + d = L.length → Ev (fun k => wigeonref06_ValidateHistories.l0 k L (i : Int)) (vhs (dys L) (L.drop i))
  | 0, i, h => by
    rw [List.drop_of_length_le (by omega)]
    exact Ev.step (fun k => wigeonref06_ValidateHistories.l0.eq_2 ..) (evn (by omega) (Ev.now _))
  | d + 1, i, h => by
    have hi : i < L.length := by omega
    have R := rvh_l0 L hL d (i + 1) (by omega)
    rw [List.drop_eq_getElem_cons hi]
    refine Ev.step (fun k => wigeonref06_ValidateHistories.l0.eq_2 ..) (evp (by omega) (evp (by omega) ?_))
    have e0 : (rdOf ByteArray.empty L 0).size = dys L := by
      cases L with
      | nil => simp at hi
      | cons s l => rfl
    rw [rdOf_at L i hi, e0]
    unfold vhs
    by_cases z : (L[i]).size > 8
    · rw [if_pos z]; exact evp (by omega) (Ev.now _)
    · rw [if_neg z]
      refine evn (by omega) (evp (by omega) ?_)
      by_cases y : (L[i]).size = dys L
      · have M := rvh_l1 L i hi hL (by omega) _ R (L[i]).size 0 (by omega)
        refine evp (by omega) ?_
        rw [List.drop_zero] at M
        by_cases q : okB L[i] = true
        · rw [if_pos ⟨y, q⟩]
          unfold okB at q
          rw [if_pos q] at M
          exact M
        · rw [if_neg (fun k => q k.2)]
          unfold okB at q
          rw [if_neg q] at M
          exact M
      · rw [if_neg (fun k => y k.1)]
        exact evn (by omega) (Ev.now _)
theorem rvh_ev (L : List ByteArray) (hL : L.length ≤ 1000) : Ev (fun k => wigeonref06_ValidateHistories.f k L) (vhR L) := by
  unfold wigeonref06_ValidateHistories.f vhR
  by_cases h : L.length > 60
  · rw [if_pos h]; exact evp (by omega) (Ev.now _)
  · rw [if_neg h]; exact evn (by omega) (by simpa using rvh_l0 L (by omega) L.length 0 (by omega))
/-- histories that are right -/
structure Good (L : List ByteArray) : Prop where
  few : L.length ≤ 60
  size : ∀ s ∈ L, s.size = dys L
  some_ : ∀ s ∈ L, (hb s).any id = true
  days : dys L ≤ 8
theorem vhs_good (n : Nat) : ∀ l : List ByteArray, vhs n l = 0 → ∀ s ∈ l, s.size = n ∧ s.size ≤ 8 ∧ (hb s).any id = true
  | [], _, s, m => by simp at m
  | x :: l, h, s, m => by
    unfold vhs at h
    by_cases a : x.size > 8
    · rw [if_pos a] at h; cases h
    · rw [if_neg a] at h
      by_cases b : x.size = n ∧ okB x = true
      · rw [if_pos b] at h
        by_cases c : (hb x).any id = true
        · rw [if_pos c] at h
          rcases List.mem_cons.1 m with e | m
          · subst e; exact ⟨b.1, by omega, c⟩
          · exact vhs_good n l h s m
        · rw [if_neg c] at h; cases h
      · rw [if_neg b] at h; cases h
theorem vhR_good {L : List ByteArray} (h : vhR L = 0) : Good L := by
  unfold vhR at h
  by_cases a : L.length > 60
  · rw [if_pos a] at h; cases h
  · rw [if_neg a] at h
    have g := vhs_good _ _ h
    refine ⟨by omega, fun s m => (g s m).1, fun s m => (g s m).2.2, ?_⟩
    cases L with
    | nil => decide
    | cons s l => exact (g s (by simp)).2.1

theorem totO_count (q : ByteArray → Int → Option Bool) (day : Int) (p : ByteArray → Bool) : ∀ (l : List ByteArray) (z : Nat), (∀ s ∈ l, q s day = some (p s)) → z + l.length ≤ 10000 → totO (oneIf q day) l (z : Int) = some ((z + l.countP p : Nat) : Int)
  | [], z, _, _ => by simp [totO]
  | s :: l, z, h, hl => by
    have hs := h s (by simp)
    simp only [List.length_cons] at hl
    unfold totO oneIf
    rw [hs]
    simp only [Option.bind_some]
    by_cases y : p s = true
    · rw [if_pos y, show wrap64 ((z : Int) + 1) = ((z + 1 : Nat) : Int) by rw [w64 (by omega) (by omega)]; rfl]
      have ih := totO_count q day p l (z + 1) (fun t m => h t (by simp [m])) (by omega)
      unfold oneIf at ih
      rw [ih, List.countP_cons_of_pos y]
      congr 2; omega
    · rw [if_neg y, show wrap64 ((z : Int) + 0) = ((z : Nat) : Int) by rw [w64 (by omega) (by omega)]; omega]
      have ih := totO_count q day p l z (fun t m => h t (by simp [m])) (by omega)
      unfold oneIf at ih
      rw [ih, List.countP_cons_of_neg y]
/-- how many birds are something on a day -/
def cn (P : List Bool → Nat → Bool) (L : List ByteArray) (d : Nat) : Nat := L.countP (fun s => P (hb s) d)
theorem cn_le (P : List Bool → Nat → Bool) (L : List ByteArray) (d : Nat) : cn P L d ≤ L.length := List.countP_le_length
theorem numF_ev {q : ByteArray → Int → Option Bool} {P : List Bool → Nat → Bool} {L : List ByteArray} (G : Good L) {d : Nat} (h : ∀ s ∈ L, q s (d : Int) = some (P (hb s) d)) : numF q L (d : Int) = some ((cn P L d : Nat) : Int) := by
  have := totO_count q d (fun s => P (hb s) d) L 0 h (by have := G.few; omega)
  unfold numF
  rw [show ((0 : Nat) : Int) = 0 from rfl] at this
  rw [this, Nat.zero_add]
  rfl
/-- day by day -/
def dly (P : List Bool → Nat → Bool) (L : List ByteArray) : List Int := (List.range (dys L)).map fun d => ((cn P L d : Nat) : Int)
theorem dly_len (P : List Bool → Nat → Bool) (L : List ByteArray) : (dly P L).length = dys L := by simp [dly]
theorem dly_rd (P : List Bool → Nat → Bool) (L : List ByteArray) (d : Nat) (h : d < dys L) : rd (dly P L) (d : Int) = (cn P L d : Nat) := by
  rw [rd_at _ _ (by rw [dly_len]; exact h)]; simp [dly]

theorem daily_l0 {q : ByteArray → Int → Option Bool} {P : List Bool → Nat → Bool} {L : List ByteArray} (G : Good L) (h : ∀ d, d < dys L → ∀ s ∈ L, q s (d : Int) = some (P (hb s) d)) :
    ∀ (e i : Nat) (out : List Int), i + e = dys L → out.length ≤ i → Ev (fun k => count_daily.l0 q k L out (dys L : Int) (i : Int)) (out ++ (List.range' i e).map (fun d => ((cn P L d : Nat) : Int)), 0)
  | 0, i, out, hi, ho => by
    rw [List.range'_zero, List.map_nil, List.append_nil]
    exact Ev.step (fun k => count_daily.l0.eq_2 ..) (evn (by omega) (Ev.now _))
  | e + 1, i, out, hi, ho => by
    have d8 := G.days
    have R := daily_l0 G h e (i + 1) (out ++ [((cn P L i : Nat) : Int)]) (by omega) (by simp; omega)
    rw [List.append_assoc] at R
    rw [List.range'_succ, List.map_cons]
    refine Ev.step (fun k => count_daily.l0.eq_2 ..) (evp (by omega) (evs (numF_ev G (h i (by omega))) (evp (by omega) ?_)))
    rw [show wrap64 ((i : Int) + 1) = ((i + 1 : Nat) : Int) by rw [w64 (by omega) (by omega)]; rfl]
    exact R
theorem daily_ev {q : ByteArray → Int → Option Bool} {P : List Bool → Nat → Bool} {L : List ByteArray} (h0 : vhR L = 0) (h : ∀ d, d < dys L → ∀ s ∈ L, q s (d : Int) = some (P (hb s) d)) : Ev (fun k => count_daily.f q k L) (dly P L, 0) := by
  have G := vhR_good h0
  have V := vh_ev L (by have := G.few; omega)
  rw [h0] at V
  unfold count_daily.f
  refine evb V (evp rfl (evs (days_eq L) ?_))
  have := daily_l0 G h (dys L) 0 [] (by omega) (by simp)
  unfold dly
  rw [List.range_eq_range']
  simpa using this
theorem daily_err {q : ByteArray → Int → Option Bool} {L : List ByteArray} (hL : L.length ≤ 1000) (h0 : ¬ vhR L = 0) : Ev (fun k => count_daily.f q k L) ([], vhR L) := by
  unfold count_daily.f
  exact evb (vh_ev L hL) (evn h0 (Ev.now _))
theorem fresh_at {L : List ByteArray} (G : Good L) : ∀ d, d < dys L → ∀ s ∈ L, count_bird_fresh.f s (d : Int) = some (freshB (hb s) d) := fun d hd s m => fresh_eq s d (by have := G.size s m; omega)
theorem First_ev {L : List ByteArray} (h0 : vhR L = 0) : Ev (fun k => count_First.f k L) (dly freshB L, 0) := by
  unfold count_First.f daily_fresh.f
  exact evb (daily_ev h0 (fresh_at (vhR_good h0))) (Ev.now _)
theorem First_err {L : List ByteArray} (hL : L.length ≤ 1000) (h0 : ¬ vhR L = 0) : Ev (fun k => count_First.f k L) ([], vhR L) := by
  unfold count_First.f daily_fresh.f
  exact evb (daily_err hL h0) (Ev.now _)

def onB (h : List Bool) (d : Nat) : Bool := h.getD d false
def aheadB (h : List Bool) (d : Nat) : Bool := cau h 0 d
def againB (h : List Bool) (d : Nat) : Bool := h.getD d false && cau h 0 d
def ctc (L : List ByteArray) : List S42 := (List.range (dys L)).map fun d => ⟨(cn aheadB L d : Nat), (cn onB L d : Nat), (cn againB L d : Nat)⟩
theorem ctc_len (L : List ByteArray) : (ctc L).length = dys L := by simp [ctc]
theorem Catches_l0 {L : List ByteArray} (G : Good L) :
    ∀ (e i : Nat) (out : List S42), i + e = dys L → out.length ≤ i → Ev (fun k => count_Catches.l0 k L out (dys L : Int) (i : Int)) (out ++ (List.range' i e).map (fun d => (⟨(cn aheadB L d : Nat), (cn onB L d : Nat), (cn againB L d : Nat)⟩ : S42)), 0)
  | 0, i, out, hi, ho => by
    rw [List.range'_zero, List.map_nil, List.append_nil]
    exact Ev.step (fun k => count_Catches.l0.eq_2 ..) (evn (by omega) (Ev.now _))
  | e + 1, i, out, hi, ho => by
    have d8 := G.days
    have R := Catches_l0 G e (i + 1) (out ++ [⟨(cn aheadB L i : Nat), (cn onB L i : Nat), (cn againB L i : Nat)⟩]) (by omega) (by simp; omega)
    rw [List.append_assoc] at R
    rw [List.range'_succ, List.map_cons]
    have A : number_ahead.f L (i : Int) = some ((cn aheadB L i : Nat) : Int) := numF_ev G (fun s m => ahead_eq s i (by have := G.size s m; omega))
    have B : number_on.f L (i : Int) = some ((cn onB L i : Nat) : Int) := numF_ev G (fun s m => on_eq s i (by have := G.size s m; omega))
    have C : number_c1.f L (i : Int) = some ((cn againB L i : Nat) : Int) := numF_ev G (fun s m => c1_eq s i (by have := G.size s m; omega))
    refine Ev.step (fun k => count_Catches.l0.eq_2 ..) (evp (by omega) (evs A (evs B (evs C (evp (by omega) ?_)))))
    rw [show wrap64 ((i : Int) + 1) = ((i + 1 : Nat) : Int) by rw [w64 (by omega) (by omega)]; rfl]
    exact R
theorem Catches_ev {L : List ByteArray} (h0 : vhR L = 0) : Ev (fun k => count_Catches.f k L) (ctc L, 0) := by
  have G := vhR_good h0
  have V := vh_ev L (by have := G.few; omega)
  rw [h0] at V
  unfold count_Catches.f
  refine evb V (evp rfl (evs (days_eq L) ?_))
  have := Catches_l0 G (dys L) 0 [] (by omega) (by simp)
  unfold ctc
  rw [List.range_eq_range']
  simpa using this
theorem Catches_err {L : List ByteArray} (hL : L.length ≤ 1000) (h0 : ¬ vhR L = 0) : Ev (fun k => count_Catches.f k L) ([], vhR L) := by
  unfold count_Catches.f
  exact evb (vh_ev L hL) (evn h0 (Ev.now _))

theorem cau_one (h : List Bool) (d : Nat) (hd : d < h.length) : cau h d (d + 1) = h.getD d false := by
  rw [cau_step h d (d + 1) (by omega) hd, cau_nil _ _ _ (Nat.le_refl _), Bool.or_false]
theorem drop_count {L : List ByteArray} {p : ByteArray → Bool} {i : Nat} (h : i < L.length) : (L.drop i).countP p = (L.drop (i + 1)).countP p + (if p L[i] = true then 1 else 0) := by
  rw [List.drop_eq_getElem_cons h, List.countP_cons]
theorem w1 (i : Nat) (h : i ≤ 100000) : wrap64 ((i : Int) + 1) = ((i + 1 : Nat) : Int) := by rw [w64 (by omega) (by omega)]; rfl
theorem rFirst_l1 {L : List ByteArray} (G : Good L) (d : Nat) (hd : d < dys L) (out : List Int) (ho : out.length ≤ 1000) (r : List Int × Int) (H : Ev (fun k => wigeonref06_First.l0 k L (out ++ [((cn freshB L d : Nat) : Int)]) ((d + 1 : Nat) : Int)) r) :
    ∀ (e i c : Nat), i + e = L.length → c + (L.drop i).countP (fun s => freshB (hb s) d) = cn freshB L d → Ev (fun k => wigeonref06_First.l1 k L out (d : Int) (c : Int) (i : Int)) r
  | 0, i, c, hi, hc => by
    have := G.few
    rw [List.drop_of_length_le (by omega), List.countP_nil, Nat.add_zero] at hc
    refine Ev.step (fun k => wigeonref06_First.l1.eq_2 ..) (evn (by omega) (evp (by omega) ?_))
    rw [w1 d (by have := G.days; omega), hc]
    exact H
  | e + 1, i, c, hi, hc => by
    have f60 := G.few
    have d8 := G.days
    have hil : i < L.length := by omega
    have hs := G.size L[i] (List.getElem_mem hil)
    have cb := cn_le freshB L d
    rw [drop_count hil] at hc
    have C1 := caught_ev L[i] (by omega) d (d + 1) (by omega)
    have C2 := caught_ev L[i] (by omega) 0 d (by omega)
    have ar : (cau (hb L[i]) d (d + 1) && !cau (hb L[i]) 0 d) = freshB (hb L[i]) d := by rw [cau_one _ _ (by rw [hb_len]; omega)]; rfl
    refine Ev.step (fun k => wigeonref06_First.l1.eq_2 ..) (evp (by omega) (evp (by omega) ?_))
    rw [rdOf_at L i hil, w1 d (by omega), w1 i (by omega)]
    refine evb C1 ?_
    by_cases a : cau (hb L[i]) d (d + 1) = true
    · refine evp a (evb C2 ?_)
      by_cases b : cau (hb L[i]) 0 d = true
      · rw [a, b] at ar
        rw [← ar] at hc
        exact evp b (rFirst_l1 G d hd out ho r H e (i + 1) c (by omega) (by simp at hc; omega))
      · rw [a, Bool.eq_false_iff.2 b] at ar
        rw [← ar] at hc
        refine evn b ?_
        rw [w1 c (by omega)]
        exact rFirst_l1 G d hd out ho r H e (i + 1) (c + 1) (by omega) (by simp at hc; omega)
    · rw [Bool.eq_false_iff.2 a] at ar
      rw [← ar] at hc
      exact evn a (rFirst_l1 G d hd out ho r H e (i + 1) c (by omega) (by simp at hc; omega))
theorem rFirst_l0 {L : List ByteArray} (G : Good L) : ∀ (e d : Nat) (out : List Int), d + e = dys L → out.length ≤ d → Ev (fun k => wigeonref06_First.l0 k L out (d : Int)) (out ++ (List.range' d e).map (fun d => ((cn freshB L d : Nat) : Int)), 0)
  | 0, d, out, hd, ho => by
    rw [List.range'_zero, List.map_nil, List.append_nil]
    exact Ev.step (fun k => wigeonref06_First.l0.eq_2 ..) (evs (rdays_eq L) (evn (by omega) (Ev.now _)))
  | e + 1, d, out, hd, ho => by
    have d8 := G.days
    have R := rFirst_l0 G e (d + 1) (out ++ [((cn freshB L d : Nat) : Int)]) (by omega) (by simp; omega)
    rw [List.append_assoc] at R
    rw [List.range'_succ, List.map_cons]
    exact Ev.step (fun k => wigeonref06_First.l0.eq_2 ..) (evs (rdays_eq L) (evp (by omega) (rFirst_l1 G d (by omega) out (by omega) _ R L.length 0 0 (by omega) (by rw [List.drop_zero, Nat.zero_add]; rfl))))
theorem rFirst_ev {L : List ByteArray} (h0 : vhR L = 0) : Ev (fun k => wigeonref06_First.f k L) (dly freshB L, 0) := by
  have G := vhR_good h0
  have V := rvh_ev L (by have := G.few; omega)
  rw [h0] at V
  unfold wigeonref06_First.f
  refine evb V (evp rfl ?_)
  have := rFirst_l0 G (dys L) 0 [] (by omega) (by simp)
  unfold dly
  rw [List.range_eq_range']
  simpa using this
theorem rFirst_err {L : List ByteArray} (hL : L.length ≤ 1000) (h0 : ¬ vhR L = 0) : Ev (fun k => wigeonref06_First.f k L) ([], vhR L) := by
  unfold wigeonref06_First.f
  exact evb (rvh_ev L hL) (evn h0 (Ev.now _))

theorem rCatches_l1 {L : List ByteArray} (G : Good L) (d : Nat) (hd : d < dys L) (out : List S42) (ho : out.length ≤ 1000) (r : List S42 × Int) (H : Ev (fun k => wigeonref06_Catches.l0 k L (out ++ [⟨(cn aheadB L d : Nat), (cn onB L d : Nat), (cn againB L d : Nat)⟩]) ((d + 1 : Nat) : Int)) r) :
    ∀ (e i x y z : Nat), i + e = L.length → x + (L.drop i).countP (fun s => aheadB (hb s) d) = cn aheadB L d → y + (L.drop i).countP (fun s => onB (hb s) d) = cn onB L d → z + (L.drop i).countP (fun s => againB (hb s) d) = cn againB L d → Ev (fun k => wigeonref06_Catches.l1 k L out (d : Int) (i : Int) (x : Int) (y : Int) (z : Int)) r
  | 0, i, x, y, z, hi, hx, hy, hz => by
    have := G.few
    rw [List.drop_of_length_le (by omega), List.countP_nil, Nat.add_zero] at hx hy hz
    refine Ev.step (fun k => wigeonref06_Catches.l1.eq_2 ..) (evn (by omega) (evp (by omega) ?_))
    rw [w1 d (by have := G.days; omega), hx, hy, hz]
    exact H
  | e + 1, i, x, y, z, hi, hx, hy, hz => by
    have f60 := G.few
    have d8 := G.days
    have hil : i < L.length := by omega
    have hs := G.size L[i] (List.getElem_mem hil)
    have cx := cn_le aheadB L d
    have cy := cn_le onB L d
    have cz := cn_le againB L d
    rw [drop_count hil] at hx hy hz
    have C1 := caught_ev L[i] (by omega) 0 d (by omega)
    have C2 := caught_ev L[i] (by omega) d (d + 1) (by omega)
    rw [cau_one _ _ (by rw [hb_len]; omega)] at C2
    have e1 : aheadB (hb L[i]) d = cau (hb L[i]) 0 d := rfl
    have e2 : onB (hb L[i]) d = (hb L[i]).getD d false := rfl
    have e3 : againB (hb L[i]) d = ((hb L[i]).getD d false && cau (hb L[i]) 0 d) := rfl
    have R := rCatches_l1 G d hd out ho r H e (i + 1)
    refine Ev.step (fun k => wigeonref06_Catches.l1.eq_2 ..) (evp (by omega) (evp (by omega) ?_))
    rw [rdOf_at L i hil, w1 d (by omega)]
    refine evb C1 (evb C2 ?_)
    by_cases a : cau (hb L[i]) 0 d = true
    · rw [e1, a, if_pos rfl] at hx
      rw [a, Bool.and_true] at e3
      refine evp a ?_
      rw [w1 x (by omega), a]
      refine Ev.step (fun k => wigeonref06_Catches.j2.eq_2 ..) ?_
      rw [w1 i (by omega)]
      by_cases b : (hb L[i]).getD d false = true
      · rw [e2, b, if_pos rfl] at hy
        rw [e3, b, if_pos rfl] at hz
        refine evp b (evp rfl ?_)
        rw [w1 y (by omega), w1 z (by omega)]
        exact R (x + 1) (y + 1) (z + 1) (by omega) (by omega) (by omega) (by omega)
      · rw [e2, if_neg b] at hy
        rw [e3, if_neg b] at hz
        exact evn b (evp rfl (R (x + 1) y z (by omega) (by omega) (by omega) (by omega)))
    · rw [e1, if_neg a] at hx
      rw [Bool.eq_false_iff.2 a, Bool.and_false] at e3
      rw [e3, if_neg (by decide)] at hz
      refine evn a ?_
      rw [Bool.eq_false_iff.2 a]
      refine Ev.step (fun k => wigeonref06_Catches.j2.eq_2 ..) ?_
      rw [w1 i (by omega)]
      by_cases b : (hb L[i]).getD d false = true
      · rw [e2, b, if_pos rfl] at hy
        refine evp b (evn (by decide) ?_)
        rw [w1 y (by omega)]
        exact R x (y + 1) z (by omega) (by omega) (by omega) (by omega)
      · rw [e2, if_neg b] at hy
        exact evn b (evn (by decide) (R x y z (by omega) (by omega) (by omega) (by omega)))
theorem rCatches_l0 {L : List ByteArray} (G : Good L) : ∀ (e d : Nat) (out : List S42), d + e = dys L → out.length ≤ d → Ev (fun k => wigeonref06_Catches.l0 k L out (d : Int)) (out ++ (List.range' d e).map (fun d => (⟨(cn aheadB L d : Nat), (cn onB L d : Nat), (cn againB L d : Nat)⟩ : S42)), 0)
  | 0, d, out, hd, ho => by
    rw [List.range'_zero, List.map_nil, List.append_nil]
    exact Ev.step (fun k => wigeonref06_Catches.l0.eq_2 ..) (evs (rdays_eq L) (evn (by omega) (Ev.now _)))
  | e + 1, d, out, hd, ho => by
    have d8 := G.days
    have R := rCatches_l0 G e (d + 1) (out ++ [⟨(cn aheadB L d : Nat), (cn onB L d : Nat), (cn againB L d : Nat)⟩]) (by omega) (by simp; omega)
    rw [List.append_assoc] at R
    rw [List.range'_succ, List.map_cons]
    exact Ev.step (fun k => wigeonref06_Catches.l0.eq_2 ..) (evs (rdays_eq L) (evp (by omega) (rCatches_l1 G d (by omega) out (by omega) _ R L.length 0 0 0 0 (by omega) (by rw [List.drop_zero, Nat.zero_add]; rfl) (by rw [List.drop_zero, Nat.zero_add]; rfl) (by rw [List.drop_zero, Nat.zero_add]; rfl))))
theorem rCatches_ev {L : List ByteArray} (h0 : vhR L = 0) : Ev (fun k => wigeonref06_Catches.f k L) (ctc L, 0) := by
  have G := vhR_good h0
  have V := rvh_ev L (by have := G.few; omega)
  rw [h0] at V
  unfold wigeonref06_Catches.f
  refine evb V (evp rfl ?_)
  have := rCatches_l0 G (dys L) 0 [] (by omega) (by simp)
  unfold ctc
  rw [List.range_eq_range']
  simpa using this
theorem rCatches_err {L : List ByteArray} (hL : L.length ≤ 1000) (h0 : ¬ vhR L = 0) : Ev (fun k => wigeonref06_Catches.f k L) ([], vhR L) := by
  unfold wigeonref06_Catches.f
  exact evb (rvh_ev L hL) (evn h0 (Ev.now _))

theorem Many_l0 (L : List ByteArray) (hL : L.length ≤ 9223372036854775807) : ∀ (e i : Nat), i + e = L.length → ∃ b : Bool, Ev (fun k => wigeonlaw06_Many.l0 k L (i : Int)) b ∧ (b = false → L.length ≤ 200)
  | 0, i, h => ⟨_, Ev.step (fun k => wigeonlaw06_Many.l0.eq_2 ..) (evn (by omega) (Ev.now _)), fun q => by have := of_decide_eq_false q; omega⟩
  | e + 1, i, h => by
    have hi : i < L.length := by omega
    by_cases z : ((rdOf ByteArray.empty L (i : Int)).size : Int) > 100
    · exact ⟨true, Ev.step (fun k => wigeonlaw06_Many.l0.eq_2 ..) (evp (by omega) (evp (by omega) (evp z (Ev.now _)))), fun q => by cases q⟩
    · obtain ⟨b, R, hb⟩ := Many_l0 L hL e (i + 1) (by omega)
      refine ⟨b, Ev.step (fun k => wigeonlaw06_Many.l0.eq_2 ..) (evp (by omega) (evp (by omega) (evn z ?_))), hb⟩
      rw [show wrap64 ((i : Int) + 1) = ((i + 1 : Nat) : Int) by rw [w64 (by omega) (by omega)]; rfl]
      exact R
theorem Many_ev (L : List ByteArray) (hL : L.length ≤ 9223372036854775807) : ∃ b : Bool, Ev (fun k => wigeonlaw06_Many.f k L) b ∧ (b = false → L.length ≤ 200) := Many_l0 L hL L.length 0 (by omega)
theorem known_ev : Ev (fun k => wigeonlaw06_known.f k) true := Ev.of wigeonlaw06_known.mono (k := 100) (by decide +kernel)
theorem same_l0 (l : List Int) (hl : l.length ≤ 100000) : ∀ d i : Nat, i + d = l.length → Ev (fun k => wigeonref06_SameInts.l0 k l l (i : Int)) true
  | 0, i, h => Ev.step (fun k => wigeonref06_SameInts.l0.eq_2 ..) (evn (by omega) (Ev.now _))
  | d + 1, i, h => by
    refine Ev.step (fun k => wigeonref06_SameInts.l0.eq_2 ..) (evp (by omega) (evp (by omega) (evp (by omega) (evp rfl ?_))))
    rw [w64 (by omega) (by omega)]; exact same_l0 l hl d (i + 1) (by omega)
theorem same_ev (l : List Int) (hl : l.length ≤ 100000) : Ev (fun k => wigeonref06_SameInts.f k l l) true := by
  unfold wigeonref06_SameInts.f
  exact evp rfl (same_l0 l hl l.length 0 (by omega))

/-- the first and the last day -/
structure Ends (h : List Bool) (f t : Nat) : Prop where
  ft : f ≤ t
  tl : t < h.length
  hf : h.getD f false = true
  ht : h.getD t false = true
  lo : ∀ d, d < f → h.getD d false = false
  hi : ∀ d, t < d → h.getD d false = false
theorem ahead_next {L : List ByteArray} (G : Good L) (d : Nat) (hd : d < dys L) : cn aheadB L (d + 1) = cn aheadB L d + cn freshB L d := by
  have key : ∀ l : List ByteArray, (∀ s ∈ l, s.size = dys L) → l.countP (fun s => aheadB (hb s) (d + 1)) = l.countP (fun s => aheadB (hb s) d) + l.countP (fun s => freshB (hb s) d) := by
    intro l
    induction l with
    | nil => intro _; rfl
    | cons s l ih =>
      intro hs
      rw [List.countP_cons, List.countP_cons, List.countP_cons, ih (fun t m => hs t (by simp [m]))]
      have e : aheadB (hb s) (d + 1) = (aheadB (hb s) d || (hb s).getD d false) := cau_end (hb s) 0 d d (by omega) (by rw [hb_len, hs s (by simp)]; exact hd)
      have e2 : freshB (hb s) d = ((hb s).getD d false && !aheadB (hb s) d) := rfl
      rw [e, e2]
      cases aheadB (hb s) d <;> cases (hb s).getD d false <;> simp <;> omega
  exact key L G.size
theorem ahead_zero (L : List ByteArray) : cn aheadB L 0 = 0 := by
  unfold cn aheadB
  rw [List.countP_eq_zero]
  intro s _
  rw [cau_nil _ _ _ (Nat.le_refl _)]
  decide
theorem ctc_rd (L : List ByteArray) (d : Nat) (h : d < dys L) : rd_T42 (ctc L) (d : Int) = ⟨(cn aheadB L d : Nat), (cn onB L d : Nat), (cn againB L d : Nat)⟩ := by
  have h' : d < (ctc L).length := by rw [ctc_len]; exact h
  simp only [rd_T42, List.getD_eq_getElem?_getD, Int.toNat_natCast, List.getElem?_eq_getElem h']
  simp [ctc]
theorem hist_l0 {L : List ByteArray} (G : Good L) : ∀ (e i : Nat), i + e = dys L → Ev (fun k => wigeonlaw06_CountHistories.l0 k (ctc L) (ctc L) (dly freshB L) ((cn aheadB L i : Nat) : Int) (i : Int)) true
  | 0, i, hi => Ev.step (fun k => wigeonlaw06_CountHistories.l0.eq_2 ..) (evn (by rw [ctc_len]; omega) (evb known_ev (Ev.now _)))
  | e + 1, i, hi => by
    have hil : i < dys L := by omega
    have d8 := G.days
    have f60 := G.few
    have c1 := cn_le aheadB L i
    have c2 := cn_le freshB L i
    refine Ev.step (fun k => wigeonlaw06_CountHistories.l0.eq_2 ..) (evp (by rw [ctc_len]; omega) (evp (by omega) (evp (by rw [ctc_len]; omega) ?_)))
    rw [ctc_rd L i hil]
    refine evn (by simp) (evp rfl (evp (by rw [dly_len]; omega) ?_))
    rw [dly_rd freshB L i hil, w1 i (by omega), w64 (by omega) (by omega)]
    have := hist_l0 G e (i + 1) (by omega)
    rw [ahead_next G i hil] at this
    exact this
theorem CountHistories (a0 : List ByteArray) (h0 : (a0.length ≤ 9223372036854775807 ∧ ∀ x_ ∈ a0, x_.size ≤ 9223372036854775807)) : ∃ k, wigeonlaw06_CountHistories.f k a0 = some true := by
  refine Ev.rounds (g := fun k => wigeonlaw06_CountHistories.f k a0) ?_
  obtain ⟨hl, _⟩ := h0
  unfold wigeonlaw06_CountHistories.f
  obtain ⟨m, M, hm⟩ := Many_ev a0 hl
  refine evb M ?_
  cases m with
  | true => exact evp rfl (evb known_ev (Ev.now _))
  | false =>
    have h200 := hm rfl
    refine evn (by simp) ?_
    by_cases v : vhR a0 = 0
    · have G := vhR_good v
      have lA := dly_len freshB a0
      have d8 := G.days
      have qF : (dly freshB a0).length ≤ 100000 := by omega
      have K := hist_l0 G (dys a0) 0 (by omega)
      rw [ahead_zero] at K
      exact evb (Catches_ev v) (evb (rCatches_ev v) (evb (First_ev v) (evb (rFirst_ev v) (evb (vh_ev a0 (by omega)) (evb (rvh_ev a0 (by omega)) (evp rfl (evp rfl (evp rfl (evp rfl (evb (same_ev _ qF) (Ev.step (fun k => wigeonlaw06_CountHistories.j0.eq_2 ..) (evn (by simp) K))))))))))))
    · exact evb (Catches_err (by omega) v) (evb (rCatches_err (by omega) v) (evb (First_err (by omega) v) (evb (rFirst_err (by omega) v) (evb (vh_ev a0 (by omega)) (evb (rvh_ev a0 (by omega)) (evp rfl (evp rfl (evp rfl (evp rfl (evb (same_ev _ (by simp)) (Ev.step (fun k => wigeonlaw06_CountHistories.j0.eq_2 ..) (evn (by simp) (Ev.step (fun k => wigeonlaw06_CountHistories.l0.eq_2 ..) (evn (by simp) (evb known_ev (Ev.now _))))))))))))))))

end Go.Proofs.YtkmhccllligcmaaDoor.Pure

