/- Of the text PureCountShares, what the row of CountShares reaches. -/
import Derived.Test.YtkmhccllligcmaaDoorZCountSharesCHx23
namespace Go.Proofs.YtkmhccllligcmaaDoor.Pure
set_option linter.unusedVariables false
set_option linter.unusedSimpArgs false
open Go.RowKit Go.Proofs.YtkmhccllligcmaaDoor.CH Go.Proofs.YtkmhccllligcmaaDoorW.PrintWords Go.Proofs.YtkmhccllligcmaaDoorW.PrintLast Go.Proofs.YtkmhccllligcmaaDoorW.PrintMore

theorem evp {α : Type} {c : Prop} [Decidable c] {f g : Nat → Option α} {r : α} (h : c) (k : Ev f r) : Ev (fun n => if c then f n else g n) r :=
  Ev.congr (fun _ => if_pos h) k
theorem evn {α : Type} {c : Prop} [Decidable c] {f g : Nat → Option α} {r : α} (h : ¬ c) (k : Ev g r) : Ev (fun n => if c then f n else g n) r :=
  Ev.congr (fun _ => if_neg h) k
theorem evb {α β : Type} {g : Nat → Option α} {f : Nat → α → Option β} {a : α} {r : β} (h : Ev g a) (k : Ev (fun n => f n a) r) : Ev (fun n => (g n).bind (f n)) r := Ev.bind h k
theorem evs {α β : Type} {x : Option α} {f : Nat → α → Option β} {a : α} {r : β} (h : x = some a) (k : Ev (fun n => f n a) r) : Ev (fun n => x.bind (f n)) r := by
  subst h; exact k
theorem w64 {n : Int} (h : -9223372036854775808 ≤ n) (h2 : n ≤ 9223372036854775807) : wrap64 n = n := by unfold wrap64; omega
theorem count_within_eq (a b c : Int) : count_within.f a b c = some (decide (b ≤ a ∧ a ≤ c)) := by
  unfold count_within.f
  by_cases h : a ≥ b
  · rw [if_pos h]; have : (b ≤ a ∧ a ≤ c) ↔ a ≤ c := by omega
    simp [this]
  · rw [if_neg h]; have : ¬ (b ≤ a ∧ a ≤ c) := by omega
    simp [this]
theorem ref_within_eq (a b c : Int) : wigeonref06_within.f a b c = some (decide (b ≤ a ∧ a ≤ c)) := by
  unfold wigeonref06_within.f
  by_cases h : a ≥ b
  · rw [if_pos h]; have : (b ≤ a ∧ a ≤ c) ↔ a ≤ c := by omega
    simp [this]
  · rw [if_neg h]; have : ¬ (b ≤ a ∧ a ≤ c) := by omega
    simp [this]

theorem tdivN (a b : Nat) : Int.tdiv (a : Int) (b : Int) = ((a / b : Nat) : Int) := rfl
theorem tmodN (a b : Nat) : Int.tmod (a : Int) (b : Int) = ((a % b : Nat) : Int) := rfl
theorem w64N (n : Nat) (h : n ≤ 9223372036854775807) : wrap64 (n : Int) = n := w64 (by omega) (by omega)
theorem divle (a b : Nat) : a / b ≤ a := Nat.div_le_self a b

theorem divisor_l0 : ∀ (n b a : Nat), b < n → a ≤ 9223372036854775807 → b ≤ 9223372036854775807 → Ev (fun k => count_divisor.l0 k (a : Int) (b : Int)) ((Nat.gcd a b : Nat) : Int)
  | 0, b, a, h, _, _ => by omega
  | n + 1, b, a, h, ha, hb => by
    refine Ev.step (fun k => count_divisor.l0.eq_2 ..) ?_
    by_cases h0 : b = 0
    · subst h0
      refine evp rfl ?_
      rw [Nat.gcd_zero_right, w64 (by omega) (by omega), show mx (a : Int) (-(a : Int)) = a by unfold mx; split <;> omega]
      exact Ev.now _
    · refine evn (by omega) ?_
      rw [tmodN, Nat.gcd_comm a b, Nat.gcd_rec b a, Nat.gcd_comm]
      have := Nat.mod_lt a (show 0 < b by omega)
      exact divisor_l0 n (a % b) b (by omega) (by omega) (by omega)
theorem divisor_ev (a b : Nat) (ha : a ≤ 9223372036854775807) (hb : b ≤ 9223372036854775807) : Ev (fun k => count_divisor.f k (a : Int) (b : Int)) ((Nat.gcd a b : Nat) : Int) := divisor_l0 (b + 1) b a (by omega) ha hb

theorem fraction_ev (a b : Nat) (ha : a ≤ 9223372036854775807) (hb : b ≤ 9223372036854775807) (h : 0 < b) :
    Ev (fun k => count_fraction.f k (a : Int) (b : Int)) (((a / Nat.gcd a b : Nat) : Int), ((b / Nat.gcd a b : Nat) : Int)) := by
  unfold count_fraction.f
  have hg := Nat.gcd_pos_of_pos_right a h
  have h1 := divle a (Nat.gcd a b)
  have h2 := divle b (Nat.gcd a b)
  refine evb (divisor_ev a b ha hb) (evn (by omega) ?_)
  rw [tdivN, tdivN, w64N _ (Nat.le_trans h1 ha), w64N _ (Nat.le_trans h2 hb)]
  exact Ev.now _

theorem rgcd_l0 : ∀ (n b a : Nat), b < n → Ev (fun k => wigeonref06_gcd.l0 k (a : Int) (b : Int)) ((Nat.gcd a b : Nat) : Int)
  | 0, b, a, h => by omega
  | n + 1, b, a, h => by
    refine Ev.step (fun k => wigeonref06_gcd.l0.eq_2 ..) ?_
    by_cases h0 : b = 0
    · subst h0
      refine evn (by omega) ?_
      rw [Nat.gcd_zero_right]
      exact Ev.now _
    · refine evp (by omega) (evn (by omega) ?_)
      rw [tmodN, Nat.gcd_comm a b, Nat.gcd_rec b a, Nat.gcd_comm]
      have := Nat.mod_lt a (show 0 < b by omega)
      exact rgcd_l0 n (a % b) b (by omega)
theorem rgcd_ev (a b : Nat) : Ev (fun k => wigeonref06_gcd.f k (a : Int) (b : Int)) ((Nat.gcd a b : Nat) : Int) := rgcd_l0 (b + 1) b a (by omega)

theorem ratio_ev (a b : Nat) (ha : a ≤ 9223372036854775807) (hb : b ≤ 9223372036854775807) (h : 0 < b) :
    Ev (fun k => wigeonref06_Ratio.f k (a : Int) (b : Int)) (((a / Nat.gcd a b : Nat) : Int), ((b / Nat.gcd a b : Nat) : Int)) := by
  unfold wigeonref06_Ratio.f
  have hg := Nat.gcd_pos_of_pos_right a h
  have h1 := divle a (Nat.gcd a b)
  have h2 := divle b (Nat.gcd a b)
  refine evb (rgcd_ev a b) (evn (by omega) ?_)
  rw [tdivN, tdivN, w64N _ (Nat.le_trans h1 ha), w64N _ (Nat.le_trans h2 hb)]
  exact Ev.now _

/-- on which days a bird was caught -/
def hb (s : ByteArray) : List Bool := s.data.toList.map (fun b => b == 49)
theorem hb_len (s : ByteArray) : (hb s).length = s.size := by simp [hb]
theorem rdOf_at (l : List ByteArray) (i : Nat) (h : i < l.length) : rdOf ByteArray.empty l (i : Int) = l[i] := by
  simp [rdOf, List.getD_eq_getElem?_getD, List.getElem?_eq_getElem h]
theorem bt_val (s : ByteArray) (i : Nat) (h : i < s.size) : bt s (i : Int) = ((s.data.toList[i]'(by simpa using h)).toNat : Int) := by
  unfold bt
  rw [dif_pos (by simpa using h)]
  rfl
theorem bt_49 (s : ByteArray) (i : Nat) (h : i < s.size) : (bt s (i : Int) = 49) ↔ (hb s).getD i false = true := by
  have hl : i < s.data.toList.length := by simpa using h
  rw [bt_val s i h]
  have e : (hb s).getD i false = (s.data.toList[i] == 49) := by
    unfold hb
    rw [List.getD_eq_getElem?_getD, List.getElem?_map, List.getElem?_eq_getElem hl]
    rfl
  rw [e, beq_iff_eq]
  constructor
  · intro q; exact UInt8.toNat_inj.1 (by show _ = 49; omega)
  · intro q; rw [q]; rfl
/-- caught from day i on, ahead of day j -/
def cau (h : List Bool) (i j : Nat) : Bool := ((h.drop i).take (j - i)).any id
theorem cau_nil (h : List Bool) (i j : Nat) (k : j ≤ i) : cau h i j = false := by
  unfold cau; rw [show j - i = 0 by omega]; simp
theorem cau_step (h : List Bool) (i j : Nat) (k : i < j) (hl : i < h.length) : cau h i j = (h.getD i false || cau h (i + 1) j) := by
  unfold cau
  rw [List.drop_eq_getElem_cons hl, show j - i = (j - (i + 1)) + 1 by omega, List.take_succ_cons, List.any_cons]
  rw [List.getD_eq_getElem?_getD, List.getElem?_eq_getElem hl]
  rfl
theorem caught_l0 (s : ByteArray) (hs : s.size ≤ 1000) : ∀ (n i j : Nat), j = i + n → j ≤ s.size → Ev (fun k => wigeonref06_caught.l0 k s (j : Int) (i : Int)) (cau (hb s) i j)
  | 0, i, j, e, hj => by
    rw [cau_nil _ _ _ (by omega)]
    exact Ev.step (fun k => wigeonref06_caught.l0.eq_2 ..) (evn (by omega) (Ev.now _))
  | n + 1, i, j, e, hj => by
    have hi : i < s.size := by omega
    rw [cau_step (hb s) i j (by omega) (by rw [hb_len]; exact hi)]
    refine Ev.step (fun k => wigeonref06_caught.l0.eq_2 ..) (evp (by omega) (evp (by omega) (evp (by omega) ?_)))
    by_cases z : bt s (i : Int) = 49
    · rw [(bt_49 s i hi).1 z]; exact evp z (Ev.now _)
    · rw [Bool.eq_false_iff.2 (fun q => z ((bt_49 s i hi).2 q)), Bool.false_or]
      refine evn z ?_
      rw [w64 (by omega) (by omega)]
      exact caught_l0 s hs n (i + 1) j (by omega) hj
theorem caught_ev (s : ByteArray) (hs : s.size ≤ 1000) (i j : Nat) (hj : j ≤ s.size) : Ev (fun k => wigeonref06_caught.f k s (i : Int) (j : Int)) (cau (hb s) i j) := by
  by_cases h : i ≤ j
  · exact caught_l0 s hs (j - i) i j (by omega) hj
  · rw [cau_nil _ _ _ (by omega)]
    show Ev (fun k => wigeonref06_caught.l0 k s (j : Int) (i : Int)) _
    exact Ev.step (fun k => wigeonref06_caught.l0.eq_2 ..) (evn (by omega) (Ev.now _))

theorem idx_lo (c : UInt8) : ∀ l : List UInt8, -1 ≤ Lib.indexByte l c
  | [] => by simp [Lib.indexByte]
  | b :: l => by
    have := idx_lo c l
    unfold Lib.indexByte
    split
    · omega
    · split <;> omega
theorem idx_any : ∀ l : List UInt8, decide (0 ≤ Lib.indexByte l 49) = l.any (fun b => b == 49)
  | [] => by simp [Lib.indexByte]
  | b :: l => by
    have ih := idx_any l
    have lo := idx_lo 49 l
    unfold Lib.indexByte
    rw [List.any_cons]
    by_cases h : (b == 49) = true
    · rw [if_pos h, h]; simp
    · rw [if_neg h, Bool.eq_false_iff.2 h, Bool.false_or, ← ih]
      by_cases z : (Lib.indexByte l 49 == -1) = true
      · rw [if_pos z]
        have z' : Lib.indexByte l 49 = -1 := by simpa using z
        rw [z']
      · rw [if_neg z]
        have z' : Lib.indexByte l 49 ≠ -1 := by simpa using z
        exact decide_eq_decide.2 (by omega)
theorem contains_eq (a : ByteArray) : strings_Contains.f a (⟨#[49]⟩ : ByteArray) = some ((hb a).any id) := by
  unfold strings_Contains.f
  rw [if_pos rfl, idx_any]
  unfold hb
  rw [List.any_map]
  rfl
theorem hb_extract (s : ByteArray) (a b : Nat) : hb (s.extract a b) = ((hb s).drop a).take (b - a) := by
  unfold hb
  rw [← Lib.toList_data, Lib.extract_toList, ← List.map_drop, ← List.map_take]
theorem contains_cut (s : ByteArray) (a b : Nat) : strings_Contains.f (s.extract a b) (⟨#[49]⟩ : ByteArray) = some (cau (hb s) a b) := by
  rw [contains_eq, hb_extract]; rfl

theorem on_eq (s : ByteArray) (d : Nat) (h : d < s.size) : count_bird_on.f s (d : Int) = some ((hb s).getD d false) := by
  unfold count_bird_on.f
  rw [if_pos (by omega), if_pos (by omega)]
  have := bt_49 s d h
  by_cases z : bt s (d : Int) = 49
  · rw [z, this.1 z]; rfl
  · rw [Bool.eq_false_iff.2 (fun q => z (this.2 q))]; simpa using z
theorem later_eq (s : ByteArray) (d : Nat) (hs : s.size ≤ 1000) (h : d < s.size) : count_bird_later.f s (d : Int) = some (cau (hb s) (d + 1) s.size) := by
  unfold count_bird_later.f
  have e : wrap64 ((d : Int) + 1) = ((d + 1 : Nat) : Int) := by rw [w64 (by omega) (by omega)]; rfl
  rw [e, if_pos (by omega), if_pos (by omega), Int.toNat_natCast, contains_cut]
  rfl
theorem s1_eq (s : ByteArray) (d : Nat) (hs : s.size ≤ 1000) (h : d < s.size) : count_Share_1.f s (d : Int) = some ((hb s).getD d false && cau (hb s) (d + 1) s.size) := by
  unfold count_Share_1.f
  rw [on_eq s d h, later_eq s d hs h]
  cases (hb s).getD d false <;> rfl
def okB (s : ByteArray) : Bool := s.data.toList.all (fun b => b == 48 || b == 49)
def dys (l : List ByteArray) : Nat := (l.headD ByteArray.empty).size
def vhs (n : Nat) : List ByteArray → Int
  | [] => 0
  | s :: l => if s.size > 8 then 3 else if s.size = n ∧ okB s = true then (if (hb s).any id = true then vhs n l else 8) else 1
def vhR (l : List ByteArray) : Int := if l.length > 60 then 3 else vhs (dys l) l
theorem days_eq (l : List ByteArray) : count_days.f l = some (dys l : Int) := by
  unfold count_days.f dys
  cases l with
  | nil => rfl
  | cons s l =>
    rw [if_neg (by simp <;> omega), if_pos (by simp <;> omega)]
    rfl
theorem rdays_eq (l : List ByteArray) : wigeonref06_days.f l = some (dys l : Int) := by
  unfold wigeonref06_days.f dys
  cases l with
  | nil => rfl
  | cons s l =>
    rw [if_neg (by simp <;> omega), if_pos (by simp <;> omega)]
    rfl
theorem dropWhile_nil {α : Type} (p : α → Bool) : ∀ l : List α, (l.dropWhile p).isEmpty = l.all p
  | [] => rfl
  | x :: l => by
    rw [List.dropWhile_cons, List.all_cons]
    cases h : p x
    · simp
    · simpa using dropWhile_nil p l
theorem dropWhile_all {α : Type} (p : α → Bool) (l : List α) (h : l.all p = true) : l.dropWhile p = [] := by
  have := dropWhile_nil p l
  rw [h] at this
  exact List.isEmpty_iff.1 this
theorem trim_eq (s : ByteArray) (hs : s.size ≤ 1000) : ∃ r, strings_Trim.f s (⟨#[48, 49]⟩ : ByteArray) = some r ∧ (r.toList != ([] : List UInt8)) = !okB s := by
  refine ⟨⟨(Lib.trimS s.data.toList [48, 49]).toArray⟩, by unfold strings_Trim.f; rw [if_pos ⟨rfl, by omega⟩], ?_⟩
  rw [Lib.toList_data]
  show (((Lib.trimS s.data.toList [48, 49]).toArray).toList != ([] : List UInt8)) = _
  rw [List.toList_toArray]
  have cp : (fun b : UInt8 => [48, 49].contains b) = fun b => b == 48 || b == 49 := by
    funext b; simp [List.contains, List.elem]
    cases h1 : b == 48 <;> cases h2 : b == 49 <;> simp_all
  unfold Lib.trimS Lib.trimLeftS Lib.trimRightS okB
  rw [cp]
  by_cases h : s.data.toList.all (fun b => b == 48 || b == 49) = true
  · have z := dropWhile_all (fun b : UInt8 => b == 48 || b == 49) s.data.toList.reverse (by rw [List.all_reverse]; exact h)
    rw [h, z]; rfl
  · rw [Bool.eq_false_iff.2 h]
    have h1 : (s.data.toList.reverse.dropWhile (fun b => b == 48 || b == 49)).isEmpty = false := by rw [dropWhile_nil, List.all_reverse]; exact Bool.eq_false_iff.2 h
    -- its first one is neither
    obtain ⟨x, t, e⟩ : ∃ x t, s.data.toList.reverse.dropWhile (fun b => b == 48 || b == 49) = x :: t := by
      cases q : s.data.toList.reverse.dropWhile (fun b => b == 48 || b == 49) with
      | nil => rw [q] at h1; cases h1
      | cons x t => exact ⟨x, t, rfl⟩
    have hx : (x == 48 || x == 49) = false := by
      have := List.head?_dropWhile_not (fun b : UInt8 => b == 48 || b == 49) s.data.toList.reverse
      rw [e] at this
      simpa using this
    have h2 : ((x :: t).reverse.dropWhile (fun b => b == 48 || b == 49)).isEmpty = false := by
      rw [dropWhile_nil, List.all_reverse, List.all_cons, hx]; rfl
    rw [e]
    cases q : (x :: t).reverse.dropWhile (fun b => b == 48 || b == 49) with
    | nil => rw [q] at h2; cases h2
    | cons => rfl

theorem vh_l0 (L : List ByteArray) (hL : L.length ≤ 60) : ∀ (d i : Nat), i + d = L.length → Ev (fun k => count_ValidateHistories.l0 k L L (L.length : Int) (i : Int)) (vhs (dys L) (L.drop i))
  | 0, i, h => by
    rw [List.drop_of_length_le (by omega)]
    exact Ev.step (fun k => count_ValidateHistories.l0.eq_2 ..) (evn (by omega) (Ev.now _))
  | d + 1, i, h => by
    have hi : i < L.length := by omega
    have R := vh_l0 L hL d (i + 1) (by omega)
    have ws : wrap64 ((i : Int) + 1) = ((i + 1 : Nat) : Int) := by rw [w64 (by omega) (by omega)]; rfl
    rw [List.drop_eq_getElem_cons hi]
    refine Ev.step (fun k => count_ValidateHistories.l0.eq_2 ..) (evp (by omega) (evp (by omega) (evp (by omega) ?_)))
    rw [rdOf_at L i hi]
    generalize L[i] = s at *
    unfold vhs
    by_cases z : s.size > 8
    · rw [if_pos z]; exact evp (by omega) (Ev.now _)
    · rw [if_neg z]
      refine evn (by omega) (evs (days_eq L) ?_)
      have J : ∀ b : Bool, Ev (fun k => count_ValidateHistories.j1 k L s L (L.length : Int) (i : Int) b) (if b = true then 1 else (if (hb s).any id = true then vhs (dys L) (L.drop (i + 1)) else 8)) := fun b => by
        refine Ev.step (fun k => count_ValidateHistories.j1.eq_2 ..) ?_
        cases b with
        | true => exact evp rfl (Ev.now _)
        | false =>
          refine evn (by simp) (evs (contains_eq s) ?_)
          rw [if_neg (by simp)]
          by_cases y : (hb s).any id = true
          · rw [if_pos y]; refine evp y ?_; rw [ws]; exact R
          · rw [if_neg y]; exact evn y (Ev.now _)
      by_cases y : s.size = dys L
      · obtain ⟨r, e1, e2⟩ := trim_eq s (by omega)
        refine evp (by omega) (evs e1 ?_)
        rw [e2]
        have := J (!okB s)
        by_cases q : okB s = true
        · rw [if_pos ⟨y, q⟩]
          rw [q] at this ⊢
          simpa using this
        · rw [if_neg (fun k => q k.2)]
          rw [Bool.eq_false_iff.2 q] at this ⊢
          simpa using this
      · rw [if_neg (fun k => y k.1)]
        exact evn (by omega) (by simpa using J true)
theorem vh_ev (L : List ByteArray) (hL : L.length ≤ 1000) : Ev (fun k => count_ValidateHistories.f k L) (vhR L) := by
  unfold count_ValidateHistories.f vhR
  by_cases h : L.length > 60
  · rw [if_pos h]; exact evp (by omega) (Ev.now _)
  · rw [if_neg h]; exact evn (by omega) (by simpa using vh_l0 L (by omega) L.length 0 (by omega))
theorem all_drop {s : ByteArray} {j : Nat} (h : j < s.size) : (s.data.toList.drop j).all (fun b => b == 48 || b == 49) = ((bt s (j : Int) == 48 || bt s (j : Int) == 49) && (s.data.toList.drop (j + 1)).all (fun b => b == 48 || b == 49)) := by
  have hl : j < s.data.toList.length := by simpa using h
  rw [List.drop_eq_getElem_cons hl, List.all_cons, bt_val s j h]
  congr 1
  generalize s.data.toList[j] = c
  have e : ∀ n : Nat, n < 256 → (c == UInt8.ofNat n) = (((c.toNat : Nat) : Int) == (n : Int)) := fun n hn => by
    by_cases q : c = UInt8.ofNat n
    · subst q; simp [Nat.mod_eq_of_lt hn]
    · have : c.toNat ≠ n := fun k => q (UInt8.toNat_inj.1 (by rw [k]; simp [Nat.mod_eq_of_lt hn]))
      rw [beq_eq_false_iff_ne.2 q, beq_eq_false_iff_ne.2 (by omega)]
  rw [show (48 : UInt8) = UInt8.ofNat 48 from rfl, show (49 : UInt8) = UInt8.ofNat 49 from rfl, e 48 (by omega), e 49 (by omega)]
  rfl
theorem rvh_l1 (L : List ByteArray) (i : Nat) (hi : i < L.length) (hL : L.length ≤ 60) (hs : (L[i]).size ≤ 8) (r : Int) (H : Ev (fun k => wigeonref06_ValidateHistories.l0 k L (((i + 1 : Nat)) : Int)) r) :
    ∀ (d j : Nat), j + d = (L[i]).size → Ev (fun k => wigeonref06_ValidateHistories.l1 k L (i : Int) (j : Int)) (if ((L[i]).data.toList.drop j).all (fun b => b == 48 || b == 49) = true then (if (hb L[i]).any id = true then r else 8) else 1)
  | 0, j, h => by
    have hl : (L[i]).data.toList.length = (L[i]).size := by simp
    rw [List.drop_of_length_le (by omega), if_pos (by rfl)]
    have C := caught_ev L[i] (by omega) 0 (L[i]).size (Nat.le_refl _)
    have e : cau (hb L[i]) 0 (L[i]).size = (hb L[i]).any id := by
      unfold cau; rw [List.drop_zero, Nat.sub_zero, List.take_of_length_le (by rw [hb_len]; exact Nat.le_refl _)]
    rw [e] at C
    refine Ev.step (fun k => wigeonref06_ValidateHistories.l1.eq_2 ..) (evp (by omega) (evp (by omega) ?_))
    rw [rdOf_at L i hi]
    refine evn (by omega) (evb C ?_)
    have ws : wrap64 ((i : Int) + 1) = ((i + 1 : Nat) : Int) := by rw [w64 (by omega) (by omega)]; rfl
    by_cases y : (hb L[i]).any id = true
    · rw [if_pos y]; refine evp y ?_; rw [ws]; exact H
    · rw [if_neg y]; exact evn y (Ev.now _)
  | d + 1, j, h => by
    have R := rvh_l1 L i hi hL hs r H d (j + 1) (by omega)
    have hj : j < (L[i]).size := by omega
    rw [all_drop hj]
    have ws : wrap64 ((j : Int) + 1) = ((j + 1 : Nat) : Int) := by rw [w64 (by omega) (by omega)]; rfl
    refine Ev.step (fun k => wigeonref06_ValidateHistories.l1.eq_2 ..) (evp (by omega) (evp (by omega) ?_))
    rw [rdOf_at L i hi]
    refine evp (by omega) (evp (by omega) ?_)
    by_cases a : bt L[i] (j : Int) = 48
    · refine evp a ?_
      rw [ws, beq_iff_eq.2 a, Bool.true_or, Bool.true_and]; exact R
    · refine evn a ?_
      by_cases b : bt L[i] (j : Int) = 49
      · refine evp b ?_
        rw [ws, beq_iff_eq.2 b, Bool.or_true, Bool.true_and]; exact R
      · rw [beq_eq_false_iff_ne.2 a, beq_eq_false_iff_ne.2 b]
        exact evn b (Ev.now _)
theorem rvh_l0 (L : List ByteArray) (hL : L.length ≤ 60) : ∀ (d i : Nat), i + d = L.length → Ev (fun k => wigeonref06_ValidateHistories.l0 k L (i : Int)) (vhs (dys L) (L.drop i))
  | 0, i, h => by
    rw [List.drop_of_length_le (by omega)]
    exact Ev.step (fun k => wigeonref06_ValidateHistories.l0.eq_2 ..) (evn (by omega) (Ev.now _))
  | d + 1, i, h => by
    have hi : i < L.length := by omega
    have R := rvh_l0 L hL d (i + 1) (by omega)
    rw [List.drop_eq_getElem_cons hi]
    refine Ev.step (fun k => wigeonref06_ValidateHistories.l0.eq_2 ..) (evp (by omega) (evp (by omega) ?_))
    have e0 : (rdOf ByteArray.empty L 0).size = dys L := by
      cases L with
      | nil => simp at hi
      | cons s l => rfl
    rw [rdOf_at L i hi, e0]
    unfold vhs
    by_cases z : (L[i]).size > 8
    · rw [if_pos z]; exact evp (by omega) (Ev.now _)
    · rw [if_neg z]
      refine evn (by omega) (evp (by omega) ?_)
      by_cases y : (L[i]).size = dys L
      · have M := rvh_l1 L i hi hL (by omega) _ R (L[i]).size 0 (by omega)
        refine evp (by omega) ?_
        rw [List.drop_zero] at M
        by_cases q : okB L[i] = true
        · rw [if_pos ⟨y, q⟩]
          unfold okB at q
          rw [if_pos q] at M
          exact M
        · rw [if_neg (fun k => q k.2)]
          unfold okB at q
          rw [if_neg q] at M
          exact M
      · rw [if_neg (fun k => y k.1)]
        exact evn (by omega) (Ev.now _)
theorem rvh_ev (L : List ByteArray) (hL : L.length ≤ 1000) : Ev (fun k => wigeonref06_ValidateHistories.f k L) (vhR L) := by
  unfold wigeonref06_ValidateHistories.f vhR
  by_cases h : L.length > 60
  · rw [if_pos h]; exact evp (by omega) (Ev.now _)
  · rw [if_neg h]; exact evn (by omega) (by simpa using rvh_l0 L (by omega) L.length 0 (by omega))
/-- histories that are right -/
structure Good (L : List ByteArray) : Prop where
  few : L.length ≤ 60
  size : ∀ s ∈ L, s.size = dys L
  some_ : ∀ s ∈ L, (hb s).any id = true
  days : dys L ≤ 8
theorem vhs_good (n : Nat) : ∀ l : List ByteArray, vhs n l = 0 → ∀ s ∈ l, s.size = n ∧ s.size ≤ 8 ∧ (hb s).any id = true
  | [], _, s, m => by simp at m
  | x :: l, h, s, m => by
    unfold vhs at h
    by_cases a : x.size > 8
    · rw [if_pos a] at h; cases h
    · rw [if_neg a] at h
      by_cases b : x.size = n ∧ okB x = true
      · rw [if_pos b] at h
        by_cases c : (hb x).any id = true
        · rw [if_pos c] at h
          rcases List.mem_cons.1 m with e | m
          · subst e; exact ⟨b.1, by omega, c⟩
          · exact vhs_good n l h s m
        · rw [if_neg c] at h; cases h
      · rw [if_neg b] at h; cases h
theorem vhR_good {L : List ByteArray} (h : vhR L = 0) : Good L := by
  unfold vhR at h
  by_cases a : L.length > 60
  · rw [if_pos a] at h; cases h
  · rw [if_neg a] at h
    have g := vhs_good _ _ h
    refine ⟨by omega, fun s m => (g s m).1, fun s m => (g s m).2.2, ?_⟩
    cases L with
    | nil => decide
    | cons s l => exact (g s (by simp)).2.1

theorem totO_count (q : ByteArray → Int → Option Bool) (day : Int) (p : ByteArray → Bool) : ∀ (l : List ByteArray) (z : Nat), (∀ s ∈ l, q s day = some (p s)) → z + l.length ≤ 10000 → totO (oneIf q day) l (z : Int) = some ((z + l.countP p : Nat) : Int)
  | [], z, _, _ => by simp [totO]
  | s :: l, z, h, hl => by
    have hs := h s (by simp)
    simp only [List.length_cons] at hl
    unfold totO oneIf
    rw [hs]
    simp only [Option.bind_some]
    by_cases y : p s = true
    · rw [if_pos y, show wrap64 ((z : Int) + 1) = ((z + 1 : Nat) : Int) by rw [w64 (by omega) (by omega)]; rfl]
      have ih := totO_count q day p l (z + 1) (fun t m => h t (by simp [m])) (by omega)
      unfold oneIf at ih
      rw [ih, List.countP_cons_of_pos y]
      congr 2; omega
    · rw [if_neg y, show wrap64 ((z : Int) + 0) = ((z : Nat) : Int) by rw [w64 (by omega) (by omega)]; omega]
      have ih := totO_count q day p l z (fun t m => h t (by simp [m])) (by omega)
      unfold oneIf at ih
      rw [ih, List.countP_cons_of_neg y]
/-- how many birds are something on a day -/
def cn (P : List Bool → Nat → Bool) (L : List ByteArray) (d : Nat) : Nat := L.countP (fun s => P (hb s) d)
theorem cn_le (P : List Bool → Nat → Bool) (L : List ByteArray) (d : Nat) : cn P L d ≤ L.length := List.countP_le_length
theorem numF_ev {q : ByteArray → Int → Option Bool} {P : List Bool → Nat → Bool} {L : List ByteArray} (G : Good L) {d : Nat} (h : ∀ s ∈ L, q s (d : Int) = some (P (hb s) d)) : numF q L (d : Int) = some ((cn P L d : Nat) : Int) := by
  have := totO_count q d (fun s => P (hb s) d) L 0 h (by have := G.few; omega)
  unfold numF
  rw [show ((0 : Nat) : Int) = 0 from rfl] at this
  rw [this, Nat.zero_add]
  rfl
def onB (h : List Bool) (d : Nat) : Bool := h.getD d false
theorem cau_one (h : List Bool) (d : Nat) (hd : d < h.length) : cau h d (d + 1) = h.getD d false := by
  rw [cau_step h d (d + 1) (by omega) hd, cau_nil _ _ _ (Nat.le_refl _), Bool.or_false]
theorem drop_count {L : List ByteArray} {p : ByteArray → Bool} {i : Nat} (h : i < L.length) : (L.drop i).countP p = (L.drop (i + 1)).countP p + (if p L[i] = true then 1 else 0) := by
  rw [List.drop_eq_getElem_cons h, List.countP_cons]
theorem w1 (i : Nat) (h : i ≤ 100000) : wrap64 ((i : Int) + 1) = ((i + 1 : Nat) : Int) := by rw [w64 (by omega) (by omega)]; rfl

theorem Many_l0 (L : List ByteArray) (hL : L.length ≤ 9223372036854775807) : ∀ (e i : Nat), i + e = L.length → ∃ b : Bool, Ev (fun k => wigeonlaw06_Many.l0 k L (i : Int)) b ∧ (b = false → L.length ≤ 200)
  | 0, i, h => ⟨_, Ev.step (fun k => wigeonlaw06_Many.l0.eq_2 ..) (evn (by omega) (Ev.now _)), fun q => by have := of_decide_eq_false q; omega⟩
  | e + 1, i, h => by
    have hi : i < L.length := by omega
    by_cases z : ((rdOf ByteArray.empty L (i : Int)).size : Int) > 100
    · exact ⟨true, Ev.step (fun k => wigeonlaw06_Many.l0.eq_2 ..) (evp (by omega) (evp (by omega) (evp z (Ev.now _)))), fun q => by cases q⟩
    · obtain ⟨b, R, hb⟩ := Many_l0 L hL e (i + 1) (by omega)
      refine ⟨b, Ev.step (fun k => wigeonlaw06_Many.l0.eq_2 ..) (evp (by omega) (evp (by omega) (evn z ?_))), hb⟩
      rw [show wrap64 ((i : Int) + 1) = ((i + 1 : Nat) : Int) by rw [w64 (by omega) (by omega)]; rfl]
      exact R
theorem Many_ev (L : List ByteArray) (hL : L.length ≤ 9223372036854775807) : ∃ b : Bool, Ev (fun k => wigeonlaw06_Many.f k L) b ∧ (b = false → L.length ≤ 200) := Many_l0 L hL L.length 0 (by omega)
theorem known_ev : Ev (fun k => wigeonlaw06_known.f k) true := Ev.of wigeonlaw06_known.mono (k := 100) (by decide +kernel)

/-- the first and the last day -/
structure Ends (h : List Bool) (f t : Nat) : Prop where
  ft : f ≤ t
  tl : t < h.length
  hf : h.getD f false = true
  ht : h.getD t false = true
  lo : ∀ d, d < f → h.getD d false = false
  hi : ∀ d, t < d → h.getD d false = false
def shB (h : List Bool) (d : Nat) : Bool := h.getD d false && cau h (d + 1) h.length
theorem rShare_l0 {L : List ByteArray} (G : Good L) (d : Nat) (hd : d < dys L) (r : Int × Int × Int) (H : Ev (fun k => if ((cn onB L d : Nat) : Int) = 0 then some ((0 : Int), (0 : Int), (10 : Int)) else (wigeonref06_Ratio.f k ((cn shB L d : Nat) : Int) ((cn onB L d : Nat) : Int)).bind fun bt => some (bt.1, bt.2, (0 : Int))) r) :
    ∀ (e i x y : Nat), i + e = L.length → x + (L.drop i).countP (fun s => shB (hb s) d) = cn shB L d → y + (L.drop i).countP (fun s => onB (hb s) d) = cn onB L d → Ev (fun k => wigeonref06_Share.l0 k L (d : Int) (x : Int) (y : Int) (i : Int)) r
  | 0, i, x, y, hi, hx, hy => by
    rw [List.drop_of_length_le (by omega), List.countP_nil, Nat.add_zero] at hx hy
    refine Ev.step (fun k => wigeonref06_Share.l0.eq_2 ..) (evn (by omega) ?_)
    rw [hx, hy]
    exact H
  | e + 1, i, x, y, hi, hx, hy => by
    have f60 := G.few
    have d8 := G.days
    have hil : i < L.length := by omega
    have hs := G.size L[i] (List.getElem_mem hil)
    have cx := cn_le shB L d
    have cy := cn_le onB L d
    rw [drop_count hil] at hx hy
    have C1 := caught_ev L[i] (by omega) d (d + 1) (by omega)
    have C2 := caught_ev L[i] (by omega) (d + 1) (dys L) (by omega)
    rw [cau_one _ _ (by rw [hb_len]; omega)] at C1
    have e1 : onB (hb L[i]) d = (hb L[i]).getD d false := rfl
    have e2 : shB (hb L[i]) d = ((hb L[i]).getD d false && cau (hb L[i]) (d + 1) (dys L)) := by unfold shB; rw [hb_len, hs]
    have R := rShare_l0 G d hd r H e (i + 1)
    refine Ev.step (fun k => wigeonref06_Share.l0.eq_2 ..) (evp (by omega) (evp (by omega) ?_))
    rw [rdOf_at L i hil, w1 d (by omega), w1 i (by omega)]
    refine evb C1 ?_
    by_cases a : (hb L[i]).getD d false = true
    · rw [e1, a, if_pos rfl] at hy
      rw [a, Bool.true_and] at e2
      refine evp a (evs (rdays_eq L) (evb C2 ?_))
      by_cases b : cau (hb L[i]) (d + 1) (dys L) = true
      · rw [e2, b, if_pos rfl] at hx
        refine evp b ?_
        rw [w1 x (by omega), w1 y (by omega)]
        exact R (x + 1) (y + 1) (by omega) (by omega) (by omega)
      · rw [e2, if_neg b] at hx
        refine evn b ?_
        rw [w1 y (by omega)]
        exact R x (y + 1) (by omega) (by omega) (by omega)
    · rw [e1, if_neg a] at hy
      rw [Bool.eq_false_iff.2 a, Bool.false_and] at e2
      rw [e2, if_neg (by decide)] at hx
      exact evn a (R x y (by omega) (by omega) (by omega))
theorem Shares_eq (L : List ByteArray) (hL : L.length ≤ 1000) (day : Int) : ∃ r, Ev (fun k => count_Share.f k L day) r ∧ Ev (fun k => wigeonref06_Share.f k L day) r := by
  by_cases v : vhR L = 0
  · have G := vhR_good v
    have f60 := G.few
    have d8 := G.days
    have V := vh_ev L hL
    have W := rvh_ev L hL
    rw [v] at V W
    have wn : wrap64 ((dys L : Int) - 1) = (dys L : Int) - 1 := w64 (by omega) (by omega)
    by_cases hd : 0 ≤ day ∧ day ≤ (dys L : Int) - 1
    · obtain ⟨d, rfl⟩ : ∃ d : Nat, day = (d : Int) := ⟨day.toNat, by omega⟩
      have hdl : d < dys L := by omega
      have B : number_on.f L (d : Int) = some ((cn onB L d : Nat) : Int) := numF_ev G (fun s m => on_eq s d (by have := G.size s m; omega))
      have C : number_s1.f L (d : Int) = some ((cn shB L d : Nat) : Int) := numF_ev G (fun s m => by
        have hs := G.size s m
        have := s1_eq s d (by omega) (by omega)
        rw [this]; unfold shB; rw [hb_len])
      have c1 := cn_le onB L d
      have c2 := cn_le shB L d
      by_cases z : cn onB L d = 0
      · refine ⟨(0, 0, 10), ?_, ?_⟩
        · unfold count_Share.f
          refine evb V (evp rfl (evs (days_eq L) (evs (count_within_eq ..) (evp (by rw [wn]; exact decide_eq_true hd) (evs B (evp (by omega) (Ev.now _)))))))
        · unfold wigeonref06_Share.f
          refine evb W (evp rfl (evs (rdays_eq L) (evs (ref_within_eq ..) (evp (by rw [wn]; exact decide_eq_true hd) ?_))))
          exact rShare_l0 G d hdl _ (evp (by omega) (Ev.now _)) L.length 0 0 0 (by omega) (by rw [List.drop_zero, Nat.zero_add]; rfl) (by rw [List.drop_zero, Nat.zero_add]; rfl)
      · have F := fraction_ev (cn shB L d) (cn onB L d) (by omega) (by omega) (by omega)
        have Q := ratio_ev (cn shB L d) (cn onB L d) (by omega) (by omega) (by omega)
        refine ⟨(((cn shB L d / Nat.gcd (cn shB L d) (cn onB L d) : Nat) : Int), ((cn onB L d / Nat.gcd (cn shB L d) (cn onB L d) : Nat) : Int), 0), ?_, ?_⟩
        · unfold count_Share.f
          exact evb V (evp rfl (evs (days_eq L) (evs (count_within_eq ..) (evp (by rw [wn]; exact decide_eq_true hd) (evs B (evn (by omega) (evs C (evb F (Ev.now _)))))))))
        · unfold wigeonref06_Share.f
          refine evb W (evp rfl (evs (rdays_eq L) (evs (ref_within_eq ..) (evp (by rw [wn]; exact decide_eq_true hd) ?_))))
          exact rShare_l0 G d hdl _ (evn (by omega) (evb Q (Ev.now _))) L.length 0 0 0 (by omega) (by rw [List.drop_zero, Nat.zero_add]; rfl) (by rw [List.drop_zero, Nat.zero_add]; rfl)
    · refine ⟨(0, 0, 1), ?_, ?_⟩
      · unfold count_Share.f
        exact evb V (evp rfl (evs (days_eq L) (evs (count_within_eq ..) (evn (by rw [wn]; simpa using hd) (Ev.now _)))))
      · unfold wigeonref06_Share.f
        exact evb W (evp rfl (evs (rdays_eq L) (evs (ref_within_eq ..) (evn (by rw [wn]; simpa using hd) (Ev.now _)))))
  · refine ⟨(0, 0, vhR L), ?_, ?_⟩
    · unfold count_Share.f
      exact evb (vh_ev L hL) (evn v (Ev.now _))
    · unfold wigeonref06_Share.f
      exact evb (rvh_ev L hL) (evn v (Ev.now _))
theorem CountShares (a0 : List ByteArray) (a1 : Int) (h0 : (a0.length ≤ 9223372036854775807 ∧ ∀ x_ ∈ a0, x_.size ≤ 9223372036854775807)) (h1 : (Lit.int .i64 a1).wf = true) : ∃ k, wigeonlaw06_CountShares.f k a0 a1 = some true := by
  refine Ev.rounds (g := fun k => wigeonlaw06_CountShares.f k a0 a1) ?_
  obtain ⟨hl, _⟩ := h0
  unfold wigeonlaw06_CountShares.f
  obtain ⟨m, M, hm⟩ := Many_ev a0 hl
  refine evb M ?_
  cases m with
  | true => exact evp rfl (evb known_ev (Ev.now _))
  | false =>
    have h200 := hm rfl
    obtain ⟨r, A, B⟩ := Shares_eq a0 (by omega) a1
    exact evn (by simp) (evb A (evb B (evp (by simp) (evp rfl (evb known_ev (Ev.now _))))))

end Go.Proofs.YtkmhccllligcmaaDoor.Pure

