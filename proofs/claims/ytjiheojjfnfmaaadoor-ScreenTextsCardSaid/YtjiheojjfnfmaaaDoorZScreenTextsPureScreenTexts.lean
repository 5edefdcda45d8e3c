/- Of the text PureScreenTexts, what the row of ScreenTexts reaches. -/
import Derived.Test.YtjiheojjfnfmaaaDoorZScreenTextsSTx34
import Derived.Lib.AtoiAllCases
namespace Go.Proofs.YtjiheojjfnfmaaaDoor.Pure
set_option linter.unusedVariables false
set_option linter.unusedSimpArgs false
open Go.RowKit Go.Proofs.YtjiheojjfnfmaaaDoor.ST Go.Proofs.YtjiheojjfnfmaaaDoorW.PrintWords Go.Proofs.YtjiheojjfnfmaaaDoorW.PrintLast

theorem evp {α : Type} {c : Prop} [Decidable c] {f g : Nat → Option α} {r : α} (h : c) (k : Ev f r) : Ev (fun n => if c then f n else g n) r :=
  Ev.congr (fun _ => if_pos h) k
theorem evn {α : Type} {c : Prop} [Decidable c] {f g : Nat → Option α} {r : α} (h : ¬ c) (k : Ev g r) : Ev (fun n => if c then f n else g n) r :=
  Ev.congr (fun _ => if_neg h) k
theorem evb {α β : Type} {g : Nat → Option α} {f : Nat → α → Option β} {a : α} {r : β} (h : Ev g a) (k : Ev (fun n => f n a) r) : Ev (fun n => (g n).bind (f n)) r := Ev.bind h k
theorem evs {α β : Type} {x : Option α} {f : Nat → α → Option β} {a : α} {r : β} (h : x = some a) (k : Ev (fun n => f n a) r) : Ev (fun n => x.bind (f n)) r := by
  subst h; exact k
theorem w64 {n : Int} (h : -9223372036854775808 ≤ n) (h2 : n ≤ 9223372036854775807) : wrap64 n = n := by unfold wrap64; omega
theorem rd_at (l : List Int) (i : Nat) (h : i < l.length) : rd l (i : Int) = l[i] := by
  simp [rd, List.getD_eq_getElem?_getD, List.getElem?_eq_getElem h]
theorem rdX_at (l : List S46) (i : Nat) (h : i < l.length) : rd_T46 l (i : Int) = l[i] := by
  simp [rd_T46, List.getD_eq_getElem?_getD, List.getElem?_eq_getElem h]

def inR (a b : Int) : Prop := -100 ≤ a ∧ a ≤ 100 ∧ -100 ≤ b ∧ b ≤ 100
theorem far_in (p : S44) : farB p = false ↔ inR p.f0 p.f1 := by
  unfold farB inR
  simp only [Bool.or_eq_false_iff, decide_eq_false_iff_not]
  omega
def plB (l : List S44) : Bool := !(l.any farB)
theorem place_eq (l : List S44) : screen_place.f l = some (plB l) := rfl
theorem plB_in {l : List S44} (h : plB l = true) : ∀ p ∈ l, inR p.f0 p.f1 := by
  intro p hp
  unfold plB at h
  rw [Bool.not_eq_true', List.any_eq_false] at h
  exact (far_in p).1 (by simpa using h p hp)
theorem isPoint_eq (a b : Int) : wigeonref02_IsPoint.f a b = some (!farB ⟨a, b⟩) := by
  unfold wigeonref02_IsPoint.f wigeonref02_within.f farB
  by_cases h1 : a < -100
  · simp only [h1, decide_true, Bool.true_or, Bool.not_true, if_neg (show ¬ a ≥ -100 by omega), Option.bind_some]; rfl
  · rw [if_pos (show a ≥ -100 by omega), Option.bind_some]
    by_cases h2 : a > 100
    · rw [if_neg (by simp; omega)]; simp [h2]
    · rw [if_pos (by simp; omega)]
      by_cases h3 : b < -100
      · rw [if_neg (by omega)]; simp [h3]
      · rw [if_pos (by omega)]
        have e : decide (b ≤ 100) = !decide (b > 100) := by rw [← decide_not]; exact decide_eq_decide.2 (by omega)
        rw [e]; simp [h1, h2, h3]

def okS (s : S46) : Bool := plB [⟨s.f0.f0, s.f0.f1⟩, ⟨s.f1.f0, s.f1.f1⟩] && !(s.f0.f0 == s.f1.f0 && s.f0.f1 == s.f1.f1)
def valR (l : List S46) : Int := if l.length > 12 then 3 else if l.all okS then 0 else 1
theorem valid_l0 (l : List S46) (hl : l.length ≤ 12) : ∀ d i : Nat, i + d = l.length → Ev (fun k => screen_Validate.l0 k l (l.length : Int) (i : Int)) (if (l.drop i).all okS then (0 : Int) else 1)
  | 0, i, h => by
    refine Ev.step (fun k => screen_Validate.l0.eq_2 ..) (evn (by omega) ?_)
    rw [List.drop_eq_nil_of_le (by omega)]; exact Ev.now _
  | d + 1, i, h => by
    have hlt : i < l.length := by omega
    have R := valid_l0 l hl d (i + 1) (by omega)
    refine Ev.step (fun k => screen_Validate.l0.eq_2 ..) (evp (by omega) (evp (by omega) (evp (by omega) (evs (place_eq _) ?_))))
    rw [rdX_at l i hlt, List.drop_eq_getElem_cons hlt, List.all_cons, w64 (by omega) (by omega)]
    unfold okS
    cases plB [⟨(l[i]).f0.f0, (l[i]).f0.f1⟩, ⟨(l[i]).f1.f0, (l[i]).f1.f1⟩]
    · exact evn (by decide) (by rw [Bool.false_and, Bool.false_and, if_neg (by decide)]; exact Ev.now _)
    · refine evp rfl ?_
      cases ((l[i]).f0.f0 == (l[i]).f1.f0 && (l[i]).f0.f1 == (l[i]).f1.f1)
      · exact evn (by decide) (by rw [Bool.not_false, Bool.true_and, Bool.true_and]; exact R)
      · exact evp rfl (by rw [Bool.not_true, Bool.true_and, Bool.false_and, if_neg (by decide)]; exact Ev.now _)
theorem valid_ev (l : List S46) : Ev (fun k => screen_Validate.f k l) (valR l) := by
  unfold screen_Validate.f valR
  by_cases h : l.length > 12
  · rw [if_pos h]; exact evp (by omega) (Ev.now _)
  · rw [if_neg h]; exact evn (by omega) (valid_l0 l (by omega) l.length 0 (by omega))
theorem rvalid_l0 (l : List S46) (hl : l.length ≤ 12) : ∀ d i : Nat, i + d = l.length → Ev (fun k => wigeonref02_Validate.l0 k l (i : Int)) (if (l.drop i).all okS then (0 : Int) else 1)
  | 0, i, h => by
    refine Ev.step (fun k => wigeonref02_Validate.l0.eq_2 ..) (evn (by omega) ?_)
    rw [List.drop_eq_nil_of_le (by omega)]; exact Ev.now _
  | d + 1, i, h => by
    have hlt : i < l.length := by omega
    have R := rvalid_l0 l hl d (i + 1) (by omega)
    refine Ev.step (fun k => wigeonref02_Validate.l0.eq_2 ..) (evp (by omega) (evp (by omega) (evs (isPoint_eq _ _) ?_)))
    rw [rdX_at l i hlt, List.drop_eq_getElem_cons hlt, List.all_cons, w64 (by omega) (by omega)]
    unfold okS plB
    rw [List.any_cons, List.any_cons, List.any_nil, Bool.or_false]
    cases farB ⟨(l[i]).f0.f0, (l[i]).f0.f1⟩
    · refine evp rfl (evs (isPoint_eq _ _) ?_)
      cases farB ⟨(l[i]).f1.f0, (l[i]).f1.f1⟩
      · refine evp rfl ?_
        cases ((l[i]).f0.f0 == (l[i]).f1.f0 && (l[i]).f0.f1 == (l[i]).f1.f1)
        · exact evn (by decide) R
        · exact evp rfl (Ev.now _)
      · exact evn (by decide) (Ev.now _)
    · exact evn (by decide) (Ev.now _)
theorem rvalid_ev (l : List S46) : Ev (fun k => wigeonref02_Validate.f k l) (valR l) := by
  unfold wigeonref02_Validate.f valR
  by_cases h : l.length > 12
  · rw [if_pos h]; exact evp (by omega) (Ev.now _)
  · rw [if_neg h]; exact evn (by omega) (rvalid_l0 l (by omega) l.length 0 (by omega))
theorem valR_ok {l : List S46} (h : valR l = 0) : l.length ≤ 12 ∧ ∀ s ∈ l, inR s.f0.f0 s.f0.f1 ∧ inR s.f1.f0 s.f1.f1 := by
  unfold valR at h
  by_cases h1 : l.length > 12
  · rw [if_pos h1] at h; exact absurd h (by decide)
  · rw [if_neg h1] at h
    by_cases h2 : l.all okS = true
    · refine ⟨by omega, fun s hs => ?_⟩
      have a := List.all_eq_true.1 h2 s hs
      unfold okS at a
      rw [Bool.and_eq_true] at a
      have b := plB_in a.1
      exact ⟨b ⟨s.f0.f0, s.f0.f1⟩ (by simp), b ⟨s.f1.f0, s.f1.f1⟩ (by simp)⟩
    · rw [if_neg h2] at h; exact absurd h (by decide)

theorem known_ev : Ev (fun k => wigeonlaw02_known.f k) true := Ev.of wigeonlaw02_known.mono (k := 100) (by decide +kernel)

theorem bt_bytes (s : ByteArray) (i : Nat) (h : i < (bytesOf s).length) : bt s (i : Int) = (bytesOf s)[i] := by
  rw [← rd_bytesOf, rd_at _ _ h]

def bl (s : ByteArray) : List UInt8 := s.data.toList
def ofL (l : List UInt8) : ByteArray := ⟨l.toArray⟩
theorem bl_ofL (l : List UInt8) : bl (ofL l) = l := by simp [bl, ofL]
theorem ofL_bl (s : ByteArray) : ofL (bl s) = s := by cases s; simp [bl, ofL]
theorem bl_len (s : ByteArray) : (bl s).length = s.size := by cases s; simp [bl, ByteArray.size]
theorem ofL_size (l : List UInt8) : (ofL l).size = l.length := by rw [← bl_len, bl_ofL]
theorem bl_inj {a b : ByteArray} (h : bl a = bl b) : a = b := by rw [← ofL_bl a, h, ofL_bl]
theorem bl_tl (s : ByteArray) : s.toList = bl s := ByteArray.toList_eq s
theorem bl_app (a b : ByteArray) : bl (a ++ b) = bl a ++ bl b := by simp [bl]
theorem bl_ext (s : ByteArray) (i j : Nat) : bl (s.extract i j) = ((bl s).take j).drop i := by
  simp only [bl, ByteArray.data_extract, Array.toList_extract, List.extract_eq_take_drop, List.drop_take]
theorem bl_from (s : ByteArray) (i : Nat) : bl (s.extract i s.size) = (bl s).drop i := by
  rw [bl_ext, List.take_of_length_le (by rw [bl_len]; omega)]
theorem bl_to (s : ByteArray) (j : Nat) : bl (s.extract 0 j) = (bl s).take j := by rw [bl_ext, List.drop_zero]
theorem bt_bl (s : ByteArray) (i : Nat) (h : i < (bl s).length) : bt s (i : Int) = (((bl s)[i]).toNat : Int) := by
  rw [bt_bytes s i (by rw [bytesOf_length, ← bl_len]; exact h)]
  simp [bytesOf, bl]

def digs (l : List UInt8) : Prop := ∀ c ∈ l, 48 ≤ c.toNat ∧ c.toNat ≤ 57
def val (x : Nat) (l : List UInt8) : Nat := l.foldl (fun x c => 10 * x + (c.toNat - 48)) x
theorem val_cons (x : Nat) (c : UInt8) (l : List UInt8) : val x (c :: l) = val (10 * x + (c.toNat - 48)) l := by unfold val; rw [List.foldl_cons]
theorem dec_small {n : Nat} (h : n < 10) : Lib.decDigits n = [UInt8.ofNat (48 + n)] := by rw [Lib.decDigits, dif_pos h]
theorem dec_big {n : Nat} (h : ¬ n < 10) : Lib.decDigits n = Lib.decDigits (n / 10) ++ [UInt8.ofNat (48 + n % 10)] := by rw [Lib.decDigits, dif_neg h]
theorem ch_nat {d : Nat} (h : d < 10) : (UInt8.ofNat (48 + d)).toNat = 48 + d := by
  rw [UInt8.toNat_ofNat']; omega
theorem dec_digs (n : Nat) : digs (Lib.decDigits n) := by
  induction n using Nat.strongRecOn with
  | _ n ih =>
    by_cases h : n < 10
    · rw [dec_small h]; intro c hc; rw [List.mem_singleton.1 hc, ch_nat h]; omega
    · rw [dec_big h]
      intro c hc
      rcases List.mem_append.1 hc with q | q
      · exact ih (n / 10) (by omega) c q
      · rw [List.mem_singleton.1 q, ch_nat (by omega)]; omega
theorem dec_val (n : Nat) : val 0 (Lib.decDigits n) = n := by
  induction n using Nat.strongRecOn with
  | _ n ih =>
    by_cases h : n < 10
    · rw [dec_small h]; unfold val; simp only [List.foldl_cons, List.foldl_nil]; rw [ch_nat h]; omega
    · rw [dec_big h]; unfold val at ih ⊢; rw [List.foldl_append, ih (n / 10) (by omega)]
      simp only [List.foldl_cons, List.foldl_nil]; rw [ch_nat (by omega)]; omega
theorem dec_ne (n : Nat) : Lib.decDigits n ≠ [] := by
  by_cases h : n < 10
  · rw [dec_small h]; simp
  · rw [dec_big h]; simp
theorem dec_len : ∀ (k n : Nat), n < 10 ^ (k + 1) → (Lib.decDigits n).length ≤ k + 1
  | 0, n, h => by rw [dec_small (by simpa using h)]; simp
  | k + 1, n, h => by
    by_cases h2 : n < 10
    · rw [dec_small h2]; simp
    · rw [dec_big h2]
      have := dec_len k (n / 10) (by rw [Nat.pow_succ] at h; omega)
      simp; omega
theorem parse_val : ∀ (l : List UInt8) (acc a : Nat), digs l → acc < 10 ^ a → a + l.length ≤ 18 → Lib.parseUint10 acc l = .ok (val acc l)
  | [], acc, a, _, _, _ => rfl
  | c :: l, acc, a, hd, ha, hl => by
    have h1 := hd c List.mem_cons_self
    rw [List.length_cons] at hl
    have hp : 10 ^ a ≤ 10 ^ 17 := Nat.pow_le_pow_right (by decide) (by omega)
    have hs : acc * 10 + (c.toNat - 48) < 10 ^ (a + 1) := by rw [Nat.pow_succ]; omega
    have hn : (10 : Nat) ^ 17 = 100000000000000000 := by decide
    unfold Lib.parseUint10
    rw [if_pos h1, if_neg (by omega), if_neg (by omega), parse_val l _ (a + 1) (fun c q => hd c (List.mem_cons_of_mem _ q)) hs (by omega), val_cons, Nat.mul_comm]
theorem atoi_dec (n : Nat) (h : n < 10 ^ 10) : Lib.atoiAll (Lib.decDigits n) = .ok (n : Int) := by
  have hd := dec_digs n
  have hl := dec_len 9 n h
  have hp := parse_val (Lib.decDigits n) 0 0 hd (by decide) (by omega)
  rw [dec_val] at hp
  cases e : Lib.decDigits n with
  | nil => exact absurd e (dec_ne n)
  | cons c r =>
    have hc := hd c (by rw [e]; exact List.mem_cons_self)
    rw [e] at hp
    have hn : (10 : Nat) ^ 10 = 10000000000 := by decide
    unfold Lib.atoiAll Lib.parseMag
    simp only [if_neg (show ¬ (c.toNat = 43 ∨ c.toNat = 45) by omega), if_neg (List.cons_ne_nil c r), hp]
    rw [if_neg (fun q => by omega), if_neg (fun q => by omega), if_neg (by omega)]
def splC (sepc : UInt8) (cur : List UInt8) : List UInt8 → List (List UInt8)
  | [] => [cur]
  | c :: l => if c = sepc then cur :: splC sepc [] l else splC sepc (cur ++ [c]) l
theorem splC_cons (sepc : UInt8) (cur : List UInt8) (c : UInt8) (l : List UInt8) : splC sepc cur (c :: l) = if c = sepc then cur :: splC sepc [] l else splC sepc (cur ++ [c]) l := rfl
theorem splC_none (sepc : UInt8) : ∀ l cur : List UInt8, l.count sepc = 0 → splC sepc cur l = [cur ++ l]
  | [], cur, _ => by simp [splC]
  | c :: l, cur, h => by
    unfold splC
    have hc : ¬ c = sepc := fun e => by subst e; simp at h
    rw [if_neg hc, splC_none sepc l _ (by rwa [List.count_cons_of_ne hc] at h)]; simp
theorem splC_at (sepc : UInt8) : ∀ (l cur : List UInt8) (m : Nat), l[m]? = some sepc → (∀ k, k < m → l[k]? ≠ some sepc) → splC sepc cur l = (cur ++ l.take m) :: splC sepc [] (l.drop (m + 1))
  | [], _, m, h, _ => by simp at h
  | c :: l, cur, m, h, g => by
    rw [splC_cons]
    cases m with
    | zero =>
      simp only [List.getElem?_cons_zero, Option.some.injEq] at h
      rw [if_pos h]; simp
    | succ m =>
      have hc : ¬ c = sepc := fun e => g 0 (by omega) (by simp [e])
      rw [if_neg hc, splC_at sepc l _ m (by simpa using h) (fun k hk => by simpa using g (k + 1) (by omega))]
      simp
theorem splC_app (sepc : UInt8) : ∀ (a b cur : List UInt8), a.count sepc = 0 → splC sepc cur (a ++ sepc :: b) = (cur ++ a) :: splC sepc [] b
  | [], b, cur, _ => by rw [List.nil_append, splC_cons, if_pos rfl, List.append_nil]
  | c :: a, b, cur, h => by
    have hc : ¬ c = sepc := fun e => by subst e; simp at h
    rw [List.cons_append, splC_cons, if_neg hc, splC_app sepc a b _ (by rwa [List.count_cons_of_ne hc] at h)]; simp
theorem countC_at (sepc : UInt8) (l : List UInt8) (m : Nat) (h : l[m]? = some sepc) (g : ∀ k, k < m → l[k]? ≠ some sepc) : l.count sepc = (l.drop (m + 1)).count sepc + 1 := by
  have hm : m < l.length := by
    rcases Nat.lt_or_ge m l.length with q | q
    · exact q
    · rw [List.getElem?_eq_none q] at h; cases h
  have e : l = l.take m ++ sepc :: l.drop (m + 1) := by
    rw [List.getElem?_eq_getElem hm] at h
    rw [← Option.some.inj h, ← List.drop_eq_getElem_cons hm, List.take_append_drop]
  have z : (l.take m).count sepc = 0 := by
    refine List.count_eq_zero.2 fun q => ?_
    obtain ⟨k, hk, hq⟩ := List.getElem_of_mem q
    have hk2 : k < m := by rw [List.length_take] at hk; omega
    exact g k hk2 (by rw [List.getElem_take] at hq; rw [List.getElem?_eq_getElem (by omega), hq])
  rw [show l.count sepc = (l.take m ++ sepc :: l.drop (m + 1)).count sepc from congrArg _ e, List.count_append, z, List.count_cons_self]; omega
theorem idx_none {l : List UInt8} {c : UInt8} (h : Lib.indexByte l c < 0) : l.count c = 0 := by
  have h1 : Lib.indexByte l c = -1 := by have := Lib.indexByte_ge l c; omega
  refine List.count_eq_zero.2 fun q => ?_
  obtain ⟨k, hk, hq⟩ := List.getElem_of_mem q
  exact Lib.indexByte_none h1 k (by rw [List.getElem?_eq_getElem hk, hq])
theorem idx_some {l : List UInt8} {c : UInt8} (h : 0 ≤ Lib.indexByte l c) : ∃ m : Nat, Lib.indexByte l c = m ∧ m < l.length ∧ l[m]? = some c ∧ ∀ k, k < m → l[k]? ≠ some c := by
  obtain ⟨m, hm⟩ := Int.eq_ofNat_of_zero_le h
  obtain ⟨h1, h2⟩ := Lib.indexByte_some hm
  refine ⟨m, hm, ?_, h1, h2⟩
  rcases Nat.lt_or_ge m l.length with q | q
  · exact q
  · rw [List.getElem?_eq_none q] at h1; cases h1
theorem idx_pos {l : List UInt8} {c : UInt8} (h : l.count c ≠ 0) : 0 ≤ Lib.indexByte l c := by
  rcases Int.lt_or_le (Lib.indexByte l c) 0 with q | q
  · exact absurd (idx_none q) h
  · exact q

theorem Index_eq (s : ByteArray) (c : UInt8) : strings_Index.f s ⟨#[c]⟩ = some (Lib.indexByte (bl s) c) := rfl
theorem Count_eq (s : ByteArray) (c : UInt8) : strings_Count.f s ⟨#[c]⟩ = some (((bl s).count c : Nat) : Int) := rfl
theorem split_l0 (sepc : UInt8) : ∀ (d : Nat) (s : ByteArray) (arr : List ByteArray) (i : Nat), (bl s).count sepc = d → arr.length = i + d + 1 → s.size ≤ 100000 → i + d ≤ 100000 →
    Ev (fun k => strings_genSplit.l0 k s ⟨#[sepc]⟩ 0 ((i + d : Nat) : Int) arr (i : Int)) (arr.take i ++ (splC sepc [] (bl s)).map ofL)
  | 0, s, arr, i, hc, ha, hs, hi => by
    refine Ev.step (fun k => strings_genSplit.l0.eq_2 ..) (evn (by omega) (evp (by omega) (evp (by omega) ?_)))
    rw [w64 (by omega) (by omega)]
    refine evp (by omega) (evp (by omega) ?_)
    rw [splC_none _ _ _ hc, List.nil_append, List.map_cons, List.map_nil, ofL_bl, show ((i : Int) + 1).toNat = i + 1 by omega, show (i : Int).toNat = i by omega]
    rw [show (arr.set i s).take (i + 1) = arr.take i ++ [s] by
      rw [List.take_succ_eq_append_getElem (by rw [List.length_set]; omega), List.getElem_set_self, List.take_set_of_le (by omega)]]
    exact Ev.now _
  | d + 1, s, arr, i, hc, ha, hs, hi => by
    obtain ⟨m, hm, hl, h1, h2⟩ := idx_some (idx_pos (c := sepc) (l := bl s) (by omega))
    have hl2 : m < s.size := by rw [← bl_len]; exact hl
    have hk := countC_at _ _ m h1 h2
    refine Ev.step (fun k => strings_genSplit.l0.eq_2 ..) (evp (by omega) (evs (Index_eq s sepc) ?_))
    rw [hm]
    refine evn (by omega) ?_
    rw [show (⟨#[sepc]⟩ : ByteArray).size = 1 from rfl, Int.add_zero, w64 (by omega) (by omega), w64 (by omega) (by omega), w64 (by omega) (by omega)]
    refine evp (by omega) (evp (by omega) (evp (by omega) (evp (by omega) (evp (by omega) (evp (by omega) ?_)))))
    rw [show ((m : Int) + ((1 : Nat) : Int)).toNat = m + 1 by omega, show (m : Int).toNat = m by omega, show (i : Int).toNat = i by omega]
    have R := split_l0 sepc d (s.extract (m + 1) s.size) (arr.set i (s.extract 0 m)) (i + 1) (by rw [bl_from]; omega) (by rw [List.length_set]; omega) (by rw [ByteArray.size_extract]; omega) (by omega)
    rw [show i + 1 + d = i + (d + 1) by omega, bl_from, List.take_succ_eq_append_getElem (by rw [List.length_set]; omega), List.getElem_set_self, List.take_set_of_le (by omega)] at R
    rw [splC_at _ _ _ m h1 h2, List.nil_append, List.map_cons, ← bl_to, ofL_bl]
    rw [List.append_assoc] at R
    exact R
def spl (sepc : UInt8) (s : ByteArray) : List ByteArray := (splC sepc [] (bl s)).map ofL
theorem Split_ev (sepc : UInt8) (s : ByteArray) (hs : s.size ≤ 10000) : Ev (fun k => strings_Split.f k s ⟨#[sepc]⟩) (spl sepc s) := by
  unfold strings_Split.f strings_genSplit.f
  have hcl : (bl s).count sepc ≤ s.size := by rw [← bl_len]; exact List.count_le_length
  refine evb (evn (by decide) (evn (by simp [bl_tl, bl]) (evp (by decide) (evs (Count_eq s sepc) ?_)))) (Ev.now _)
  refine Ev.step (fun k => strings_genSplit.j0.eq_2 ..) ?_
  rw [w64 (by omega) (by omega), w64 (by omega) (by omega), show mn (((bl s).count sepc : Nat) + 1 : Int) ((s.size : Int) + 1) = (((bl s).count sepc + 1 : Nat) : Int) by unfold mn; split <;> omega]
  refine evp (by omega) (evp (by omega) ?_)
  rw [w64 (by omega) (by omega)]
  have R := split_l0 sepc _ s (List.replicate ((bl s).count sepc + 1) ⟨#[]⟩) 0 rfl (by simp) (by omega) (by omega)
  rw [List.take_zero, List.nil_append, Nat.zero_add] at R
  rw [show ((((bl s).count sepc + 1 : Nat) : Int) - 1) = (((bl s).count sepc : Nat) : Int) by omega, show (((bl s).count sepc + 1 : Nat) : Int).toNat = (bl s).count sepc + 1 by omega]
  exact R
theorem splC_len (sepc : UInt8) : ∀ (l cur : List UInt8), (splC sepc cur l).length ≤ l.length + 1 ∧ ∀ w ∈ splC sepc cur l, w.length ≤ cur.length + l.length
  | [], cur => by simp [splC]
  | c :: l, cur => by
    rw [splC_cons]
    split
    · have h := splC_len sepc l []
      refine ⟨by rw [List.length_cons, List.length_cons]; omega, fun w hw => ?_⟩
      rcases List.mem_cons.1 hw with e | e
      · subst e; rw [List.length_cons]; omega
      · have := h.2 w e; rw [List.length_cons]; rw [List.length_nil] at this; omega
    · have h := splC_len sepc l (cur ++ [c])
      rw [List.length_append, List.length_singleton] at h
      refine ⟨by rw [List.length_cons]; omega, fun w hw => ?_⟩
      have := h.2 w hw; rw [List.length_cons]; omega
theorem splC_ne (sepc : UInt8) : ∀ (l cur : List UInt8), splC sepc cur l ≠ []
  | [], _ => by simp [splC]
  | c :: l, cur => by
    rw [splC_cons]
    split
    · simp
    · exact splC_ne sepc l _
theorem spl_len (sepc : UInt8) (s : ByteArray) : 1 ≤ (spl sepc s).length ∧ (spl sepc s).length ≤ s.size + 1 ∧ ∀ w ∈ spl sepc s, w.size ≤ s.size := by
  have h := splC_len sepc (bl s) []
  have e := splC_ne sepc (bl s) []
  rw [bl_len] at h
  unfold spl
  rw [List.length_map]
  refine ⟨by rcases List.length_pos_iff.2 e with q; omega, h.1, fun w hw => ?_⟩
  obtain ⟨z, hz, rfl⟩ := List.mem_map.1 hw
  have := h.2 z hz
  rw [ofL_size]; rw [List.length_nil] at this; omega

theorem ofL_app (a b : List UInt8) : ofL a ++ ofL b = ofL (a ++ b) := bl_inj (by rw [bl_app, bl_ofL, bl_ofL, bl_ofL])
def at1 (w : ByteArray) : Option Int := match Lib.atoiAll (bl w) with | .ok v => some v | _ => none
theorem Atoi_eq (w : ByteArray) (hs : w.size ≤ 10000) : ∃ r : Int × Option Int, strconv_Atoi_29.f w = some r ∧ (∀ v, at1 w = some v → r = (v, none)) ∧ (at1 w = none → ¬ r.2.isNone = true) := by
  unfold strconv_Atoi_29.f at1
  rw [if_pos (by omega), show w.data.toList = bl w from rfl]
  cases h : Lib.atoiAll (bl w) with
  | ok v => exact ⟨(v, none), rfl, fun x e => (by rw [Option.some.inj e]), fun e => (by cases e)⟩
  | «syntax» => exact ⟨(0, some 0), rfl, fun x e => (by cases e), fun _ => (by simp)⟩
  | range => exact ⟨_, rfl, fun x e => (by cases e), fun _ => (by simp)⟩
theorem trim_eq (t : ByteArray) (hs : t.size ≤ 10000) : ∃ t', strings_TrimSuffix.f t ⟨#[10]⟩ = some t' ∧ t'.size ≤ t.size ∧ ∀ T, bl t = T ++ [10] → bl t' = T := by
  unfold strings_TrimSuffix.f stringslite_TrimSuffix.f stringslite_HasSuffix.f
  have e1 : ((⟨#[10]⟩ : ByteArray).size : Int) = 1 := rfl
  rw [e1]
  by_cases h : (t.size : Int) ≥ 1
  · rw [if_pos h, w64 (by omega) (by omega), if_pos (by omega), if_pos (by omega), Option.bind_some]
    have en : ((t.size : Int) - 1).toNat = t.size - 1 := by omega
    rw [en]
    by_cases q : ((t.extract (t.size - 1) t.size).toList == (⟨#[10]⟩ : ByteArray).toList) = true
    · rw [if_pos q, if_pos (by omega), if_pos (by omega), Option.bind_some]
      refine ⟨_, rfl, by rw [ByteArray.size_extract]; omega, fun T hT => ?_⟩
      have hl := bl_len t
      rw [hT, List.length_append, List.length_singleton] at hl
      rw [bl_to, hT, show t.size - 1 = T.length by omega, List.take_left' rfl]
    · rw [if_neg q, Option.bind_some]
      refine ⟨_, rfl, Nat.le_refl _, fun T hT => absurd ?_ q⟩
      have hl := bl_len t
      rw [hT, List.length_append, List.length_singleton] at hl
      rw [bl_tl, bl_tl, bl_from, hT, show t.size - 1 = T.length by omega, List.drop_left' rfl]; rfl
  · rw [if_neg h, Option.bind_some, if_neg (by decide), Option.bind_some]
    refine ⟨_, rfl, Nat.le_refl _, fun T hT => ?_⟩
    have hl := bl_len t
    rw [hT, List.length_append, List.length_singleton] at hl; omega
def digB (l : List UInt8) : Bool := l.all fun c => decide (48 ≤ c.toNat ∧ c.toNat ≤ 57)
theorem dec_no (n : Nat) (c : UInt8) (hc : c.toNat < 48) : (Lib.decDigits n).count c = 0 :=
  List.count_eq_zero.2 fun q => by have := dec_digs n c q; omega

def NI (x : Int) : Prop := -100 ≤ x ∧ x ≤ 100
theorem Itoa_eq (x : Int) (h : NI x) : strconv_Itoa_22.f x = some (ofL (Lib.itoa x)) := if_pos (by unfold NI at h; omega)
theorem it_dec (x : Int) (h : NI x) : ∃ n : Nat, n < 1000 ∧ ((x = n ∧ Lib.itoa x = Lib.decDigits n) ∨ (x = -(n : Int) ∧ Lib.itoa x = 45 :: Lib.decDigits n)) := by
  unfold NI at h
  by_cases hx : x < 0
  · exact ⟨x.natAbs, by omega, .inr ⟨by omega, if_pos hx⟩⟩
  · exact ⟨x.toNat, by omega, .inl ⟨by omega, if_neg hx⟩⟩
theorem it_len (x : Int) (h : NI x) : (Lib.itoa x).length ≤ 4 := by
  obtain ⟨n, hn, (⟨_, e⟩ | ⟨_, e⟩)⟩ := it_dec x h
  · rw [e]; have := dec_len 2 n (by omega); omega
  · rw [e, List.length_cons]; have := dec_len 2 n (by omega); omega
theorem it_no (x : Int) (h : NI x) (c : UInt8) (hc : c.toNat < 45) : (Lib.itoa x).count c = 0 := by
  obtain ⟨n, hn, (⟨_, e⟩ | ⟨_, e⟩)⟩ := it_dec x h
  · rw [e]; exact dec_no n c (by omega)
  · rw [e, List.count_cons_of_ne (fun q => by subst q; exact absurd hc (by decide)), dec_no n c (by omega)]
def bodT (s : S46) : List UInt8 := Lib.itoa s.f0.f0 ++ 32 :: (Lib.itoa s.f0.f1 ++ 32 :: (Lib.itoa s.f1.f0 ++ 32 :: Lib.itoa s.f1.f1))
def linT (s : S46) : List UInt8 := bodT s ++ [10]
def fmtS (l : List S46) : List UInt8 := l.flatMap linT
/-- a screen whose numbers are small -/
structure GS (s : S46) : Prop where
  a : NI s.f0.f0
  b : NI s.f0.f1
  c : NI s.f1.f0
  d : NI s.f1.f1
theorem valR_gs {l : List S46} (h : valR l = 0) : ∀ s ∈ l, GS s := fun s hs => by
  obtain ⟨h1, h2⟩ := (valR_ok h).2 s hs
  unfold inR at h1 h2
  exact ⟨⟨h1.1, h1.2.1⟩, ⟨h1.2.2.1, h1.2.2.2⟩, ⟨h2.1, h2.2.1⟩, ⟨h2.2.2.1, h2.2.2.2⟩⟩
theorem lin_len {s : S46} (h : GS s) : (linT s).length ≤ 20 := by
  have := it_len _ h.a; have := it_len _ h.b; have := it_len _ h.c; have := it_len _ h.d
  unfold linT bodT
  simp only [List.length_append, List.length_cons, List.length_nil]; omega
theorem fmtS_cons (s : S46) (l : List S46) : fmtS (s :: l) = linT s ++ fmtS l := by simp [fmtS]
theorem fmtS_len : ∀ l : List S46, (∀ s ∈ l, GS s) → (fmtS l).length ≤ l.length * 20
  | [], _ => by simp [fmtS]
  | s :: l, h => by
    have a := lin_len (h s (by simp)); have b := fmtS_len l (fun x hx => h x (by simp [hx]))
    rw [fmtS_cons, List.length_append, List.length_cons]; omega
theorem bsz (a b : ByteArray) : (a ++ b).size = a.size + b.size := by rw [← bl_len, bl_app, List.length_append, bl_len, bl_len]
theorem s32 : (⟨#[32]⟩ : ByteArray) = ofL [32] := rfl
theorem s10 : (⟨#[10]⟩ : ByteArray) = ofL [10] := rfl
theorem lin_join (s : S46) : ((((((ofL (Lib.itoa s.f0.f0) ++ (⟨#[32]⟩ : ByteArray)) ++ ofL (Lib.itoa s.f0.f1)) ++ (⟨#[32]⟩ : ByteArray)) ++ ofL (Lib.itoa s.f1.f0)) ++ (⟨#[32]⟩ : ByteArray)) ++ ofL (Lib.itoa s.f1.f1)) ++ (⟨#[10]⟩ : ByteArray) = ofL (linT s) := by
  rw [s32, s10]; simp only [ofL_app]; unfold linT bodT; simp

theorem format_l0 (l : List S46) (hl : l.length ≤ 12) (hg : ∀ s ∈ l, GS s) : ∀ (d i : Nat) (acc : List UInt8), i + d = l.length → acc.length ≤ i * 20 →
    Ev (fun k => screen_Format.l0 k (ofL acc) l (l.length : Int) (i : Int)) (ofL (acc ++ fmtS (l.drop i)), 0)
  | 0, i, acc, h, ha => by
    refine Ev.step (fun k => screen_Format.l0.eq_2 ..) (evn (by omega) ?_)
    rw [List.drop_eq_nil_of_le (by omega), show fmtS [] = [] from rfl, List.append_nil]; exact Ev.now _
  | d + 1, i, acc, h, ha => by
    have hi : i < l.length := by omega
    have G := hg _ (List.getElem_mem hi)
    have l1 := it_len _ G.a; have l2 := it_len _ G.b; have l3 := it_len _ G.c; have l4 := it_len _ G.d
    have ll := lin_len G
    have R := format_l0 l hl hg d (i + 1) (acc ++ linT l[i]) (by omega) (by rw [List.length_append]; omega)
    rw [List.drop_eq_getElem_cons hi, fmtS_cons, ← List.append_assoc]
    have z32 : (⟨#[32]⟩ : ByteArray).size = 1 := rfl
    have z10 : (⟨#[10]⟩ : ByteArray).size = 1 := rfl
    refine Ev.step (fun k => screen_Format.l0.eq_2 ..) (evp (by omega) (evp (by omega) (evp (by omega) ?_)))
    rw [rdX_at l i hi]
    refine evs (Itoa_eq _ G.a) (evp (by rw [ofL_size]; omega) (evs (Itoa_eq _ G.b) (evp (by simp only [bsz, ofL_size, z32]; omega) (evp (by simp only [bsz, ofL_size, z32]; omega) (evs (Itoa_eq _ G.c) (evp (by simp only [bsz, ofL_size, z32]; omega) (evp (by simp only [bsz, ofL_size, z32]; omega) (evs (Itoa_eq _ G.d) (evp (by simp only [bsz, ofL_size, z32]; omega) (evp (by simp only [bsz, ofL_size, z32]; omega) ?_))))))))))
    rw [lin_join]
    refine evp (by rw [ofL_size, ofL_size]; omega) ?_
    rw [ofL_app, w64 (n := (i : Int) + 1) (by omega) (by omega)]
    exact R
def fmR (l : List S46) : ByteArray × Int := if valR l = 0 then (ofL (fmtS l), 0) else (⟨#[]⟩, valR l)
theorem Format_ev (l : List S46) : Ev (fun k => screen_Format.f k l) (fmR l) := by
  unfold screen_Format.f fmR
  refine evb (valid_ev l) ?_
  by_cases h : valR l = 0
  · rw [if_pos h]
    have R := format_l0 l (valR_ok h).1 (valR_gs h) l.length 0 [] (by omega) (by simp)
    rw [List.nil_append, List.drop_zero] at R
    exact evp h R
  · rw [if_neg h]; exact evn h (Ev.now _)
theorem line_eq (s : S46) (G : GS s) : wigeonref02_line.f s.f0.f0 s.f0.f1 s.f1.f0 s.f1.f1 = some (ofL (linT s)) := by
  have l1 := it_len _ G.a; have l2 := it_len _ G.b; have l3 := it_len _ G.c; have l4 := it_len _ G.d
  have z32 : (⟨#[32]⟩ : ByteArray).size = 1 := rfl
  unfold wigeonref02_line.f
  rw [Itoa_eq _ G.a, Option.bind_some, if_pos (by rw [ofL_size]; omega), Itoa_eq _ G.b, Option.bind_some, if_pos (by simp only [bsz, ofL_size, z32]; omega), if_pos (by simp only [bsz, ofL_size, z32]; omega), Itoa_eq _ G.c, Option.bind_some,
    if_pos (by simp only [bsz, ofL_size, z32]; omega), if_pos (by simp only [bsz, ofL_size, z32]; omega), Itoa_eq _ G.d, Option.bind_some, if_pos (by simp only [bsz, ofL_size, z32]; omega), if_pos (by simp only [bsz, ofL_size, z32]; omega), lin_join]
theorem rformat_l0 (l : List S46) (hl : l.length ≤ 12) (hg : ∀ s ∈ l, GS s) : ∀ (d i : Nat) (acc : List UInt8), i + d = l.length → acc.length ≤ i * 20 →
    Ev (fun k => wigeonref02_Format.l0 k l (ofL acc) (i : Int)) (ofL (acc ++ fmtS (l.drop i)), 0)
  | 0, i, acc, h, ha => by
    refine Ev.step (fun k => wigeonref02_Format.l0.eq_2 ..) (evn (by omega) ?_)
    rw [List.drop_eq_nil_of_le (by omega), show fmtS [] = [] from rfl, List.append_nil]; exact Ev.now _
  | d + 1, i, acc, h, ha => by
    have hi : i < l.length := by omega
    have G := hg _ (List.getElem_mem hi)
    have ll := lin_len G
    have R := rformat_l0 l hl hg d (i + 1) (acc ++ linT l[i]) (by omega) (by rw [List.length_append]; omega)
    rw [List.drop_eq_getElem_cons hi, fmtS_cons, ← List.append_assoc]
    refine Ev.step (fun k => wigeonref02_Format.l0.eq_2 ..) (evp (by omega) (evp (by omega) ?_))
    rw [rdX_at l i hi]
    refine evs (line_eq _ G) (evp (by rw [ofL_size, ofL_size]; omega) ?_)
    rw [ofL_app, w64 (n := (i : Int) + 1) (by omega) (by omega)]
    exact R
theorem rFormat_ev (l : List S46) : Ev (fun k => wigeonref02_Format.f k l) (fmR l) := by
  unfold wigeonref02_Format.f fmR
  refine evb (rvalid_ev l) ?_
  by_cases h : valR l = 0
  · rw [if_pos h]
    have R := rformat_l0 l (valR_ok h).1 (valR_gs h) l.length 0 [] (by omega) (by simp)
    rw [List.nil_append, List.drop_zero] at R
    exact evp h R
  · rw [if_neg h]; exact evn h (Ev.now _)

def trm (x : ByteArray) : ByteArray := (strings_TrimSuffix.f x ⟨#[10]⟩).getD x
theorem trm_eq (x : ByteArray) (hs : x.size ≤ 10000) : strings_TrimSuffix.f x ⟨#[10]⟩ = some (trm x) ∧ (trm x).size ≤ x.size ∧ ∀ T, bl x = T ++ [10] → bl (trm x) = T := by
  obtain ⟨t', e, h1, h2⟩ := trim_eq x hs
  have q : trm x = t' := by unfold trm; rw [e]; rfl
  rw [q]; exact ⟨e, h1, h2⟩
def pW (ws : List ByteArray) (out : List S46) : Option (List S46) :=
  match ws with
  | [w0, w1, w2, w3] => if out.length = 12 then none else (at1 w0).bind fun a => (at1 w1).bind fun b => (at1 w2).bind fun c => (at1 w3).bind fun d => some (out ++ [(⟨(⟨a, b⟩ : S44), (⟨c, d⟩ : S44)⟩ : S46)])
  | _ => none
def pB (x : ByteArray) (out : List S46) : Option (List S46) := pW (spl 32 (trm x)) out
theorem b_ev (x : ByteArray) (out : List S46) (hs : x.size ≤ 10000) (ho : out.length ≤ 12) : Ev (fun k => screen_Parse.b k x out) (pB x out) := by
  obtain ⟨e, h1, _⟩ := trm_eq x hs
  obtain ⟨_, _, l3⟩ := spl_len 32 (trm x)
  unfold screen_Parse.b pB
  refine evp (by omega) (evs e (evb (Split_ev 32 (trm x) (by omega)) ?_))
  generalize spl 32 (trm x) = ws at l3
  have lz : ∀ w ∈ ws, w.size ≤ 10000 := fun w hw => by have := l3 w hw; omega
  rcases ws with _ | ⟨w0, _ | ⟨w1, _ | ⟨w2, _ | ⟨w3, _ | ⟨w4, ws⟩⟩⟩⟩⟩
  · exact Ev.now _
  · exact Ev.now _
  · exact Ev.now _
  · exact Ev.now _
  · unfold pW
    dsimp only
    by_cases h12 : out.length = 12
    · rw [if_pos h12, if_pos h12]; exact Ev.now _
    · rw [if_neg h12, if_neg h12]
      obtain ⟨r, e0, p0, n0⟩ := Atoi_eq w0 (lz _ (by simp))
      refine evs e0 ?_
      cases q0 : at1 w0 with
      | none => exact evn (n0 q0) (Ev.now _)
      | some v0 =>
        obtain rfl := p0 v0 q0
        refine evp rfl ?_
        obtain ⟨r, e1, p1, n1⟩ := Atoi_eq w1 (lz _ (by simp))
        refine evs e1 ?_
        cases q1 : at1 w1 with
        | none => exact evn (n1 q1) (Ev.now _)
        | some v1 =>
          obtain rfl := p1 v1 q1
          refine evp rfl ?_
          obtain ⟨r, e2, p2, n2⟩ := Atoi_eq w2 (lz _ (by simp))
          refine evs e2 ?_
          cases q2 : at1 w2 with
          | none => exact evn (n2 q2) (Ev.now _)
          | some v2 =>
            obtain rfl := p2 v2 q2
            refine evp rfl ?_
            obtain ⟨r, e3, p3, n3⟩ := Atoi_eq w3 (lz _ (by simp))
            refine evs e3 ?_
            cases q3 : at1 w3 with
            | none => exact evn (n3 q3) (Ev.now _)
            | some v3 =>
              obtain rfl := p3 v3 q3
              exact evp rfl (Ev.now _)
  · exact Ev.now _
theorem pW_len {ws : List ByteArray} {out o : List S46} (h : pW ws out = some o) (ho : out.length ≤ 12) : o.length ≤ 12 := by
  unfold pW at h
  split at h
  · by_cases h12 : out.length = 12
    · rw [if_pos h12] at h; cases h
    · rw [if_neg h12] at h
      obtain ⟨_, _, h⟩ := Option.bind_eq_some_iff.1 h
      obtain ⟨_, _, h⟩ := Option.bind_eq_some_iff.1 h
      obtain ⟨_, _, h⟩ := Option.bind_eq_some_iff.1 h
      obtain ⟨_, _, h⟩ := Option.bind_eq_some_iff.1 h
      obtain rfl := Option.some.inj h
      simp; omega
  · cases h
def pL : List ByteArray → List S46 → Option (List S46)
  | [], o => some o
  | x :: xs, o => (pB x o).bind fun o' => pL xs o'
theorem ls_ev : ∀ (xs : List ByteArray) (o : List S46), (∀ x ∈ xs, x.size ≤ 10000) → o.length ≤ 12 → Ev (fun k => screen_Parse.ls k xs o) (pL xs o)
  | [], o, _, _ => Ev.now _
  | x :: xs, o, hs, ho => by
    unfold screen_Parse.ls pL
    refine evb (b_ev x o (hs x (by simp)) ho) ?_
    cases q : pB x o with
    | none => exact Ev.now _
    | some o' => exact ls_ev xs o' (fun z hz => hs z (by simp [hz])) (pW_len q ho)
theorem linesF_size : ∀ (f : Nat) (l : List UInt8), ∀ x ∈ linesF f l, x.size ≤ l.length
  | 0, _, x, h => by simp [linesF] at h
  | _ + 1, [], x, h => by simp [linesF] at h
  | f + 1, c :: l, x, h => by
    unfold linesF at h
    split at h
    · rcases List.mem_cons.1 h with e | e
      · subst e
        show Array.size _ ≤ _
        rw [List.size_toArray, List.length_take]; omega
      · have := linesF_size f _ x e
        rw [List.length_drop] at this; omega
    · rw [List.mem_singleton.1 h]; exact Nat.le_refl _
def finS (t : List UInt8) : Option (List S46) → List S46 × Int
  | none => ([], 2)
  | some l => if valR l = 0 ∧ fmtS l = t then (l, 0) else ([], 2)
theorem parse_ev (t : ByteArray) (hs : t.size ≤ 4000) : Ev (fun k => screen_Parse.f k t) (finS (bl t) (pL (linesL (bl t)) [])) := by
  unfold screen_Parse.f
  refine evp (by omega) (evb (ls_ev (linesL (bl t)) [] (fun x hx => ?_) (by decide)) ?_)
  · have := linesF_size _ _ x hx
    rw [bl_len] at this; omega
  cases q : pL (linesL (bl t)) [] with
  | none => exact Ev.now _
  | some l =>
    refine evb (Format_ev l) ?_
    by_cases hv : valR l = 0
    · rw [show fmR l = (ofL (fmtS l), 0) from if_pos hv]
      refine evp rfl ?_
      by_cases hf : fmtS l = bl t
      · rw [show finS (bl t) (some l) = (l, 0) from if_pos ⟨hv, hf⟩]; exact evp (by show (ofL _).toList = _; rw [bl_tl, bl_ofL, bl_tl, hf]) (Ev.now _)
      · rw [show finS (bl t) (some l) = ([], 2) from if_neg (fun q => hf q.2)]; exact evn (by show ¬ (ofL _).toList = _; rw [bl_tl, bl_ofL, bl_tl]; exact hf) (Ev.now _)
    · rw [show fmR l = (⟨#[]⟩, valR l) from if_neg hv, show finS (bl t) (some l) = ([], 2) from if_neg (fun q => hv q.1)]; exact evn hv (Ev.now _)

def sg (neg : Bool) (n : Nat) : Int := if neg = true then -(n : Int) else n
def nmD (neg : Bool) (D : List UInt8) : Int × Bool := if 1 ≤ D.length ∧ D.length ≤ 3 ∧ digB D = true then (sg neg (val 0 D), true) else (0, false)
def isN (w : List UInt8) : Bool := w.head? == some 45
def nmR (w : List UInt8) : Int × Bool := nmD (isN w) (if isN w = true then w.drop 1 else w)
def num3 (w : List UInt8) : Option Int := if (nmR w).2 = true then some (nmR w).1 else none
def bgn (neg : Bool) : Nat := if neg = true then 1 else 0
theorem rnumber_l0 (w : ByteArray) (hs : w.size ≤ 4) (neg : Bool) : ∀ d i x : Nat, i + d = w.size → x < 10 ^ i → Ev (fun k => wigeonref02_number.l0 k w (bgn neg : Int) (x : Int) (i : Int)) (if digB ((bl w).drop i) = true then (sg neg (val x ((bl w).drop i)), true) else (0, false))
  | 0, i, x, h, hx => by
    have hp : (10 : Nat) ^ i ≤ 10000 := Nat.le_trans (Nat.pow_le_pow_right (by decide) (show i ≤ 4 by omega)) (by decide)
    refine Ev.step (fun k => wigeonref02_number.l0.eq_2 ..) (evn (by omega) ?_)
    rw [List.drop_eq_nil_of_le (by rw [bl_len]; omega)]
    cases neg
    · exact evn (by decide) (Ev.now _)
    · rw [w64 (n := -(x : Int)) (by omega) (by omega)]; exact evp rfl (Ev.now _)
  | d + 1, i, x, h, hx => by
    have hi : i < (bl w).length := by rw [bl_len]; omega
    have hp : (10 : Nat) ^ i ≤ 10000 := Nat.le_trans (Nat.pow_le_pow_right (by decide) (show i ≤ 4 by omega)) (by decide)
    refine Ev.step (fun k => wigeonref02_number.l0.eq_2 ..) (evp (by omega) (evp (by omega) ?_))
    rw [bt_bl w i hi, List.drop_eq_getElem_cons hi]
    by_cases h1 : 48 ≤ (bl w)[i].toNat
    · refine evn (by omega) ?_
      by_cases h2 : (bl w)[i].toNat ≤ 57
      · refine evn (by omega) ?_
        rw [w64 (n := 10 * (x : Int)) (by omega) (by omega), w64 (by omega) (by omega), w64 (n := (i : Int) + 1) (by omega) (by omega)]
        have R := rnumber_l0 w hs neg d (i + 1) (10 * x + ((bl w)[i].toNat - 48)) (by omega) (by rw [Nat.pow_succ]; omega)
        rw [show (10 * (x : Int) + (((bl w)[i].toNat : Int) - 48) % 256) = ((10 * x + ((bl w)[i].toNat - 48) : Nat) : Int) by omega, val_cons, digB, List.all_cons, decide_eq_true ⟨h1, h2⟩, Bool.true_and]
        exact R
      · rw [digB, List.all_cons, decide_eq_false (fun q => h2 q.2), Bool.false_and, if_neg (by decide)]
        exact evp (by omega) (Ev.now _)
    · rw [digB, List.all_cons, decide_eq_false (fun q => h1 q.1), Bool.false_and, if_neg (by decide)]
      exact evp (by omega) (Ev.now _)
theorem rnumber_j1 (w : ByteArray) (hs : w.size ≤ 10000) (neg : Bool) (hb : bgn neg ≤ w.size) : Ev (fun k => wigeonref02_number.j1 k w (bgn neg : Int)) (nmD neg ((bl w).drop (bgn neg))) := by
  have hl := bl_len w
  have b1 : bgn neg ≤ 1 := by cases neg <;> decide
  unfold nmD
  rw [List.length_drop]
  refine Ev.step (fun k => wigeonref02_number.j1.eq_2 ..) ?_
  by_cases h0 : w.size = bgn neg
  · rw [if_neg (by omega)]
    exact evp (by omega) (Ev.step (fun k => wigeonref02_number.j2.eq_2 ..) (evp rfl (Ev.now _)))
  · refine evn (by omega) ?_
    rw [w64 (n := (w.size : Int) - (bgn neg : Int)) (by omega) (by omega)]
    by_cases h3 : w.size - bgn neg ≤ 3
    · rw [decide_eq_false (by omega)]
      have R := rnumber_l0 w (by omega) neg (w.size - bgn neg) (bgn neg) 0 (by omega) (Nat.pow_pos (by decide))
      refine Ev.step (fun k => wigeonref02_number.j2.eq_2 ..) (evn (by decide) ?_)
      by_cases h4 : digB ((bl w).drop (bgn neg)) = true
      · rw [if_pos h4] at R; rw [if_pos ⟨by omega, by omega, h4⟩]; exact R
      · rw [if_neg h4] at R; rw [if_neg (fun q => h4 q.2.2)]; exact R
    · rw [decide_eq_true (by omega), if_neg (by omega)]
      exact Ev.step (fun k => wigeonref02_number.j2.eq_2 ..) (evp rfl (Ev.now _))
theorem rnumber_ev (w : ByteArray) (hs : w.size ≤ 10000) : Ev (fun k => wigeonref02_number.f k w) (nmR (bl w)) := by
  have hl := bl_len w
  unfold wigeonref02_number.f nmR
  by_cases h : 0 < w.size
  · refine evp (by omega) (evp (by omega) ?_)
    have hi : 0 < (bl w).length := by omega
    have e : (bt w 0 == 45) = isN (bl w) := by
      have hb := bt_bl w 0 hi
      rw [show ((0 : Nat) : Int) = 0 from rfl] at hb
      rw [hb]
      unfold isN
      rw [List.head?_eq_getElem?, List.getElem?_eq_getElem hi]
      by_cases q : (bl w)[0] = 45
      · rw [q]; rfl
      · rw [beq_eq_false_iff_ne.2 (show (((bl w)[0].toNat : Nat) : Int) ≠ 45 from fun z => q (UInt8.toNat_inj.1 (by show _ = 45; omega))), beq_eq_false_iff_ne.2 (fun z => q (Option.some.inj z))]
    rw [e]
    have hd : (if isN (bl w) = true then (bl w).drop 1 else bl w) = (bl w).drop (bgn (isN (bl w))) := by
      unfold bgn; split <;> simp
    rw [hd]
    have J := rnumber_j1 w hs (isN (bl w)) (by unfold bgn; split <;> omega)
    refine Ev.step (fun k => wigeonref02_number.j0.eq_2 ..) ?_
    cases hz : isN (bl w)
    · rw [hz] at J; exact evn (by decide) J
    · rw [hz] at J; exact evp rfl J
  · have e : bl w = [] := List.eq_nil_of_length_eq_zero (by omega)
    have J := rnumber_j1 w hs false (Nat.zero_le _)
    rw [e] at J ⊢
    exact evn (by omega) (Ev.step (fun k => wigeonref02_number.j0.eq_2 ..) (evn (by decide) J))

def rA : List UInt8 → List UInt8 → List Int → List S46 → Option (List S46)
  | [], _, _, o => some o
  | c :: l, cur, n, o => if c = 32 ∨ c = 10 then (num3 cur).bind fun x => if n.length = 4 then none else if c = 10 then (if (n ++ [x]).length = 4 then (if o.length = 12 then none else rA l [] [] (o ++ [(⟨(⟨rd (n ++ [x]) 0, rd (n ++ [x]) 1⟩ : S44), (⟨rd (n ++ [x]) 2, rd (n ++ [x]) 3⟩ : S44)⟩ : S46)])) else none) else rA l [] (n ++ [x]) o else rA l (cur ++ [c]) n o
theorem rparse_l0 (t : ByteArray) (hs : t.size ≤ 4000) : ∀ (d i b : Nat) (n : List Int) (o : List S46), i + d = t.size → b ≤ i → n.length ≤ 4 → o.length ≤ 12 →
    Ev (fun k => wigeonref02_Parse.l0 k t o n (b : Int) (i : Int)) (finS (bl t) (rA ((bl t).drop i) (((bl t).take i).drop b) n o))
  | 0, i, b, n, o, h, hb, hn, ho => by
    rw [List.drop_eq_nil_of_le (show (bl t).length ≤ i by rw [bl_len]; omega)]
    refine Ev.step (fun k => wigeonref02_Parse.l0.eq_2 ..) (evn (by omega) (evb (rFormat_ev o) ?_))
    show Ev _ (finS (bl t) (some o))
    by_cases hv : valR o = 0
    · rw [show fmR o = (ofL (fmtS o), 0) from if_pos hv]
      refine evp rfl ?_
      by_cases hf : fmtS o = bl t
      · rw [show finS (bl t) (some o) = (o, 0) from if_pos ⟨hv, hf⟩]; exact evp (by show (ofL _).toList = _; rw [bl_tl, bl_ofL, bl_tl, hf]) (Ev.now _)
      · rw [show finS (bl t) (some o) = ([], 2) from if_neg (fun q => hf q.2)]; exact evn (by show ¬ (ofL _).toList = _; rw [bl_tl, bl_ofL, bl_tl]; exact hf) (Ev.now _)
    · rw [show fmR o = (⟨#[]⟩, valR o) from if_neg hv, show finS (bl t) (some o) = ([], 2) from if_neg (fun q => hv q.1)]; exact evn hv (Ev.now _)
  | d + 1, i, b, n, o, h, hb, hn, ho => by
    have hi : i < (bl t).length := by rw [bl_len]; omega
    have hc : ((bl t).take (i + 1)).drop b = ((bl t).take i).drop b ++ [(bl t)[i]] := by
      rw [List.take_succ_eq_append_getElem hi, List.drop_append_of_le_length (by rw [List.length_take]; omega)]
    have hz : ((bl t).take (i + 1)).drop (i + 1) = [] := List.drop_eq_nil_of_le (by rw [List.length_take]; omega)
    refine Ev.step (fun k => wigeonref02_Parse.l0.eq_2 ..) (evp (by omega) (evp (by omega) ?_))
    rw [bt_bl t i hi, List.drop_eq_getElem_cons hi, rA]
    have hsep : ∀ c : UInt8, (c = 32 ∨ c = 10) → (bl t)[i] = c → Ev (fun k => wigeonref02_Parse.j1 k t o n (b : Int) (i : Int) false) (finS (bl t) ((num3 (((bl t).take i).drop b)).bind fun x => if n.length = 4 then none else if c = 10 then (if (n ++ [x]).length = 4 then (if o.length = 12 then none else rA ((bl t).drop (i + 1)) [] [] (o ++ [(⟨(⟨rd (n ++ [x]) 0, rd (n ++ [x]) 1⟩ : S44), (⟨rd (n ++ [x]) 2, rd (n ++ [x]) 3⟩ : S44)⟩ : S46)])) else none) else rA ((bl t).drop (i + 1)) [] (n ++ [x]) o)) := by
      intro c hcc ec
      refine Ev.step (fun k => wigeonref02_Parse.j1.eq_2 ..) (evn (by decide) (evp (by omega) (evp (by omega) (evp (by omega) ?_))))
      rw [show ((b : Int)).toNat = b from rfl, show ((i : Int)).toNat = i from rfl]
      refine evb (rnumber_ev _ (by rw [ByteArray.size_extract]; omega)) ?_
      rw [bl_ext]
      unfold num3
      by_cases hx : (nmR (((bl t).take i).drop b)).2 = true
      · rw [if_pos hx, Option.bind_some]
        refine evp hx ?_
        generalize (nmR (((bl t).take i).drop b)).1 = x
        by_cases h4 : n.length = 4
        · rw [if_pos h4, show ((n.length : Int) == 4) = true by rw [h4]; rfl]
          exact Ev.step (fun k => wigeonref02_Parse.j2.eq_2 ..) (evp rfl (Ev.now _))
        · rw [if_neg h4, show ((n.length : Int) == 4) = false from beq_eq_false_iff_ne.2 (by omega)]
          refine Ev.step (fun k => wigeonref02_Parse.j2.eq_2 ..) (evn (by decide) (evp (by omega) (evs rfl (evp (by omega) (evp (by omega) ?_)))))
          rw [bt_bl t i hi, ec, w64 (n := (i : Int) + 1) (by omega) (by omega)]
          have nl : (n ++ [x]).length = n.length + 1 := by simp
          by_cases e10 : c = 10
          · rw [if_pos e10]
            refine evp (by rw [e10]; rfl) ?_
            by_cases l4 : (n ++ [x]).length = 4
            · rw [if_pos l4]
              refine evp (by omega) ?_
              by_cases h12 : o.length = 12
              · rw [if_pos h12]; exact evp (by omega) (Ev.now _)
              · rw [if_neg h12]
                refine evn (by omega) (evp (by omega) (evp (by omega) (evp (by omega) (evp (by omega) (evp (by omega) ?_)))))
                have R := rparse_l0 t hs d (i + 1) (i + 1) [] (o ++ [(⟨(⟨rd (n ++ [x]) 0, rd (n ++ [x]) 1⟩ : S44), (⟨rd (n ++ [x]) 2, rd (n ++ [x]) 3⟩ : S44)⟩ : S46)]) (by omega) (by omega) (by simp) (by simp; omega)
                rw [hz] at R
                exact R
            · rw [if_neg l4]; exact evn (by omega) (Ev.now _)
          · rw [if_neg e10]
            have R := rparse_l0 t hs d (i + 1) (i + 1) (n ++ [x]) o (by omega) (by omega) (by omega) ho
            rw [hz] at R
            exact evn (fun q => e10 (UInt8.toNat_inj.1 (by show _ = 10; omega))) R
      · rw [if_neg hx]
        exact evn hx (Ev.step (fun k => wigeonref02_Parse.j2.eq_2 ..) (evp rfl (Ev.now _)))
    by_cases h1 : ((bl t)[i].toNat : Int) = 32
    · have e : (bl t)[i] = 32 := UInt8.toNat_inj.1 (by show _ = 32; omega)
      rw [if_pos (Or.inl e)]
      exact evp h1 (hsep _ (Or.inl e) rfl)
    · refine evn h1 ?_
      by_cases h2 : ((bl t)[i].toNat : Int) = 10
      · have e : (bl t)[i] = 10 := UInt8.toNat_inj.1 (by show _ = 10; omega)
        rw [if_pos (Or.inr e), show (((bl t)[i].toNat : Int) != 10) = false by rw [h2]; rfl]
        exact hsep _ (Or.inr e) rfl
      · rw [if_neg (fun q => by rcases q with q | q <;> rw [q] at h1 h2 <;> first | exact h1 rfl | exact h2 rfl), show (((bl t)[i].toNat : Int) != 10) = true from bne_iff_ne.2 h2]
        refine Ev.step (fun k => wigeonref02_Parse.j1.eq_2 ..) (evp rfl ?_)
        rw [w64 (n := (i : Int) + 1) (by omega) (by omega), ← hc]
        exact rparse_l0 t hs d (i + 1) b n o (by omega) (by omega) hn ho
theorem rparse_ev (t : ByteArray) (hs : t.size ≤ 4000) : Ev (fun k => wigeonref02_Parse.f k t) (finS (bl t) (rA (bl t) [] [] [])) := by
  unfold wigeonref02_Parse.f
  have R := rparse_l0 t hs t.size 0 0 [] [] (by omega) (by omega) (by simp) (by simp)
  rw [List.drop_zero, List.take_zero, List.drop_zero] at R
  exact R

theorem dec_l1 (n : Nat) : 1 ≤ (Lib.decDigits n).length := List.length_pos_iff.2 (dec_ne n)
theorem dec_head (n : Nat) : isN (Lib.decDigits n) = false := by
  unfold isN
  cases e : Lib.decDigits n with
  | nil => rfl
  | cons c r =>
    have hc := dec_digs n c (by rw [e]; exact List.mem_cons_self)
    exact beq_eq_false_iff_ne.2 (fun q => by rw [Option.some.inj q] at hc; exact absurd hc (by decide))
theorem dec_digB (n : Nat) : digB (Lib.decDigits n) = true := List.all_eq_true.2 fun c hc => decide_eq_true (dec_digs n c hc)
theorem nmD_dec (b : Bool) (n : Nat) (hn : n < 1000) : nmD b (Lib.decDigits n) = (sg b n, true) := by
  have h1 := dec_l1 n; have h2 := dec_len 2 n (by omega)
  unfold nmD
  rw [if_pos ⟨h1, h2, dec_digB n⟩, dec_val]
theorem it_num (x : Int) (h : NI x) : num3 (Lib.itoa x) = some x := by
  obtain ⟨n, hn, (⟨rfl, e⟩ | ⟨rfl, e⟩)⟩ := it_dec x h
  · have q : nmR (Lib.itoa (n : Int)) = (sg false n, true) := by
      unfold nmR; rw [e, dec_head n, if_neg (show ¬ false = true by decide), nmD_dec _ _ hn]
    unfold num3; rw [q]; rfl
  · have q : nmR (Lib.itoa (-(n : Int))) = (sg true n, true) := by
      unfold nmR; rw [e, show isN (45 :: Lib.decDigits n) = true from rfl, if_pos rfl, List.drop_one, List.tail_cons, nmD_dec _ _ hn]
    unfold num3; rw [q]; rfl
theorem it_at1 (x : Int) (h : NI x) : at1 (ofL (Lib.itoa x)) = some x := by
  obtain ⟨n, hn, (⟨rfl, e⟩ | ⟨rfl, e⟩)⟩ := it_dec x h
  · unfold at1
    rw [bl_ofL, e, atoi_dec n (by omega)]
  · have hl := dec_len 2 n (by omega)
    have hp := parse_val (Lib.decDigits n) 0 0 (dec_digs n) (by decide) (by omega)
    rw [dec_val] at hp
    unfold at1
    rw [bl_ofL, e]
    unfold Lib.atoiAll Lib.parseMag
    simp only [if_pos (show (45 : UInt8).toNat = 43 ∨ (45 : UInt8).toNat = 45 from .inr rfl), if_neg (dec_ne n), hp]
    rw [if_neg (fun q => q.1 rfl), if_neg (fun q => by omega), if_pos (show (45 : UInt8).toNat = 45 from rfl)]
theorem rA_word : ∀ (W l cur : List UInt8) (n : List Int) (o : List S46), W.count 32 = 0 → W.count 10 = 0 → rA (W ++ l) cur n o = rA l (cur ++ W) n o
  | [], l, cur, n, o, _, _ => by simp
  | c :: W, l, cur, n, o, h1, h2 => by
    have c1 : ¬ c = 32 := fun e => by subst e; simp at h1
    have c2 : ¬ c = 10 := fun e => by subst e; simp at h2
    rw [List.cons_append, rA, if_neg (fun q => q.elim c1 c2), rA_word W l _ n o (by rwa [List.count_cons_of_ne c1] at h1) (by rwa [List.count_cons_of_ne c2] at h2)]
    simp
theorem rA_it (x : Int) (h : NI x) (l : List UInt8) (n : List Int) (o : List S46) (hn : n.length < 4) : rA (Lib.itoa x ++ 32 :: l) [] n o = rA l [] (n ++ [x]) o := by
  rw [rA_word _ _ _ _ _ (it_no x h 32 (by decide)) (it_no x h 10 (by decide)), List.nil_append, rA, if_pos (Or.inl rfl), it_num x h, Option.bind_some, if_neg (by omega), if_neg (by decide)]
theorem rA_row (s : S46) (G : GS s) (rest : List UInt8) (o : List S46) (ho : o.length < 12) : rA (linT s ++ rest) [] [] o = rA rest [] [] (o ++ [s]) := by
  unfold linT bodT
  simp only [List.append_assoc, List.cons_append]
  rw [rA_it _ G.a _ _ _ (by simp), rA_it _ G.b _ _ _ (by simp), rA_it _ G.c _ _ _ (by simp), List.nil_append, rA_word _ _ _ _ _ (it_no _ G.d 32 (by decide)) (it_no _ G.d 10 (by decide)), List.nil_append, List.nil_append, rA, if_pos (Or.inr rfl), it_num _ G.d, Option.bind_some,
    if_neg (by simp), if_pos rfl, if_pos (by simp), if_neg (by omega)]
  rfl
theorem rA_fmt : ∀ (l o : List S46), (∀ s ∈ l, GS s) → o.length + l.length ≤ 12 → rA (fmtS l) [] [] o = some (o ++ l)
  | [], o, _, _ => by rw [show fmtS [] = [] from rfl, rA, List.append_nil]
  | s :: l, o, h, hl => by
    rw [List.length_cons] at hl
    rw [fmtS_cons, rA_row s (h s (by simp)) _ _ (by omega), rA_fmt l _ (fun x hx => h x (by simp [hx])) (by simp; omega)]
    simp
theorem idx_app (B R : List UInt8) (h : B.count 10 = 0) : Lib.indexByte (B ++ 10 :: R) 10 = (B.length : Int) := by
  obtain ⟨m, hm, hl, h1, h2⟩ := idx_some (l := B ++ 10 :: R) (c := 10) (idx_pos (by rw [List.count_append, List.count_cons_self]; omega))
  rw [hm]
  have g1 : ¬ m < B.length := fun q => by
    rw [List.getElem?_append_left q, List.getElem?_eq_getElem q] at h1
    have := List.count_eq_zero.1 h
    exact this (Option.some.inj h1 ▸ List.getElem_mem q)
  have g2 : ¬ B.length < m := fun q => h2 B.length q (by rw [List.getElem?_append_right (Nat.le_refl _), Nat.sub_self]; rfl)
  omega
theorem bod_no (s : S46) (G : GS s) : (bodT s).count 10 = 0 := by
  unfold bodT
  simp only [List.count_append, List.count_cons_of_ne (show (32 : UInt8) ≠ 10 by decide), it_no _ G.a 10 (by decide), it_no _ G.b 10 (by decide), it_no _ G.c 10 (by decide), it_no _ G.d 10 (by decide)]
theorem lines_lin (s : S46) (G : GS s) (R : List UInt8) : linesL (linT s ++ R) = ofL (linT s) :: linesL R := by
  have hi := idx_app (bodT s) R (bod_no s G)
  unfold linT
  rw [List.append_assoc, List.singleton_append]
  cases e : bodT s with
  | nil => unfold bodT at e; simp at e
  | cons c B =>
    rw [e] at hi
    rw [List.cons_append] at hi ⊢
    rw [linesL_at c (B ++ 10 :: R) _ hi]
    have e1 : c :: (B ++ 10 :: R) = (c :: B ++ [10]) ++ R := by simp
    have e2 : (c :: B).length + 1 = (c :: B ++ [10]).length := by simp
    rw [e1, e2, List.take_left' rfl, List.drop_left' rfl]
    rfl
theorem lines_fmt : ∀ l : List S46, (∀ s ∈ l, GS s) → linesL (fmtS l) = l.map fun s => ofL (linT s)
  | [], _ => rfl
  | s :: l, h => by
    rw [fmtS_cons, lines_lin s (h s (by simp)), lines_fmt l (fun x hx => h x (by simp [hx]))]; rfl
theorem spl_bod (s : S46) (G : GS s) : splC 32 [] (bodT s) = [Lib.itoa s.f0.f0, Lib.itoa s.f0.f1, Lib.itoa s.f1.f0, Lib.itoa s.f1.f1] := by
  unfold bodT
  rw [splC_app _ _ _ _ (it_no _ G.a 32 (by decide)), splC_app _ _ _ _ (it_no _ G.b 32 (by decide)), splC_app _ _ _ _ (it_no _ G.c 32 (by decide)), splC_none _ _ _ (it_no _ G.d 32 (by decide))]
  rfl
theorem pB_lin (s : S46) (G : GS s) (o : List S46) (ho : o.length < 12) : pB (ofL (linT s)) o = some (o ++ [s]) := by
  have ll := lin_len G
  obtain ⟨_, _, ht⟩ := trm_eq (ofL (linT s)) (by rw [ofL_size]; omega)
  have hb := ht (bodT s) (by rw [bl_ofL]; rfl)
  unfold pB spl
  rw [hb, spl_bod s G]
  simp only [List.map_cons, List.map_nil]
  unfold pW
  dsimp only
  rw [if_neg (by omega), it_at1 _ G.a, it_at1 _ G.b, it_at1 _ G.c, it_at1 _ G.d]
  rfl
theorem pL_fmt : ∀ (l o : List S46), (∀ s ∈ l, GS s) → o.length + l.length ≤ 12 → pL (l.map fun s => ofL (linT s)) o = some (o ++ l)
  | [], o, _, _ => by rw [List.map_nil, pL, List.append_nil]
  | s :: l, o, h, hl => by
    rw [List.length_cons] at hl
    rw [List.map_cons, pL, pB_lin s (h s (by simp)) o (by omega), Option.bind_some, pL_fmt l _ (fun x hx => h x (by simp [hx])) (by simp; omega)]
    simp
theorem finS_no {t : List UInt8} (H : ¬ ∃ l, valR l = 0 ∧ fmtS l = t) : ∀ q, finS t q = ([], 2)
  | none => rfl
  | some l => if_neg fun z => H ⟨l, z⟩
theorem both (t : ByteArray) (hs : t.size ≤ 4000) : ∃ R : List S46 × Int, Ev (fun k => screen_Parse.f k t) R ∧ Ev (fun k => wigeonref02_Parse.f k t) R ∧ R.1.length ≤ 12 ∧ ∀ l, valR l = 0 → fmtS l = bl t → R = (l, 0) := by
  have P := parse_ev t hs
  have Q := rparse_ev t hs
  by_cases H : ∃ l, valR l = 0 ∧ fmtS l = bl t
  · have key : ∀ l, valR l = 0 → fmtS l = bl t → pL (linesL (bl t)) [] = some l ∧ rA (bl t) [] [] [] = some l := by
      intro l hv hf
      have G := valR_gs hv
      have n := (valR_ok hv).1
      rw [← hf, lines_fmt l G, pL_fmt l [] G (by simpa using n), rA_fmt l [] G (by simpa using n)]
      exact ⟨rfl, rfl⟩
    obtain ⟨l, hv, hf⟩ := H
    obtain ⟨k1, k2⟩ := key l hv hf
    rw [k1, show finS (bl t) (some l) = (l, 0) from if_pos ⟨hv, hf⟩] at P
    rw [k2, show finS (bl t) (some l) = (l, 0) from if_pos ⟨hv, hf⟩] at Q
    refine ⟨(l, 0), P, Q, (valR_ok hv).1, fun l' hv' hf' => ?_⟩
    obtain ⟨k3, _⟩ := key l' hv' hf'
    rw [k1] at k3
    rw [Option.some.inj k3]
  · rw [finS_no H] at P Q
    exact ⟨([], 2), P, Q, by decide, fun l hv hf => absurd ⟨l, hv, hf⟩ H⟩

theorem same_l0 (l : List S46) (hl : l.length ≤ 1000) : ∀ d i : Nat, i + d = l.length → Ev (fun k => wigeonref02_SameScreens.l0 k l l (i : Int)) true
  | 0, i, h => Ev.step (fun k => wigeonref02_SameScreens.l0.eq_2 ..) (evn (by omega) (Ev.now _))
  | d + 1, i, h => by
    refine Ev.step (fun k => wigeonref02_SameScreens.l0.eq_2 ..) (evp (by omega) (evp (by omega) (evp (by omega) (evn (by simp) ?_))))
    rw [w64 (n := (i : Int) + 1) (by omega) (by omega)]; exact same_l0 l hl d (i + 1) (by omega)
theorem same_ev (l : List S46) (hl : l.length ≤ 1000) : Ev (fun k => wigeonref02_SameScreens.f k l l) true := by
  unfold wigeonref02_SameScreens.f
  exact evp rfl (same_l0 l hl l.length 0 (by omega))

theorem ScreenTexts (l0 : List S46) (a1 : ByteArray) (h0 : (l0.length ≤ 9223372036854775807 ∧ ∀ x_ ∈ l0, (((Lit.int .i64 x_.f0.f0).wf = true) ∧ ((Lit.int .i64 x_.f0.f1).wf = true)) ∧ (((Lit.int .i64 x_.f1.f0).wf = true) ∧ ((Lit.int .i64 x_.f1.f1).wf = true)))) (h1 : a1.size ≤ 9223372036854775807) : ∃ k, wigeonlaw02_ScreenTexts.f k l0 a1 = some true := by
  refine Ev.rounds (g := fun k => wigeonlaw02_ScreenTexts.f k l0 a1) ?_
  unfold wigeonlaw02_ScreenTexts.f wigeonlaw02_Long.f
  have kn : Ev (fun k => wigeonlaw02_ScreenTexts.j0 k l0 a1 true) true := Ev.step (fun k => wigeonlaw02_ScreenTexts.j0.eq_2 ..) (evp rfl (evb known_ev (Ev.now _)))
  by_cases h : (l0.length : Int) > 100
  · rw [if_pos h]; exact evs rfl (evp rfl kn)
  rw [if_neg h]
  refine evs rfl (evn (by decide) ?_)
  by_cases h2 : (a1.size : Int) > 4000
  · rw [decide_eq_true h2]; exact kn
  rw [decide_eq_false h2]
  obtain ⟨R, P, Q, r, _⟩ := both a1 (by omega)
  refine Ev.step (fun k => wigeonlaw02_ScreenTexts.j0.eq_2 ..) (evn (by decide) (evb (Format_ev l0) (evb (rFormat_ev l0) (evb P (evb Q (evp rfl (evp rfl (evb (same_ev _ (by omega)) (evp rfl ?_)))))))))
  rw [bne_self_eq_false]
  by_cases hv : valR l0 = 0
  · have fl := fmtS_len l0 (valR_gs hv)
    have n := (valR_ok hv).1
    rw [show fmR l0 = (ofL (fmtS l0), 0) from if_pos hv]
    obtain ⟨S, A, _, _, s4⟩ := both (ofL (fmtS l0)) (by rw [ofL_size]; omega)
    rw [s4 l0 hv (by rw [bl_ofL])] at A
    exact Ev.step (fun k => wigeonlaw02_ScreenTexts.j1.eq_2 ..) (evn (by decide) (evb A (evp rfl (evp rfl (evb (same_ev l0 (by omega)) (evp rfl (evb known_ev (Ev.now _))))))))
  · rw [show fmR l0 = (⟨#[]⟩, valR l0) from if_neg hv]
    obtain ⟨S, A, _⟩ := both ⟨#[]⟩ (by decide)
    exact Ev.step (fun k => wigeonlaw02_ScreenTexts.j1.eq_2 ..) (evn (by decide) (evb A (evn hv (evb known_ev (Ev.now _)))))

end Go.Proofs.YtjiheojjfnfmaaaDoor.Pure

