/- Of the text PureBookMerges, what the row of BookMerges reaches. -/
import Derived.Test.YtfccgfjiplnmfaaDoorZBookMergesBAx31
import Derived.Lib.AtoiAllCases
namespace Go.Proofs.YtfccgfjiplnmfaaDoor.Pure
set_option linter.unusedVariables false
set_option linter.unusedSimpArgs false
open Go.RowKit Go.Proofs.YtfccgfjiplnmfaaDoor.BA Go.Proofs.YtfccgfjiplnmfaaDoorW.PrintWords Go.Proofs.YtfccgfjiplnmfaaDoorW.PrintLast

theorem evp {α : Type} {c : Prop} [Decidable c] {f g : Nat → Option α} {r : α} (h : c) (k : Ev f r) : Ev (fun n => if c then f n else g n) r :=
  Ev.congr (fun _ => if_pos h) k
theorem evn {α : Type} {c : Prop} [Decidable c] {f g : Nat → Option α} {r : α} (h : ¬ c) (k : Ev g r) : Ev (fun n => if c then f n else g n) r :=
  Ev.congr (fun _ => if_neg h) k
theorem evb {α β : Type} {g : Nat → Option α} {f : Nat → α → Option β} {a : α} {r : β} (h : Ev g a) (k : Ev (fun n => f n a) r) : Ev (fun n => (g n).bind (f n)) r := Ev.bind h k
theorem evs {α β : Type} {x : Option α} {f : Nat → α → Option β} {a : α} {r : β} (h : x = some a) (k : Ev (fun n => f n a) r) : Ev (fun n => x.bind (f n)) r := by
  subst h; exact k
theorem w64 {n : Int} (h : -9223372036854775808 ≤ n) (h2 : n ≤ 9223372036854775807) : wrap64 n = n := by unfold wrap64; omega
theorem rd_at (l : List Int) (i : Nat) (h : i < l.length) : rd l (i : Int) = l[i] := by
  simp [rd, List.getD_eq_getElem?_getD, List.getElem?_eq_getElem h]
theorem rdS_at (l : List ByteArray) (i : Nat) (h : i < l.length) : rdOf ByteArray.empty l (i : Int) = l[i] := by
  simp [rdOf, List.getD_eq_getElem?_getD, List.getElem?_eq_getElem h]
theorem bt_bytes (s : ByteArray) (i : Nat) (h : i < (bytesOf s).length) : bt s (i : Int) = (bytesOf s)[i] := by
  rw [← rd_bytesOf, rd_at _ _ h]

theorem rIsPage_l0 (s : ByteArray) (hs : s.size ≤ 9223372036854775807) : ∀ d i : Nat, i + d = s.size → Ev (fun k => wigeonref09_IsPage.l0 k s (i : Int)) (decide (1 ≤ s.size ∧ s.size ≤ 60) && !(((bytesOf s).drop i).any (fun c => decide (c < 32) || decide (126 < c))))
  | 0, i, h => by
    refine Ev.step (fun k => wigeonref09_IsPage.l0.eq_2 ..) (evn (by omega) ?_)
    rw [List.drop_eq_nil_of_le (by rw [bytesOf_length]; omega), List.any_nil, Bool.not_false, Bool.and_true]
    by_cases h1 : 1 ≤ s.size
    · refine evp (by omega) ?_
      rw [show decide (1 ≤ s.size ∧ s.size ≤ 60) = decide ((s.size : Int) ≤ 60) from decide_eq_decide.2 (by omega)]
      exact Ev.now _
    · refine evn (by omega) ?_
      rw [show decide (1 ≤ s.size ∧ s.size ≤ 60) = false from decide_eq_false (by omega)]
      exact Ev.now _
  | d + 1, i, h => by
    have hl : i < (bytesOf s).length := by rw [bytesOf_length]; omega
    have R := rIsPage_l0 s hs d (i + 1) (by omega)
    refine Ev.step (fun k => wigeonref09_IsPage.l0.eq_2 ..) (evp (by omega) (evp (by omega) ?_))
    rw [bt_bytes s i hl, List.drop_eq_getElem_cons hl, List.any_cons, w64 (by omega) (by omega)]
    generalize (bytesOf s)[i] = c at *
    by_cases h1 : c < 32
    · refine evp h1 ?_
      rw [show decide (c < 32) = true from decide_eq_true h1, Bool.true_or, Bool.true_or, Bool.not_true, Bool.and_false]; exact Ev.now _
    · refine evn h1 ?_
      rw [show decide (c < 32) = false from decide_eq_false h1, Bool.false_or]
      by_cases h2 : c > 126
      · refine evp h2 ?_
        rw [show decide (126 < c) = true from decide_eq_true h2, Bool.true_or, Bool.not_true, Bool.and_false]; exact Ev.now _
      · refine evn h2 ?_
        rw [show decide (126 < c) = false from decide_eq_false h2, Bool.false_or]
        exact R
theorem rIsPage_ev (s : ByteArray) (hs : s.size ≤ 9223372036854775807) : Ev (fun k => wigeonref09_IsPage.f k s) (pageB s) := rIsPage_l0 s hs s.size 0 (by omega)
theorem page_small (s : ByteArray) (h : pageB s = true) : s.size ≤ 60 := by
  unfold pageB at h
  simp only [Bool.and_eq_true, decide_eq_true_eq] at h
  exact h.1.2
theorem rleaf_l0 (s : ByteArray) (hs : s.size ≤ 1000000) : ∀ d i : Nat, i + d = s.size → Ev (fun k => wigeonref09_leaf.l0 k s (((bytesOf s).take i).foldl (fun x c => (wrap64 (wrap64 (wrap64 (x * 257) + c) + 1)).tmod 2147483647) 1) (i : Int)) (leafV s)
  | 0, i, h => by
    refine Ev.step (fun k => wigeonref09_leaf.l0.eq_2 ..) (evn (by omega) ?_)
    rw [List.take_of_length_le (by rw [bytesOf_length]; omega)]
    exact Ev.now _
  | d + 1, i, h => by
    have hl : i < (bytesOf s).length := by rw [bytesOf_length]; omega
    have R := rleaf_l0 s hs d (i + 1) (by omega)
    refine Ev.step (fun k => wigeonref09_leaf.l0.eq_2 ..) (evp (by omega) (evp (by omega) ?_))
    have hb := bytesOf_range s _ (List.getElem_mem hl)
    rw [leafV_snoc s i hl] at R
    rw [bt_bytes s i hl, w64 (n := (bytesOf s)[i]) (by omega) (by omega), w64 (n := (i : Int) + 1) (by omega) (by omega)]
    exact R
theorem rleaf_ev (s : ByteArray) (hs : s.size ≤ 1000000) : Ev (fun k => wigeonref09_leaf.f k s) (leafV s) := rleaf_l0 s hs s.size 0 (by omega)
theorem leaf_eq (s : ByteArray) (hs : s.size ≤ 1000000) : book_leaf.f s = some (leafV s) := if_pos hs
def sumP (x : Int) : Prop := 0 ≤ x ∧ x < 2147483647
instance (x : Int) : Decidable (sumP x) := by unfold sumP; exact inferInstance
def jn (x y : Int) : Int := Int.tmod (wrap64 ((wrap64 ((wrap64 (x * 48271)) + (wrap64 (y * 16807)))) + 1)) 2147483647
theorem join_eq (x y : Int) : book_join.f x y = some (jn x y) := rfl
theorem rjoin_eq (x y : Int) : wigeonref09_join.f x y = some (jn x y) := rfl
theorem risSum_eq (x : Int) : wigeonref09_isSum.f x = some (decide (sumP x)) := by
  unfold wigeonref09_isSum.f
  by_cases h : x ≥ 0
  · rw [if_pos h]; rw [show decide (sumP x) = decide (x < 2147483647) from decide_eq_decide.2 (by unfold sumP; omega)]
  · rw [if_neg h, show decide (sumP x) = false from decide_eq_false (fun p => h p.1)]
theorem isSum_eq (l : List Int) : book_isSum.f l = some (decide (∀ x ∈ l, sumP x)) := by
  unfold book_isSum.f cf_isSum.f
  rw [Option.bind_some]
  congr 1
  by_cases h : ∀ x ∈ l, sumP x
  · rw [decide_eq_true h, show (l.any fun x => decide (x < 0) || decide (x ≥ 2147483647)) = false from List.any_eq_false.2 (fun x hx => by have := h x hx; unfold sumP at this; simp; omega)]; rfl
  · rw [decide_eq_false h]
    have : (l.any fun x => decide (x < 0) || decide (x ≥ 2147483647)) = true := by
      rw [List.any_eq_true]
      refine Classical.byContradiction fun hn => h fun x hx => ?_
      unfold sumP
      refine Classical.byContradiction fun hs => hn ⟨x, hx, by simp; omega⟩
    rw [this]; rfl

theorem known_at : wigeonlaw09_known.f 100 = some true := by decide +kernel
theorem known_ev : Ev (fun k => wigeonlaw09_known.f k) true := Ev.of wigeonlaw09_known.mono known_at

/-- the greatest power of two below n -/
def sp (n : Nat) : Nat := 2 ^ Nat.log2 (n - 1)
theorem sp_lt (n : Nat) (h : 2 ≤ n) : sp n < n := by
  have := Nat.log2_self_le (n := n - 1) (by omega)
  unfold sp; omega
theorem sp_pos (n : Nat) : 0 < sp n := Nat.pow_pos (by decide)
theorem split_at : ∀ n : Fin 63, book_split.f 8 ((n.val + 2 : Nat) : Int) = some ((sp (n.val + 2) : Nat) : Int) := by decide +kernel
theorem rsplit_at : ∀ n : Fin 63, wigeonref09_split.f 12 ((n.val + 2 : Nat) : Int) = some ((sp (n.val + 2) : Nat) : Int) := by decide +kernel
theorem split_ev (n : Nat) (h : 2 ≤ n) (h2 : n ≤ 64) : Ev (fun k => book_split.f k (n : Int)) ((sp n : Nat) : Int) := by
  have := split_at ⟨n - 2, by omega⟩
  rw [show n - 2 + 2 = n by omega] at this
  exact Ev.of (book_split.mono _) this
theorem rsplit_ev (n : Nat) (h : 2 ≤ n) (h2 : n ≤ 64) : Ev (fun k => wigeonref09_split.f k (n : Int)) ((sp n : Nat) : Int) := by
  have := rsplit_at ⟨n - 2, by omega⟩
  rw [show n - 2 + 2 = n by omega] at this
  exact Ev.of (wigeonref09_split.mono _) this

/-- the root of sums -/
def rt (l : List Int) : Int :=
  if h : l.length ≤ 1 then l.headD 0 else jn (rt (l.take (sp l.length))) (rt (l.drop (sp l.length)))
termination_by l.length
decreasing_by
  · have := sp_lt l.length (by omega); rw [List.length_take]; omega
  · have := sp_pos l.length; rw [List.length_drop]; omega
theorem rt_nil : rt [] = 0 := by rw [rt]; simp
theorem rt_one (x : Int) : rt [x] = x := by rw [rt]; simp
theorem rt_two (l : List Int) (h : 2 ≤ l.length) : rt l = jn (rt (l.take (sp l.length))) (rt (l.drop (sp l.length))) := by
  rw [rt, dif_neg (by omega)]
theorem root_ev : ∀ (n : Nat) (l : List Int), l.length ≤ n → l.length ≤ 64 → Ev (fun k => book_root.f k l) (rt l)
  | 0, l, h, h64 => by
    obtain rfl : l = [] := List.length_eq_zero_iff.1 (by omega)
    refine Ev.step (fun k => book_root.f.eq_2 ..) (evp (by simp) ?_)
    rw [rt_nil]; exact Ev.now _
  | n + 1, l, h, h64 => by
    by_cases h0 : l.length = 0
    · obtain rfl : l = [] := List.length_eq_zero_iff.1 h0
      refine Ev.step (fun k => book_root.f.eq_2 ..) (evp (by simp) ?_)
      rw [rt_nil]; exact Ev.now _
    by_cases h1 : l.length = 1
    · obtain ⟨x, rfl⟩ := List.length_eq_one_iff.1 h1
      refine Ev.step (fun k => book_root.f.eq_2 ..) (evn (by simp) (evp (by simp) (evp (by simp) ?_)))
      rw [rt_one, show rd [x] 0 = x from rfl]; exact Ev.now _
    have h2 : 2 ≤ l.length := by omega
    have a := sp_lt _ h2
    have b := sp_pos l.length
    refine Ev.step (fun k => book_root.f.eq_2 ..) (evn (by omega) (evn (by omega) (evb (split_ev _ h2 h64) (evp (by omega) (evp (by omega) ?_)))))
    rw [Int.toNat_natCast]
    refine evb (root_ev n _ (by rw [List.length_take]; omega) (by rw [List.length_take]; omega)) (evb (root_ev n _ (by rw [List.length_drop]; omega) (by rw [List.length_drop]; omega)) (evs (join_eq _ _) ?_))
    rw [rt_two _ h2]; exact Ev.now _
theorem rroot_ev : ∀ (n : Nat) (l : List Int), l.length ≤ n → l.length ≤ 64 → Ev (fun k => wigeonref09_root.f k l) (rt l)
  | 0, l, h, h64 => by
    obtain rfl : l = [] := List.length_eq_zero_iff.1 (by omega)
    refine Ev.step (fun k => wigeonref09_root.f.eq_2 ..) (evp (by simp) ?_)
    rw [rt_nil]; exact Ev.now _
  | n + 1, l, h, h64 => by
    by_cases h0 : l.length = 0
    · obtain rfl : l = [] := List.length_eq_zero_iff.1 h0
      refine Ev.step (fun k => wigeonref09_root.f.eq_2 ..) (evp (by simp) ?_)
      rw [rt_nil]; exact Ev.now _
    by_cases h1 : l.length = 1
    · obtain ⟨x, rfl⟩ := List.length_eq_one_iff.1 h1
      refine Ev.step (fun k => wigeonref09_root.f.eq_2 ..) (evn (by simp) (evp (by simp) (evp (by simp) ?_)))
      rw [rt_one, show rd [x] 0 = x from rfl]; exact Ev.now _
    have h2 : 2 ≤ l.length := by omega
    have a := sp_lt _ h2
    have b := sp_pos l.length
    refine Ev.step (fun k => wigeonref09_root.f.eq_2 ..) (evn (by omega) (evn (by omega) (evb (rsplit_ev _ h2 h64) (evp (by omega) (evp (by omega) ?_)))))
    rw [Int.toNat_natCast]
    refine evb (rroot_ev n _ (by rw [List.length_take]; omega) (by rw [List.length_take]; omega)) (evb (rroot_ev n _ (by rw [List.length_drop]; omega) (by rw [List.length_drop]; omega)) (evs (rjoin_eq _ _) ?_))
    rw [rt_two _ h2]; exact Ev.now _

def lvs (l : List ByteArray) : List Int := l.map leafV
theorem lvs_length (l : List ByteArray) : (lvs l).length = l.length := List.length_map _
theorem leaves_l0 (l : List ByteArray) (hl : l.length ≤ 64) (hs : ∀ s ∈ l, s.size ≤ 1000) : ∀ (d i : Nat) (acc : List Int), i + d = l.length → acc.length + d ≤ 64 → Ev (fun k => book_leaves.l0 k acc l (l.length : Int) (i : Int)) (acc ++ lvs (l.drop i))
  | 0, i, acc, h, _ => by
    refine Ev.step (fun k => book_leaves.l0.eq_2 ..) (evn (by omega) ?_)
    rw [List.drop_eq_nil_of_le (by omega)]; simp [lvs]; exact Ev.now _
  | d + 1, i, acc, h, ha => by
    have hlt : i < l.length := by omega
    refine Ev.step (fun k => book_leaves.l0.eq_2 ..) (evp (by omega) (evp (by omega) (evp (by omega) ?_)))
    rw [rdS_at l i hlt]
    refine evs (leaf_eq _ (by have := hs _ (List.getElem_mem hlt); omega)) (evp (by omega) ?_)
    rw [w64 (by omega) (by omega)]
    have R := leaves_l0 l hl hs d (i + 1) (acc ++ [leafV l[i]]) (by omega) (by simp; omega)
    rw [List.drop_eq_getElem_cons hlt]
    rw [show acc ++ lvs (l[i] :: l.drop (i + 1)) = acc ++ [leafV l[i]] ++ lvs (l.drop (i + 1)) from (List.append_assoc acc [leafV l[i]] _).symm]
    exact R
theorem leaves_ev (l : List ByteArray) (hl : l.length ≤ 64) (hs : ∀ s ∈ l, s.size ≤ 1000) : Ev (fun k => book_leaves.f k l) (lvs l) := by
  have := leaves_l0 l hl hs l.length 0 [] (by omega) (by simp; omega)
  rwa [List.nil_append] at this
theorem rleaves_l0 (l : List ByteArray) (hl : l.length ≤ 64) (hs : ∀ s ∈ l, s.size ≤ 1000) : ∀ (d i : Nat) (acc : List Int), i + d = l.length → acc.length + d ≤ 64 → Ev (fun k => wigeonref09_leaves.l0 k l acc (i : Int)) (acc ++ lvs (l.drop i))
  | 0, i, acc, h, _ => by
    refine Ev.step (fun k => wigeonref09_leaves.l0.eq_2 ..) (evn (by omega) ?_)
    rw [List.drop_eq_nil_of_le (by omega)]; simp [lvs]; exact Ev.now _
  | d + 1, i, acc, h, ha => by
    have hlt : i < l.length := by omega
    refine Ev.step (fun k => wigeonref09_leaves.l0.eq_2 ..) (evp (by omega) (evp (by omega) ?_))
    rw [rdS_at l i hlt]
    refine evb (rleaf_ev _ (by have := hs _ (List.getElem_mem hlt); omega)) (evp (by omega) ?_)
    rw [w64 (by omega) (by omega)]
    have R := rleaves_l0 l hl hs d (i + 1) (acc ++ [leafV l[i]]) (by omega) (by simp; omega)
    rw [List.drop_eq_getElem_cons hlt]
    rw [show acc ++ lvs (l[i] :: l.drop (i + 1)) = acc ++ [leafV l[i]] ++ lvs (l.drop (i + 1)) from (List.append_assoc acc [leafV l[i]] _).symm]
    exact R
theorem rleaves_ev (l : List ByteArray) (hl : l.length ≤ 64) (hs : ∀ s ∈ l, s.size ≤ 1000) : Ev (fun k => wigeonref09_leaves.f k l) (lvs l) := by
  have := rleaves_l0 l hl hs l.length 0 [] (by omega) (by simp; omega)
  rwa [List.nil_append] at this

def bl (s : ByteArray) : List UInt8 := s.data.toList
def ofL (l : List UInt8) : ByteArray := ⟨l.toArray⟩
theorem bl_ofL (l : List UInt8) : bl (ofL l) = l := by simp [bl, ofL]
theorem ofL_bl (s : ByteArray) : ofL (bl s) = s := by cases s; simp [bl, ofL]
theorem bl_len (s : ByteArray) : (bl s).length = s.size := by cases s; simp [bl, ByteArray.size]
theorem ofL_size (l : List UInt8) : (ofL l).size = l.length := by rw [← bl_len, bl_ofL]
theorem bl_inj {a b : ByteArray} (h : bl a = bl b) : a = b := by rw [← ofL_bl a, h, ofL_bl]
theorem bl_tl (s : ByteArray) : s.toList = bl s := ByteArray.toList_eq s
theorem bl_app (a b : ByteArray) : bl (a ++ b) = bl a ++ bl b := by simp [bl]
theorem bl_ext (s : ByteArray) (i j : Nat) : bl (s.extract i j) = ((bl s).take j).drop i := by
  simp only [bl, ByteArray.data_extract, Array.toList_extract, List.extract_eq_take_drop, List.drop_take]
theorem bl_from (s : ByteArray) (i : Nat) : bl (s.extract i s.size) = (bl s).drop i := by
  rw [bl_ext, List.take_of_length_le (by rw [bl_len]; omega)]
theorem bl_to (s : ByteArray) (j : Nat) : bl (s.extract 0 j) = (bl s).take j := by rw [bl_ext, List.drop_zero]
theorem bt_bl (s : ByteArray) (i : Nat) (h : i < (bl s).length) : bt s (i : Int) = (((bl s)[i]).toNat : Int) := by
  rw [bt_bytes s i (by rw [bytesOf_length, ← bl_len]; exact h)]
  simp [bytesOf, bl]

def splA (cur : List UInt8) : List UInt8 → List (List UInt8)
  | [] => [cur]
  | c :: l => if c = 32 then cur :: splA [] l else splA (cur ++ [c]) l
theorem splA_cons (cur : List UInt8) (c : UInt8) (l : List UInt8) : splA cur (c :: l) = if c = 32 then cur :: splA [] l else splA (cur ++ [c]) l := rfl
def jw : List (List UInt8) → List UInt8
  | [] => []
  | [a] => a
  | a :: b :: r => a ++ 32 :: jw (b :: r)
theorem jw_cons (a : List UInt8) (l : List (List UInt8)) (h : l ≠ []) : jw (a :: l) = a ++ 32 :: jw l := by
  cases l with
  | nil => exact absurd rfl h
  | cons b r => rfl
theorem splA_ne : ∀ (l cur : List UInt8), splA cur l ≠ []
  | [], _ => by simp [splA]
  | c :: l, cur => by
    unfold splA
    split
    · simp
    · exact splA_ne l _
theorem jw_spl : ∀ l cur : List UInt8, jw (splA cur l) = cur ++ l
  | [], cur => by simp [splA, jw]
  | c :: l, cur => by
    unfold splA
    split
    · rename_i h; rw [jw_cons _ _ (splA_ne l []), jw_spl l [], h]; simp
    · rw [jw_spl l]; simp
theorem spl_none : ∀ l cur : List UInt8, l.count 32 = 0 → splA cur l = [cur ++ l]
  | [], cur, _ => by simp [splA]
  | c :: l, cur, h => by
    unfold splA
    have hc : ¬ c = 32 := fun e => by subst e; simp at h
    rw [if_neg hc, spl_none l _ (by rwa [List.count_cons_of_ne hc] at h)]; simp
theorem spl_at : ∀ (l cur : List UInt8) (m : Nat), l[m]? = some 32 → (∀ k, k < m → l[k]? ≠ some 32) → splA cur l = (cur ++ l.take m) :: splA [] (l.drop (m + 1))
  | [], _, m, h, _ => by simp at h
  | c :: l, cur, m, h, g => by
    rw [splA_cons]
    cases m with
    | zero =>
      simp only [List.getElem?_cons_zero, Option.some.injEq] at h
      rw [if_pos h]; simp
    | succ m =>
      have hc : ¬ c = 32 := fun e => g 0 (by omega) (by simp [e])
      rw [if_neg hc, spl_at l _ m (by simpa using h) (fun k hk => by simpa using g (k + 1) (by omega))]
      simp
theorem count_at (l : List UInt8) (m : Nat) (h : l[m]? = some 32) (g : ∀ k, k < m → l[k]? ≠ some 32) : l.count 32 = (l.drop (m + 1)).count 32 + 1 := by
  have hm : m < l.length := by
    rcases Nat.lt_or_ge m l.length with q | q
    · exact q
    · rw [List.getElem?_eq_none q] at h; cases h
  have e : l = l.take m ++ 32 :: l.drop (m + 1) := by
    rw [List.getElem?_eq_getElem hm] at h
    rw [← Option.some.inj h, ← List.drop_eq_getElem_cons hm, List.take_append_drop]
  have z : (l.take m).count 32 = 0 := by
    refine List.count_eq_zero.2 fun q => ?_
    obtain ⟨k, hk, hq⟩ := List.getElem_of_mem q
    have hk2 : k < m := by rw [List.length_take] at hk; omega
    exact g k hk2 (by rw [List.getElem_take] at hq; rw [List.getElem?_eq_getElem (by omega), hq])
  rw [show l.count 32 = (l.take m ++ 32 :: l.drop (m + 1)).count 32 from congrArg _ e, List.count_append, z, List.count_cons_self]; omega
theorem idx_none {l : List UInt8} {c : UInt8} (h : Lib.indexByte l c < 0) : l.count c = 0 := by
  have h1 : Lib.indexByte l c = -1 := by have := Lib.indexByte_ge l c; omega
  refine List.count_eq_zero.2 fun q => ?_
  obtain ⟨k, hk, hq⟩ := List.getElem_of_mem q
  exact Lib.indexByte_none h1 k (by rw [List.getElem?_eq_getElem hk, hq])
theorem idx_some {l : List UInt8} {c : UInt8} (h : 0 ≤ Lib.indexByte l c) : ∃ m : Nat, Lib.indexByte l c = m ∧ m < l.length ∧ l[m]? = some c ∧ ∀ k, k < m → l[k]? ≠ some c := by
  obtain ⟨m, hm⟩ := Int.eq_ofNat_of_zero_le h
  obtain ⟨h1, h2⟩ := Lib.indexByte_some hm
  refine ⟨m, hm, ?_, h1, h2⟩
  rcases Nat.lt_or_ge m l.length with q | q
  · exact q
  · rw [List.getElem?_eq_none q] at h1; cases h1
theorem idx_pos {l : List UInt8} {c : UInt8} (h : l.count c ≠ 0) : 0 ≤ Lib.indexByte l c := by
  rcases Int.lt_or_le (Lib.indexByte l c) 0 with q | q
  · exact absurd (idx_none q) h
  · exact q

theorem Index_eq (s : ByteArray) (c : UInt8) : strings_Index.f s ⟨#[c]⟩ = some (Lib.indexByte (bl s) c) := rfl
theorem Count_eq (s : ByteArray) (c : UInt8) : strings_Count.f s ⟨#[c]⟩ = some (((bl s).count c : Nat) : Int) := rfl
theorem split_l0 : ∀ (d : Nat) (s : ByteArray) (arr : List ByteArray) (i : Nat), (bl s).count 32 = d → arr.length = i + d + 1 → s.size ≤ 100000 → i + d ≤ 100000 →
    Ev (fun k => strings_genSplit.l0 k s ⟨#[32]⟩ 0 ((i + d : Nat) : Int) arr (i : Int)) (arr.take i ++ (splA [] (bl s)).map ofL)
  | 0, s, arr, i, hc, ha, hs, hi => by
    refine Ev.step (fun k => strings_genSplit.l0.eq_2 ..) (evn (by omega) (evp (by omega) (evp (by omega) ?_)))
    rw [w64 (by omega) (by omega)]
    refine evp (by omega) (evp (by omega) ?_)
    rw [spl_none _ _ hc, List.nil_append, List.map_cons, List.map_nil, ofL_bl, show ((i : Int) + 1).toNat = i + 1 by omega, show (i : Int).toNat = i by omega]
    rw [show (arr.set i s).take (i + 1) = arr.take i ++ [s] by
      rw [List.take_succ_eq_append_getElem (by rw [List.length_set]; omega), List.getElem_set_self, List.take_set_of_le (by omega)]]
    exact Ev.now _
  | d + 1, s, arr, i, hc, ha, hs, hi => by
    obtain ⟨m, hm, hl, h1, h2⟩ := idx_some (idx_pos (c := 32) (l := bl s) (by omega))
    have hl2 : m < s.size := by rw [← bl_len]; exact hl
    have hk := count_at _ m h1 h2
    refine Ev.step (fun k => strings_genSplit.l0.eq_2 ..) (evp (by omega) (evs (Index_eq s 32) ?_))
    rw [hm]
    refine evn (by omega) ?_
    rw [show (⟨#[32]⟩ : ByteArray).size = 1 from rfl, Int.add_zero, w64 (by omega) (by omega), w64 (by omega) (by omega), w64 (by omega) (by omega)]
    refine evp (by omega) (evp (by omega) (evp (by omega) (evp (by omega) (evp (by omega) (evp (by omega) ?_)))))
    rw [show ((m : Int) + ((1 : Nat) : Int)).toNat = m + 1 by omega, show (m : Int).toNat = m by omega, show (i : Int).toNat = i by omega]
    have R := split_l0 d (s.extract (m + 1) s.size) (arr.set i (s.extract 0 m)) (i + 1) (by rw [bl_from]; omega) (by rw [List.length_set]; omega) (by rw [ByteArray.size_extract]; omega) (by omega)
    rw [show i + 1 + d = i + (d + 1) by omega, bl_from, List.take_succ_eq_append_getElem (by rw [List.length_set]; omega), List.getElem_set_self, List.take_set_of_le (by omega)] at R
    rw [spl_at _ _ m h1 h2, List.nil_append, List.map_cons, ← bl_to, ofL_bl]
    rw [List.append_assoc] at R
    exact R
def spl (s : ByteArray) : List ByteArray := (splA [] (bl s)).map ofL
theorem Split_ev (s : ByteArray) (hs : s.size ≤ 10000) : Ev (fun k => strings_Split.f k s ⟨#[32]⟩) (spl s) := by
  unfold strings_Split.f strings_genSplit.f
  have hcl : (bl s).count 32 ≤ s.size := by rw [← bl_len]; exact List.count_le_length
  refine evb (evn (by decide) (evn (by simp [bl_tl, bl]) (evp (by decide) (evs (Count_eq s 32) ?_)))) (Ev.now _)
  refine Ev.step (fun k => strings_genSplit.j0.eq_2 ..) ?_
  rw [w64 (by omega) (by omega), w64 (by omega) (by omega), show mn (((bl s).count 32 : Nat) + 1 : Int) ((s.size : Int) + 1) = (((bl s).count 32 + 1 : Nat) : Int) by unfold mn; split <;> omega]
  refine evp (by omega) (evp (by omega) ?_)
  rw [w64 (by omega) (by omega)]
  have R := split_l0 _ s (List.replicate ((bl s).count 32 + 1) ⟨#[]⟩) 0 rfl (by simp) (by omega) (by omega)
  rw [List.take_zero, List.nil_append, Nat.zero_add] at R
  rw [show ((((bl s).count 32 + 1 : Nat) : Int) - 1) = (((bl s).count 32 : Nat) : Int) by omega, show (((bl s).count 32 + 1 : Nat) : Int).toNat = (bl s).count 32 + 1 by omega]
  exact R

def digs (l : List UInt8) : Prop := ∀ c ∈ l, 48 ≤ c.toNat ∧ c.toNat ≤ 57
def val (x : Nat) (l : List UInt8) : Nat := l.foldl (fun x c => 10 * x + (c.toNat - 48)) x
theorem val_cons (x : Nat) (c : UInt8) (l : List UInt8) : val x (c :: l) = val (10 * x + (c.toNat - 48)) l := by unfold val; rw [List.foldl_cons]
theorem dec_small {n : Nat} (h : n < 10) : Lib.decDigits n = [UInt8.ofNat (48 + n)] := by rw [Lib.decDigits, dif_pos h]
theorem dec_big {n : Nat} (h : ¬ n < 10) : Lib.decDigits n = Lib.decDigits (n / 10) ++ [UInt8.ofNat (48 + n % 10)] := by rw [Lib.decDigits, dif_neg h]
theorem ch_nat {d : Nat} (h : d < 10) : (UInt8.ofNat (48 + d)).toNat = 48 + d := by
  rw [UInt8.toNat_ofNat']; omega
theorem dec_digs (n : Nat) : digs (Lib.decDigits n) := by
  induction n using Nat.strongRecOn with
  | _ n ih =>
    by_cases h : n < 10
    · rw [dec_small h]; intro c hc; rw [List.mem_singleton.1 hc, ch_nat h]; omega
    · rw [dec_big h]
      intro c hc
      rcases List.mem_append.1 hc with q | q
      · exact ih (n / 10) (by omega) c q
      · rw [List.mem_singleton.1 q, ch_nat (by omega)]; omega
theorem dec_val (n : Nat) : val 0 (Lib.decDigits n) = n := by
  induction n using Nat.strongRecOn with
  | _ n ih =>
    by_cases h : n < 10
    · rw [dec_small h]; unfold val; simp only [List.foldl_cons, List.foldl_nil]; rw [ch_nat h]; omega
    · rw [dec_big h]; unfold val at ih ⊢; rw [List.foldl_append, ih (n / 10) (by omega)]
      simp only [List.foldl_cons, List.foldl_nil]; rw [ch_nat (by omega)]; omega
theorem dec_ne (n : Nat) : Lib.decDigits n ≠ [] := by
  by_cases h : n < 10
  · rw [dec_small h]; simp
  · rw [dec_big h]; simp
theorem dec_len : ∀ (k n : Nat), n < 10 ^ (k + 1) → (Lib.decDigits n).length ≤ k + 1
  | 0, n, h => by rw [dec_small (by simpa using h)]; simp
  | k + 1, n, h => by
    by_cases h2 : n < 10
    · rw [dec_small h2]; simp
    · rw [dec_big h2]
      have := dec_len k (n / 10) (by rw [Nat.pow_succ] at h; omega)
      simp; omega
theorem parse_val : ∀ (l : List UInt8) (acc a : Nat), digs l → acc < 10 ^ a → a + l.length ≤ 18 → Lib.parseUint10 acc l = .ok (val acc l)
  | [], acc, a, _, _, _ => rfl
  | c :: l, acc, a, hd, ha, hl => by
    have h1 := hd c List.mem_cons_self
    rw [List.length_cons] at hl
    have hp : 10 ^ a ≤ 10 ^ 17 := Nat.pow_le_pow_right (by decide) (by omega)
    have hs : acc * 10 + (c.toNat - 48) < 10 ^ (a + 1) := by rw [Nat.pow_succ]; omega
    have hn : (10 : Nat) ^ 17 = 100000000000000000 := by decide
    unfold Lib.parseUint10
    rw [if_pos h1, if_neg (by omega), if_neg (by omega), parse_val l _ (a + 1) (fun c q => hd c (List.mem_cons_of_mem _ q)) hs (by omega), val_cons, Nat.mul_comm]
theorem atoi_dec (n : Nat) (h : n < 10 ^ 10) : Lib.atoiAll (Lib.decDigits n) = .ok (n : Int) := by
  have hd := dec_digs n
  have hl := dec_len 9 n h
  have hp := parse_val (Lib.decDigits n) 0 0 hd (by decide) (by omega)
  rw [dec_val] at hp
  cases e : Lib.decDigits n with
  | nil => exact absurd e (dec_ne n)
  | cons c r =>
    have hc := hd c (by rw [e]; exact List.mem_cons_self)
    rw [e] at hp
    have hn : (10 : Nat) ^ 10 = 10000000000 := by decide
    unfold Lib.atoiAll Lib.parseMag
    simp only [if_neg (show ¬ (c.toNat = 43 ∨ c.toNat = 45) by omega), if_neg (List.cons_ne_nil c r), hp]
    rw [if_neg (fun q => by omega), if_neg (fun q => by omega), if_neg (by omega)]
theorem itoa_at (n : Nat) : Lib.itoa (n : Int) = Lib.decDigits n := by unfold Lib.itoa; rw [if_neg (by omega)]; rfl

theorem Digit_at : ∀ d : Fin 10, wigeonref01_Digit.f (d.val : Int) = some (ofL [UInt8.ofNat (48 + d.val)]) := by decide +kernel
theorem Digit_eq (n : Int) (h0 : 0 ≤ n) (h1 : n < 10) : wigeonref01_Digit.f n = some (ofL [UInt8.ofNat (48 + n.toNat)]) := by
  have := Digit_at ⟨n.toNat, by omega⟩
  rw [show ((n.toNat : Nat) : Int) = n by omega] at this
  exact this
theorem Number_ev (n : Nat) (h : n < 10 ^ 12) : Ev (fun k => wigeonref09_Number.f k (n : Int)) (ofL (Lib.decDigits n)) := by
  induction n using Nat.strongRecOn with
  | _ n ih =>
    have hn : (10 : Nat) ^ 12 = 1000000000000 := by decide
    refine Ev.step (fun k => wigeonref09_Number.f.eq_2 ..) ?_
    by_cases h2 : n < 10
    · refine evp (by omega) (evs (Digit_eq _ (by omega) (by omega)) ?_)
      rw [dec_small h2]; exact Ev.now _
    · refine evn (by omega) ?_
      rw [show Int.tdiv (n : Int) 10 = ((n / 10 : Nat) : Int) from rfl, show Int.tmod (n : Int) 10 = ((n % 10 : Nat) : Int) from rfl, w64 (by omega) (by omega)]
      refine evb (ih (n / 10) (by omega) (by omega)) (evs (Digit_eq _ (by omega) (by omega)) ?_)
      have hl := dec_len 11 (n / 10) (by omega)
      refine evp (by rw [ofL_size, ofL_size]; simp; omega) ?_
      rw [show ofL (Lib.decDigits (n / 10)) ++ ofL [UInt8.ofNat (48 + (((n % 10 : Nat) : Int)).toNat)] = ofL (Lib.decDigits n) from bl_inj (by rw [bl_app, bl_ofL, bl_ofL, bl_ofL, dec_big h2]; rfl)]
      exact Ev.now _

def numL (w : List UInt8) : Nat → Nat → List UInt8 → Int
  | _, x, [] => if w = [] then -1 else if Lib.decDigits x = w then (x : Int) else -1
  | i, x, c :: r => if c.toNat < 48 then -1 else if 57 < c.toNat then -1 else if i = 10 then -1 else numL w (i + 1) (10 * x + (c.toNat - 48)) r
theorem numL_ok (w : List UInt8) : ∀ (l : List UInt8) (i x : Nat), i ≤ 10 → x < 10 ^ i → numL w i x l = -1 ∨ ∃ n : Nat, numL w i x l = n ∧ Lib.decDigits n = w ∧ n < 10 ^ 10
  | [], i, x, hi, hx => by
    unfold numL
    split
    · exact Or.inl rfl
    · split
      · rename_i h; exact Or.inr ⟨x, rfl, h, Nat.lt_of_lt_of_le hx (Nat.pow_le_pow_right (by decide) hi)⟩
      · exact Or.inl rfl
  | c :: r, i, x, hi, hx => by
    unfold numL
    split
    · exact Or.inl rfl
    · split
      · exact Or.inl rfl
      · split
        · exact Or.inl rfl
        · exact numL_ok w r (i + 1) _ (by omega) (by rw [Nat.pow_succ]; omega)
theorem numL_dec (w : List UInt8) : ∀ (l : List UInt8) (i x : Nat), digs l → i + l.length ≤ 10 → w ≠ [] → Lib.decDigits (val x l) = w → numL w i x l = (val x l : Nat)
  | [], i, x, _, _, hw, hv => by unfold numL; rw [if_neg hw]; exact if_pos hv
  | c :: r, i, x, hd, hl, hw, hv => by
    have h1 := hd c List.mem_cons_self
    rw [List.length_cons] at hl
    unfold numL
    rw [if_neg (by omega), if_neg (by omega), if_neg (by omega), val_cons]
    exact numL_dec w r (i + 1) _ (fun c q => hd c (List.mem_cons_of_mem _ q)) (by omega) hw hv
def numV (w : List UInt8) : Int := numL w 0 0 w
theorem numV_ok (w : List UInt8) : numV w = -1 ∨ ∃ n : Nat, numV w = n ∧ Lib.decDigits n = w ∧ n < 10 ^ 10 := numL_ok w w 0 0 (by decide) (by decide)
theorem numV_dec (n : Nat) (h : n < 10 ^ 10) : numV (Lib.decDigits n) = n := by
  have := numL_dec (Lib.decDigits n) (Lib.decDigits n) 0 0 (dec_digs n) (by have := dec_len 9 n h; omega) (dec_ne n) (by rw [dec_val])
  rw [dec_val] at this; exact this
theorem number_l0 (w : ByteArray) (hs : w.size ≤ 100000) : ∀ (d i x : Nat), i + d = w.size → i ≤ 10 → x < 10 ^ i → Ev (fun k => wigeonref09_number.l0 k w (x : Int) (i : Int)) (numL (bl w) i x ((bl w).drop i))
  | 0, i, x, h, hi, hx => by
    have hx2 : x < 10 ^ 12 := Nat.lt_of_lt_of_le hx (Nat.pow_le_pow_right (by decide) (by omega))
    refine Ev.step (fun k => wigeonref09_number.l0.eq_2 ..) (evn (by omega) ?_)
    rw [List.drop_eq_nil_of_le (by rw [bl_len]; omega), bl_tl]
    unfold numL
    by_cases h1 : bl w = []
    · simp only [if_pos h1]; exact Ev.now _
    · simp only [if_neg h1]
      refine (evb (Number_ev x hx2) ?_)
      rw [bl_tl, bl_ofL]
      by_cases h2 : Lib.decDigits x = bl w
      · simp only [if_pos h2]; exact Ev.now _
      · simp only [if_neg h2]; exact Ev.now _
  | d + 1, i, x, h, hi, hx => by
    have hl : i < (bl w).length := by rw [bl_len]; omega
    have hx2 : x < 10 ^ 10 := Nat.lt_of_lt_of_le hx (Nat.pow_le_pow_right (by decide) (by omega))
    have hn : (10 : Nat) ^ 10 = 10000000000 := by decide
    refine Ev.step (fun k => wigeonref09_number.l0.eq_2 ..) (evp (by omega) (evp (by omega) ?_))
    rw [bt_bl w i hl, List.drop_eq_getElem_cons hl]
    have hc : ((bl w)[i]).toNat < 256 := UInt8.toNat_lt _
    generalize (bl w)[i] = c at hc ⊢
    unfold numL
    by_cases h1 : c.toNat < 48
    · rw [if_pos h1]; exact evp (by omega) (Ev.now _)
    rw [if_neg h1]; refine evn (by omega) ?_
    by_cases h2 : 57 < c.toNat
    · rw [if_pos h2]; exact evp (by omega) (Ev.now _)
    rw [if_neg h2]; refine evn (by omega) ?_
    by_cases h3 : i = 10
    · rw [if_pos h3]; exact evp (by omega) (Ev.now _)
    rw [if_neg h3]; refine evn (by omega) ?_
    have R := number_l0 w hs d (i + 1) (10 * x + (c.toNat - 48)) (by omega) (by omega) (by rw [Nat.pow_succ]; omega)
    rw [w64 (n := 10 * (x : Int)) (by omega) (by omega), w64 (by omega) (by omega), w64 (by omega) (by omega), show (10 * (x : Int) + (((c.toNat : Int) - 48) % 256)) = ((10 * x + (c.toNat - 48) : Nat) : Int) by omega]
    exact R
theorem number_ev (w : ByteArray) (hs : w.size ≤ 100000) : Ev (fun k => wigeonref09_number.f k w) (numV (bl w)) := number_l0 w hs w.size 0 0 (by omega) (by decide) (by decide)
def pgs : List UInt8 := [112, 97, 103, 101, 115]
def fst9 (n r : Nat) : List UInt8 := (((pgs ++ [32]) ++ Lib.decDigits n ++ [32]) ++ Lib.decDigits r) ++ [10]
theorem first_ev (n r : Nat) (hn : n < 10 ^ 12) (hr : r < 10 ^ 12) : Ev (fun k => wigeonref09_first.f k (n : Int) (r : Int)) (ofL (fst9 n r)) := by
  unfold wigeonref09_first.f
  have h1 := dec_len 11 n hn
  have h2 := dec_len 11 r hr
  refine evb (Number_ev n hn) (evp (by rw [ofL_size]; omega) (evp (by rw [ByteArray.size_append, ofL_size]; simp [ByteArray.size]; omega) (evb (Number_ev r hr) (evp (by rw [ByteArray.size_append, ByteArray.size_append, ofL_size, ofL_size]; simp [ByteArray.size]; omega) (evp (by rw [ByteArray.size_append, ByteArray.size_append, ByteArray.size_append, ofL_size, ofL_size]; simp [ByteArray.size]; omega) ?_)))))
  rw [show (((((⟨#[112, 97, 103, 101, 115, 32]⟩ : ByteArray) ++ ofL (Lib.decDigits n)) ++ (⟨#[32]⟩ : ByteArray)) ++ ofL (Lib.decDigits r)) ++ (⟨#[10]⟩ : ByteArray)) = ofL (fst9 n r) from bl_inj (by simp only [bl_app, bl_ofL]; rfl)]
  exact Ev.now _

def nlI (t : ByteArray) : Int := Lib.indexByte (bl t) 10
theorem nl_at {t : ByteArray} {m : Nat} (h : nlI t = m) : m < t.size := by
  obtain ⟨k, hk, hl, _⟩ := idx_some (l := bl t) (c := 10) (by show 0 ≤ nlI t; omega)
  have : k = m := by have : nlI t = k := hk; omega
  rw [← bl_len]; omega
theorem Cut_no (t : ByteArray) (h : nlI t < 0) : strings_Cut.f t ⟨#[10]⟩ = some (t, ⟨#[]⟩, false) := by
  unfold strings_Cut.f stringslite_Cut.f
  rw [show stringslite_Index.f t ⟨#[10]⟩ = some (nlI t) from rfl, Option.bind_some, if_neg (by omega)]; rfl
theorem Cut_at (t : ByteArray) (m : Nat) (h : nlI t = m) (hs : t.size ≤ 100000) : strings_Cut.f t ⟨#[10]⟩ = some (t.extract 0 m, t.extract (m + 1) t.size, true) := by
  have hm := nl_at h
  unfold strings_Cut.f stringslite_Cut.f
  rw [show stringslite_Index.f t ⟨#[10]⟩ = some (nlI t) from rfl, Option.bind_some, h, if_pos (by omega), if_pos (by omega), if_pos (by omega), show (⟨#[10]⟩ : ByteArray).size = 1 from rfl, w64 (by omega) (by omega), if_pos (by omega), if_pos (by omega), Option.bind_some, show ((m : Int) + ((1 : Nat) : Int)).toNat = m + 1 by omega, show (m : Int).toNat = m by omega]

def HW (W : List (List UInt8)) (n r : Nat) : Prop := W = [pgs, Lib.decDigits n, Lib.decDigits r] ∧ n ≤ 64 ∧ r < 2147483647
theorem Atoi_some (s : ByteArray) (hs : s.size ≤ 100000) : ∃ v o, strconv_Atoi_70.f s = some (v, o) ∧ (o.isNone = true → -9223372036854775808 ≤ v ∧ v ≤ 9223372036854775807) := by
  unfold strconv_Atoi_70.f
  rw [if_pos (by omega)]
  cases e : Lib.atoiAll s.data.toList with
  | ok v => exact ⟨v, none, rfl, fun _ => Lib.atoiAll_bounds e⟩
  | «syntax» => exact ⟨0, some 0, rfl, fun h => by simp at h⟩
  | range => exact ⟨_, some 1, rfl, fun h => by simp at h⟩
theorem Atoi_dec (n : Nat) (h : n < 10 ^ 10) : strconv_Atoi_70.f (ofL (Lib.decDigits n)) = some ((n : Int), none) := by
  unfold strconv_Atoi_70.f
  have hl := dec_len 9 n h
  rw [if_pos (by rw [ofL_size]; omega), show (ofL (Lib.decDigits n)).data.toList = Lib.decDigits n from bl_ofL _, atoi_dec n h]
theorem Itoa_eq (v : Int) (h : -9223372036854775808 ≤ v ∧ v ≤ 9223372036854775807) : strconv_Itoa_50.f v = some (ofL (Lib.itoa v)) := if_pos h
theorem w0_at (a b c : ByteArray) : rdOf ByteArray.empty [a, b, c] 0 = a := rfl
theorem w1_at (a b c : ByteArray) : rdOf ByteArray.empty [a, b, c] 1 = b := rfl
theorem w2_at (a b c : ByteArray) : rdOf ByteArray.empty [a, b, c] 2 = c := rfl
theorem j0_true (x : ByteArray) (w : List ByteArray) : Ev (fun k => book_head.j0 k x w true) (0, 0, ⟨#[]⟩, false) := Ev.step (fun k => book_head.j0.eq_2 ..) (evp rfl (Ev.now _))
theorem j0_ok (x a : ByteArray) (n r : Nat) (hn : n ≤ 64) (hr : r < 2147483647) : Ev (fun k => book_head.j0 k x [a, ofL (Lib.decDigits n), ofL (Lib.decDigits r)] false) ((n : Int), (r : Int), x, true) := by
  have hp : (10 : Nat) ^ 10 = 10000000000 := by decide
  refine Ev.step (fun k => book_head.j0.eq_2 ..) (evn (by decide) (evp (show (1 : Int) < ((3 : Nat) : Int) by decide) (evs (by rw [w1_at]; exact Atoi_dec n (by omega)) (evp (show (2 : Int) < ((3 : Nat) : Int) by decide) (evs (by rw [w2_at]; exact Atoi_dec r (by omega)) ?_)))))
  rw [w1_at, w2_at]
  refine evp rfl (evp rfl (evs (Itoa_eq _ (by omega)) ?_))
  rw [itoa_at]
  refine evp rfl (evs (Itoa_eq _ (by omega)) ?_)
  rw [itoa_at]
  refine evp rfl (evn (by omega) (evn (by omega) (evs (isSum_eq _) ?_)))
  rw [show decide (∀ x ∈ [(r : Int)], sumP x) = true from decide_eq_true (fun x hx => by rw [List.mem_singleton.1 hx]; unfold sumP; omega)]
  exact evp rfl (Ev.now _)
theorem j0_no (x a b c : ByteArray) (hb : b.size ≤ 100000) (hc : c.size ≤ 100000) (h : ∀ n r : Nat, n ≤ 64 → r < 2147483647 → bl b = Lib.decDigits n → bl c = Lib.decDigits r → False) : Ev (fun k => book_head.j0 k x [a, b, c] false) (0, 0, ⟨#[]⟩, false) := by
  obtain ⟨v1, o1, e1, g1⟩ := Atoi_some b hb
  obtain ⟨v2, o2, e2, g2⟩ := Atoi_some c hc
  refine Ev.step (fun k => book_head.j0.eq_2 ..) (evn (by decide) (evp (show (1 : Int) < ((3 : Nat) : Int) by decide) (evs (by rw [w1_at]; exact e1) (evp (show (2 : Int) < ((3 : Nat) : Int) by decide) (evs (by rw [w2_at]; exact e2) ?_)))))
  rw [w1_at, w2_at]
  by_cases h1 : o1.isNone = true
  · refine evp h1 ?_
    by_cases h2 : o2.isNone = true
    · refine evp h2 (evs (Itoa_eq _ (g1 h1)) ?_)
      rw [bl_tl, bl_tl, bl_ofL]
      by_cases h3 : Lib.itoa v1 = bl b
      · refine evp h3 (evs (Itoa_eq _ (g2 h2)) ?_)
        rw [bl_tl, bl_tl, bl_ofL]
        by_cases h4 : Lib.itoa v2 = bl c
        · refine evp h4 ?_
          by_cases h5 : v1 < 0
          · exact evp h5 (Ev.now _)
          refine evn h5 ?_
          by_cases h6 : v1 > 64
          · exact evp h6 (Ev.now _)
          refine evn h6 (evs (isSum_eq _) ?_)
          by_cases h7 : sumP v2
          · exfalso
            obtain ⟨n, rfl⟩ := Int.eq_ofNat_of_zero_le (show 0 ≤ v1 by omega)
            obtain ⟨r, rfl⟩ := Int.eq_ofNat_of_zero_le h7.1
            rw [itoa_at] at h3 h4
            exact h n r (by omega) (by have := h7.2; omega) h3.symm h4.symm
          · rw [show decide (∀ x ∈ [v2], sumP x) = false from decide_eq_false (fun q => h7 (q v2 List.mem_cons_self))]
            exact evn (by decide) (Ev.now _)
        · exact evn h4 (Ev.now _)
      · exact evn h3 (Ev.now _)
    · exact evn h2 (Ev.now _)
  · exact evn h1 (Ev.now _)
theorem head_ok (t : ByteArray) (m n r : Nat) (hs : t.size ≤ 10000) (h : nlI t = m) (hw : HW (splA [] ((bl t).take m)) n r) : Ev (fun k => book_head.f k t) ((n : Int), (r : Int), t.extract (m + 1) t.size, true) := by
  unfold book_head.f
  obtain ⟨e, hn, hr⟩ := hw
  refine evs (Cut_at t m h (by omega)) (evb (Split_ev _ (by rw [ByteArray.size_extract]; omega)) (evp rfl ?_))
  rw [show spl (t.extract 0 m) = [ofL pgs, ofL (Lib.decDigits n), ofL (Lib.decDigits r)] by unfold spl; rw [bl_to, e]; rfl]
  refine evp rfl (evp (show (0 : Int) < ((3 : Nat) : Int) by decide) ?_)
  rw [w0_at, show ((ofL pgs).toList != [112, 97, 103, 101, 115]) = false by rw [bl_tl, bl_ofL]; rfl]
  exact j0_ok _ _ n r hn hr
theorem spl_sizes (s a : ByteArray) (h : a ∈ spl s) : a.size ≤ s.size := by
  have key : ∀ (l cur x : List UInt8), x ∈ splA cur l → x.length ≤ cur.length + l.length := by
    intro l
    induction l with
    | nil => intro cur x hx; simp [splA] at hx; subst hx; omega
    | cons c l ih =>
      intro cur x hx
      rw [splA_cons] at hx
      rw [List.length_cons]
      split at hx
      · rcases List.mem_cons.1 hx with q | q
        · subst q; omega
        · have := ih [] x q; rw [List.length_nil] at this; omega
      · have := ih _ x hx; rw [List.length_append, List.length_singleton] at this; omega
  obtain ⟨x, hx, rfl⟩ := List.mem_map.1 h
  have := key _ _ _ hx
  rw [ofL_size, ← bl_len s]; simpa using this
theorem three {α : Type} (l : List α) (h : (l.length : Int) = 3) : ∃ a b c, l = [a, b, c] := by
  match l, h with
  | [a, b, c], _ => exact ⟨a, b, c, rfl⟩
  | [], h => exact absurd h (by simp)
  | [_], h => exact absurd h (by simp)
  | [_, _], h => exact absurd h (by simp)
  | _ :: _ :: _ :: _ :: _, h => exact absurd h (by simp only [List.length_cons]; omega)
theorem head_no (t : ByteArray) (hs : t.size ≤ 10000) (h : ∀ m : Nat, nlI t = m → ∀ n r, ¬ HW (splA [] ((bl t).take m)) n r) : Ev (fun k => book_head.f k t) (0, 0, ⟨#[]⟩, false) := by
  unfold book_head.f
  by_cases h1 : nlI t < 0
  · exact evs (Cut_no t h1) (evb (Split_ev _ hs) (evn (show ¬ (false = true) by decide) (j0_true _ _)))
  · obtain ⟨m, hm⟩ := Int.eq_ofNat_of_zero_le (show 0 ≤ nlI t by omega)
    refine evs (Cut_at t m hm (by omega)) (evb (Split_ev _ (by rw [ByteArray.size_extract]; omega)) (evp rfl ?_))
    by_cases h2 : ((spl (t.extract 0 m)).length : Int) = 3
    · refine evp h2 (evp (by show (0 : Int) < ((spl (t.extract 0 m)).length : Int); omega) ?_)
      obtain ⟨a, b, c, e⟩ := three _ h2
      have sz := spl_sizes (t.extract 0 m)
      rw [ByteArray.size_extract] at sz
      rw [e] at sz ⊢
      rw [w0_at]
      cases h3 : (a.toList != [112, 97, 103, 101, 115]) with
      | true => exact j0_true _ _
      | false =>
        refine j0_no _ a b c (by have := sz b (by simp); omega) (by have := sz c (by simp); omega) fun n r hn hr q1 q2 => h m hm n r ⟨?_, hn, hr⟩
        have e2 : (spl (t.extract 0 m)).map bl = splA [] ((bl t).take m) := by
          unfold spl; rw [List.map_map, show bl ∘ ofL = id from funext bl_ofL, List.map_id, bl_to]
        rw [← e2, e, List.map_cons, List.map_cons, List.map_cons, List.map_nil, q1, q2]
        rw [bl_tl] at h3
        rw [show bl a = pgs from by simpa [pgs] using h3]
    · exact evn h2 (j0_true _ _)

theorem drop_idx (t : List UInt8) (m : Nat) (h1 : t[m]? = some 10) (h2 : ∀ k, k < m → t[k]? ≠ some 10) : Lib.indexByte t 10 = m := by
  have hc : t.count 10 ≠ 0 := by
    refine fun q => List.count_eq_zero.1 q ?_
    exact List.mem_of_getElem? h1
  obtain ⟨k, hk, _, g1, g2⟩ := idx_some (idx_pos hc)
  rcases Nat.lt_trichotomy k m with q | q | q
  · exact absurd g1 (h2 k q)
  · rw [hk, q]
  · exact absurd h1 (g2 m q)
theorem line_l0 (t : ByteArray) (hs : t.size ≤ 100000) : ∀ d i : Nat, i + d = t.size → (∀ k, k < i → (bl t)[k]? ≠ some 10) → Ev (fun k => wigeonref09_line.l0 k t (i : Int)) (if nlI t < 0 then (t, false) else (t.extract 0 ((nlI t).toNat + 1), true))
  | 0, i, h, g => by
    refine Ev.step (fun k => wigeonref09_line.l0.eq_2 ..) (evn (by omega) ?_)
    have : nlI t < 0 := by
      rcases Int.lt_or_le (nlI t) 0 with q | q
      · exact q
      · obtain ⟨m, hm⟩ := Int.eq_ofNat_of_zero_le q
        obtain ⟨k, _, hl, h1, _⟩ := idx_some (l := bl t) (c := 10) q
        exact absurd h1 (g k (by rw [bl_len] at hl; omega))
    rw [if_pos this]; exact Ev.now _
  | d + 1, i, h, g => by
    have hl : i < (bl t).length := by rw [bl_len]; omega
    refine Ev.step (fun k => wigeonref09_line.l0.eq_2 ..) (evp (by omega) (evp (by omega) ?_))
    rw [bt_bl t i hl, w64 (by omega) (by omega)]
    by_cases h1 : ((bl t)[i].toNat : Int) = 10
    · have hi : (bl t)[i]? = some 10 := by
        rw [List.getElem?_eq_getElem hl]; exact congrArg some (UInt8.toNat_inj.1 (by show _ = 10; omega))
      have hn : nlI t = i := drop_idx _ i hi g
      rw [hn, if_neg (show ¬ ((i : Nat) : Int) < 0 by omega)]
      refine evp h1 (evp (by omega) (evp (by omega) ?_))
      rw [show ((i : Int) + 1).toNat = (i : Int).toNat + 1 by omega]; exact Ev.now _
    · refine evn h1 ?_
      refine line_l0 t hs d (i + 1) (by omega) fun k hk => ?_
      rcases Nat.lt_or_ge k i with q | q
      · exact g k q
      · have : k = i := by omega
        subst this
        rw [List.getElem?_eq_getElem hl]
        intro q; exact h1 (by rw [Option.some.inj q]; rfl)
theorem line_ev (t : ByteArray) (hs : t.size ≤ 100000) : Ev (fun k => wigeonref09_line.f k t) (if nlI t < 0 then (t, false) else (t.extract 0 ((nlI t).toNat + 1), true)) := line_l0 t hs t.size 0 (by omega) (fun k hk => absurd hk (Nat.not_lt_zero _))

def rq (s : List UInt8) (W : List (List UInt8)) : Int × Int × Bool :=
  match W with
  | [_, b, c] => if 0 ≤ numV b ∧ numV b ≤ 64 ∧ sumP (numV c) then (numV b, numV c, fst9 (numV b).toNat (numV c).toNat == s) else (numV b, numV c, false)
  | _ => (0, 0, false)
theorem rq_ok (W : List (List UInt8)) (n r : Nat) (h : HW W n r) : rq (jw W ++ [10]) W = ((n : Int), (r : Int), true) := by
  obtain ⟨rfl, hn, hr⟩ := h
  have hp : (10 : Nat) ^ 10 = 10000000000 := by decide
  unfold rq
  simp only [numV_dec n (by omega), numV_dec r (by omega)]
  rw [if_pos ⟨by omega, by omega, by omega, by omega⟩]
  rw [show (fst9 ((n : Int)).toNat ((r : Int)).toNat == jw [pgs, Lib.decDigits n, Lib.decDigits r] ++ [10]) = true from beq_iff_eq.2 (by simp [fst9, jw])]
theorem rq_no (W : List (List UInt8)) (h : ∀ n r, ¬ HW W n r) : (rq (jw W ++ [10]) W).2.2 = false := by
  unfold rq
  split
  · rename_i a b c
    split
    · rename_i g
      obtain ⟨g1, g2, g3, g4⟩ := g
      rcases numV_ok b with q | ⟨n, q, e, _⟩
      · omega
      rcases numV_ok c with q2 | ⟨r, q2, e2, _⟩
      · omega
      show (fst9 (numV b).toNat (numV c).toNat == jw [a, b, c] ++ [10]) = false
      refine beq_eq_false_iff_ne.2 fun z => h n r ⟨?_, by omega, by omega⟩
      rw [q, q2, show ((n : Nat) : Int).toNat = n from rfl, show ((r : Nat) : Int).toNat = r from rfl] at z
      unfold fst9 at z
      rw [e, e2] at z ⊢
      have z2 : pgs ++ (32 :: (b ++ 32 :: (c ++ [10]))) = a ++ (32 :: (b ++ 32 :: (c ++ [10]))) := by simpa [jw] using z
      rw [List.append_cancel_right z2]
    · rfl
  · rfl
theorem rtail (s : ByteArray) (W : List ByteArray) (hW : ∀ a ∈ W, a.size ≤ 100000) (hs : s.size ≤ 100000) (i : Int) (hi : ¬ i < wrap64 ((s.size : Int) - 1)) : Ev (fun k => wigeonref09_head.l0 k s W i) (rq (bl s) (W.map bl)) := by
  refine Ev.step (fun k => wigeonref09_head.l0.eq_2 ..) (evn hi ?_)
  by_cases h3 : (W.length : Int) = 3
  · obtain ⟨a, b, c, rfl⟩ := three W h3
    have hp : (10 : Nat) ^ 12 = 1000000000000 := by decide
    have hp2 : (10 : Nat) ^ 10 = 10000000000 := by decide
    refine evp h3 (evp (show (1 : Int) < ((3 : Nat) : Int) by decide) ?_)
    rw [w1_at]
    refine evb (number_ev b (hW b (by simp))) (evp (show (2 : Int) < ((3 : Nat) : Int) by decide) ?_)
    rw [w2_at]
    refine evb (number_ev c (hW c (by simp))) ?_
    rw [List.map_cons, List.map_cons, List.map_cons, List.map_nil]
    show Ev _ (if 0 ≤ numV (bl b) ∧ numV (bl b) ≤ 64 ∧ sumP (numV (bl c)) then (numV (bl b), numV (bl c), fst9 (numV (bl b)).toNat (numV (bl c)).toNat == bl s) else (numV (bl b), numV (bl c), false))
    by_cases h1 : 0 ≤ numV (bl b)
    · refine evp h1 ?_
      by_cases h2 : numV (bl b) ≤ 64
      · refine evp h2 (evs (risSum_eq _) ?_)
        by_cases h4 : sumP (numV (bl c))
        · rw [decide_eq_true h4, if_pos ⟨h1, h2, h4⟩]
          refine evp rfl ?_
          obtain ⟨n, en⟩ := Int.eq_ofNat_of_zero_le h1
          obtain ⟨r, er⟩ := Int.eq_ofNat_of_zero_le h4.1
          have h5 := h4.2
          rw [en, er]
          refine evb (first_ev n r (by omega) (by omega)) ?_
          rw [bl_tl, bl_tl, bl_ofL]; exact Ev.now _
        · rw [decide_eq_false h4, if_neg (fun q => h4 q.2.2)]
          exact evn (by decide) (Ev.now _)
      · rw [if_neg (fun q => h2 q.2.1)]; exact evn h2 (Ev.now _)
    · rw [if_neg (fun q => h1 q.1)]; exact evn h1 (Ev.now _)
  · rw [show rq (bl s) (W.map bl) = (0, 0, false) by
      unfold rq
      split
      · rename_i a b c e; exact absurd (by rw [← List.length_map bl, e]; rfl) h3
      · rfl]
    exact evn h3 (Ev.now _)
theorem last_at (ws : List ByteArray) (cur : ByteArray) : rdOf ByteArray.empty (ws ++ [cur]) (ws.length : Int) = cur := by
  rw [rdS_at _ _ (by simp)]; simp
theorem rhead_l0 (s : ByteArray) (hs : s.size ≤ 10000) : ∀ (d i : Nat), i + d = s.size - 1 → ∀ (ws : List ByteArray) (cur : ByteArray), (∀ a ∈ ws, a.size ≤ 100000) → ws.length ≤ i → cur.size ≤ i →
    Ev (fun k => wigeonref09_head.l0 k s (ws ++ [cur]) (i : Int)) (rq (bl s) (ws.map bl ++ splA (bl cur) (((bl s).take (s.size - 1)).drop i)))
  | 0, i, h, ws, cur, hw, hl, hc => by
    have R := rtail s (ws ++ [cur]) (fun a ha => by
      rcases List.mem_append.1 ha with q | q
      · exact hw a q
      · rw [List.mem_singleton.1 q]; omega) (by omega) (i : Int) (by rw [w64 (by omega) (by omega)]; omega)
    rw [List.drop_eq_nil_of_le (by rw [List.length_take, bl_len]; omega)]
    rw [List.map_append] at R
    exact R
  | d + 1, i, h, ws, cur, hw, hl, hc => by
    have hi : i < (bl s).length := by rw [bl_len]; omega
    have hi2 : i < ((bl s).take (s.size - 1)).length := by rw [List.length_take, bl_len]; omega
    rw [List.drop_eq_getElem_cons hi2, List.getElem_take, splA_cons]
    refine Ev.step (fun k => wigeonref09_head.l0.eq_2 ..) (evp (by rw [w64 (by omega) (by omega)]; omega) (evp (by omega) (evp (by omega) ?_)))
    rw [bt_bl s i hi, w64 (n := (i : Int) + 1) (by omega) (by omega)]
    by_cases h1 : ((bl s)[i].toNat : Int) = 32
    · rw [if_pos (show (bl s)[i] = 32 from UInt8.toNat_inj.1 (by show _ = 32; omega))]
      refine evp h1 (evp (by rw [List.length_append, List.length_singleton]; omega) ?_)
      have R := rhead_l0 s hs d (i + 1) (by omega) (ws ++ [cur]) ⟨#[]⟩ (fun a ha => by
        rcases List.mem_append.1 ha with q | q
        · exact hw a q
        · rw [List.mem_singleton.1 q]; omega) (by simp; omega) (by show 0 ≤ i + 1; omega)
      rw [List.map_append, List.append_assoc (List.map bl ws)] at R
      exact R
    · rw [if_neg (show ¬ (bl s)[i] = 32 from fun q => h1 (by rw [q]; rfl))]
      rw [show wrap64 (((ws ++ [cur]).length : Int) - 1) = (ws.length : Int) by rw [List.length_append, List.length_singleton, w64 (by omega) (by omega)]; omega]
      refine evn h1 (evp (by omega) (evp (by rw [List.length_append, List.length_singleton]; omega) (evp (by omega) (evp (by omega) ?_))))
      rw [last_at, show ((i : Int) + 1).toNat = i + 1 by omega, show (i : Int).toNat = i by omega, show ((ws.length : Nat) : Int).toNat = ws.length by omega]
      refine evp (by rw [ByteArray.size_extract]; omega) ?_
      rw [show (ws ++ [cur]).set ws.length (cur ++ s.extract i (i + 1)) = ws ++ [cur ++ s.extract i (i + 1)] by simp]
      have R := rhead_l0 s hs d (i + 1) (by omega) ws (cur ++ s.extract i (i + 1)) hw (by omega) (by rw [ByteArray.size_append, ByteArray.size_extract]; omega)
      rw [bl_app, bl_ext, show ((bl s).take (i + 1)).drop i = [(bl s)[i]] by
        rw [List.take_succ_eq_append_getElem hi, List.drop_append_of_le_length (by rw [List.length_take]; omega), List.drop_eq_nil_of_le (by rw [List.length_take]; omega), List.nil_append]] at R
      exact R
theorem rhead_ev (s : ByteArray) (hs : s.size ≤ 10000) : Ev (fun k => wigeonref09_head.f k s) (rq (bl s) (splA [] ((bl s).take (s.size - 1)))) := by
  have R := rhead_l0 s hs (s.size - 1) 0 (by omega) [] ⟨#[]⟩ (fun a ha => absurd ha (by simp)) (by simp) (by decide)
  rw [List.drop_zero] at R
  exact R

def rdl : Nat → List ByteArray → ByteArray → List ByteArray × ByteArray × Bool
  | 0, acc, t => (acc, t, true)
  | d + 1, acc, t => if 0 ≤ nlI t ∧ pageB (t.extract 0 (nlI t).toNat) = true then rdl d (acc ++ [t.extract 0 (nlI t).toNat]) (t.extract ((nlI t).toNat + 1) t.size) else (acc, t, false)
def rdE (p : List ByteArray × ByteArray × Bool) (sum : Int) : List ByteArray × ByteArray × Bool × Int :=
  if p.2.2 = true then (if rt (lvs p.1) = sum then (p.1, p.2.1, true, 0) else ([], ⟨#[]⟩, false, 7)) else (p.1, p.2.1, false, 0)
def rdR (p : List ByteArray × ByteArray × Bool) (n sum : Int) : List ByteArray × Int × ByteArray × Int :=
  if p.2.2 = true then (if rt (lvs p.1) = sum then (p.1, n, p.2.1, 0) else ([], -1, ⟨#[]⟩, 7)) else (p.1, n, p.2.1, 0)
theorem rdl_len : ∀ (d : Nat) (acc : List ByteArray) (t : ByteArray), (∀ s ∈ acc, pageB s = true) → (∀ s ∈ (rdl d acc t).1, pageB s = true) ∧ ((rdl d acc t).2.2 = true → (rdl d acc t).1.length = acc.length + d) ∧ (¬ (rdl d acc t).2.2 = true → (rdl d acc t).1.length < acc.length + d)
  | 0, acc, t, h => ⟨h, fun _ => rfl, fun q => absurd rfl q⟩
  | d + 1, acc, t, h => by
    unfold rdl
    split
    · rename_i g
      have R := rdl_len d (acc ++ [t.extract 0 (nlI t).toNat]) (t.extract ((nlI t).toNat + 1) t.size) (fun s hs => by
        rcases List.mem_append.1 hs with q | q
        · exact h s q
        · rw [List.mem_singleton.1 q]; exact g.2)
      rw [List.length_append, List.length_singleton] at R
      exact ⟨R.1, fun q => by rw [R.2.1 q]; omega, fun q => by have := R.2.2 q; omega⟩
    · exact ⟨h, fun q => by simp at q, fun _ => by show acc.length < _; omega⟩
theorem next_no (t : ByteArray) (hs : t.size ≤ 100000) (h : ¬ (0 ≤ nlI t ∧ pageB (t.extract 0 (nlI t).toNat) = true)) : book_next.f t = some (t, false) := by
  unfold book_next.f
  by_cases h1 : nlI t < 0
  · rw [Cut_no t h1, Option.bind_some, if_neg (show ¬ (false = true) by decide)]
  · obtain ⟨m, hm⟩ := Int.eq_ofNat_of_zero_le (show 0 ≤ nlI t by omega)
    rw [Cut_at t m hm hs, Option.bind_some, if_pos rfl]
    show (some (pageB _)).bind _ = _
    rw [Option.bind_some, if_neg (fun q => h ⟨by omega, by rw [hm]; exact q⟩)]
theorem next_ok (t : ByteArray) (hs : t.size ≤ 100000) (h : 0 ≤ nlI t ∧ pageB (t.extract 0 (nlI t).toNat) = true) : book_next.f t = some (t.extract 0 (nlI t).toNat, true) := by
  unfold book_next.f
  obtain ⟨m, hm⟩ := Int.eq_ofNat_of_zero_le h.1
  rw [Cut_at t m hm hs, Option.bind_some, if_pos rfl]
  have h2 := h.2
  rw [hm, show ((m : Nat) : Int).toNat = m from rfl] at h2 ⊢
  show (some (pageB _)).bind _ = _
  rw [Option.bind_some, if_pos h2]
theorem read_l0 (sum : Int) : ∀ (d : Nat) (acc : List ByteArray) (t : ByteArray) (n : Nat), acc.length + d = n → n ≤ 64 → (∀ s ∈ acc, pageB s = true) → t.size ≤ 10000 → Ev (fun k => book_read.l0 k acc t (n : Int) sum) (rdE (rdl d acc t) sum)
  | 0, acc, t, n, h, hn, ha, ht => by
    refine Ev.step (fun k => book_read.l0.eq_2 ..) (evn (by omega) (evb (leaves_ev acc (by omega) (fun s hs => by have := page_small s (ha s hs); omega)) (evb (root_ev _ (lvs acc) (Nat.le_refl _) (by rw [lvs_length]; omega)) ?_)))
    unfold rdl rdE
    rw [if_pos rfl]
    by_cases h1 : rt (lvs acc) = sum
    · simp only [if_pos h1]; exact Ev.now _
    · simp only [if_neg h1]; exact Ev.now _
  | d + 1, acc, t, n, h, hn, ha, ht => by
    refine Ev.step (fun k => book_read.l0.eq_2 ..) (evp (by omega) ?_)
    unfold rdl
    by_cases g : 0 ≤ nlI t ∧ pageB (t.extract 0 (nlI t).toNat) = true
    · rw [if_pos g]
      obtain ⟨m, hm⟩ := Int.eq_ofNat_of_zero_le g.1
      have hl := nl_at hm
      refine evs (next_ok t (by omega) g) (evp rfl (evs (show book_page_text.f _ = some _ from rfl) (evp (by omega) ?_)))
      have g2 := g.2
      rw [hm, show ((m : Nat) : Int).toNat = m from rfl] at g2 ⊢
      rw [show (wrap64 (((t.extract 0 m).size : Int) + 1)) = ((m + 1 : Nat) : Int) by rw [ByteArray.size_extract, w64 (by omega) (by omega)]; omega]
      refine evp (by omega) (evp (by omega) ?_)
      exact read_l0 sum d (acc ++ [t.extract 0 m]) (t.extract (m + 1) t.size) n (by simp; omega) hn (fun s hs => by
        rcases List.mem_append.1 hs with q | q
        · exact ha s q
        · rw [List.mem_singleton.1 q]; exact g2) (by rw [ByteArray.size_extract]; omega)
    · rw [if_neg g]
      refine evs (next_no t (by omega) g) (evn (show ¬ (false = true) by decide) ?_)
      unfold rdE
      rw [if_neg (show ¬ (false = true) by decide)]
      exact Ev.now _
theorem rread_l0 (sum : Int) : ∀ (d : Nat) (acc : List ByteArray) (t : ByteArray) (n : Nat), acc.length + d = n → n ≤ 64 → (∀ s ∈ acc, pageB s = true) → t.size ≤ 10000 → Ev (fun k => wigeonref09_ReadAll.l0 k (n : Int) sum t acc) (rdR (rdl d acc t) n sum)
  | 0, acc, t, n, h, hn, ha, ht => by
    refine Ev.step (fun k => wigeonref09_ReadAll.l0.eq_2 ..) (evn (by omega) (evb (rleaves_ev acc (by omega) (fun s hs => by have := page_small s (ha s hs); omega)) (evb (rroot_ev _ (lvs acc) (Nat.le_refl _) (by rw [lvs_length]; omega)) ?_)))
    unfold rdl rdR
    rw [if_pos rfl]
    by_cases h1 : rt (lvs acc) = sum
    · simp only [if_pos h1]; exact Ev.now _
    · simp only [if_neg h1]; exact Ev.now _
  | d + 1, acc, t, n, h, hn, ha, ht => by
    refine Ev.step (fun k => wigeonref09_ReadAll.l0.eq_2 ..) (evp (by omega) (evb (line_ev t (by omega)) ?_))
    unfold rdl
    by_cases h0 : nlI t < 0
    · rw [if_pos h0, if_neg (show ¬ (0 ≤ nlI t ∧ pageB (t.extract 0 (nlI t).toNat) = true) from fun q => by omega)]
      refine evn (show ¬ (false = true) by decide) ?_
      unfold rdR
      rw [if_neg (show ¬ (false = true) by decide)]
      exact Ev.now _
    · obtain ⟨m, hm⟩ := Int.eq_ofNat_of_zero_le (show 0 ≤ nlI t by omega)
      have hl := nl_at hm
      rw [if_neg h0, hm, show ((m : Nat) : Int).toNat = m from rfl]
      have hz : (t.extract 0 (m + 1)).size = m + 1 := by rw [ByteArray.size_extract]; omega
      refine evp rfl ?_
      show Ev (fun k => if 0 ≤ (wrap64 (((t.extract 0 (m + 1)).size : Int) - 1)) then _ else _) _
      rw [hz, show wrap64 ((((m + 1 : Nat) : Int)) - 1) = (m : Int) by rw [w64 (by omega) (by omega)]; omega]
      have hx : (t.extract 0 (m + 1)).extract 0 ((m : Nat) : Int).toNat = t.extract 0 m := bl_inj (by rw [bl_to, bl_to, bl_to, List.take_take]; congr 1; show min m (m + 1) = m; omega)
      refine evp (by omega) (evp (by omega) ?_)
      rw [hx]
      refine evb (rIsPage_ev _ (by rw [ByteArray.size_extract]; omega)) ?_
      by_cases g : pageB (t.extract 0 m) = true
      · rw [if_pos ⟨by omega, g⟩]
        refine evp g (evp (by omega) (evp (by omega) (evp (by omega) ?_)))
        exact rread_l0 sum d (acc ++ [t.extract 0 m]) (t.extract (m + 1) t.size) n (by simp; omega) hn (fun s hs => by
          rcases List.mem_append.1 hs with q | q
          · exact ha s q
          · rw [List.mem_singleton.1 q]; exact g) (by rw [ByteArray.size_extract]; omega)
      · rw [if_neg (fun q => g q.2)]
        refine evn g ?_
        unfold rdR
        rw [if_neg (show ¬ (false = true) by decide)]
        exact Ev.now _

theorem read_ok (t : ByteArray) (m n r : Nat) (hs : t.size ≤ 10000) (h : nlI t = m) (hw : HW (splA [] ((bl t).take m)) n r) : Ev (fun k => book_read.f k t) (rdE (rdl n [] (t.extract (m + 1) t.size)) r) := by
  unfold book_read.f
  refine evb (head_ok t m n r hs h hw) (evp rfl ?_)
  exact read_l0 r n [] _ n (by simp) hw.2.1 (fun s q => absurd q (by simp)) (by rw [ByteArray.size_extract]; omega)
theorem read_no (t : ByteArray) (hs : t.size ≤ 10000) (h : ∀ m : Nat, nlI t = m → ∀ n r, ¬ HW (splA [] ((bl t).take m)) n r) : Ev (fun k => book_read.f k t) ([], ⟨#[]⟩, false, 2) := by
  unfold book_read.f
  exact evb (head_no t hs h) (evn (show ¬ (false = true) by decide) (Ev.now _))
theorem line_head (t : ByteArray) (m : Nat) (h : nlI t = m) : bl (t.extract 0 (m + 1)) = (bl t).take m ++ [10] ∧ ((bl (t.extract 0 (m + 1))).take ((t.extract 0 (m + 1)).size - 1)) = (bl t).take m := by
  have hl := nl_at h
  obtain ⟨k, hk, hl2, h1, _⟩ := idx_some (l := bl t) (c := 10) (by show 0 ≤ nlI t; omega)
  have : k = m := by have : nlI t = k := hk; omega
  subst this
  rw [List.getElem?_eq_getElem hl2] at h1
  refine ⟨by rw [bl_to, List.take_succ_eq_append_getElem hl2, Option.some.inj h1], ?_⟩
  rw [bl_to, ByteArray.size_extract, List.take_take]
  congr 1; omega
theorem rread_ok (t : ByteArray) (m n r : Nat) (hs : t.size ≤ 10000) (h : nlI t = m) (hw : HW (splA [] ((bl t).take m)) n r) : Ev (fun k => wigeonref09_ReadAll.f k t) (rdR (rdl n [] (t.extract (m + 1) t.size)) n r) := by
  have hl := nl_at h
  have hz : (t.extract 0 (m + 1)).size = m + 1 := by rw [ByteArray.size_extract]; omega
  obtain ⟨e1, e2⟩ := line_head t m h
  unfold wigeonref09_ReadAll.f
  refine evb (line_ev t (by omega)) ?_
  rw [if_neg (show ¬ nlI t < 0 by omega), h, show ((m : Nat) : Int).toNat = m from rfl]
  refine evb (rhead_ev _ (by rw [hz]; omega)) ?_
  have q := rq_ok _ n r hw
  rw [jw_spl, List.nil_append] at q
  rw [e2, e1, q]
  refine evp rfl (Ev.step (fun k => wigeonref09_ReadAll.j0.eq_2 ..) (evn (by simp) ?_))
  show Ev (fun k => if 0 ≤ ((t.extract 0 (m + 1)).size : Int) then _ else _) _
  rw [hz]
  refine evp (by omega) (evp (by omega) ?_)
  exact rread_l0 r n [] _ n (by simp) hw.2.1 (fun s q => absurd q (by simp)) (by rw [ByteArray.size_extract]; omega)
theorem rread_no (t : ByteArray) (hs : t.size ≤ 10000) (h : ∀ m : Nat, nlI t = m → ∀ n r, ¬ HW (splA [] ((bl t).take m)) n r) : Ev (fun k => wigeonref09_ReadAll.f k t) ([], -1, ⟨#[]⟩, 2) := by
  unfold wigeonref09_ReadAll.f
  refine evb (line_ev t (by omega)) ?_
  by_cases h0 : nlI t < 0
  · rw [if_pos h0]
    refine evb (rhead_ev t hs) (evn (show ¬ (false = true) by decide) (Ev.step (fun k => wigeonref09_ReadAll.j0.eq_2 ..) (evp rfl (Ev.now _))))
  · obtain ⟨m, hm⟩ := Int.eq_ofNat_of_zero_le (show 0 ≤ nlI t by omega)
    have hl := nl_at hm
    have hz : (t.extract 0 (m + 1)).size = m + 1 := by rw [ByteArray.size_extract]; omega
    obtain ⟨e1, e2⟩ := line_head t m hm
    rw [if_neg h0, hm, show ((m : Nat) : Int).toNat = m from rfl]
    refine evb (rhead_ev _ (by rw [hz]; omega)) (evp rfl ?_)
    have q := rq_no _ (h m hm)
    rw [jw_spl, List.nil_append] at q
    rw [e2, e1, q]
    exact Ev.step (fun k => wigeonref09_ReadAll.j0.eq_2 ..) (evp rfl (Ev.now _))
theorem read_both (t : ByteArray) (hs : t.size ≤ 10000) : ∃ (l : List ByteArray) (rest : ByteArray) (all : Bool) (e m : Int), Ev (fun k => book_read.f k t) (l, rest, all, e) ∧ Ev (fun k => wigeonref09_ReadAll.f k t) (l, m, rest, e) ∧ (e ≠ 0 → m = -1 ∧ l = [] ∧ rest = ⟨#[]⟩ ∧ all = false) ∧ (e = 0 → 0 ≤ m ∧ (all = true ↔ ¬ (l.length : Int) < m)) ∧ l.length ≤ 64 ∧ (∀ s ∈ l, pageB s = true) := by
  by_cases h : ∃ m n r : Nat, nlI t = m ∧ HW (splA [] ((bl t).take m)) n r
  · obtain ⟨m, n, r, h1, h2⟩ := h
    have A := read_ok t m n r hs h1 h2
    have B := rread_ok t m n r hs h1 h2
    obtain ⟨L1, L2, L3⟩ := rdl_len n [] (t.extract (m + 1) t.size) (fun s q => absurd q (by simp))
    have hn := h2.2.1
    rw [List.length_nil, Nat.zero_add] at L2 L3
    generalize rdl n [] (t.extract (m + 1) t.size) = p at A B L1 L2 L3
    unfold rdE at A
    unfold rdR at B
    by_cases c : p.2.2 = true
    · rw [if_pos c] at A B
      by_cases c2 : rt (lvs p.1) = (r : Int)
      · rw [if_pos c2] at A B
        exact ⟨_, _, _, _, _, A, B, fun q => absurd rfl q, fun _ => ⟨by omega, ⟨fun _ => by rw [L2 c]; omega, fun _ => rfl⟩⟩, by rw [L2 c]; exact hn, L1⟩
      · rw [if_neg c2] at A B
        exact ⟨_, _, _, _, _, A, B, fun _ => ⟨rfl, rfl, rfl, rfl⟩, fun q => absurd q (by decide), by simp, fun s q => absurd q (by simp)⟩
    · rw [if_neg c] at A B
      exact ⟨_, _, _, _, _, A, B, fun q => absurd rfl q, fun _ => ⟨by omega, ⟨fun q => absurd q (by simp), fun q => absurd (by have := L3 c; omega) q⟩⟩, by have := L3 c; omega, L1⟩
  · have h' : ∀ m : Nat, nlI t = m → ∀ n r, ¬ HW (splA [] ((bl t).take m)) n r := fun m e n r q => h ⟨m, n, r, e, q⟩
    exact ⟨_, _, _, _, _, read_no t hs h', rread_no t hs h', fun _ => ⟨rfl, rfl, rfl, rfl⟩, fun q => absurd q (by decide), by simp, fun s q => absurd q (by simp)⟩

def cmn : List ByteArray → List ByteArray → Nat
  | x :: a, y :: b => if x.toList = y.toList then cmn a b + 1 else 0
  | _, _ => 0
theorem cmn_le : ∀ a b : List ByteArray, cmn a b ≤ a.length ∧ cmn a b ≤ b.length
  | [], _ => by simp [cmn]
  | _ :: _, [] => by simp [cmn]
  | x :: a, y :: b => by
    unfold cmn
    have := cmn_le a b
    split <;> simp <;> omega
theorem common_l0 (a b : List ByteArray) (ha : a.length ≤ 1000) : ∀ d i : Nat, i + d = a.length → Ev (fun k => book_common.l0 k a b (i : Int)) ((i + cmn (a.drop i) (b.drop i) : Nat) : Int)
  | 0, i, h => by
    refine Ev.step (fun k => book_common.l0.eq_2 ..) (evn (by omega) ?_)
    rw [List.drop_eq_nil_of_le (by omega)]; unfold cmn; exact Ev.now _
  | d + 1, i, h => by
    have h1 : i < a.length := by omega
    refine Ev.step (fun k => book_common.l0.eq_2 ..) (evp (by omega) ?_)
    by_cases h2 : i < b.length
    · refine evp (by omega) (evp (by omega) ?_)
      rw [rdS_at a i h1, rdS_at b i h2, List.drop_eq_getElem_cons h1, List.drop_eq_getElem_cons h2]
      unfold cmn
      by_cases e : (a[i]).toList = (b[i]).toList
      · rw [if_pos e, w64 (by omega) (by omega)]
        have R := common_l0 a b ha d (i + 1) (by omega)
        rw [show i + (cmn (a.drop (i + 1)) (b.drop (i + 1)) + 1) = i + 1 + cmn (a.drop (i + 1)) (b.drop (i + 1)) by omega]
        exact evp e R
      · rw [if_neg e]; exact evn e (Ev.now _)
    · refine evn (by omega) ?_
      rw [List.drop_eq_nil_of_le (show b.length ≤ i by omega), List.drop_eq_getElem_cons h1]; unfold cmn; exact Ev.now _
theorem rcommon_l0 (a b : List ByteArray) (ha : a.length ≤ 1000) : ∀ d i : Nat, i + d = a.length → Ev (fun k => wigeonref09_common.l0 k a b (i : Int)) ((i + cmn (a.drop i) (b.drop i) : Nat) : Int)
  | 0, i, h => by
    refine Ev.step (fun k => wigeonref09_common.l0.eq_2 ..) (evn (by omega) ?_)
    rw [List.drop_eq_nil_of_le (by omega)]; unfold cmn; exact Ev.now _
  | d + 1, i, h => by
    have h1 : i < a.length := by omega
    refine Ev.step (fun k => wigeonref09_common.l0.eq_2 ..) (evp (by omega) ?_)
    by_cases h2 : i < b.length
    · refine evp (by omega) (evp (by omega) ?_)
      rw [rdS_at a i h1, rdS_at b i h2, List.drop_eq_getElem_cons h1, List.drop_eq_getElem_cons h2]
      unfold cmn
      by_cases e : (a[i]).toList = (b[i]).toList
      · rw [if_pos e, w64 (by omega) (by omega)]
        have R := rcommon_l0 a b ha d (i + 1) (by omega)
        rw [show i + (cmn (a.drop (i + 1)) (b.drop (i + 1)) + 1) = i + 1 + cmn (a.drop (i + 1)) (b.drop (i + 1)) by omega]
        exact evp e R
      · rw [if_neg e]; exact evn e (Ev.now _)
    · refine evn (by omega) ?_
      rw [List.drop_eq_nil_of_le (show b.length ≤ i by omega), List.drop_eq_getElem_cons h1]; unfold cmn; exact Ev.now _
theorem cmn_comm : ∀ a b : List ByteArray, cmn a b = cmn b a
  | [], [] => rfl
  | [], _ :: _ => rfl
  | _ :: _, [] => rfl
  | x :: a, y :: b => by
    unfold cmn
    by_cases h : x.toList = y.toList
    · rw [if_pos h, if_pos h.symm, cmn_comm a b]
    · rw [if_neg h, if_neg (fun q => h q.symm)]
theorem common_ev (a b : List ByteArray) (ha : a.length ≤ 1000) : Ev (fun k => book_common.f k a b) ((cmn a b : Nat) : Int) := by
  have := common_l0 a b ha a.length 0 (by omega)
  rw [List.drop_zero, List.drop_zero, Nat.zero_add] at this
  exact this
theorem rcommon_ev (a b : List ByteArray) (ha : a.length ≤ 1000) : Ev (fun k => wigeonref09_common.f k a b) ((cmn a b : Nat) : Int) := by
  have := rcommon_l0 a b ha a.length 0 (by omega)
  rw [List.drop_zero, List.drop_zero, Nat.zero_add] at this
  exact this

def mgS (x y : List ByteArray) (a b : ByteArray) : ByteArray × Int × Int :=
  if cmn x y = y.length then (a, (x.length : Int), 0) else if cmn x y = x.length then (b, (y.length : Int), 0) else (⟨#[]⟩, ((cmn x y : Nat) : Int), 7)
def mgR (X Y : List ByteArray × ByteArray × Bool × Int) (a b : ByteArray) : ByteArray × Int × Int :=
  if X.2.2.2 = 0 then (if Y.2.2.2 = 0 then (if X.2.2.1 = true ∧ Y.2.2.1 = true ∧ X.2.1.toList = [] ∧ Y.2.1.toList = [] then mgS X.1 Y.1 a b else (⟨#[]⟩, 0, 9)) else (⟨#[]⟩, 0, Y.2.2.2)) else (⟨#[]⟩, 0, X.2.2.2)
theorem bne_nil {s : ByteArray} (h : s.toList = []) : (s.toList != ([] : List UInt8)) = false := by rw [h]; rfl
theorem bne_not {s : ByteArray} (h : ¬ s.toList = []) : (s.toList != ([] : List UInt8)) = true := bne_iff_ne.2 h
theorem merge_t (a b : ByteArray) (x y : List ByteArray) : Ev (fun k => book_Merge.j0 k a b x y true) (⟨#[]⟩, 0, 9) := Ev.step (fun k => book_Merge.j0.eq_2 ..) (evp rfl (Ev.now _))
theorem merge_f (a b : ByteArray) (x y : List ByteArray) (hx : x.length ≤ 64) : Ev (fun k => book_Merge.j0 k a b x y false) (mgS x y a b) := by
  refine Ev.step (fun k => book_Merge.j0.eq_2 ..) (evn (by decide) (evb (common_ev x y (by omega)) ?_))
  unfold mgS
  by_cases h1 : cmn x y = y.length
  · rw [if_pos h1]; exact evp (by omega) (Ev.now _)
  · rw [if_neg h1]; refine evn (by omega) ?_
    by_cases h2 : cmn x y = x.length
    · rw [if_pos h2]; exact evp (by omega) (Ev.now _)
    · rw [if_neg h2]; exact evn (by omega) (Ev.now _)
theorem Merge_ev (a b : ByteArray) (X Y : List ByteArray × ByteArray × Bool × Int) (hx : X.1.length ≤ 64) (A : Ev (fun k => book_read.f k a) X) (B : Ev (fun k => book_read.f k b) Y) : Ev (fun k => book_Merge.f k a b) (mgR X Y a b) := by
  unfold book_Merge.f mgR
  refine evb A ?_
  by_cases h1 : X.2.2.2 = 0
  · rw [if_pos h1]
    refine evp h1 (evb B ?_)
    by_cases h2 : Y.2.2.2 = 0
    · rw [if_pos h2]
      refine evp h2 ?_
      by_cases h3 : X.2.2.1 = true
      · refine evp h3 ?_
        by_cases h4 : Y.2.2.1 = true
        · refine evp h4 ?_
          by_cases h5 : X.2.1.toList = []
          · refine evp h5 ?_
            by_cases h6 : Y.2.1.toList = []
            · rw [if_pos ⟨h3, h4, h5, h6⟩]; simp only [bne_nil h6]; exact merge_f a b _ _ hx
            · rw [if_neg (fun q => h6 q.2.2.2)]; simp only [bne_not h6]; exact merge_t a b _ _
          · rw [if_neg (fun q => h5 q.2.2.1)]; exact evn h5 (merge_t a b _ _)
        · rw [if_neg (fun q => h4 q.2.1)]; exact evn h4 (merge_t a b _ _)
      · rw [if_neg (fun q => h3 q.1)]; exact evn h3 (merge_t a b _ _)
    · rw [if_neg h2]; exact evn h2 (Ev.now _)
  · rw [if_neg h1]; exact evn h1 (Ev.now _)
theorem rmerge_t (a b : ByteArray) (x y : List ByteArray) : Ev (fun k => wigeonref09_Merge.j0 k a b x y true) (⟨#[]⟩, 0, 9) := Ev.step (fun k => wigeonref09_Merge.j0.eq_2 ..) (evp rfl (Ev.now _))
theorem rmerge_f (a b : ByteArray) (x y : List ByteArray) (hx : x.length ≤ 64) : Ev (fun k => wigeonref09_Merge.j0 k a b x y false) (mgS x y a b) := by
  obtain ⟨c1, c2⟩ := cmn_le x y
  refine Ev.step (fun k => wigeonref09_Merge.j0.eq_2 ..) (evn (by decide) (evb (rcommon_ev x y (by omega)) ?_))
  have tl : ¬ (cmn x y < x.length ∧ cmn x y < y.length) → Ev (fun k => wigeonref09_Merge.j1 k a b x y ((cmn x y : Nat) : Int) false) (mgS x y a b) := by
    intro h
    refine Ev.step (fun k => wigeonref09_Merge.j1.eq_2 ..) (evn (by decide) ?_)
    unfold mgS
    by_cases h1 : cmn x y = y.length
    · rw [if_pos h1]; exact evn (by omega) (Ev.now _)
    · rw [if_neg h1, if_pos (show cmn x y = x.length by omega)]; exact evp (show (y.length : Int) > (x.length : Int) by omega) (Ev.now _)
  by_cases h1 : cmn x y < x.length
  · refine evp (by omega) ?_
    by_cases h2 : cmn x y < y.length
    · rw [decide_eq_true (show ((cmn x y : Nat) : Int) < (y.length : Int) by omega)]
      refine Ev.step (fun k => wigeonref09_Merge.j1.eq_2 ..) (evp rfl ?_)
      unfold mgS
      rw [if_neg (by omega), if_neg (by omega)]; exact Ev.now _
    · rw [decide_eq_false (show ¬ ((cmn x y : Nat) : Int) < (y.length : Int) by omega)]
      exact tl (fun q => h2 q.2)
  · exact evn (by omega) (tl (fun q => h1 q.1))
theorem rMerge_ev (a b : ByteArray) (X Y : List ByteArray × ByteArray × Bool × Int) (n m : Int) (hx : X.1.length ≤ 64) (A : Ev (fun k => wigeonref09_ReadAll.f k a) (X.1, n, X.2.1, X.2.2.2)) (B : Ev (fun k => wigeonref09_ReadAll.f k b) (Y.1, m, Y.2.1, Y.2.2.2))
    (hn : X.2.2.2 = 0 → (X.2.2.1 = true ↔ ¬ (X.1.length : Int) < n)) (hm : Y.2.2.2 = 0 → (Y.2.2.1 = true ↔ ¬ (Y.1.length : Int) < m)) : Ev (fun k => wigeonref09_Merge.f k a b) (mgR X Y a b) := by
  unfold wigeonref09_Merge.f mgR
  refine evb A ?_
  by_cases h1 : X.2.2.2 = 0
  · rw [if_pos h1]
    refine evp h1 (evb B ?_)
    by_cases h2 : Y.2.2.2 = 0
    · rw [if_pos h2]
      refine evp h2 ?_
      by_cases h3 : X.2.2.1 = true
      · refine evn ((hn h1).1 h3) ?_
        by_cases h4 : Y.2.2.1 = true
        · refine evn ((hm h2).1 h4) ?_
          by_cases h5 : X.2.1.toList = []
          · refine evp h5 ?_
            by_cases h6 : Y.2.1.toList = []
            · rw [if_pos ⟨h3, h4, h5, h6⟩]; simp only [bne_nil h6]; exact rmerge_f a b _ _ hx
            · rw [if_neg (fun q => h6 q.2.2.2)]; simp only [bne_not h6]; exact rmerge_t a b _ _
          · rw [if_neg (fun q => h5 q.2.2.1)]; exact evn h5 (rmerge_t a b _ _)
        · rw [if_neg (fun q => h4 q.2.1)]; exact evp (Decidable.byContradiction fun q => h4 ((hm h2).2 q)) (rmerge_t a b _ _)
      · rw [if_neg (fun q => h3 q.1)]; exact evp (Decidable.byContradiction fun q => h3 ((hn h1).2 q)) (rmerge_t a b _ _)
    · rw [if_neg h2]; exact evn h2 (Ev.now _)
  · rw [if_neg h1]; exact evn h1 (Ev.now _)
theorem Read_at (t : ByteArray) (l : List ByteArray) (rest : ByteArray) (e m : Int) (B : Ev (fun k => wigeonref09_ReadAll.f k t) (l, m, rest, e)) (h1 : e ≠ 0 → m = -1) (h2 : e = 0 → 0 ≤ m) : ∃ x y, Ev (fun k => wigeonref09_Read.f k t) (x, y, e) := by
  unfold wigeonref09_Read.f
  by_cases c : e = 0
  · exact ⟨_, _, evb B (evn (show ¬ m < 0 by have := h2 c; omega) (Ev.now _))⟩
  · exact ⟨_, _, evb B (evp (show m < 0 by rw [h1 c]; decide) (Ev.now _))⟩
theorem mgS_swap (x y : List ByteArray) (a b : ByteArray) : (mgS x y a b).2 = (mgS y x b a).2 := by
  unfold mgS
  rw [cmn_comm y x]
  by_cases h1 : cmn x y = y.length
  · rw [if_pos h1]
    by_cases h2 : cmn x y = x.length
    · rw [if_pos h2, ← h1, ← h2]
    · rw [if_neg h2, if_pos h1]
  · rw [if_neg h1]
    by_cases h2 : cmn x y = x.length
    · rw [if_pos h2, if_pos h2]
    · rw [if_neg h2, if_neg h2, if_neg h1]

theorem BookMerges (a0 a1 : ByteArray) (h0 : a0.size ≤ 9223372036854775807) (h1 : a1.size ≤ 9223372036854775807) : ∃ k, wigeonlaw09_BookMerges.f k a0 a1 = some true := by
  refine Ev.rounds ?_
  unfold wigeonlaw09_BookMerges.f
  have kn : Ev (fun k => wigeonlaw09_BookMerges.j0 k a0 a1 true) true := Ev.step (fun k => wigeonlaw09_BookMerges.j0.eq_2 ..) (evp rfl (evb known_ev (Ev.now _)))
  by_cases h : (a0.size : Int) > 6000
  · exact evp h kn
  refine evn h ?_
  by_cases h' : (a1.size : Int) > 6000
  · simp only [decide_eq_true h']; exact kn
  simp only [decide_eq_false h']
  obtain ⟨x, p, al, e, n, A1, A2, A3, A4, A5, _⟩ := read_both a0 (by omega)
  obtain ⟨y, q, bl', f, m, B1, B2, B3, B4, B5, _⟩ := read_both a1 (by omega)
  have M := Merge_ev a0 a1 (x, p, al, e) (y, q, bl', f) A5 A1 B1
  have R := rMerge_ev a0 a1 (x, p, al, e) (y, q, bl', f) n m A5 A2 B2 (fun z => (A4 z).2) (fun z => (B4 z).2)
  have W := Merge_ev a1 a0 (y, q, bl', f) (x, p, al, e) B5 B1 A1
  obtain ⟨_, _, RA⟩ := Read_at a0 x p e n A2 (fun z => (A3 z).1) (fun z => (A4 z).1)
  obtain ⟨_, _, RB⟩ := Read_at a1 y q f m B2 (fun z => (B3 z).1) (fun z => (B4 z).1)
  refine Ev.step (fun k => wigeonlaw09_BookMerges.j0.eq_2 ..) (evn (by decide) (evb M (evb R (evp rfl (evp rfl ?_)))))
  rw [bne_self_eq_false]
  refine Ev.step (fun k => wigeonlaw09_BookMerges.j1.eq_2 ..) (evn (by decide) (evb RA (evb RB ?_)))
  have kn2 : ∀ u v, Ev (fun k => wigeonlaw09_BookMerges.j2 k a0 a1 u v true) true := fun u v => Ev.step (fun k => wigeonlaw09_BookMerges.j2.eq_2 ..) (evp rfl (evb known_ev (Ev.now _)))
  by_cases c1 : e = 0
  · refine evp c1 ?_
    by_cases c2 : f = 0
    · simp only [show (f != 0) = false by rw [c2]; rfl]
      refine Ev.step (fun k => wigeonlaw09_BookMerges.j2.eq_2 ..) (evn (by decide) (evb W ?_))
      unfold mgR
      rw [if_pos c1, if_pos c2, if_pos c2, if_pos c1]
      by_cases c3 : al = true ∧ bl' = true ∧ p.toList = [] ∧ q.toList = []
      · rw [if_pos c3, if_pos ⟨c3.2.1, c3.1, c3.2.2.2, c3.2.2.1⟩]
        have S := mgS_swap x y a0 a1
        have S1 : (mgS x y a0 a1).2.1 = (mgS y x a1 a0).2.1 := by rw [S]
        have S2 : (mgS x y a0 a1).2.2 = (mgS y x a1 a0).2.2 := by rw [S]
        by_cases c4 : (mgS x y a0 a1).2.2 = 0
        · exact evp c4 (evp S1 (evp S2 (evb known_ev (Ev.now _))))
        · refine evn c4 ?_
          by_cases c5 : (mgS x y a0 a1).2.2 = 7
          · exact evp c5 (evp S1 (evp S2 (evb known_ev (Ev.now _))))
          · exact evn c5 (evb known_ev (Ev.now _))
      · rw [if_neg c3]
        exact evn (by decide) (evn (by decide) (evb known_ev (Ev.now _)))
    · simp only [show (f != 0) = true from bne_iff_ne.2 c2]; exact kn2 _ _
  · exact evn c1 (kn2 _ _)

end Go.Proofs.YtfccgfjiplnmfaaDoor.Pure

