/- Of the text PureBookGrowths, what the row of BookGrowths reaches. -/
import Derived.Test.YthjdocddohijnaaZBookGrowthsBUx16
import Derived.Test.YthjdocddohijnaaZBookGrowthsBUx20
namespace Go.Proofs.Ythjdocddohijnaa.Pure
set_option linter.unusedVariables false
set_option linter.unusedSimpArgs false
open Go.RowKit Go.Proofs.Ythjdocddohijnaa.BU Go.Proofs.YthjdocddohijnaaW.PrintWords Go.Proofs.YthjdocddohijnaaW.PrintLast

theorem evp {α : Type} {c : Prop} [Decidable c] {f g : Nat → Option α} {r : α} (h : c) (k : Ev f r) : Ev (fun n => if c then f n else g n) r :=
  Ev.congr (fun _ => if_pos h) k
theorem evn {α : Type} {c : Prop} [Decidable c] {f g : Nat → Option α} {r : α} (h : ¬ c) (k : Ev g r) : Ev (fun n => if c then f n else g n) r :=
  Ev.congr (fun _ => if_neg h) k
theorem evb {α β : Type} {g : Nat → Option α} {f : Nat → α → Option β} {a : α} {r : β} (h : Ev g a) (k : Ev (fun n => f n a) r) : Ev (fun n => (g n).bind (f n)) r := Ev.bind h k
theorem evs {α β : Type} {x : Option α} {f : Nat → α → Option β} {a : α} {r : β} (h : x = some a) (k : Ev (fun n => f n a) r) : Ev (fun n => x.bind (f n)) r := by
  subst h; exact k
theorem w64 {n : Int} (h : -9223372036854775808 ≤ n) (h2 : n ≤ 9223372036854775807) : wrap64 n = n := by unfold wrap64; omega
theorem rd_at (l : List Int) (i : Nat) (h : i < l.length) : rd l (i : Int) = l[i] := by
  simp [rd, List.getD_eq_getElem?_getD, List.getElem?_eq_getElem h]
theorem rdS_at (l : List ByteArray) (i : Nat) (h : i < l.length) : rdOf ByteArray.empty l (i : Int) = l[i] := by
  simp [rdOf, List.getD_eq_getElem?_getD, List.getElem?_eq_getElem h]
theorem bt_bytes (s : ByteArray) (i : Nat) (h : i < (bytesOf s).length) : bt s (i : Int) = (bytesOf s)[i] := by
  rw [← rd_bytesOf, rd_at _ _ h]

theorem rIsPage_l0 (s : ByteArray) (hs : s.size ≤ 9223372036854775807) : ∀ d i : Nat, i + d = s.size → Ev (fun k => wigeonref09_IsPage.l0 k s (i : Int)) (decide (1 ≤ s.size ∧ s.size ≤ 60) && !(((bytesOf s).drop i).any (fun c => decide (c < 32) || decide (126 < c))))
  | 0, i, h => by
    refine Ev.step (fun k => wigeonref09_IsPage.l0.eq_2 ..) (evn (by omega) ?_)
    rw [List.drop_eq_nil_of_le (by rw [bytesOf_length]; omega), List.any_nil, Bool.not_false, Bool.and_true]
    by_cases h1 : 1 ≤ s.size
    · refine evp (by omega) ?_
      rw [show decide (1 ≤ s.size ∧ s.size ≤ 60) = decide ((s.size : Int) ≤ 60) from decide_eq_decide.2 (by omega)]
      exact Ev.now _
    · refine evn (by omega) ?_
      rw [show decide (1 ≤ s.size ∧ s.size ≤ 60) = false from decide_eq_false (by omega)]
      exact Ev.now _
  | d + 1, i, h => by
    have hl : i < (bytesOf s).length := by rw [bytesOf_length]; omega
    have R := rIsPage_l0 s hs d (i + 1) (by omega)
    refine Ev.step (fun k => wigeonref09_IsPage.l0.eq_2 ..) (evp (by omega) (evp (by omega) ?_))
    rw [bt_bytes s i hl, List.drop_eq_getElem_cons hl, List.any_cons, w64 (by omega) (by omega)]
    generalize (bytesOf s)[i] = c at *
    by_cases h1 : c < 32
    · refine evp h1 ?_
      rw [show decide (c < 32) = true from decide_eq_true h1, Bool.true_or, Bool.true_or, Bool.not_true, Bool.and_false]; exact Ev.now _
    · refine evn h1 ?_
      rw [show decide (c < 32) = false from decide_eq_false h1, Bool.false_or]
      by_cases h2 : c > 126
      · refine evp h2 ?_
        rw [show decide (126 < c) = true from decide_eq_true h2, Bool.true_or, Bool.not_true, Bool.and_false]; exact Ev.now _
      · refine evn h2 ?_
        rw [show decide (126 < c) = false from decide_eq_false h2, Bool.false_or]
        exact R
theorem rIsPage_ev (s : ByteArray) (hs : s.size ≤ 9223372036854775807) : Ev (fun k => wigeonref09_IsPage.f k s) (pageB s) := rIsPage_l0 s hs s.size 0 (by omega)
theorem page_small (s : ByteArray) (h : pageB s = true) : s.size ≤ 60 := by
  unfold pageB at h
  simp only [Bool.and_eq_true, decide_eq_true_eq] at h
  exact h.1.2
theorem rleaf_l0 (s : ByteArray) (hs : s.size ≤ 1000000) : ∀ d i : Nat, i + d = s.size → Ev (fun k => wigeonref09_leaf.l0 k s (((bytesOf s).take i).foldl (fun x c => (wrap64 (wrap64 (wrap64 (x * 257) + c) + 1)).tmod 2147483647) 1) (i : Int)) (leafV s)
  | 0, i, h => by
    refine Ev.step (fun k => wigeonref09_leaf.l0.eq_2 ..) (evn (by omega) ?_)
    rw [List.take_of_length_le (by rw [bytesOf_length]; omega)]
    exact Ev.now _
  | d + 1, i, h => by
    have hl : i < (bytesOf s).length := by rw [bytesOf_length]; omega
    have R := rleaf_l0 s hs d (i + 1) (by omega)
    refine Ev.step (fun k => wigeonref09_leaf.l0.eq_2 ..) (evp (by omega) (evp (by omega) ?_))
    have hb := bytesOf_range s _ (List.getElem_mem hl)
    rw [leafV_snoc s i hl] at R
    rw [bt_bytes s i hl, w64 (n := (bytesOf s)[i]) (by omega) (by omega), w64 (n := (i : Int) + 1) (by omega) (by omega)]
    exact R
theorem rleaf_ev (s : ByteArray) (hs : s.size ≤ 1000000) : Ev (fun k => wigeonref09_leaf.f k s) (leafV s) := rleaf_l0 s hs s.size 0 (by omega)
theorem leaf_eq (s : ByteArray) (hs : s.size ≤ 1000000) : book_leaf.f s = some (leafV s) := if_pos hs
theorem fold_range : ∀ (l : List Int) (x : Int), (∀ c ∈ l, 0 ≤ c ∧ c ≤ 255) → 0 ≤ x → x < 2147483647 → 0 ≤ l.foldl (fun x c => (wrap64 (wrap64 (wrap64 (x * 257) + c) + 1)).tmod 2147483647) x ∧ l.foldl (fun x c => (wrap64 (wrap64 (wrap64 (x * 257) + c) + 1)).tmod 2147483647) x < 2147483647
  | [], x, _, h0, h1 => ⟨h0, h1⟩
  | c :: l, x, h, h0, h1 => by
    obtain ⟨c0, c1⟩ := h c List.mem_cons_self
    rw [List.foldl_cons]
    refine fold_range l _ (fun d hd => h d (List.mem_cons_of_mem _ hd)) ?_ ?_
    · rw [w64 (n := x * 257) (by omega) (by omega), w64 (n := x * 257 + c) (by omega) (by omega), w64 (n := x * 257 + c + 1) (by omega) (by omega), Int.tmod_eq_emod_of_nonneg (by omega)]; omega
    · rw [w64 (n := x * 257) (by omega) (by omega), w64 (n := x * 257 + c) (by omega) (by omega), w64 (n := x * 257 + c + 1) (by omega) (by omega), Int.tmod_eq_emod_of_nonneg (by omega)]; omega
def sumP (x : Int) : Prop := 0 ≤ x ∧ x < 2147483647
instance (x : Int) : Decidable (sumP x) := by unfold sumP; exact inferInstance
theorem leaf_range (s : ByteArray) : sumP (leafV s) := fold_range _ 1 (bytesOf_range s) (by decide) (by decide)

def jn (x y : Int) : Int := Int.tmod (wrap64 ((wrap64 ((wrap64 (x * 48271)) + (wrap64 (y * 16807)))) + 1)) 2147483647
theorem jn_range (x y : Int) (hx : sumP x) (hy : sumP y) : sumP (jn x y) := by
  obtain ⟨a, b⟩ := hx
  obtain ⟨c, d⟩ := hy
  unfold jn sumP
  rw [w64 (n := x * 48271) (by omega) (by omega), w64 (n := y * 16807) (by omega) (by omega), w64 (n := x * 48271 + y * 16807) (by omega) (by omega), w64 (n := x * 48271 + y * 16807 + 1) (by omega) (by omega), Int.tmod_eq_emod_of_nonneg (by omega)]
  omega
theorem join_eq (x y : Int) : book_join.f x y = some (jn x y) := rfl
theorem rjoin_eq (x y : Int) : wigeonref09_join.f x y = some (jn x y) := rfl
theorem isSum_eq (l : List Int) : book_isSum.f l = some (decide (∀ x ∈ l, sumP x)) := by
  unfold book_isSum.f cf_isSum.f
  rw [Option.bind_some]
  congr 1
  by_cases h : ∀ x ∈ l, sumP x
  · rw [decide_eq_true h, show (l.any fun x => decide (x < 0) || decide (x ≥ 2147483647)) = false from List.any_eq_false.2 (fun x hx => by have := h x hx; unfold sumP at this; simp; omega)]; rfl
  · rw [decide_eq_false h]
    have : (l.any fun x => decide (x < 0) || decide (x ≥ 2147483647)) = true := by
      rw [List.any_eq_true]
      refine Classical.byContradiction fun hn => h fun x hx => ?_
      unfold sumP
      refine Classical.byContradiction fun hs => hn ⟨x, hx, by simp; omega⟩
    rw [this]; rfl

theorem known_at : wigeonlaw09_known.f 100 = some true := by decide +kernel
theorem known_ev : Ev (fun k => wigeonlaw09_known.f k) true := Ev.of wigeonlaw09_known.mono known_at

/-- the greatest power of two below n -/
def sp (n : Nat) : Nat := 2 ^ Nat.log2 (n - 1)
theorem sp_lt (n : Nat) (h : 2 ≤ n) : sp n < n := by
  have := Nat.log2_self_le (n := n - 1) (by omega)
  unfold sp; omega
theorem sp_pos (n : Nat) : 0 < sp n := Nat.pow_pos (by decide)
theorem split_at : ∀ n : Fin 63, book_split.f 8 ((n.val + 2 : Nat) : Int) = some ((sp (n.val + 2) : Nat) : Int) := by decide +kernel
theorem rsplit_at : ∀ n : Fin 63, wigeonref09_split.f 12 ((n.val + 2 : Nat) : Int) = some ((sp (n.val + 2) : Nat) : Int) := by decide +kernel
theorem split_ev (n : Nat) (h : 2 ≤ n) (h2 : n ≤ 64) : Ev (fun k => book_split.f k (n : Int)) ((sp n : Nat) : Int) := by
  have := split_at ⟨n - 2, by omega⟩
  rw [show n - 2 + 2 = n by omega] at this
  exact Ev.of (book_split.mono _) this
theorem rsplit_ev (n : Nat) (h : 2 ≤ n) (h2 : n ≤ 64) : Ev (fun k => wigeonref09_split.f k (n : Int)) ((sp n : Nat) : Int) := by
  have := rsplit_at ⟨n - 2, by omega⟩
  rw [show n - 2 + 2 = n by omega] at this
  exact Ev.of (wigeonref09_split.mono _) this

/-- the root of sums -/
def rt (l : List Int) : Int :=
  if h : l.length ≤ 1 then l.headD 0 else jn (rt (l.take (sp l.length))) (rt (l.drop (sp l.length)))
termination_by l.length
decreasing_by
  · have := sp_lt l.length (by omega); rw [List.length_take]; omega
  · have := sp_pos l.length; rw [List.length_drop]; omega
theorem rt_nil : rt [] = 0 := by rw [rt]; simp
theorem rt_one (x : Int) : rt [x] = x := by rw [rt]; simp
theorem rt_two (l : List Int) (h : 2 ≤ l.length) : rt l = jn (rt (l.take (sp l.length))) (rt (l.drop (sp l.length))) := by
  rw [rt, dif_neg (by omega)]
theorem rt_range : ∀ (n : Nat) (l : List Int), l.length ≤ n → (∀ x ∈ l, sumP x) → sumP (rt l)
  | 0, l, h, _ => by
    obtain rfl : l = [] := List.length_eq_zero_iff.1 (by omega)
    rw [rt_nil]; exact ⟨by decide, by decide⟩
  | n + 1, l, h, hl => by
    match l, h, hl with
    | [], _, _ => rw [rt_nil]; exact ⟨by decide, by decide⟩
    | [x], _, hl => rw [rt_one]; exact hl x List.mem_cons_self
    | x :: y :: l, h, hl =>
      have h2 : 2 ≤ (x :: y :: l).length := by simp
      have a := sp_lt _ h2
      have b := sp_pos (x :: y :: l).length
      rw [rt_two _ h2]
      exact jn_range _ _ (rt_range n _ (by rw [List.length_take]; omega) (fun z hz => hl z (List.mem_of_mem_take hz))) (rt_range n _ (by rw [List.length_drop]; omega) (fun z hz => hl z (List.mem_of_mem_drop hz)))
theorem root_ev : ∀ (n : Nat) (l : List Int), l.length ≤ n → l.length ≤ 64 → Ev (fun k => book_root.f k l) (rt l)
  | 0, l, h, h64 => by
    obtain rfl : l = [] := List.length_eq_zero_iff.1 (by omega)
    refine Ev.step (fun k => book_root.f.eq_2 ..) (evp (by simp) ?_)
    rw [rt_nil]; exact Ev.now _
  | n + 1, l, h, h64 => by
    by_cases h0 : l.length = 0
    · obtain rfl : l = [] := List.length_eq_zero_iff.1 h0
      refine Ev.step (fun k => book_root.f.eq_2 ..) (evp (by simp) ?_)
      rw [rt_nil]; exact Ev.now _
    by_cases h1 : l.length = 1
    · obtain ⟨x, rfl⟩ := List.length_eq_one_iff.1 h1
      refine Ev.step (fun k => book_root.f.eq_2 ..) (evn (by simp) (evp (by simp) (evp (by simp) ?_)))
      rw [rt_one, show rd [x] 0 = x from rfl]; exact Ev.now _
    have h2 : 2 ≤ l.length := by omega
    have a := sp_lt _ h2
    have b := sp_pos l.length
    refine Ev.step (fun k => book_root.f.eq_2 ..) (evn (by omega) (evn (by omega) (evb (split_ev _ h2 h64) (evp (by omega) (evp (by omega) ?_)))))
    rw [Int.toNat_natCast]
    refine evb (root_ev n _ (by rw [List.length_take]; omega) (by rw [List.length_take]; omega)) (evb (root_ev n _ (by rw [List.length_drop]; omega) (by rw [List.length_drop]; omega)) (evs (join_eq _ _) ?_))
    rw [rt_two _ h2]; exact Ev.now _
theorem rroot_ev : ∀ (n : Nat) (l : List Int), l.length ≤ n → l.length ≤ 64 → Ev (fun k => wigeonref09_root.f k l) (rt l)
  | 0, l, h, h64 => by
    obtain rfl : l = [] := List.length_eq_zero_iff.1 (by omega)
    refine Ev.step (fun k => wigeonref09_root.f.eq_2 ..) (evp (by simp) ?_)
    rw [rt_nil]; exact Ev.now _
  | n + 1, l, h, h64 => by
    by_cases h0 : l.length = 0
    · obtain rfl : l = [] := List.length_eq_zero_iff.1 h0
      refine Ev.step (fun k => wigeonref09_root.f.eq_2 ..) (evp (by simp) ?_)
      rw [rt_nil]; exact Ev.now _
    by_cases h1 : l.length = 1
    · obtain ⟨x, rfl⟩ := List.length_eq_one_iff.1 h1
      refine Ev.step (fun k => wigeonref09_root.f.eq_2 ..) (evn (by simp) (evp (by simp) (evp (by simp) ?_)))
      rw [rt_one, show rd [x] 0 = x from rfl]; exact Ev.now _
    have h2 : 2 ≤ l.length := by omega
    have a := sp_lt _ h2
    have b := sp_pos l.length
    refine Ev.step (fun k => wigeonref09_root.f.eq_2 ..) (evn (by omega) (evn (by omega) (evb (rsplit_ev _ h2 h64) (evp (by omega) (evp (by omega) ?_)))))
    rw [Int.toNat_natCast]
    refine evb (rroot_ev n _ (by rw [List.length_take]; omega) (by rw [List.length_take]; omega)) (evb (rroot_ev n _ (by rw [List.length_drop]; omega) (by rw [List.length_drop]; omega)) (evs (rjoin_eq _ _) ?_))
    rw [rt_two _ h2]; exact Ev.now _

def vP (l : List ByteArray) : Int := if l.length > 64 then 3 else if l.all pageB then 0 else 1
theorem vP_l0 (l : List ByteArray) (hl : l.length ≤ 64) : ∀ d i : Nat, i + d = l.length → Ev (fun k => book_ValidatePages.l0 k l (l.length : Int) (i : Int)) (if (l.drop i).all pageB then (0 : Int) else 1)
  | 0, i, h => by
    refine Ev.step (fun k => book_ValidatePages.l0.eq_2 ..) (evn (by omega) ?_)
    rw [List.drop_eq_nil_of_le (by omega)]; exact Ev.now _
  | d + 1, i, h => by
    have hlt : i < l.length := by omega
    have R := vP_l0 l hl d (i + 1) (by omega)
    refine Ev.step (fun k => book_ValidatePages.l0.eq_2 ..) (evp (by omega) (evp (by omega) (evp (by omega) (evs rfl ?_))))
    rw [rdS_at l i hlt, List.drop_eq_getElem_cons hlt, List.all_cons, w64 (by omega) (by omega)]
    cases pageB l[i]
    · exact evn (by decide) (Ev.now _)
    · exact evp rfl (by rw [Bool.true_and]; exact R)
theorem vP_ev (l : List ByteArray) (hl : l.length ≤ 1000) : Ev (fun k => book_ValidatePages.f k l) (vP l) := by
  unfold book_ValidatePages.f vP
  by_cases h : l.length > 64
  · rw [if_pos h]; exact evp (by omega) (Ev.now _)
  · rw [if_neg h]; exact evn (by omega) (vP_l0 l (by omega) l.length 0 (by omega))
theorem rvP_l0 (l : List ByteArray) (hl : l.length ≤ 64) (hs : ∀ s ∈ l, s.size ≤ 9223372036854775807) : ∀ d i : Nat, i + d = l.length → Ev (fun k => wigeonref09_ValidatePages.l0 k l (i : Int)) (if (l.drop i).all pageB then (0 : Int) else 1)
  | 0, i, h => by
    refine Ev.step (fun k => wigeonref09_ValidatePages.l0.eq_2 ..) (evn (by omega) ?_)
    rw [List.drop_eq_nil_of_le (by omega)]; exact Ev.now _
  | d + 1, i, h => by
    have hlt : i < l.length := by omega
    have R := rvP_l0 l hl hs d (i + 1) (by omega)
    refine Ev.step (fun k => wigeonref09_ValidatePages.l0.eq_2 ..) (evp (by omega) (evp (by omega) ?_))
    rw [rdS_at l i hlt, List.drop_eq_getElem_cons hlt, List.all_cons, w64 (by omega) (by omega)]
    refine evb (rIsPage_ev _ (hs _ (List.getElem_mem hlt))) ?_
    cases pageB l[i]
    · exact evn (by decide) (Ev.now _)
    · exact evp rfl (by rw [Bool.true_and]; exact R)
theorem rvP_ev (l : List ByteArray) (hl : l.length ≤ 1000) (hs : ∀ s ∈ l, s.size ≤ 9223372036854775807) : Ev (fun k => wigeonref09_ValidatePages.f k l) (vP l) := by
  unfold wigeonref09_ValidatePages.f vP
  by_cases h : l.length > 64
  · rw [if_pos h]; exact evp (by omega) (Ev.now _)
  · rw [if_neg h]; exact evn (by omega) (rvP_l0 l (by omega) hs l.length 0 (by omega))
theorem vP_cases (l : List ByteArray) : (vP l = 0 ∧ l.length ≤ 64 ∧ ∀ s ∈ l, pageB s = true) ∨ vP l ≠ 0 := by
  unfold vP
  by_cases h : l.length > 64
  · rw [if_pos h]; exact Or.inr (by decide)
  · rw [if_neg h]
    by_cases h2 : l.all pageB = true
    · rw [if_pos h2]; exact Or.inl ⟨rfl, by omega, fun s hs => List.all_eq_true.1 h2 s hs⟩
    · rw [if_neg h2]; exact Or.inr (by decide)
theorem vP_zero (l : List ByteArray) (h1 : l.length ≤ 64) (h2 : ∀ s ∈ l, pageB s = true) : vP l = 0 := by
  unfold vP; rw [if_neg (by omega), if_pos (List.all_eq_true.2 h2)]

def lvs (l : List ByteArray) : List Int := l.map leafV
theorem lvs_length (l : List ByteArray) : (lvs l).length = l.length := List.length_map _
theorem lvs_range (l : List ByteArray) : ∀ x ∈ lvs l, sumP x := by
  intro x hx
  obtain ⟨s, _, rfl⟩ := List.mem_map.1 hx
  exact leaf_range s
theorem leaves_l0 (l : List ByteArray) (hl : l.length ≤ 64) (hs : ∀ s ∈ l, s.size ≤ 1000) : ∀ (d i : Nat) (acc : List Int), i + d = l.length → acc.length + d ≤ 64 → Ev (fun k => book_leaves.l0 k acc l (l.length : Int) (i : Int)) (acc ++ lvs (l.drop i))
  | 0, i, acc, h, _ => by
    refine Ev.step (fun k => book_leaves.l0.eq_2 ..) (evn (by omega) ?_)
    rw [List.drop_eq_nil_of_le (by omega)]; simp [lvs]; exact Ev.now _
  | d + 1, i, acc, h, ha => by
    have hlt : i < l.length := by omega
    refine Ev.step (fun k => book_leaves.l0.eq_2 ..) (evp (by omega) (evp (by omega) (evp (by omega) ?_)))
    rw [rdS_at l i hlt]
    refine evs (leaf_eq _ (by have := hs _ (List.getElem_mem hlt); omega)) (evp (by omega) ?_)
    rw [w64 (by omega) (by omega)]
    have R := leaves_l0 l hl hs d (i + 1) (acc ++ [leafV l[i]]) (by omega) (by simp; omega)
    rw [List.drop_eq_getElem_cons hlt]
    rw [show acc ++ lvs (l[i] :: l.drop (i + 1)) = acc ++ [leafV l[i]] ++ lvs (l.drop (i + 1)) from (List.append_assoc acc [leafV l[i]] _).symm]
    exact R
theorem leaves_ev (l : List ByteArray) (hl : l.length ≤ 64) (hs : ∀ s ∈ l, s.size ≤ 1000) : Ev (fun k => book_leaves.f k l) (lvs l) := by
  have := leaves_l0 l hl hs l.length 0 [] (by omega) (by simp; omega)
  rwa [List.nil_append] at this
theorem rleaves_l0 (l : List ByteArray) (hl : l.length ≤ 64) (hs : ∀ s ∈ l, s.size ≤ 1000) : ∀ (d i : Nat) (acc : List Int), i + d = l.length → acc.length + d ≤ 64 → Ev (fun k => wigeonref09_leaves.l0 k l acc (i : Int)) (acc ++ lvs (l.drop i))
  | 0, i, acc, h, _ => by
    refine Ev.step (fun k => wigeonref09_leaves.l0.eq_2 ..) (evn (by omega) ?_)
    rw [List.drop_eq_nil_of_le (by omega)]; simp [lvs]; exact Ev.now _
  | d + 1, i, acc, h, ha => by
    have hlt : i < l.length := by omega
    refine Ev.step (fun k => wigeonref09_leaves.l0.eq_2 ..) (evp (by omega) (evp (by omega) ?_))
    rw [rdS_at l i hlt]
    refine evb (rleaf_ev _ (by have := hs _ (List.getElem_mem hlt); omega)) (evp (by omega) ?_)
    rw [w64 (by omega) (by omega)]
    have R := rleaves_l0 l hl hs d (i + 1) (acc ++ [leafV l[i]]) (by omega) (by simp; omega)
    rw [List.drop_eq_getElem_cons hlt]
    rw [show acc ++ lvs (l[i] :: l.drop (i + 1)) = acc ++ [leafV l[i]] ++ lvs (l.drop (i + 1)) from (List.append_assoc acc [leafV l[i]] _).symm]
    exact R
theorem rleaves_ev (l : List ByteArray) (hl : l.length ≤ 64) (hs : ∀ s ∈ l, s.size ≤ 1000) : Ev (fun k => wigeonref09_leaves.f k l) (lvs l) := by
  have := rleaves_l0 l hl hs l.length 0 [] (by omega) (by simp; omega)
  rwa [List.nil_append] at this

def rootR (l : List ByteArray) : Int × Int := if vP l = 0 then (rt (lvs l), 0) else (0, vP l)
theorem Root_ev (l : List ByteArray) (hl : l.length ≤ 1000) : Ev (fun k => book_Root.f k l) (rootR l) := by
  unfold book_Root.f rootR
  refine evb (vP_ev l hl) ?_
  rcases vP_cases l with ⟨h, h64, hp⟩ | h
  · rw [if_pos h]
    exact evp h (evb (leaves_ev l h64 (fun s hs => by have := page_small s (hp s hs); omega)) (evb (root_ev 64 _ (by rw [lvs_length]; omega) (by rw [lvs_length]; omega)) (Ev.now _)))
  · rw [if_neg h]
    exact evn h (Ev.now _)

def longB (l : List ByteArray) : Bool := l.any (fun s => decide (200 < s.size)) || decide (100 < l.length)
theorem Long_l0 (l : List ByteArray) (hl : l.length ≤ 9223372036854775807) : ∀ d i : Nat, i + d = l.length → Ev (fun k => wigeonlaw09_Long.l0 k l (i : Int)) ((l.drop i).any (fun s => decide (200 < s.size)) || decide (100 < l.length))
  | 0, i, h => by
    refine Ev.step (fun k => wigeonlaw09_Long.l0.eq_2 ..) (evn (by omega) ?_)
    rw [List.drop_eq_nil_of_le (by omega), List.any_nil, Bool.false_or, show decide (100 < l.length) = decide ((l.length : Int) > 100) from decide_eq_decide.2 (by omega)]; exact Ev.now _
  | d + 1, i, h => by
    have hlt : i < l.length := by omega
    have R := Long_l0 l hl d (i + 1) (by omega)
    refine Ev.step (fun k => wigeonlaw09_Long.l0.eq_2 ..) (evp (by omega) (evp (by omega) ?_))
    rw [rdS_at l i hlt, List.drop_eq_getElem_cons hlt, List.any_cons]
    by_cases h2 : 200 < l[i].size
    · refine evp (by omega) ?_
      rw [decide_eq_true h2, Bool.true_or, Bool.true_or]; exact Ev.now _
    · refine evn (by omega) ?_
      rw [decide_eq_false h2, Bool.false_or, w64 (by omega) (by omega)]; exact R
theorem Long_ev (l : List ByteArray) (hl : l.length ≤ 9223372036854775807) : Ev (fun k => wigeonlaw09_Long.f k l) (longB l) := Long_l0 l hl l.length 0 (by omega)
theorem long_not (l : List ByteArray) (h : ¬ longB l = true) : l.length ≤ 100 ∧ ∀ s ∈ l, s.size ≤ 200 := by
  unfold longB at h
  simp only [Bool.or_eq_true, List.any_eq_true, decide_eq_true_eq, not_or, not_exists, not_and] at h
  exact ⟨by omega, fun s hs => by have := h.1 s hs; omega⟩

/-- what follows from a proof of growth: the two roots, and how many sums are used -/
def uq (old : Int) (l : List Int) (m n : Nat) (known : Bool) : Option (Int × Int × Nat) :=
  if h : m = n ∨ n ≤ 1 then (if known then some (old, old, 0) else (match l with
    | [] => none
    | x :: _ => some (x, x, 1)))
  else if m ≤ sp n then (uq old l m (sp n) known).bind fun r => (l[r.2.2]?).map fun x => (r.1, jn r.2.1 x, r.2.2 + 1)
  else (uq old l (m - sp n) (n - sp n) false).bind fun r => (l[r.2.2]?).map fun x => (jn x r.1, jn x r.2.1, r.2.2 + 1)
termination_by n
decreasing_by
  · exact sp_lt n (by omega)
  · have := sp_pos n; omega
theorem uq_eq (old : Int) (l : List Int) (n : Nat) (known : Bool) : uq old l n n known = if known then some (old, old, 0) else (match l with
    | [] => none
    | x :: _ => some (x, x, 1)) := by rw [uq.eq_def, dif_pos (Or.inl rfl)]
theorem uq_lt (old : Int) (l : List Int) (m n : Nat) (known : Bool) (h : m ≠ n) (h1 : 1 < n) (h2 : m ≤ sp n) : uq old l m n known = (uq old l m (sp n) known).bind fun r => (l[r.2.2]?).map fun x => (r.1, jn r.2.1 x, r.2.2 + 1) := by rw [uq.eq_def, dif_neg (by omega), if_pos h2]
theorem uq_gt (old : Int) (l : List Int) (m n : Nat) (known : Bool) (h : m ≠ n) (h1 : 1 < n) (h2 : ¬ m ≤ sp n) : uq old l m n known = (uq old l (m - sp n) (n - sp n) false).bind fun r => (l[r.2.2]?).map fun x => (jn x r.1, jn x r.2.1, r.2.2 + 1) := by rw [uq.eq_def, dif_neg (by omega), if_neg h2]
theorem tk_at (l : List Int) (u : Nat) (x : Int) (h : l[u]? = some x) : tk1 (l.drop u) = x ∧ tk2 (l.drop u) = l.drop (u + 1) ∧ tk3 (l.drop u) true = true ∧ u < l.length := by
  have hu : u < l.length := by
    by_cases q : u < l.length
    · exact q
    · rw [List.getElem?_eq_none (by omega)] at h; exact absurd h (by simp)
  rw [List.getElem?_eq_getElem hu] at h
  rw [List.drop_eq_getElem_cons hu, Option.some.inj h]
  exact ⟨rfl, rfl, rfl, hu⟩
theorem tk_no (l : List Int) (u : Nat) (h : l[u]? = none) : tk3 (l.drop u) true = false := by
  rw [List.drop_eq_nil_of_le (List.getElem?_eq_none_iff.1 h)]; rfl
theorem tk3_false (r : List Int) : tk3 r false = false := by cases r <;> rfl
theorem up_ev (old : Int) (l : List Int) : ∀ (f n m : Nat) (known : Bool), n ≤ f → 1 ≤ m → m ≤ n → n ≤ 64 →
    (match uq old l m n known with
      | some r => Ev (fun k => up.f k old (m : Int) (n : Int) known l true) (r.1, r.2.1, l.drop r.2.2, true)
      | none => ∃ b a r, Ev (fun k => up.f k old (m : Int) (n : Int) known l true) (b, a, r, false))
  | 0, n, m, known, h, h1, h2, h3 => by omega
  | f + 1, n, m, known, h, h1, h2, h3 => by
    by_cases e : m = n
    · subst e
      rw [uq_eq]
      cases known with
      | true =>
        exact Ev.step (fun k => up.f.eq_2 ..) (evp rfl (evp rfl (Ev.now _)))
      | false =>
        cases l with
        | nil => exact ⟨_, _, _, Ev.step (fun k => up.f.eq_2 ..) (evp rfl (evn (by decide) (Ev.now _)))⟩
        | cons x l => exact Ev.step (fun k => up.f.eq_2 ..) (evp rfl (evn (by decide) (Ev.now _)))
    · have a := sp_lt n (by omega)
      have b := sp_pos n
      by_cases c : m ≤ sp n
      · have R := up_ev old l f (sp n) m known (by omega) h1 c (by omega)
        rw [uq_lt old l m n known e (by omega) c]
        cases q : uq old l m (sp n) known with
        | none =>
          rw [q] at R
          obtain ⟨x, y, r, R⟩ := R
          refine ⟨x, jn y (tk1 r), tk2 r, Ev.step (fun k => up.f.eq_2 ..) (evn (by omega) (evb (split_ev n (by omega) h3) (evp (by omega) (evb R (evs (join_eq _ _) ?_)))))⟩
          rw [tk3_false]; exact Ev.now _
        | some r =>
          rw [q] at R
          cases z : l[r.2.2]? with
          | none =>
            simp only [Option.bind_some, z, Option.map_none, Option.map_some]
            refine ⟨r.1, jn r.2.1 (tk1 (l.drop r.2.2)), tk2 (l.drop r.2.2), Ev.step (fun k => up.f.eq_2 ..) (evn (by omega) (evb (split_ev n (by omega) h3) (evp (by omega) (evb R (evs (join_eq _ _) ?_)))))⟩
            rw [tk_no _ _ z]; exact Ev.now _
          | some x =>
            simp only [Option.bind_some, z, Option.map_none, Option.map_some]
            obtain ⟨t1, t2, t3, _⟩ := tk_at l r.2.2 x z
            refine Ev.step (fun k => up.f.eq_2 ..) (evn (by omega) (evb (split_ev n (by omega) h3) (evp (by omega) (evb R (evs (join_eq _ _) ?_)))))
            rw [t1, t2, t3]; exact Ev.now _
      · have R := up_ev old l f (n - sp n) (m - sp n) false (by omega) (by omega) (by omega) (by omega)
        rw [uq_gt old l m n known e (by omega) c]
        have w1 : wrap64 ((m : Int) - (sp n : Nat)) = ((m - sp n : Nat) : Int) := by rw [w64 (by omega) (by omega)]; omega
        have w2 : wrap64 ((n : Int) - (sp n : Nat)) = ((n - sp n : Nat) : Int) := by rw [w64 (by omega) (by omega)]; omega
        cases q : uq old l (m - sp n) (n - sp n) false with
        | none =>
          rw [q] at R
          obtain ⟨x, y, r, R⟩ := R
          refine ⟨jn (tk1 r) x, jn (tk1 r) y, tk2 r, Ev.step (fun k => up.f.eq_2 ..) (evn (by omega) (evb (split_ev n (by omega) h3) (evn (by omega) ?_)))⟩
          rw [w1, w2]
          refine evb R (evs (join_eq _ _) (evs (join_eq _ _) ?_))
          rw [tk3_false]; exact Ev.now _
        | some r =>
          rw [q] at R
          cases z : l[r.2.2]? with
          | none =>
            simp only [Option.bind_some, z, Option.map_none, Option.map_some]
            refine ⟨jn (tk1 (l.drop r.2.2)) r.1, jn (tk1 (l.drop r.2.2)) r.2.1, tk2 (l.drop r.2.2), Ev.step (fun k => up.f.eq_2 ..) (evn (by omega) (evb (split_ev n (by omega) h3) (evn (by omega) ?_)))⟩
            rw [w1, w2]
            refine evb R (evs (join_eq _ _) (evs (join_eq _ _) ?_))
            rw [tk_no _ _ z]; exact Ev.now _
          | some x =>
            simp only [Option.bind_some, z, Option.map_none, Option.map_some]
            obtain ⟨t1, t2, t3, _⟩ := tk_at l r.2.2 x z
            refine Ev.step (fun k => up.f.eq_2 ..) (evn (by omega) (evb (split_ev n (by omega) h3) (evn (by omega) ?_)))
            rw [w1, w2]
            refine evb R (evs (join_eq _ _) (evs (join_eq _ _) ?_))
            rw [t1, t2, t3]; exact Ev.now _
theorem uq_base (old : Int) (l : List Int) (m n : Nat) (known : Bool) (h : m = n ∨ n ≤ 1) : uq old l m n known = if known then some (old, old, 0) else (match l with
    | [] => none
    | x :: _ => some (x, x, 1)) := by rw [uq.eq_def, dif_pos h]
theorem uq_len (old : Int) (l : List Int) : ∀ (f n m : Nat) (known : Bool) (r : Int × Int × Nat), n ≤ f → uq old l m n known = some r → r.2.2 ≤ l.length := by
  intro f
  induction f with
  | zero =>
    intro n m known r h e
    rw [uq_base old l m n known (Or.inr (by omega))] at e
    cases known with
    | true => obtain rfl : (old, old, 0) = r := by simpa using e
              exact Nat.zero_le _
    | false =>
      cases l with
      | nil => exact absurd e (by simp)
      | cons x l => obtain rfl : (x, x, 1) = r := by simpa using e
                    simp
  | succ f ih =>
    intro n m known r h e
    by_cases b : m = n ∨ n ≤ 1
    · rw [uq_base old l m n known b] at e
      cases known with
      | true => obtain rfl : (old, old, 0) = r := by simpa using e
                exact Nat.zero_le _
      | false =>
        cases l with
        | nil => exact absurd e (by simp)
        | cons x l => obtain rfl : (x, x, 1) = r := by simpa using e
                      simp
    · have a1 := sp_lt n (by omega)
      have a2 := sp_pos n
      by_cases c : m ≤ sp n
      · rw [uq_lt old l m n known (by omega) (by omega) c] at e
        obtain ⟨q, _, e⟩ := Option.bind_eq_some_iff.1 e
        obtain ⟨x, z, e⟩ := Option.map_eq_some_iff.1 e
        have := (tk_at l q.2.2 x z).2.2.2
        subst e; exact this
      · rw [uq_gt old l m n known (by omega) (by omega) c] at e
        obtain ⟨q, _, e⟩ := Option.bind_eq_some_iff.1 e
        obtain ⟨x, z, e⟩ := Option.map_eq_some_iff.1 e
        have := (tk_at l q.2.2 x z).2.2.2
        subst e; exact this
def unOk (m n old : Int) (l : List Int) : Prop := 1 ≤ m ∧ m ≤ n ∧ n ≤ 64 ∧ sumP old ∧ ∀ x ∈ l, sumP x
instance (m n old : Int) (l : List Int) : Decidable (unOk m n old l) := by unfold unOk; exact inferInstance
/-- what follows from a proof of growth -/
def unR (m n old : Int) (l : List Int) : Int × Int × Int :=
  if unOk m n old l then (match uq old l m.toNat n.toNat true with
    | none => (0, 0, 7)
    | some r => if r.2.2 = l.length then (r.1, r.2.1, 0) else (0, 0, 7)) else (0, 0, 1)
theorem unR_1 {m n old : Int} {l : List Int} (h : ¬ unOk m n old l) : unR m n old l = (0, 0, 1) := if_neg h
theorem unR_n {m n : Nat} {old : Int} {l : List Int} (h : unOk m n old l) (q : uq old l m n true = none) : unR m n old l = (0, 0, 7) := by
  unfold unR; rw [if_pos h, Int.toNat_natCast, Int.toNat_natCast, q]
theorem unR_s {m n : Nat} {old : Int} {l : List Int} (h : unOk m n old l) {r : Int × Int × Nat} (q : uq old l m n true = some r) (e : r.2.2 = l.length) : unR m n old l = (r.1, r.2.1, 0) := by
  unfold unR; rw [if_pos h, Int.toNat_natCast, Int.toNat_natCast, q]; exact if_pos e
theorem unR_l {m n : Nat} {old : Int} {l : List Int} (h : unOk m n old l) {r : Int × Int × Nat} (q : uq old l m n true = some r) (e : ¬ r.2.2 = l.length) : unR m n old l = (0, 0, 7) := by
  unfold unR; rw [if_pos h, Int.toNat_natCast, Int.toNat_natCast, q]; exact if_neg e
theorem Unfold_ev (m n old : Int) (l : List Int) : Ev (fun k => book_Unfold.f k m n old l) (unR m n old l) := by
  unfold book_Unfold.f
  refine evs (isSum_eq [old]) (evs (isSum_eq l) ?_)
  have z : (∀ x ∈ [old], sumP x) ↔ sumP old := by simp
  by_cases h : unOk m n old l
  · have h' := h
    obtain ⟨h1, h2, h3, h4, h5⟩ := h
    refine evn (by rw [decide_eq_true (z.2 h4), decide_eq_true h5]; simp; omega) ?_
    obtain ⟨m, rfl⟩ := Int.eq_ofNat_of_zero_le (show 0 ≤ m by omega)
    obtain ⟨n, rfl⟩ := Int.eq_ofNat_of_zero_le (show 0 ≤ n by omega)
    have R := up_ev old l n n m true (Nat.le_refl _) (by omega) (by omega) (by omega)
    cases q : uq old l m n true with
    | none =>
      rw [q] at R
      obtain ⟨b, a, r, R⟩ := R
      rw [unR_n h' q]
      exact evb R (evp (Or.inl rfl) (Ev.now _))
    | some r =>
      rw [q] at R
      have L := uq_len old l n n m true r (Nat.le_refl _) q
      by_cases e : r.2.2 = l.length
      · rw [unR_s h' q e]
        exact evb R (evn (by simp; omega) (Ev.now _))
      · rw [unR_l h' q e]
        exact evb R (evp (by right; simp; omega) (Ev.now _))
  · rw [unR_1 h]
    refine evp ?_ (Ev.now _)
    unfold unOk at h
    by_cases h4 : sumP old
    · by_cases h5 : ∀ x ∈ l, sumP x
      · have : ¬ (1 ≤ m ∧ m ≤ n ∧ n ≤ 64) := fun q => h ⟨q.1, q.2.1, q.2.2, h4, h5⟩
        omega
      · right; right; right; right; exact decide_eq_false h5
    · right; right; right; left; exact decide_eq_false (fun q => h4 (z.1 q))
def cgR (old root m n : Int) (l : List Int) : Int := if (unR m n old l).2.2 = 0 then (if sumP root then (if (unR m n old l).1 = old then (if (unR m n old l).2.1 = root then 0 else 7) else 7) else 1) else (unR m n old l).2.2
theorem cgR_n {old root m n : Int} {l : List Int} (h : ¬ (unR m n old l).2.2 = 0) : cgR old root m n l = (unR m n old l).2.2 := if_neg h
theorem cgR_s {old root m n : Int} {l : List Int} (h : (unR m n old l).2.2 = 0) (h2 : ¬ sumP root) : cgR old root m n l = 1 := (if_pos h).trans (if_neg h2)
theorem cgR_x {old root m n : Int} {l : List Int} (h : (unR m n old l).2.2 = 0) (h2 : sumP root) (h3 : ¬ (unR m n old l).1 = old) : cgR old root m n l = 7 := (if_pos h).trans ((if_pos h2).trans (if_neg h3))
theorem cgR_y {old root m n : Int} {l : List Int} (h : (unR m n old l).2.2 = 0) (h2 : sumP root) (h3 : (unR m n old l).1 = old) (h4 : ¬ (unR m n old l).2.1 = root) : cgR old root m n l = 7 := (if_pos h).trans ((if_pos h2).trans ((if_pos h3).trans (if_neg h4)))
theorem cgR_0 {old root m n : Int} {l : List Int} (h : (unR m n old l).2.2 = 0) (h2 : sumP root) (h3 : (unR m n old l).1 = old) (h4 : (unR m n old l).2.1 = root) : cgR old root m n l = 0 := (if_pos h).trans ((if_pos h2).trans ((if_pos h3).trans (if_pos h4)))
theorem CheckGrowth_ev (old root m n : Int) (l : List Int) : Ev (fun k => book_CheckGrowth.f k old root m n l) (cgR old root m n l) := by
  unfold book_CheckGrowth.f
  refine evb (Unfold_ev _ _ _ _) ?_
  by_cases h : (unR m n old l).2.2 = 0
  · refine evp h (evs (isSum_eq _) ?_)
    by_cases hr : sumP root
    · refine evp (by simpa using hr) ?_
      by_cases h1 : (unR m n old l).1 = old
      · refine evp h1 ?_
        by_cases h2 : (unR m n old l).2.1 = root
        · rw [cgR_0 h hr h1 h2]; exact evp h2 (Ev.now _)
        · rw [cgR_y h hr h1 h2]; exact evn h2 (Ev.now _)
      · rw [cgR_x h hr h1]; exact evn h1 (Ev.now _)
    · rw [cgR_s h hr]; exact evn (by simpa using hr) (Ev.now _)
  · rw [cgR_n h]; exact evn h (Ev.now _)
theorem same_l0 (l : List Int) (hl : l.length ≤ 1000) : ∀ d i : Nat, i + d = l.length → Ev (fun k => wigeonref01_SameInts.l0 k l l (i : Int)) true
  | 0, i, h => Ev.step (fun k => wigeonref01_SameInts.l0.eq_2 ..) (evn (by omega) (Ev.now _))
  | d + 1, i, h => by
    refine Ev.step (fun k => wigeonref01_SameInts.l0.eq_2 ..) (evp (by omega) (evp (by omega) (evp (by omega) (evp rfl ?_))))
    rw [w64 (by omega) (by omega)]; exact same_l0 l hl d (i + 1) (by omega)
theorem same_ev (l : List Int) (hl : l.length ≤ 1000) : Ev (fun k => wigeonref01_SameInts.f k l l) true := by
  unfold wigeonref01_SameInts.f
  exact evp rfl (same_l0 l hl l.length 0 (by omega))
theorem take_len (l : List Int) (h : 2 ≤ l.length) : (l.take (sp l.length)).length = sp l.length := by
  have := sp_lt l.length h
  rw [List.length_take]; omega
theorem drop_len (l : List Int) : (l.drop (sp l.length)).length = l.length - sp l.length := List.length_drop
/-- the proof of growth -/
def gr (m : Nat) (l : List Int) (known : Bool) : List Int :=
  if h : m = l.length ∨ l.length ≤ 1 then (if known then [] else [rt l])
  else if m ≤ sp l.length then gr m (l.take (sp l.length)) known ++ [rt (l.drop (sp l.length))]
  else gr (m - sp l.length) (l.drop (sp l.length)) false ++ [rt (l.take (sp l.length))]
termination_by l.length
decreasing_by
  · have := sp_lt l.length (by omega); rw [List.length_take]; omega
  · have := sp_pos l.length; rw [List.length_drop]; omega
theorem gr_base (m : Nat) (l : List Int) (known : Bool) (h : m = l.length ∨ l.length ≤ 1) : gr m l known = if known then [] else [rt l] := by rw [gr.eq_def, dif_pos h]
theorem gr_lt (m : Nat) (l : List Int) (known : Bool) (h : ¬ (m = l.length ∨ l.length ≤ 1)) (h2 : m ≤ sp l.length) : gr m l known = gr m (l.take (sp l.length)) known ++ [rt (l.drop (sp l.length))] := by rw [gr.eq_def, dif_neg h, if_pos h2]
theorem gr_gt (m : Nat) (l : List Int) (known : Bool) (h : ¬ (m = l.length ∨ l.length ≤ 1)) (h2 : ¬ m ≤ sp l.length) : gr m l known = gr (m - sp l.length) (l.drop (sp l.length)) false ++ [rt (l.take (sp l.length))] := by rw [gr.eq_def, dif_neg h, if_neg h2]
theorem gr_len : ∀ (f m : Nat) (l : List Int) (known : Bool), l.length ≤ f → (gr m l known).length ≤ l.length + 1
  | 0, m, l, known, h => by
    rw [gr_base m l known (by omega)]; cases known <;> simp
  | f + 1, m, l, known, h => by
    by_cases b : m = l.length ∨ l.length ≤ 1
    · rw [gr_base m l known b]; cases known <;> simp
    · have a1 := sp_lt l.length (by omega)
      have a2 := sp_pos l.length
      have T := take_len l (by omega)
      have D := drop_len l
      by_cases c : m ≤ sp l.length
      · have := gr_len f m (l.take (sp l.length)) known (by omega)
        rw [gr_lt m l known b c, List.length_append, List.length_singleton]; omega
      · have := gr_len f (m - sp l.length) (l.drop (sp l.length)) false (by omega)
        rw [gr_gt m l known b c, List.length_append, List.length_singleton]; omega
theorem gr_sums : ∀ (f m : Nat) (l : List Int) (known : Bool), l.length ≤ f → (∀ x ∈ l, sumP x) → ∀ y ∈ gr m l known, sumP y
  | 0, m, l, known, h, hl => by
    rw [gr_base m l known (by omega)]
    cases known with
    | true => intro y hy; exact absurd hy (by simp)
    | false => intro y hy; rw [List.mem_singleton.1 hy]; exact rt_range _ _ (Nat.le_refl _) hl
  | f + 1, m, l, known, h, hl => by
    by_cases b : m = l.length ∨ l.length ≤ 1
    · rw [gr_base m l known b]
      cases known with
      | true => intro y hy; exact absurd hy (by simp)
      | false => intro y hy; rw [List.mem_singleton.1 hy]; exact rt_range _ _ (Nat.le_refl _) hl
    · have a1 := sp_lt l.length (by omega)
      have a2 := sp_pos l.length
      have T := take_len l (by omega)
      have D := drop_len l
      have t1 : ∀ x ∈ l.take (sp l.length), sumP x := fun x hx => hl x (List.mem_of_mem_take hx)
      have t2 : ∀ x ∈ l.drop (sp l.length), sumP x := fun x hx => hl x (List.mem_of_mem_drop hx)
      by_cases c : m ≤ sp l.length
      · rw [gr_lt m l known b c]
        intro y hy
        rcases List.mem_append.1 hy with e | e
        · exact gr_sums f m _ known (by omega) t1 y e
        · rw [List.mem_singleton.1 e]; exact rt_range _ _ (Nat.le_refl _) t2
      · rw [gr_gt m l known b c]
        intro y hy
        rcases List.mem_append.1 hy with e | e
        · exact gr_sums f _ _ false (by omega) t2 y e
        · rw [List.mem_singleton.1 e]; exact rt_range _ _ (Nat.le_refl _) t1
theorem sp_mid (m n : Nat) (h : sp n < m) (h2 : m ≤ n) (h3 : 2 ≤ n) : sp m = sp n := by
  unfold sp at h ⊢
  have a : Nat.log2 (m - 1) = Nat.log2 (n - 1) := by
    have p := Nat.two_pow_pos (n - 1).log2
    refine (Nat.log2_eq_iff (by omega)).2 ⟨by omega, ?_⟩
    have := (Nat.lt_log2_self (n := n - 1))
    omega
  rw [a]
theorem get_mid (a q : List Int) (x : Int) : (a ++ [x] ++ q)[a.length]? = some x := by simp
theorem gr_uq (old : Int) : ∀ (f m : Nat) (l q : List Int) (known : Bool), l.length ≤ f → 1 ≤ m → m ≤ l.length → (known = true → old = rt (l.take m)) →
    uq old (gr m l known ++ q) m l.length known = some (rt (l.take m), rt l, (gr m l known).length)
  | 0, m, l, q, known, h, h1, h2, ho => by omega
  | f + 1, m, l, q, known, h, h1, h2, ho => by
    by_cases b : m = l.length
    · subst b
      rw [gr_base _ l known (Or.inl rfl), uq_base _ _ _ _ _ (Or.inl rfl), List.take_length]
      rw [List.take_length] at ho
      cases known with
      | true => rw [ho rfl]; rfl
      | false => rfl
    · have nb : ¬ (m = l.length ∨ l.length ≤ 1) := by omega
      have a1 := sp_lt l.length (by omega)
      have a2 := sp_pos l.length
      have T := take_len l (by omega)
      have D := drop_len l
      by_cases c : m ≤ sp l.length
      · have e : (l.take (sp l.length)).take m = l.take m := by rw [List.take_take, Nat.min_eq_left c]
        have R := gr_uq old f m (l.take (sp l.length)) ([rt (l.drop (sp l.length))] ++ q) known (by omega) h1 (by omega) (by rw [e]; exact ho)
        rw [T, e, ← List.append_assoc] at R
        rw [gr_lt m l known nb c, uq_lt _ _ _ _ _ b (by omega) c, R, Option.bind_some]
        show ((_ : List Int)[_]?).map _ = _
        rw [get_mid, Option.map_some, rt_two l (by omega), List.length_append, List.length_singleton]
      · have e : l.take m = l.take (sp l.length) ++ (l.drop (sp l.length)).take (m - sp l.length) := by
          rw [← List.take_append_drop (sp l.length) (l.take m), List.take_take, Nat.min_eq_left (by omega), List.drop_take]
        have R := gr_uq old f (m - sp l.length) (l.drop (sp l.length)) ([rt (l.take (sp l.length))] ++ q) false (by omega) (by omega) (by omega) (fun h => absurd h (by decide))
        rw [D, ← List.append_assoc] at R
        have lm : (l.take m).length = m := by rw [List.length_take]; omega
        have M : rt (l.take m) = jn (rt (l.take (sp l.length))) (rt ((l.drop (sp l.length)).take (m - sp l.length))) := by
          rw [rt_two (l.take m) (by omega), lm, sp_mid m l.length (by omega) h2 (by omega), List.take_take, Nat.min_eq_left (by omega), List.drop_take]
        rw [gr_gt m l known nb c, uq_gt _ _ _ _ _ b (by omega) c, R, Option.bind_some]
        show ((_ : List Int)[_]?).map _ = _
        rw [get_mid, Option.map_some, M, rt_two l (by omega), List.length_append, List.length_singleton]
theorem grow_ev : ∀ (f : Nat) (l : List Int) (m : Nat) (known : Bool), l.length ≤ f → l.length ≤ 64 → 1 ≤ m → m ≤ l.length → Ev (fun k => book_grow.f k l (m : Int) known) (gr m l known)
  | 0, l, m, known, h, h64, h1, h2 => by omega
  | f + 1, l, m, known, h, h64, h1, h2 => by
    by_cases b : m = l.length
    · rw [gr_base m l known (Or.inl b)]
      cases known with
      | true => exact Ev.step (fun k => book_grow.f.eq_2 ..) (evp (by omega) (evp rfl (Ev.now _)))
      | false => exact Ev.step (fun k => book_grow.f.eq_2 ..) (evp (by omega) (evn (by decide) (evb (root_ev 64 l h64 h64) (Ev.now _))))
    · have nb : ¬ (m = l.length ∨ l.length ≤ 1) := by omega
      have a1 := sp_lt l.length (by omega)
      have a2 := sp_pos l.length
      have T := take_len l (by omega)
      have D := drop_len l
      refine Ev.step (fun k => book_grow.f.eq_2 ..) (evn (by omega) (evb (split_ev _ (by omega) h64) ?_))
      by_cases c : m ≤ sp l.length
      · have L := gr_len _ m (l.take (sp l.length)) known (Nat.le_refl _)
        rw [gr_lt m l known nb c]
        refine evp (by omega) (evp (by omega) (evp (by omega) ?_))
        rw [Int.toNat_natCast]
        exact evb (grow_ev f _ m known (by omega) (by omega) h1 (by omega)) (evb (root_ev 64 _ (by omega) (by omega)) (evp (by omega) (Ev.now _)))
      · have L := gr_len _ (m - sp l.length) (l.drop (sp l.length)) false (Nat.le_refl _)
        rw [gr_gt m l known nb c]
        refine evn (by omega) (evp (by omega) (evp (by omega) ?_))
        rw [Int.toNat_natCast, w64 (n := (m : Int) - _) (by omega) (by omega), show (m : Int) - (sp l.length : Nat) = ((m - sp l.length : Nat) : Int) by omega]
        exact evb (grow_ev f _ _ false (by omega) (by omega) (by omega) (by omega)) (evb (root_ev 64 _ (by omega) (by omega)) (evp (by omega) (Ev.now _)))
theorem rgrow_ev : ∀ (f : Nat) (l : List Int) (m : Nat) (known : Bool), l.length ≤ f → l.length ≤ 64 → 1 ≤ m → m ≤ l.length → Ev (fun k => wigeonref09_grow.f k l (m : Int) known) (gr m l known)
  | 0, l, m, known, h, h64, h1, h2 => by omega
  | f + 1, l, m, known, h, h64, h1, h2 => by
    by_cases b : m = l.length
    · rw [gr_base m l known (Or.inl b)]
      cases known with
      | true => exact Ev.step (fun k => wigeonref09_grow.f.eq_2 ..) (evp (by omega) (evp rfl (Ev.now _)))
      | false => exact Ev.step (fun k => wigeonref09_grow.f.eq_2 ..) (evp (by omega) (evn (by decide) (evb (rroot_ev 64 l h64 h64) (Ev.now _))))
    · have nb : ¬ (m = l.length ∨ l.length ≤ 1) := by omega
      have a1 := sp_lt l.length (by omega)
      have a2 := sp_pos l.length
      have T := take_len l (by omega)
      have D := drop_len l
      refine Ev.step (fun k => wigeonref09_grow.f.eq_2 ..) (evn (by omega) (evb (rsplit_ev _ (by omega) h64) ?_))
      by_cases c : m ≤ sp l.length
      · have L := gr_len _ m (l.take (sp l.length)) known (Nat.le_refl _)
        rw [gr_lt m l known nb c]
        refine evp (by omega) (evp (by omega) (evp (by omega) ?_))
        rw [Int.toNat_natCast]
        exact evb (rgrow_ev f _ m known (by omega) (by omega) h1 (by omega)) (evb (rroot_ev 64 _ (by omega) (by omega)) (evp (by omega) (Ev.now _)))
      · have L := gr_len _ (m - sp l.length) (l.drop (sp l.length)) false (Nat.le_refl _)
        rw [gr_gt m l known nb c]
        refine evn (by omega) (evp (by omega) (evp (by omega) ?_))
        rw [Int.toNat_natCast, w64 (n := (m : Int) - _) (by omega) (by omega), show (m : Int) - (sp l.length : Nat) = ((m - sp l.length : Nat) : Int) by omega]
        exact evb (rgrow_ev f _ _ false (by omega) (by omega) (by omega) (by omega)) (evb (rroot_ev 64 _ (by omega) (by omega)) (evp (by omega) (Ev.now _)))
def groR (l : List ByteArray) (m : Int) : List Int × Int := if vP l = 0 then (if m < 1 ∨ m > (l.length : Int) then ([], 1) else (gr m.toNat (lvs l) true, 0)) else ([], vP l)
theorem groR_v {l : List ByteArray} {m : Int} (h : ¬ vP l = 0) : groR l m = ([], vP l) := if_neg h
theorem groR_1 {l : List ByteArray} {m : Int} (h : vP l = 0) (h2 : m < 1 ∨ m > (l.length : Int)) : groR l m = ([], 1) := (if_pos h).trans (if_pos h2)
theorem groR_0 {l : List ByteArray} {m : Int} (h : vP l = 0) (h2 : ¬ (m < 1 ∨ m > (l.length : Int))) : groR l m = (gr m.toNat (lvs l) true, 0) := (if_pos h).trans (if_neg h2)
theorem Growth_ev (l : List ByteArray) (m : Int) (hl : l.length ≤ 1000) : Ev (fun k => book_Growth.f k l m) (groR l m) := by
  unfold book_Growth.f
  refine evb (vP_ev l hl) ?_
  rcases vP_cases l with ⟨hv, h64, hp⟩ | hv
  · refine evp hv ?_
    by_cases h : m < 1
    · rw [groR_1 hv (Or.inl h)]; exact evp h (Ev.step (fun k => book_Growth.j0.eq_2 ..) (evp rfl (Ev.now _)))
    · refine evn h (Ev.step (fun k => book_Growth.j0.eq_2 ..) ?_)
      by_cases h2 : m > (l.length : Int)
      · rw [groR_1 hv (Or.inr h2)]; exact evp (by simpa using h2) (Ev.now _)
      · rw [groR_0 hv (by omega)]
        obtain ⟨m, rfl⟩ := Int.eq_ofNat_of_zero_le (show 0 ≤ m by omega)
        have e := lvs_length l
        exact evn (by simpa using h2) (evb (leaves_ev l h64 (fun s hs => by have := page_small s (hp s hs); omega)) (evb (grow_ev 64 _ m true (by omega) (by omega) (by omega) (by omega)) (Ev.now _)))
  · rw [groR_v hv]; exact evn hv (Ev.now _)
theorem rGrowth_ev (l : List ByteArray) (m : Int) (hl : l.length ≤ 1000) (hs : ∀ s ∈ l, s.size ≤ 9223372036854775807) : Ev (fun k => wigeonref09_Growth.f k l m) (groR l m) := by
  unfold wigeonref09_Growth.f
  refine evb (rvP_ev l hl hs) ?_
  rcases vP_cases l with ⟨hv, h64, hp⟩ | hv
  · refine evp hv ?_
    by_cases h : m < 1
    · rw [groR_1 hv (Or.inl h)]; exact evp h (Ev.step (fun k => wigeonref09_Growth.j0.eq_2 ..) (evp rfl (Ev.now _)))
    · refine evn h (Ev.step (fun k => wigeonref09_Growth.j0.eq_2 ..) ?_)
      by_cases h2 : m > (l.length : Int)
      · rw [groR_1 hv (Or.inr h2)]; exact evp (by simpa using h2) (Ev.now _)
      · rw [groR_0 hv (by omega)]
        obtain ⟨m, rfl⟩ := Int.eq_ofNat_of_zero_le (show 0 ≤ m by omega)
        have e := lvs_length l
        exact evn (by simpa using h2) (evb (rleaves_ev l h64 (fun s hs => by have := page_small s (hp s hs); omega)) (evb (rgrow_ev 64 _ m true (by omega) (by omega) (by omega) (by omega)) (Ev.now _)))
  · rw [groR_v hv]; exact evn hv (Ev.now _)
theorem BookGrowths (a0 : List ByteArray) (a1 : Int) (h0 : (a0.length ≤ 9223372036854775807 ∧ ∀ x_ ∈ a0, x_.size ≤ 9223372036854775807)) (h1 : (Lit.int .i64 a1).wf = true) : ∃ k, wigeonlaw09_BookGrowths.f k a0 a1 = some true := by
  refine Ev.rounds (g := fun k => wigeonlaw09_BookGrowths.f k a0 a1) ?_
  unfold wigeonlaw09_BookGrowths.f
  refine evb (Long_ev a0 h0.1) ?_
  by_cases h : longB a0 = true
  · exact evp h (evb known_ev (Ev.now _))
  · obtain ⟨l1, l2⟩ := long_not a0 h
    refine evn h (evb (Growth_ev a0 a1 (by omega)) (evb (rGrowth_ev a0 a1 (by omega) h0.2) ?_))
    have pl : (groR a0 a1).1.length ≤ 1000 := by
      by_cases hv : vP a0 = 0
      · by_cases h2 : a1 < 1 ∨ a1 > (a0.length : Int)
        · rw [groR_1 hv h2]; simp
        · rw [groR_0 hv h2]
          have a := gr_len _ a1.toNat (lvs a0) true (Nat.le_refl _)
          have c := lvs_length a0
          simp only; omega
      · rw [groR_v hv]; simp
    refine evb (same_ev _ pl) (evp rfl ?_)
    rw [show ((groR a0 a1).2 != (groR a0 a1).2) = false by simp]
    refine Ev.step (fun k => wigeonlaw09_BookGrowths.j0.eq_2 ..) (evn (by decide) ?_)
    rcases vP_cases a0 with ⟨hv, h64, hp⟩ | hv
    · by_cases h2 : a1 < 1 ∨ a1 > (a0.length : Int)
      · rw [groR_1 hv h2]; exact evn (by decide) (evb known_ev (Ev.now _))
      · rw [groR_0 hv h2]
        have e := lvs_length a0
        obtain ⟨m, rfl⟩ := Int.eq_ofNat_of_zero_le (show 0 ≤ a1 by omega)
        rw [Int.toNat_natCast]
        have R1 := Root_ev (a0.take m) (by rw [List.length_take]; omega)
        have R2 := Root_ev a0 (by omega)
        unfold rootR at R1 R2
        rw [if_pos (vP_zero _ (by rw [List.length_take]; omega) (fun s hs => hp s (List.mem_of_mem_take hs)))] at R1
        rw [if_pos hv] at R2
        have tk : lvs (a0.take m) = (lvs a0).take m := List.map_take ..
        rw [tk] at R1
        have ok : unOk (m : Int) (a0.length : Int) (rt ((lvs a0).take m)) (gr m (lvs a0) true) := ⟨by omega, by omega, by omega, rt_range _ _ (Nat.le_refl _) (fun x hx => lvs_range a0 x (List.mem_of_mem_take hx)), gr_sums _ m (lvs a0) true (Nat.le_refl _) (lvs_range a0)⟩
        have G := gr_uq (rt ((lvs a0).take m)) _ m (lvs a0) [] true (Nat.le_refl _) (by omega) (by omega) (fun _ => rfl)
        rw [List.append_nil, e] at G
        have U := unR_s ok G rfl
        have C : cgR (rt ((lvs a0).take m)) (rt (lvs a0)) (m : Int) (a0.length : Int) (gr m (lvs a0) true) = 0 := by
          exact cgR_0 (by rw [U]) (rt_range _ _ (Nat.le_refl _) (lvs_range a0)) (by rw [U]) (by rw [U])
        refine evp rfl (evp (by omega) (evp (by omega) ?_))
        refine evb R1 (evb R2 (evb (Unfold_ev _ _ _ _) ?_))
        rw [U]
        refine evp rfl (evp rfl (evp rfl (evp rfl (evp rfl (evb (CheckGrowth_ev _ _ _ _ _) (evp C (evb known_ev (Ev.now _))))))))
    · rw [groR_v hv]; exact evn hv (evb known_ev (Ev.now _))

end Go.Proofs.Ythjdocddohijnaa.Pure

