/- The plain law behind the row: what the printed functions of this law compute answers true, for every input that the row lets in. -/
import Derived.Test.YthjdocddohijnaaBPx17
namespace Go.Proofs.Ythjdocddohijnaa.Pure
set_option linter.unusedVariables false
set_option linter.unusedSimpArgs false
open Go.RowKit Go.Proofs.Ythjdocddohijnaa.BP Go.Proofs.YthjdocddohijnaaW.PrintWords Go.Proofs.YthjdocddohijnaaW.PrintLast

-- base
theorem evp {α : Type} {c : Prop} [Decidable c] {f g : Nat → Option α} {r : α} (h : c) (k : Ev f r) : Ev (fun n => if c then f n else g n) r :=
  Ev.congr (fun _ => if_pos h) k
theorem evn {α : Type} {c : Prop} [Decidable c] {f g : Nat → Option α} {r : α} (h : ¬ c) (k : Ev g r) : Ev (fun n => if c then f n else g n) r :=
  Ev.congr (fun _ => if_neg h) k
theorem evb {α β : Type} {g : Nat → Option α} {f : Nat → α → Option β} {a : α} {r : β} (h : Ev g a) (k : Ev (fun n => f n a) r) : Ev (fun n => (g n).bind (f n)) r := Ev.bind h k
theorem evs {α β : Type} {x : Option α} {f : Nat → α → Option β} {a : α} {r : β} (h : x = some a) (k : Ev (fun n => f n a) r) : Ev (fun n => x.bind (f n)) r := by
  subst h; exact k
theorem w64 {n : Int} (h : -9223372036854775808 ≤ n) (h2 : n ≤ 9223372036854775807) : wrap64 n = n := by unfold wrap64; omega
theorem rd_at (l : List Int) (i : Nat) (h : i < l.length) : rd l (i : Int) = l[i] := by
  simp [rd, List.getD_eq_getElem?_getD, List.getElem?_eq_getElem h]
theorem rdS_at (l : List ByteArray) (i : Nat) (h : i < l.length) : rdOf ByteArray.empty l (i : Int) = l[i] := by
  simp [rdOf, List.getD_eq_getElem?_getD, List.getElem?_eq_getElem h]
theorem rdB_at (l : List Bool) (i : Nat) (h : i < l.length) : rdOf false l (i : Int) = l[i] := by
  simp [rdOf, List.getD_eq_getElem?_getD, List.getElem?_eq_getElem h]
theorem bt_bytes (s : ByteArray) (i : Nat) (h : i < (bytesOf s).length) : bt s (i : Int) = (bytesOf s)[i] := by
  rw [← rd_bytesOf, rd_at _ _ h]

-- page
theorem rIsPage_l0 (s : ByteArray) (hs : s.size ≤ 9223372036854775807) : ∀ d i : Nat, i + d = s.size → Ev (fun k => wigeonref09_IsPage.l0 k s (i : Int)) (decide (1 ≤ s.size ∧ s.size ≤ 60) && !(((bytesOf s).drop i).any (fun c => decide (c < 32) || decide (126 < c))))
  | 0, i, h => by
    refine Ev.step (fun k => wigeonref09_IsPage.l0.eq_2 ..) (evn (by omega) ?_)
    rw [List.drop_eq_nil_of_le (by rw [bytesOf_length]; omega), List.any_nil, Bool.not_false, Bool.and_true]
    by_cases h1 : 1 ≤ s.size
    · refine evp (by omega) ?_
      rw [show decide (1 ≤ s.size ∧ s.size ≤ 60) = decide ((s.size : Int) ≤ 60) from decide_eq_decide.2 (by omega)]
      exact Ev.now _
    · refine evn (by omega) ?_
      rw [show decide (1 ≤ s.size ∧ s.size ≤ 60) = false from decide_eq_false (by omega)]
      exact Ev.now _
  | d + 1, i, h => by
    have hl : i < (bytesOf s).length := by rw [bytesOf_length]; omega
    have R := rIsPage_l0 s hs d (i + 1) (by omega)
    refine Ev.step (fun k => wigeonref09_IsPage.l0.eq_2 ..) (evp (by omega) (evp (by omega) ?_))
    rw [bt_bytes s i hl, List.drop_eq_getElem_cons hl, List.any_cons, w64 (by omega) (by omega)]
    generalize (bytesOf s)[i] = c at *
    by_cases h1 : c < 32
    · refine evp h1 ?_
      rw [show decide (c < 32) = true from decide_eq_true h1, Bool.true_or, Bool.true_or, Bool.not_true, Bool.and_false]; exact Ev.now _
    · refine evn h1 ?_
      rw [show decide (c < 32) = false from decide_eq_false h1, Bool.false_or]
      by_cases h2 : c > 126
      · refine evp h2 ?_
        rw [show decide (126 < c) = true from decide_eq_true h2, Bool.true_or, Bool.not_true, Bool.and_false]; exact Ev.now _
      · refine evn h2 ?_
        rw [show decide (126 < c) = false from decide_eq_false h2, Bool.false_or]
        exact R
theorem rIsPage_ev (s : ByteArray) (hs : s.size ≤ 9223372036854775807) : Ev (fun k => wigeonref09_IsPage.f k s) (pageB s) := rIsPage_l0 s hs s.size 0 (by omega)
theorem page_small (s : ByteArray) (h : pageB s = true) : s.size ≤ 60 := by
  unfold pageB at h
  simp only [Bool.and_eq_true, decide_eq_true_eq] at h
  exact h.1.2
theorem page_size (s : ByteArray) (h : pageB s = true) : 1 ≤ s.size := by
  unfold pageB at h
  simp only [Bool.and_eq_true, decide_eq_true_eq] at h
  exact h.1.1

-- leaf
theorem rleaf_l0 (s : ByteArray) (hs : s.size ≤ 1000000) : ∀ d i : Nat, i + d = s.size → Ev (fun k => wigeonref09_leaf.l0 k s (((bytesOf s).take i).foldl (fun x c => (wrap64 (wrap64 (wrap64 (x * 257) + c) + 1)).tmod 2147483647) 1) (i : Int)) (leafV s)
  | 0, i, h => by
    refine Ev.step (fun k => wigeonref09_leaf.l0.eq_2 ..) (evn (by omega) ?_)
    rw [List.take_of_length_le (by rw [bytesOf_length]; omega)]
    exact Ev.now _
  | d + 1, i, h => by
    have hl : i < (bytesOf s).length := by rw [bytesOf_length]; omega
    have R := rleaf_l0 s hs d (i + 1) (by omega)
    refine Ev.step (fun k => wigeonref09_leaf.l0.eq_2 ..) (evp (by omega) (evp (by omega) ?_))
    have hb := bytesOf_range s _ (List.getElem_mem hl)
    rw [leafV_snoc s i hl] at R
    rw [bt_bytes s i hl, w64 (n := (bytesOf s)[i]) (by omega) (by omega), w64 (n := (i : Int) + 1) (by omega) (by omega)]
    exact R
theorem rleaf_ev (s : ByteArray) (hs : s.size ≤ 1000000) : Ev (fun k => wigeonref09_leaf.f k s) (leafV s) := rleaf_l0 s hs s.size 0 (by omega)
theorem leaf_eq (s : ByteArray) (hs : s.size ≤ 1000000) : book_leaf.f s = some (leafV s) := if_pos hs
theorem fold_range : ∀ (l : List Int) (x : Int), (∀ c ∈ l, 0 ≤ c ∧ c ≤ 255) → 0 ≤ x → x < 2147483647 → 0 ≤ l.foldl (fun x c => (wrap64 (wrap64 (wrap64 (x * 257) + c) + 1)).tmod 2147483647) x ∧ l.foldl (fun x c => (wrap64 (wrap64 (wrap64 (x * 257) + c) + 1)).tmod 2147483647) x < 2147483647
  | [], x, _, h0, h1 => ⟨h0, h1⟩
  | c :: l, x, h, h0, h1 => by
    obtain ⟨c0, c1⟩ := h c List.mem_cons_self
    rw [List.foldl_cons]
    refine fold_range l _ (fun d hd => h d (List.mem_cons_of_mem _ hd)) ?_ ?_
    · rw [w64 (n := x * 257) (by omega) (by omega), w64 (n := x * 257 + c) (by omega) (by omega), w64 (n := x * 257 + c + 1) (by omega) (by omega), Int.tmod_eq_emod_of_nonneg (by omega)]; omega
    · rw [w64 (n := x * 257) (by omega) (by omega), w64 (n := x * 257 + c) (by omega) (by omega), w64 (n := x * 257 + c + 1) (by omega) (by omega), Int.tmod_eq_emod_of_nonneg (by omega)]; omega
def sumP (x : Int) : Prop := 0 ≤ x ∧ x < 2147483647
instance (x : Int) : Decidable (sumP x) := by unfold sumP; exact inferInstance
theorem leaf_range (s : ByteArray) : sumP (leafV s) := fold_range _ 1 (bytesOf_range s) (by decide) (by decide)

-- join
def jn (x y : Int) : Int := Int.tmod (wrap64 ((wrap64 ((wrap64 (x * 48271)) + (wrap64 (y * 16807)))) + 1)) 2147483647
theorem jn_range (x y : Int) (hx : sumP x) (hy : sumP y) : sumP (jn x y) := by
  obtain ⟨a, b⟩ := hx
  obtain ⟨c, d⟩ := hy
  unfold jn sumP
  rw [w64 (n := x * 48271) (by omega) (by omega), w64 (n := y * 16807) (by omega) (by omega), w64 (n := x * 48271 + y * 16807) (by omega) (by omega), w64 (n := x * 48271 + y * 16807 + 1) (by omega) (by omega), Int.tmod_eq_emod_of_nonneg (by omega)]
  omega
theorem join_eq (x y : Int) : book_join.f x y = some (jn x y) := rfl
theorem rjoin_eq (x y : Int) : wigeonref09_join.f x y = some (jn x y) := rfl
theorem isSum_eq (l : List Int) : book_isSum.f l = some (decide (∀ x ∈ l, sumP x)) := by
  unfold book_isSum.f cf_isSum.f
  rw [Option.bind_some]
  congr 1
  by_cases h : ∀ x ∈ l, sumP x
  · rw [decide_eq_true h, show (l.any fun x => decide (x < 0) || decide (x ≥ 2147483647)) = false from List.any_eq_false.2 (fun x hx => by have := h x hx; unfold sumP at this; simp; omega)]; rfl
  · rw [decide_eq_false h]
    have : (l.any fun x => decide (x < 0) || decide (x ≥ 2147483647)) = true := by
      rw [List.any_eq_true]
      refine Classical.byContradiction fun hn => h fun x hx => ?_
      unfold sumP
      refine Classical.byContradiction fun hs => hn ⟨x, hx, by simp; omega⟩
    rw [this]; rfl

-- known
theorem known_at : wigeonlaw09_known.f 100 = some true := by decide +kernel
theorem known_ev : Ev (fun k => wigeonlaw09_known.f k) true := Ev.of wigeonlaw09_known.mono known_at

-- split
/-- the greatest power of two below n -/
def sp (n : Nat) : Nat := 2 ^ Nat.log2 (n - 1)
theorem sp_lt (n : Nat) (h : 2 ≤ n) : sp n < n := by
  have := Nat.log2_self_le (n := n - 1) (by omega)
  unfold sp; omega
theorem sp_pos (n : Nat) : 0 < sp n := Nat.pow_pos (by decide)
theorem split_at : ∀ n : Fin 63, book_split.f 8 ((n.val + 2 : Nat) : Int) = some ((sp (n.val + 2) : Nat) : Int) := by decide +kernel
theorem rsplit_at : ∀ n : Fin 63, wigeonref09_split.f 12 ((n.val + 2 : Nat) : Int) = some ((sp (n.val + 2) : Nat) : Int) := by decide +kernel
theorem split_ev (n : Nat) (h : 2 ≤ n) (h2 : n ≤ 64) : Ev (fun k => book_split.f k (n : Int)) ((sp n : Nat) : Int) := by
  have := split_at ⟨n - 2, by omega⟩
  rw [show n - 2 + 2 = n by omega] at this
  exact Ev.of (book_split.mono _) this
theorem rsplit_ev (n : Nat) (h : 2 ≤ n) (h2 : n ≤ 64) : Ev (fun k => wigeonref09_split.f k (n : Int)) ((sp n : Nat) : Int) := by
  have := rsplit_at ⟨n - 2, by omega⟩
  rw [show n - 2 + 2 = n by omega] at this
  exact Ev.of (wigeonref09_split.mono _) this

-- root
/-- the root of sums -/
def rt (l : List Int) : Int :=
  if h : l.length ≤ 1 then l.headD 0 else jn (rt (l.take (sp l.length))) (rt (l.drop (sp l.length)))
termination_by l.length
decreasing_by
  · have := sp_lt l.length (by omega); rw [List.length_take]; omega
  · have := sp_pos l.length; rw [List.length_drop]; omega
theorem rt_nil : rt [] = 0 := by rw [rt]; simp
theorem rt_one (x : Int) : rt [x] = x := by rw [rt]; simp
theorem rt_two (l : List Int) (h : 2 ≤ l.length) : rt l = jn (rt (l.take (sp l.length))) (rt (l.drop (sp l.length))) := by
  rw [rt, dif_neg (by omega)]
theorem rt_range : ∀ (n : Nat) (l : List Int), l.length ≤ n → (∀ x ∈ l, sumP x) → sumP (rt l)
  | 0, l, h, _ => by
    obtain rfl : l = [] := List.length_eq_zero_iff.1 (by omega)
    rw [rt_nil]; exact ⟨by decide, by decide⟩
  | n + 1, l, h, hl => by
    match l, h, hl with
    | [], _, _ => rw [rt_nil]; exact ⟨by decide, by decide⟩
    | [x], _, hl => rw [rt_one]; exact hl x List.mem_cons_self
    | x :: y :: l, h, hl =>
      have h2 : 2 ≤ (x :: y :: l).length := by simp
      have a := sp_lt _ h2
      have b := sp_pos (x :: y :: l).length
      rw [rt_two _ h2]
      exact jn_range _ _ (rt_range n _ (by rw [List.length_take]; omega) (fun z hz => hl z (List.mem_of_mem_take hz))) (rt_range n _ (by rw [List.length_drop]; omega) (fun z hz => hl z (List.mem_of_mem_drop hz)))
theorem root_ev : ∀ (n : Nat) (l : List Int), l.length ≤ n → l.length ≤ 64 → Ev (fun k => book_root.f k l) (rt l)
  | 0, l, h, h64 => by
    obtain rfl : l = [] := List.length_eq_zero_iff.1 (by omega)
    refine Ev.step (fun k => book_root.f.eq_2 ..) (evp (by simp) ?_)
    rw [rt_nil]; exact Ev.now _
  | n + 1, l, h, h64 => by
    by_cases h0 : l.length = 0
    · obtain rfl : l = [] := List.length_eq_zero_iff.1 h0
      refine Ev.step (fun k => book_root.f.eq_2 ..) (evp (by simp) ?_)
      rw [rt_nil]; exact Ev.now _
    by_cases h1 : l.length = 1
    · obtain ⟨x, rfl⟩ := List.length_eq_one_iff.1 h1
      refine Ev.step (fun k => book_root.f.eq_2 ..) (evn (by simp) (evp (by simp) (evp (by simp) ?_)))
      rw [rt_one, show rd [x] 0 = x from rfl]; exact Ev.now _
    have h2 : 2 ≤ l.length := by omega
    have a := sp_lt _ h2
    have b := sp_pos l.length
    refine Ev.step (fun k => book_root.f.eq_2 ..) (evn (by omega) (evn (by omega) (evb (split_ev _ h2 h64) (evp (by omega) (evp (by omega) ?_)))))
    rw [Int.toNat_natCast]
    refine evb (root_ev n _ (by rw [List.length_take]; omega) (by rw [List.length_take]; omega)) (evb (root_ev n _ (by rw [List.length_drop]; omega) (by rw [List.length_drop]; omega)) (evs (join_eq _ _) ?_))
    rw [rt_two _ h2]; exact Ev.now _
theorem rroot_ev : ∀ (n : Nat) (l : List Int), l.length ≤ n → l.length ≤ 64 → Ev (fun k => wigeonref09_root.f k l) (rt l)
  | 0, l, h, h64 => by
    obtain rfl : l = [] := List.length_eq_zero_iff.1 (by omega)
    refine Ev.step (fun k => wigeonref09_root.f.eq_2 ..) (evp (by simp) ?_)
    rw [rt_nil]; exact Ev.now _
  | n + 1, l, h, h64 => by
    by_cases h0 : l.length = 0
    · obtain rfl : l = [] := List.length_eq_zero_iff.1 h0
      refine Ev.step (fun k => wigeonref09_root.f.eq_2 ..) (evp (by simp) ?_)
      rw [rt_nil]; exact Ev.now _
    by_cases h1 : l.length = 1
    · obtain ⟨x, rfl⟩ := List.length_eq_one_iff.1 h1
      refine Ev.step (fun k => wigeonref09_root.f.eq_2 ..) (evn (by simp) (evp (by simp) (evp (by simp) ?_)))
      rw [rt_one, show rd [x] 0 = x from rfl]; exact Ev.now _
    have h2 : 2 ≤ l.length := by omega
    have a := sp_lt _ h2
    have b := sp_pos l.length
    refine Ev.step (fun k => wigeonref09_root.f.eq_2 ..) (evn (by omega) (evn (by omega) (evb (rsplit_ev _ h2 h64) (evp (by omega) (evp (by omega) ?_)))))
    rw [Int.toNat_natCast]
    refine evb (rroot_ev n _ (by rw [List.length_take]; omega) (by rw [List.length_take]; omega)) (evb (rroot_ev n _ (by rw [List.length_drop]; omega) (by rw [List.length_drop]; omega)) (evs (rjoin_eq _ _) ?_))
    rw [rt_two _ h2]; exact Ev.now _

-- validate
def vP (l : List ByteArray) : Int := if l.length > 64 then 3 else if l.all pageB then 0 else 1
theorem vP_l0 (l : List ByteArray) (hl : l.length ≤ 64) : ∀ d i : Nat, i + d = l.length → Ev (fun k => book_ValidatePages.l0 k l (l.length : Int) (i : Int)) (if (l.drop i).all pageB then (0 : Int) else 1)
  | 0, i, h => by
    refine Ev.step (fun k => book_ValidatePages.l0.eq_2 ..) (evn (by omega) ?_)
    rw [List.drop_eq_nil_of_le (by omega)]; exact Ev.now _
  | d + 1, i, h => by
    have hlt : i < l.length := by omega
    have R := vP_l0 l hl d (i + 1) (by omega)
    refine Ev.step (fun k => book_ValidatePages.l0.eq_2 ..) (evp (by omega) (evp (by omega) (evp (by omega) (evs rfl ?_))))
    rw [rdS_at l i hlt, List.drop_eq_getElem_cons hlt, List.all_cons, w64 (by omega) (by omega)]
    cases pageB l[i]
    · exact evn (by decide) (Ev.now _)
    · exact evp rfl (by rw [Bool.true_and]; exact R)
theorem vP_ev (l : List ByteArray) (hl : l.length ≤ 1000) : Ev (fun k => book_ValidatePages.f k l) (vP l) := by
  unfold book_ValidatePages.f vP
  by_cases h : l.length > 64
  · rw [if_pos h]; exact evp (by omega) (Ev.now _)
  · rw [if_neg h]; exact evn (by omega) (vP_l0 l (by omega) l.length 0 (by omega))
theorem rvP_l0 (l : List ByteArray) (hl : l.length ≤ 64) (hs : ∀ s ∈ l, s.size ≤ 9223372036854775807) : ∀ d i : Nat, i + d = l.length → Ev (fun k => wigeonref09_ValidatePages.l0 k l (i : Int)) (if (l.drop i).all pageB then (0 : Int) else 1)
  | 0, i, h => by
    refine Ev.step (fun k => wigeonref09_ValidatePages.l0.eq_2 ..) (evn (by omega) ?_)
    rw [List.drop_eq_nil_of_le (by omega)]; exact Ev.now _
  | d + 1, i, h => by
    have hlt : i < l.length := by omega
    have R := rvP_l0 l hl hs d (i + 1) (by omega)
    refine Ev.step (fun k => wigeonref09_ValidatePages.l0.eq_2 ..) (evp (by omega) (evp (by omega) ?_))
    rw [rdS_at l i hlt, List.drop_eq_getElem_cons hlt, List.all_cons, w64 (by omega) (by omega)]
    refine evb (rIsPage_ev _ (hs _ (List.getElem_mem hlt))) ?_
    cases pageB l[i]
    · exact evn (by decide) (Ev.now _)
    · exact evp rfl (by rw [Bool.true_and]; exact R)
theorem rvP_ev (l : List ByteArray) (hl : l.length ≤ 1000) (hs : ∀ s ∈ l, s.size ≤ 9223372036854775807) : Ev (fun k => wigeonref09_ValidatePages.f k l) (vP l) := by
  unfold wigeonref09_ValidatePages.f vP
  by_cases h : l.length > 64
  · rw [if_pos h]; exact evp (by omega) (Ev.now _)
  · rw [if_neg h]; exact evn (by omega) (rvP_l0 l (by omega) hs l.length 0 (by omega))
theorem vP_cases (l : List ByteArray) : (vP l = 0 ∧ l.length ≤ 64 ∧ ∀ s ∈ l, pageB s = true) ∨ vP l ≠ 0 := by
  unfold vP
  by_cases h : l.length > 64
  · rw [if_pos h]; exact Or.inr (by decide)
  · rw [if_neg h]
    by_cases h2 : l.all pageB = true
    · rw [if_pos h2]; exact Or.inl ⟨rfl, by omega, fun s hs => List.all_eq_true.1 h2 s hs⟩
    · rw [if_neg h2]; exact Or.inr (by decide)
theorem vP_zero (l : List ByteArray) (h1 : l.length ≤ 64) (h2 : ∀ s ∈ l, pageB s = true) : vP l = 0 := by
  unfold vP; rw [if_neg (by omega), if_pos (List.all_eq_true.2 h2)]

-- leaves
def lvs (l : List ByteArray) : List Int := l.map leafV
theorem lvs_length (l : List ByteArray) : (lvs l).length = l.length := List.length_map _
theorem lvs_range (l : List ByteArray) : ∀ x ∈ lvs l, sumP x := by
  intro x hx
  obtain ⟨s, _, rfl⟩ := List.mem_map.1 hx
  exact leaf_range s
theorem leaves_l0 (l : List ByteArray) (hl : l.length ≤ 64) (hs : ∀ s ∈ l, s.size ≤ 1000) : ∀ (d i : Nat) (acc : List Int), i + d = l.length → acc.length + d ≤ 64 → Ev (fun k => book_leaves.l0 k acc l (l.length : Int) (i : Int)) (acc ++ lvs (l.drop i))
  | 0, i, acc, h, _ => by
    refine Ev.step (fun k => book_leaves.l0.eq_2 ..) (evn (by omega) ?_)
    rw [List.drop_eq_nil_of_le (by omega)]; simp [lvs]; exact Ev.now _
  | d + 1, i, acc, h, ha => by
    have hlt : i < l.length := by omega
    refine Ev.step (fun k => book_leaves.l0.eq_2 ..) (evp (by omega) (evp (by omega) (evp (by omega) ?_)))
    rw [rdS_at l i hlt]
    refine evs (leaf_eq _ (by have := hs _ (List.getElem_mem hlt); omega)) (evp (by omega) ?_)
    rw [w64 (by omega) (by omega)]
    have R := leaves_l0 l hl hs d (i + 1) (acc ++ [leafV l[i]]) (by omega) (by simp; omega)
    rw [List.drop_eq_getElem_cons hlt]
    rw [show acc ++ lvs (l[i] :: l.drop (i + 1)) = acc ++ [leafV l[i]] ++ lvs (l.drop (i + 1)) from (List.append_assoc acc [leafV l[i]] _).symm]
    exact R
theorem leaves_ev (l : List ByteArray) (hl : l.length ≤ 64) (hs : ∀ s ∈ l, s.size ≤ 1000) : Ev (fun k => book_leaves.f k l) (lvs l) := by
  have := leaves_l0 l hl hs l.length 0 [] (by omega) (by simp; omega)
  rwa [List.nil_append] at this
theorem rleaves_l0 (l : List ByteArray) (hl : l.length ≤ 64) (hs : ∀ s ∈ l, s.size ≤ 1000) : ∀ (d i : Nat) (acc : List Int), i + d = l.length → acc.length + d ≤ 64 → Ev (fun k => wigeonref09_leaves.l0 k l acc (i : Int)) (acc ++ lvs (l.drop i))
  | 0, i, acc, h, _ => by
    refine Ev.step (fun k => wigeonref09_leaves.l0.eq_2 ..) (evn (by omega) ?_)
    rw [List.drop_eq_nil_of_le (by omega)]; simp [lvs]; exact Ev.now _
  | d + 1, i, acc, h, ha => by
    have hlt : i < l.length := by omega
    refine Ev.step (fun k => wigeonref09_leaves.l0.eq_2 ..) (evp (by omega) (evp (by omega) ?_))
    rw [rdS_at l i hlt]
    refine evb (rleaf_ev _ (by have := hs _ (List.getElem_mem hlt); omega)) (evp (by omega) ?_)
    rw [w64 (by omega) (by omega)]
    have R := rleaves_l0 l hl hs d (i + 1) (acc ++ [leafV l[i]]) (by omega) (by simp; omega)
    rw [List.drop_eq_getElem_cons hlt]
    rw [show acc ++ lvs (l[i] :: l.drop (i + 1)) = acc ++ [leafV l[i]] ++ lvs (l.drop (i + 1)) from (List.append_assoc acc [leafV l[i]] _).symm]
    exact R
theorem rleaves_ev (l : List ByteArray) (hl : l.length ≤ 64) (hs : ∀ s ∈ l, s.size ≤ 1000) : Ev (fun k => wigeonref09_leaves.f k l) (lvs l) := by
  have := rleaves_l0 l hl hs l.length 0 [] (by omega) (by simp; omega)
  rwa [List.nil_append] at this

-- Root
def rootR (l : List ByteArray) : Int × Int := if vP l = 0 then (rt (lvs l), 0) else (0, vP l)
theorem Root_ev (l : List ByteArray) (hl : l.length ≤ 1000) : Ev (fun k => book_Root.f k l) (rootR l) := by
  unfold book_Root.f rootR
  refine evb (vP_ev l hl) ?_
  rcases vP_cases l with ⟨h, h64, hp⟩ | h
  · rw [if_pos h]
    exact evp h (evb (leaves_ev l h64 (fun s hs => by have := page_small s (hp s hs); omega)) (evb (root_ev 64 _ (by rw [lvs_length]; omega) (by rw [lvs_length]; omega)) (Ev.now _)))
  · rw [if_neg h]
    exact evn h (Ev.now _)

-- Long
def longB (l : List ByteArray) : Bool := l.any (fun s => decide (200 < s.size)) || decide (100 < l.length)
theorem Long_l0 (l : List ByteArray) (hl : l.length ≤ 9223372036854775807) : ∀ d i : Nat, i + d = l.length → Ev (fun k => wigeonlaw09_Long.l0 k l (i : Int)) ((l.drop i).any (fun s => decide (200 < s.size)) || decide (100 < l.length))
  | 0, i, h => by
    refine Ev.step (fun k => wigeonlaw09_Long.l0.eq_2 ..) (evn (by omega) ?_)
    rw [List.drop_eq_nil_of_le (by omega), List.any_nil, Bool.false_or, show decide (100 < l.length) = decide ((l.length : Int) > 100) from decide_eq_decide.2 (by omega)]; exact Ev.now _
  | d + 1, i, h => by
    have hlt : i < l.length := by omega
    have R := Long_l0 l hl d (i + 1) (by omega)
    refine Ev.step (fun k => wigeonlaw09_Long.l0.eq_2 ..) (evp (by omega) (evp (by omega) ?_))
    rw [rdS_at l i hlt, List.drop_eq_getElem_cons hlt, List.any_cons]
    by_cases h2 : 200 < l[i].size
    · refine evp (by omega) ?_
      rw [decide_eq_true h2, Bool.true_or, Bool.true_or]; exact Ev.now _
    · refine evn (by omega) ?_
      rw [decide_eq_false h2, Bool.false_or, w64 (by omega) (by omega)]; exact R
theorem Long_ev (l : List ByteArray) (hl : l.length ≤ 9223372036854775807) : Ev (fun k => wigeonlaw09_Long.f k l) (longB l) := Long_l0 l hl l.length 0 (by omega)
theorem long_not (l : List ByteArray) (h : ¬ longB l = true) : l.length ≤ 100 ∧ ∀ s ∈ l, s.size ≤ 200 := by
  unfold longB at h
  simp only [Bool.or_eq_true, List.any_eq_true, decide_eq_true_eq, not_or, not_exists, not_and] at h
  exact ⟨by omega, fun s hs => by have := h.1 s hs; omega⟩

-- Split
def splitR (n : Int) : Int × Int := if n < 2 ∨ 64 < n then (0, 1) else ((sp n.toNat : Nat), 0)

-- sides
def numR (i n : Int) : Int := if n < 1 ∨ 64 < n then 1 else if i < 0 ∨ n ≤ i then 4 else 0
theorem numR_1 {i n : Int} (h : n < 1 ∨ 64 < n) : numR i n = 1 := if_pos h
theorem numR_4 {i n : Int} (h : ¬ (n < 1 ∨ 64 < n)) (h2 : i < 0 ∨ n ≤ i) : numR i n = 4 := (if_neg h).trans (if_pos h2)
theorem numR_0 {i n : Int} (h : ¬ (n < 1 ∨ 64 < n)) (h2 : ¬ (i < 0 ∨ n ≤ i)) : numR i n = 0 := (if_neg h).trans (if_neg h2)
theorem numbered_ev (i n : Int) : Ev (fun k => book_numbered.f k i n) (numR i n) := by
  unfold book_numbered.f
  by_cases h : n < 1
  · rw [numR_1 (Or.inl h)]; exact evp h (Ev.step (fun k => book_numbered.j0.eq_2 ..) (evp rfl (Ev.now _)))
  · refine evn h (Ev.step (fun k => book_numbered.j0.eq_2 ..) ?_)
    by_cases h2 : n > 64
    · rw [numR_1 (Or.inr h2)]; exact evp (by simpa using h2) (Ev.now _)
    · refine evn (by simpa using h2) ?_
      by_cases h3 : i < 0
      · rw [numR_4 (by omega) (Or.inl h3)]; exact evp h3 (Ev.now _)
      · refine evn h3 ?_
        by_cases h4 : i ≥ n
        · rw [numR_4 (by omega) (Or.inr h4)]; exact evp h4 (Ev.now _)
        · rw [numR_0 (by omega) (by omega)]; exact evn h4 (Ev.now _)
theorem place_ev (i n : Int) : Ev (fun k => wigeonref09_place.f k i n) (numR i n) := by
  unfold wigeonref09_place.f
  by_cases h : n < 1
  · rw [numR_1 (Or.inl h)]; exact evp h (Ev.step (fun k => wigeonref09_place.j0.eq_2 ..) (evp rfl (Ev.now _)))
  · refine evn h (Ev.step (fun k => wigeonref09_place.j0.eq_2 ..) ?_)
    by_cases h2 : n > 64
    · rw [numR_1 (Or.inr h2)]; exact evp (by simpa using h2) (Ev.now _)
    · refine evn (by simpa using h2) ?_
      by_cases h3 : i < 0
      · rw [numR_4 (by omega) (Or.inl h3)]; exact evp h3 (Ev.now _)
      · refine evn h3 ?_
        by_cases h4 : i ≥ n
        · rw [numR_4 (by omega) (Or.inr h4)]; exact evp h4 (Ev.now _)
        · rw [numR_0 (by omega) (by omega)]; exact evn h4 (Ev.now _)
theorem numR_ok (i n : Int) (h : numR i n = 0) : 1 ≤ n ∧ n ≤ 64 ∧ 0 ≤ i ∧ i < n := by
  unfold numR at h
  by_cases h1 : n < 1 ∨ 64 < n
  · rw [if_pos h1] at h; exact absurd h (by decide)
  · rw [if_neg h1] at h
    by_cases h2 : i < 0 ∨ n ≤ i
    · rw [if_pos h2] at h; exact absurd h (by decide)
    · omega
/-- on which side the sums of a proof stand -/
def sd (i n : Nat) : List Bool :=
  if h : n ≤ 1 then [] else if i < sp n then sd i (sp n) ++ [false] else sd (i - sp n) (n - sp n) ++ [true]
termination_by n
decreasing_by
  · exact sp_lt n (by omega)
  · have := sp_pos n; omega
theorem sd_one (i n : Nat) (h : n ≤ 1) : sd i n = [] := by rw [sd, dif_pos h]
theorem sd_lt (i n : Nat) (h : 2 ≤ n) (hi : i < sp n) : sd i n = sd i (sp n) ++ [false] := by rw [sd, dif_neg (by omega), if_pos hi]
theorem sd_ge (i n : Nat) (h : 2 ≤ n) (hi : ¬ i < sp n) : sd i n = sd (i - sp n) (n - sp n) ++ [true] := by rw [sd, dif_neg (by omega), if_neg hi]
theorem sd_len : ∀ (m n i : Nat), n ≤ m → (sd i n).length ≤ n
  | 0, n, i, h => by rw [sd_one i n (by omega)]; simp
  | m + 1, n, i, h => by
    by_cases h1 : n ≤ 1
    · rw [sd_one i n h1]; simp
    · have a := sp_lt n (by omega)
      have b := sp_pos n
      by_cases h2 : i < sp n
      · rw [sd_lt i n (by omega) h2]
        have := sd_len m (sp n) i (by omega)
        simp; omega
      · rw [sd_ge i n (by omega) h2]
        have := sd_len m (n - sp n) (i - sp n) (by omega)
        simp; omega
theorem sides_ev : ∀ (m n i : Nat), n ≤ m → 1 ≤ n → n ≤ 64 → i < n → Ev (fun k => book_sides.f k (i : Int) (n : Int)) (sd i n)
  | 0, n, i, h, h1, _, _ => by omega
  | m + 1, n, i, h, h1, h64, hin => by
    by_cases h2 : n ≤ 1
    · rw [sd_one i n h2]
      exact Ev.step (fun k => book_sides.f.eq_2 ..) (evp (by omega) (Ev.now _))
    · have a := sp_lt n (by omega)
      have b := sp_pos n
      refine Ev.step (fun k => book_sides.f.eq_2 ..) (evn (by omega) (evb (split_ev n (by omega) h64) ?_))
      by_cases h3 : i < sp n
      · rw [sd_lt i n (by omega) h3]
        have l := sd_len m (sp n) i (by omega)
        exact evp (by omega) (evb (sides_ev m (sp n) i (by omega) (by omega) (by omega) h3) (evp (by omega) (Ev.now _)))
      · rw [sd_ge i n (by omega) h3]
        have l := sd_len m (n - sp n) (i - sp n) (by omega)
        refine evn (by omega) ?_
        rw [w64 (n := (i : Int) - _) (by omega) (by omega), w64 (n := (n : Int) - _) (by omega) (by omega), show (i : Int) - (sp n : Nat) = ((i - sp n : Nat) : Int) by omega, show (n : Int) - (sp n : Nat) = ((n - sp n : Nat) : Int) by omega]
        exact evb (sides_ev m (n - sp n) (i - sp n) (by omega) (by omega) (by omega) (by omega)) (evp (by omega) (Ev.now _))
theorem rsides_ev : ∀ (m n i : Nat), n ≤ m → 1 ≤ n → n ≤ 64 → i < n → Ev (fun k => wigeonref09_sides.f k (i : Int) (n : Int)) (sd i n)
  | 0, n, i, h, h1, _, _ => by omega
  | m + 1, n, i, h, h1, h64, hin => by
    by_cases h2 : n ≤ 1
    · rw [sd_one i n h2]
      exact Ev.step (fun k => wigeonref09_sides.f.eq_2 ..) (evp (by omega) (Ev.now _))
    · have a := sp_lt n (by omega)
      have b := sp_pos n
      refine Ev.step (fun k => wigeonref09_sides.f.eq_2 ..) (evn (by omega) (evb (rsplit_ev n (by omega) h64) ?_))
      by_cases h3 : i < sp n
      · rw [sd_lt i n (by omega) h3]
        have l := sd_len m (sp n) i (by omega)
        exact evp (by omega) (evb (rsides_ev m (sp n) i (by omega) (by omega) (by omega) h3) (evp (by omega) (Ev.now _)))
      · rw [sd_ge i n (by omega) h3]
        have l := sd_len m (n - sp n) (i - sp n) (by omega)
        refine evn (by omega) ?_
        rw [w64 (n := (i : Int) - _) (by omega) (by omega), w64 (n := (n : Int) - _) (by omega) (by omega), show (i : Int) - (sp n : Nat) = ((i - sp n : Nat) : Int) by omega, show (n : Int) - (sp n : Nat) = ((n - sp n : Nat) : Int) by omega]
        exact evb (rsides_ev m (n - sp n) (i - sp n) (by omega) (by omega) (by omega) (by omega)) (evp (by omega) (Ev.now _))

-- climb
theorem sums_one (y : Int) (m : List Int) (h : sumP y) : decide (∀ x ∈ y :: m, sumP x) = decide (∀ x ∈ m, sumP x) := decide_eq_decide.2 ⟨fun q x hx => q x (List.mem_cons_of_mem _ hx), fun q x hx => by
  rcases List.mem_cons.1 hx with e | e
  · rw [e]; exact h
  · exact q x e⟩
theorem sums_not (y : Int) (m : List Int) (h : ¬ sumP y) : decide (∀ x ∈ y :: m, sumP x) = false := decide_eq_false fun q => h (q y List.mem_cons_self)
def clF : List Bool → List Int → Int → Int
  | b :: bs, y :: ys, x => clF bs ys (if b then jn y x else jn x y)
  | _, _, x => x
theorem climb_l0 (s : List Bool) (p : List Int) (hs : s.length = p.length) (hp : p.length ≤ 1000) : ∀ (d i : Nat) (x : Int), i + d = p.length → Ev (fun k => book_Climb.l0 k s x p (p.length : Int) (i : Int)) (clF (s.drop i) (p.drop i) x, 0)
  | 0, i, x, h => by
    refine Ev.step (fun k => book_Climb.l0.eq_2 ..) (evn (by omega) ?_)
    rw [List.drop_eq_nil_of_le (by omega), List.drop_eq_nil_of_le (by omega)]; exact Ev.now _
  | d + 1, i, x, h => by
    have h1 : i < p.length := by omega
    have h2 : i < s.length := by omega
    refine Ev.step (fun k => book_Climb.l0.eq_2 ..) (evp (by omega) (evp (by omega) (evp (by omega) (evp (by omega) ?_))))
    rw [rdB_at s i h2, rd_at p i h1, List.drop_eq_getElem_cons h1, List.drop_eq_getElem_cons h2, w64 (by omega) (by omega)]
    unfold clF
    cases s[i]
    · exact evn (by decide) (evs (join_eq _ _) (climb_l0 s p hs hp d (i + 1) _ (by omega)))
    · exact evp rfl (evs (join_eq _ _) (climb_l0 s p hs hp d (i + 1) _ (by omega)))
def climbR (x i n : Int) (p : List Int) : Int × Int :=
  if numR i n = 0 then (if sumP x ∧ ∀ y ∈ p, sumP y then (if (sd i.toNat n.toNat).length = p.length then (clF (sd i.toNat n.toNat) p x, 0) else (0, 7)) else (0, 1)) else (0, numR i n)
theorem Climb_ev (x i n : Int) (p : List Int) (hp : p.length ≤ 1000) : Ev (fun k => book_Climb.f k x i n p) (climbR x i n p) := by
  unfold book_Climb.f climbR
  refine evb (numbered_ev i n) ?_
  by_cases h : numR i n = 0
  · rw [if_pos h]
    refine evp h (evs (isSum_eq _) ?_)
    obtain ⟨n1, n2, i1, i2⟩ := numR_ok i n h
    obtain ⟨i, rfl⟩ := Int.eq_ofNat_of_zero_le i1
    obtain ⟨n, rfl⟩ := Int.eq_ofNat_of_zero_le (show 0 ≤ n by omega)
    by_cases hx : sumP x
    · refine evp (by simpa using hx) (evs (isSum_eq _) ?_)
      by_cases hy : ∀ y ∈ p, sumP y
      · rw [if_pos ⟨hx, hy⟩, decide_eq_true hy]
        refine Ev.step (fun k => book_Climb.j0.eq_2 ..) (evn (by decide) (evb (sides_ev n n i (Nat.le_refl _) (by omega) (by omega) (by omega)) ?_))
        rw [Int.toNat_natCast, Int.toNat_natCast]
        by_cases hl : (sd i n).length = p.length
        · rw [if_pos hl]; exact evp (by omega) (climb_l0 _ p hl hp p.length 0 x (by omega))
        · rw [if_neg hl]; exact evn (by omega) (Ev.now _)
      · rw [if_neg (fun q => hy q.2), decide_eq_false hy]
        exact Ev.step (fun k => book_Climb.j0.eq_2 ..) (evp rfl (Ev.now _))
    · rw [if_neg (fun q => hx q.1)]
      exact evn (by simpa using hx) (Ev.step (fun k => book_Climb.j0.eq_2 ..) (evp rfl (Ev.now _)))
  · rw [if_neg h]; exact evn h (Ev.now _)

-- check
theorem Leaf_eq (s : ByteArray) (hs : s.size ≤ 1000) : book_Leaf.f s = some (if pageB s then (leafV s, 0) else (0, 1)) := by
  unfold book_Leaf.f book_IsPage.f
  rw [Option.bind_some, leaf_eq s (by omega)]
  cases pageB s <;> rfl
def chkR (root : Int) (page : ByteArray) (i n : Int) (p : List Int) : Int :=
  if pageB page then (if (climbR (leafV page) i n p).2 = 0 then (if sumP root then (if (climbR (leafV page) i n p).1 = root then 0 else 7) else 1) else (climbR (leafV page) i n p).2) else 1
theorem chkR_p {root : Int} {page : ByteArray} {i n : Int} {p : List Int} (h : ¬ pageB page = true) : chkR root page i n p = 1 := if_neg h
theorem chkR_c {root : Int} {page : ByteArray} {i n : Int} {p : List Int} (h : pageB page = true) (h2 : ¬ (climbR (leafV page) i n p).2 = 0) : chkR root page i n p = (climbR (leafV page) i n p).2 := (if_pos h).trans (if_neg h2)
theorem chkR_s {root : Int} {page : ByteArray} {i n : Int} {p : List Int} (h : pageB page = true) (h2 : (climbR (leafV page) i n p).2 = 0) (h3 : ¬ sumP root) : chkR root page i n p = 1 := (if_pos h).trans ((if_pos h2).trans (if_neg h3))
theorem chkR_e {root : Int} {page : ByteArray} {i n : Int} {p : List Int} (h : pageB page = true) (h2 : (climbR (leafV page) i n p).2 = 0) (h3 : sumP root) (h4 : (climbR (leafV page) i n p).1 = root) : chkR root page i n p = 0 := (if_pos h).trans ((if_pos h2).trans ((if_pos h3).trans (if_pos h4)))
theorem chkR_n {root : Int} {page : ByteArray} {i n : Int} {p : List Int} (h : pageB page = true) (h2 : (climbR (leafV page) i n p).2 = 0) (h3 : sumP root) (h4 : ¬ (climbR (leafV page) i n p).1 = root) : chkR root page i n p = 7 := (if_pos h).trans ((if_pos h2).trans ((if_pos h3).trans (if_neg h4)))
theorem CheckPage_ev (root : Int) (page : ByteArray) (i n : Int) (p : List Int) (hs : page.size ≤ 1000) (hp : p.length ≤ 1000) : Ev (fun k => book_CheckPage.f k root page i n p) (chkR root page i n p) := by
  unfold book_CheckPage.f
  refine evs (Leaf_eq page hs) ?_
  by_cases hq : pageB page = true
  · rw [if_pos hq]
    refine evp rfl (evb (Climb_ev _ _ _ _ hp) ?_)
    by_cases h : (climbR (leafV page) i n p).2 = 0
    · refine evp h (evs (isSum_eq _) ?_)
      by_cases hr : sumP root
      · refine evp (by simpa using hr) ?_
        by_cases he : (climbR (leafV page) i n p).1 = root
        · rw [chkR_e hq h hr he]; exact evp he (Ev.now _)
        · rw [chkR_n hq h hr he]; exact evn he (Ev.now _)
      · rw [chkR_s hq h hr]; exact evn (by simpa using hr) (Ev.now _)
    · rw [chkR_c hq h]; exact evn h (Ev.now _)
  · rw [if_neg hq, chkR_p hq]
    exact evn (by simp) (Ev.now _)

/-- the sums of a proof -/
def pf (i : Nat) (l : List Int) : List Int :=
  if h : l.length ≤ 1 then [] else if i < sp l.length then pf i (l.take (sp l.length)) ++ [rt (l.drop (sp l.length))] else pf (i - sp l.length) (l.drop (sp l.length)) ++ [rt (l.take (sp l.length))]
termination_by l.length
decreasing_by
  · have := sp_lt l.length (by omega); rw [List.length_take]; omega
  · have := sp_pos l.length; rw [List.length_drop]; omega
theorem pf_one (i : Nat) (l : List Int) (h : l.length ≤ 1) : pf i l = [] := by rw [pf, dif_pos h]
theorem pf_lt (i : Nat) (l : List Int) (h : 2 ≤ l.length) (hi : i < sp l.length) : pf i l = pf i (l.take (sp l.length)) ++ [rt (l.drop (sp l.length))] := by rw [pf, dif_neg (by omega), if_pos hi]
theorem pf_ge (i : Nat) (l : List Int) (h : 2 ≤ l.length) (hi : ¬ i < sp l.length) : pf i l = pf (i - sp l.length) (l.drop (sp l.length)) ++ [rt (l.take (sp l.length))] := by rw [pf, dif_neg (by omega), if_neg hi]
theorem take_len (l : List Int) (h : 2 ≤ l.length) : (l.take (sp l.length)).length = sp l.length := by
  have := sp_lt l.length h
  rw [List.length_take]; omega
theorem drop_len (l : List Int) : (l.drop (sp l.length)).length = l.length - sp l.length := List.length_drop
theorem pf_len : ∀ (m : Nat) (l : List Int) (i : Nat), l.length ≤ m → (pf i l).length = (sd i l.length).length
  | 0, l, i, h => by rw [pf_one i l (by omega), sd_one i _ (by omega)]; rfl
  | m + 1, l, i, h => by
    by_cases h1 : l.length ≤ 1
    · rw [pf_one i l h1, sd_one i _ h1]; rfl
    · have a := sp_lt l.length (by omega)
      have b := sp_pos l.length
      by_cases h2 : i < sp l.length
      · have R := pf_len m (l.take (sp l.length)) i (by rw [take_len l (by omega)]; omega)
        rw [take_len l (by omega)] at R
        rw [pf_lt i l (by omega) h2, sd_lt i _ (by omega) h2, List.length_append, List.length_append, R]; rfl
      · have R := pf_len m (l.drop (sp l.length)) (i - sp l.length) (by rw [drop_len]; omega)
        rw [drop_len] at R
        rw [pf_ge i l (by omega) h2, sd_ge i _ (by omega) h2, List.length_append, List.length_append, R]; rfl
theorem pf_sums : ∀ (m : Nat) (l : List Int) (i : Nat), l.length ≤ m → (∀ x ∈ l, sumP x) → ∀ y ∈ pf i l, sumP y
  | 0, l, i, h, _ => by rw [pf_one i l (by omega)]; intro y hy; exact absurd hy (by simp)
  | m + 1, l, i, h, hl => by
    by_cases h1 : l.length ≤ 1
    · rw [pf_one i l h1]; intro y hy; exact absurd hy (by simp)
    · have a := sp_lt l.length (by omega)
      have b := sp_pos l.length
      have t1 : ∀ x ∈ l.take (sp l.length), sumP x := fun x hx => hl x (List.mem_of_mem_take hx)
      have t2 : ∀ x ∈ l.drop (sp l.length), sumP x := fun x hx => hl x (List.mem_of_mem_drop hx)
      by_cases h2 : i < sp l.length
      · rw [pf_lt i l (by omega) h2]
        intro y hy
        rcases List.mem_append.1 hy with e | e
        · exact pf_sums m _ i (by rw [take_len l (by omega)]; omega) t1 y e
        · rw [List.mem_singleton.1 e]; exact rt_range _ _ (Nat.le_refl _) t2
      · rw [pf_ge i l (by omega) h2]
        intro y hy
        rcases List.mem_append.1 hy with e | e
        · exact pf_sums m _ _ (by rw [drop_len]; omega) t2 y e
        · rw [List.mem_singleton.1 e]; exact rt_range _ _ (Nat.le_refl _) t1
theorem clF_snoc : ∀ (s : List Bool) (p : List Int) (x y : Int) (b : Bool), s.length = p.length → clF (s ++ [b]) (p ++ [y]) x = if b then jn y (clF s p x) else jn (clF s p x) y
  | [], [], x, y, b, _ => by cases b <;> rfl
  | [], _ :: _, _, _, _, h => absurd h (by simp)
  | _ :: _, [], _, _, _, h => absurd h (by simp)
  | a :: s, q :: p, x, y, b, h => by
    show clF (s ++ [b]) (p ++ [y]) (if a then jn q x else jn x q) = if b then jn y (clF s p (if a then jn q x else jn x q)) else jn (clF s p (if a then jn q x else jn x q)) y
    exact clF_snoc s p _ y b (by simpa using h)
theorem pf_climb : ∀ (m : Nat) (l : List Int) (i : Nat) (x : Int) (hx : l[i]? = some x), l.length ≤ m → clF (sd i l.length) (pf i l) x = rt l
  | 0, l, i, x, hx, h => by
    obtain rfl : l = [] := List.length_eq_zero_iff.1 (by omega)
    exact absurd hx (by simp)
  | m + 1, l, i, x, hx, h => by
    have hi : i < l.length := by
      by_cases q : i < l.length
      · exact q
      · rw [List.getElem?_eq_none (by omega)] at hx; exact absurd hx (by simp)
    by_cases h1 : l.length ≤ 1
    · obtain ⟨y, rfl⟩ := List.length_eq_one_iff.1 (show l.length = 1 by omega)
      obtain rfl : i = 0 := by simp at hi; exact hi
      obtain rfl : y = x := by simpa using hx
      rw [pf_one _ _ h1, sd_one _ _ h1, rt_one]; rfl
    · have a := sp_lt l.length (by omega)
      have b := sp_pos l.length
      by_cases h2 : i < sp l.length
      · have T := take_len l (by omega)
        have R := pf_climb m (l.take (sp l.length)) i x (by rw [List.getElem?_take_of_lt h2]; exact hx) (by omega)
        have L := pf_len m (l.take (sp l.length)) i (by omega)
        rw [T] at R L
        rw [pf_lt i l (by omega) h2, sd_lt i _ (by omega) h2, clF_snoc _ _ _ _ _ L.symm, rt_two l (by omega), ← R]; rfl
      · have T := drop_len l
        have R := pf_climb m (l.drop (sp l.length)) (i - sp l.length) x (by rw [List.getElem?_drop, show sp l.length + (i - sp l.length) = i by omega]; exact hx) (by omega)
        have L := pf_len m (l.drop (sp l.length)) (i - sp l.length) (by omega)
        rw [T] at R L
        rw [pf_ge i l (by omega) h2, sd_ge i _ (by omega) h2, clF_snoc _ _ _ _ _ L.symm, rt_two l (by omega), ← R]; rfl
theorem proof_ev : ∀ (m : Nat) (l : List Int) (i : Nat), l.length ≤ m → l.length ≤ 64 → i < l.length → Ev (fun k => book_proof.f k l (i : Int)) (pf i l)
  | 0, l, i, h, _, hi => by omega
  | m + 1, l, i, h, h64, hi => by
    by_cases h1 : l.length = 1
    · rw [pf_one i l (by omega)]
      exact Ev.step (fun k => book_proof.f.eq_2 ..) (evp (by omega) (Ev.now _))
    · have a := sp_lt l.length (by omega)
      have b := sp_pos l.length
      have T := take_len l (by omega)
      have D := drop_len l
      refine Ev.step (fun k => book_proof.f.eq_2 ..) (evn (by omega) (evb (split_ev _ (by omega) h64) ?_))
      by_cases h2 : i < sp l.length
      · have L := pf_len m (l.take (sp l.length)) i (by omega)
        have M := sd_len _ (l.take (sp l.length)).length i (Nat.le_refl _)
        rw [pf_lt i l (by omega) h2]
        refine evp (by omega) (evp (by omega) (evp (by omega) ?_))
        rw [Int.toNat_natCast]
        exact evb (proof_ev m _ i (by omega) (by omega) (by omega)) (evb (root_ev 64 _ (by omega) (by omega)) (evp (by omega) (Ev.now _)))
      · have L := pf_len m (l.drop (sp l.length)) (i - sp l.length) (by omega)
        have M := sd_len _ (l.drop (sp l.length)).length (i - sp l.length) (Nat.le_refl _)
        rw [pf_ge i l (by omega) h2]
        refine evn (by omega) (evp (by omega) (evp (by omega) ?_))
        rw [Int.toNat_natCast, w64 (n := (i : Int) - _) (by omega) (by omega), show (i : Int) - (sp l.length : Nat) = ((i - sp l.length : Nat) : Int) by omega]
        exact evb (proof_ev m _ _ (by omega) (by omega) (by omega)) (evb (root_ev 64 _ (by omega) (by omega)) (evp (by omega) (Ev.now _)))
theorem rproof_ev : ∀ (m : Nat) (l : List Int) (i : Nat), l.length ≤ m → l.length ≤ 64 → i < l.length → Ev (fun k => wigeonref09_proof.f k l (i : Int)) (pf i l)
  | 0, l, i, h, _, hi => by omega
  | m + 1, l, i, h, h64, hi => by
    by_cases h1 : l.length = 1
    · rw [pf_one i l (by omega)]
      exact Ev.step (fun k => wigeonref09_proof.f.eq_2 ..) (evp (by omega) (Ev.now _))
    · have a := sp_lt l.length (by omega)
      have b := sp_pos l.length
      have T := take_len l (by omega)
      have D := drop_len l
      refine Ev.step (fun k => wigeonref09_proof.f.eq_2 ..) (evn (by omega) (evb (rsplit_ev _ (by omega) h64) ?_))
      by_cases h2 : i < sp l.length
      · have L := pf_len m (l.take (sp l.length)) i (by omega)
        have M := sd_len _ (l.take (sp l.length)).length i (Nat.le_refl _)
        rw [pf_lt i l (by omega) h2]
        refine evp (by omega) (evp (by omega) (evp (by omega) ?_))
        rw [Int.toNat_natCast]
        exact evb (rproof_ev m _ i (by omega) (by omega) (by omega)) (evb (rroot_ev 64 _ (by omega) (by omega)) (evp (by omega) (Ev.now _)))
      · have L := pf_len m (l.drop (sp l.length)) (i - sp l.length) (by omega)
        have M := sd_len _ (l.drop (sp l.length)).length (i - sp l.length) (Nat.le_refl _)
        rw [pf_ge i l (by omega) h2]
        refine evn (by omega) (evp (by omega) (evp (by omega) ?_))
        rw [Int.toNat_natCast, w64 (n := (i : Int) - _) (by omega) (by omega), show (i : Int) - (sp l.length : Nat) = ((i - sp l.length : Nat) : Int) by omega]
        exact evb (rproof_ev m _ _ (by omega) (by omega) (by omega)) (evb (rroot_ev 64 _ (by omega) (by omega)) (evp (by omega) (Ev.now _)))
def prR (l : List ByteArray) (i : Int) : List Int × Int := if vP l = 0 then (if i < 0 ∨ i ≥ (l.length : Int) then ([], 4) else (pf i.toNat (lvs l), 0)) else ([], vP l)
theorem prR_v {l : List ByteArray} {i : Int} (h : ¬ vP l = 0) : prR l i = ([], vP l) := if_neg h
theorem prR_4 {l : List ByteArray} {i : Int} (h : vP l = 0) (h2 : i < 0 ∨ i ≥ (l.length : Int)) : prR l i = ([], 4) := (if_pos h).trans (if_pos h2)
theorem prR_0 {l : List ByteArray} {i : Int} (h : vP l = 0) (h2 : ¬ (i < 0 ∨ i ≥ (l.length : Int))) : prR l i = (pf i.toNat (lvs l), 0) := (if_pos h).trans (if_neg h2)
theorem Proof_ev (l : List ByteArray) (i : Int) (hl : l.length ≤ 1000) : Ev (fun k => book_Proof.f k l i) (prR l i) := by
  unfold book_Proof.f
  refine evb (vP_ev l hl) ?_
  rcases vP_cases l with ⟨hv, h64, hp⟩ | hv
  · refine evp hv ?_
    by_cases h : i < 0
    · rw [prR_4 hv (Or.inl h)]; exact evp h (Ev.step (fun k => book_Proof.j0.eq_2 ..) (evp rfl (Ev.now _)))
    · refine evn h (Ev.step (fun k => book_Proof.j0.eq_2 ..) ?_)
      by_cases h2 : i ≥ (l.length : Int)
      · rw [prR_4 hv (Or.inr h2)]; exact evp (by simpa using h2) (Ev.now _)
      · rw [prR_0 hv (by omega)]
        obtain ⟨i, rfl⟩ := Int.eq_ofNat_of_zero_le (show 0 ≤ i by omega)
        have e := lvs_length l
        exact evn (by simpa using h2) (evb (leaves_ev l h64 (fun s hs => by have := page_small s (hp s hs); omega)) (evb (proof_ev 64 _ i (by omega) (by omega) (by omega)) (Ev.now _)))
  · rw [prR_v hv]; exact evn hv (Ev.now _)
theorem rProof_ev (l : List ByteArray) (i : Int) (hl : l.length ≤ 1000) (hs : ∀ s ∈ l, s.size ≤ 9223372036854775807) : Ev (fun k => wigeonref09_Proof.f k l i) (prR l i) := by
  unfold wigeonref09_Proof.f
  refine evb (rvP_ev l hl hs) ?_
  rcases vP_cases l with ⟨hv, h64, hp⟩ | hv
  · refine evp hv ?_
    by_cases h : i < 0
    · rw [prR_4 hv (Or.inl h)]; exact evp h (Ev.step (fun k => wigeonref09_Proof.j0.eq_2 ..) (evp rfl (Ev.now _)))
    · refine evn h (Ev.step (fun k => wigeonref09_Proof.j0.eq_2 ..) ?_)
      by_cases h2 : i ≥ (l.length : Int)
      · rw [prR_4 hv (Or.inr h2)]; exact evp (by simpa using h2) (Ev.now _)
      · rw [prR_0 hv (by omega)]
        obtain ⟨i, rfl⟩ := Int.eq_ofNat_of_zero_le (show 0 ≤ i by omega)
        have e := lvs_length l
        exact evn (by simpa using h2) (evb (rleaves_ev l h64 (fun s hs => by have := page_small s (hp s hs); omega)) (evb (rproof_ev 64 _ i (by omega) (by omega) (by omega)) (Ev.now _)))
  · rw [prR_v hv]; exact evn hv (Ev.now _)
def dpR (i n : Int) : Int × Int := if numR i n = 0 then (((sd i.toNat n.toNat).length : Int), 0) else (0, numR i n)
theorem Depth_ev (i n : Int) : Ev (fun k => book_Depth.f k i n) (dpR i n) := by
  unfold book_Depth.f dpR
  refine evb (numbered_ev i n) ?_
  by_cases h : numR i n = 0
  · rw [if_pos h]
    obtain ⟨n1, n2, i1, i2⟩ := numR_ok i n h
    refine evp h ?_
    obtain ⟨i, rfl⟩ := Int.eq_ofNat_of_zero_le i1
    obtain ⟨n, rfl⟩ := Int.eq_ofNat_of_zero_le (show 0 ≤ n by omega)
    exact evb (sides_ev n n i (Nat.le_refl _) (by omega) (by omega) (by omega)) (Ev.now _)
  · rw [if_neg h]; exact evn h (Ev.now _)
theorem rDepth_ev (i n : Int) : Ev (fun k => wigeonref09_Depth.f k i n) (dpR i n) := by
  unfold wigeonref09_Depth.f dpR
  refine evb (place_ev i n) ?_
  by_cases h : numR i n = 0
  · rw [if_pos h]
    obtain ⟨n1, n2, i1, i2⟩ := numR_ok i n h
    refine evp h ?_
    obtain ⟨i, rfl⟩ := Int.eq_ofNat_of_zero_le i1
    obtain ⟨n, rfl⟩ := Int.eq_ofNat_of_zero_le (show 0 ≤ n by omega)
    exact evb (rsides_ev n n i (Nat.le_refl _) (by omega) (by omega) (by omega)) (Ev.now _)
  · rw [if_neg h]; exact evn h (Ev.now _)
theorem same_l0 (l : List Int) (hl : l.length ≤ 1000) : ∀ d i : Nat, i + d = l.length → Ev (fun k => wigeonref01_SameInts.l0 k l l (i : Int)) true
  | 0, i, h => Ev.step (fun k => wigeonref01_SameInts.l0.eq_2 ..) (evn (by omega) (Ev.now _))
  | d + 1, i, h => by
    refine Ev.step (fun k => wigeonref01_SameInts.l0.eq_2 ..) (evp (by omega) (evp (by omega) (evp (by omega) (evp rfl ?_))))
    rw [w64 (by omega) (by omega)]; exact same_l0 l hl d (i + 1) (by omega)
theorem same_ev (l : List Int) (hl : l.length ≤ 1000) : Ev (fun k => wigeonref01_SameInts.f k l l) true := by
  unfold wigeonref01_SameInts.f
  exact evp rfl (same_l0 l hl l.length 0 (by omega))
theorem BookProofs (a0 : List ByteArray) (a1 : Int) (h0 : (a0.length ≤ 9223372036854775807 ∧ ∀ x_ ∈ a0, x_.size ≤ 9223372036854775807)) (h1 : (Lit.int .i64 a1).wf = true) : ∃ k, wigeonlaw09_BookProofs.f k a0 a1 = some true := by
  refine Ev.rounds (g := fun k => wigeonlaw09_BookProofs.f k a0 a1) ?_
  unfold wigeonlaw09_BookProofs.f
  refine evb (Long_ev a0 h0.1) ?_
  by_cases h : longB a0 = true
  · exact evp h (evb known_ev (Ev.now _))
  · obtain ⟨l1, l2⟩ := long_not a0 h
    refine evn h (evb (Proof_ev a0 a1 (by omega)) (evb (rProof_ev a0 a1 (by omega) h0.2) (evb (Depth_ev a1 _) (evb (rDepth_ev a1 _) ?_))))
    have pl : (prR a0 a1).1.length ≤ 1000 := by
      by_cases hv : vP a0 = 0
      · by_cases h2 : a1 < 0 ∨ a1 ≥ (a0.length : Int)
        · rw [prR_4 hv h2]; simp
        · rw [prR_0 hv h2]
          have a := pf_len _ (lvs a0) a1.toNat (Nat.le_refl _)
          have b := sd_len _ (lvs a0).length a1.toNat (Nat.le_refl _)
          have c := lvs_length a0
          simp only; omega
      · rw [prR_v hv]; simp
    refine evb (same_ev _ pl) (evp rfl (evp rfl (evp rfl ?_)))
    rw [show ((dpR a1 (a0.length : Int)).2 != (dpR a1 (a0.length : Int)).2) = false by simp]
    refine Ev.step (fun k => wigeonlaw09_BookProofs.j0.eq_2 ..) (evn (by decide) ?_)
    rcases vP_cases a0 with ⟨hv, h64, hp⟩ | hv
    · by_cases h2 : a1 < 0 ∨ a1 ≥ (a0.length : Int)
      · rw [prR_4 hv h2]; exact evn (by decide) (evb known_ev (Ev.now _))
      · rw [prR_0 hv h2]
        have e := lvs_length a0
        obtain ⟨i, rfl⟩ := Int.eq_ofNat_of_zero_le (show 0 ≤ a1 by omega)
        have hi : i < a0.length := by omega
        have num : numR (i : Int) (a0.length : Int) = 0 := numR_0 (by omega) (by omega)
        have dep : dpR (i : Int) (a0.length : Int) = (((sd i a0.length).length : Int), 0) := by unfold dpR; rw [if_pos num, Int.toNat_natCast, Int.toNat_natCast]
        have pl := pf_len _ (lvs a0) i (Nat.le_refl _)
        rw [e] at pl
        have R := Root_ev a0 (by omega)
        unfold rootR at R
        rw [if_pos hv] at R
        have sm := pf_sums _ (lvs a0) i (Nat.le_refl _) (lvs_range a0)
        have cl := pf_climb _ (lvs a0) i (leafV a0[i]) (by rw [lvs, List.getElem?_map, List.getElem?_eq_getElem hi]; rfl) (Nat.le_refl _)
        have pg : pageB a0[i] = true := hp _ (List.getElem_mem hi)
        rw [e] at cl
        have cr : climbR (leafV a0[i]) (i : Int) (a0.length : Int) (pf i (lvs a0)) = (rt (lvs a0), 0) := by
          unfold climbR
          rw [if_pos num, if_pos ⟨leaf_range _, sm⟩, Int.toNat_natCast, Int.toNat_natCast, if_pos pl.symm, cl]
        rw [dep, Int.toNat_natCast]
        refine evp rfl (evb R (evp rfl (evp (by simp only; omega) (evp rfl (evp (by omega) (evp (by omega) ?_))))))
        rw [rdS_at a0 i hi]
        refine evb (CheckPage_ev _ _ _ _ _ (by have := page_small _ pg; omega) (by have := sd_len _ a0.length i (Nat.le_refl _); show (pf i (lvs a0)).length ≤ 1000; omega)) (evp ?_ (evb known_ev (Ev.now _)))
        exact chkR_e pg (by rw [cr]) (rt_range _ _ (Nat.le_refl _) (lvs_range a0)) (by rw [cr])
    · rw [prR_v hv]; exact evn hv (evb known_ev (Ev.now _))

end Go.Proofs.Ythjdocddohijnaa.Pure
