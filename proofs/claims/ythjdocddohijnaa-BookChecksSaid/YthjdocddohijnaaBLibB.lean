/- The plain law behind the row: what the printed functions of this law compute answers true, for every input that the row lets in. -/
import Derived.Test.YthjdocddohijnaaBLibA
import Derived.Test.YthjdocddohijnaaBKx13
namespace Go.Proofs.Ythjdocddohijnaa.Pure
set_option linter.unusedVariables false
set_option linter.unusedSimpArgs false
open Go.RowKit Go.Proofs.Ythjdocddohijnaa.BK Go.Proofs.YthjdocddohijnaaW.PrintWords Go.Proofs.YthjdocddohijnaaW.PrintLast

-- split
/-- the greatest power of two below n -/
def sp (n : Nat) : Nat := 2 ^ Nat.log2 (n - 1)
theorem sp_lt (n : Nat) (h : 2 ≤ n) : sp n < n := by
  have := Nat.log2_self_le (n := n - 1) (by omega)
  unfold sp; omega
theorem sp_pos (n : Nat) : 0 < sp n := Nat.pow_pos (by decide)
theorem split_at : ∀ n : Fin 63, book_split.f 8 ((n.val + 2 : Nat) : Int) = some ((sp (n.val + 2) : Nat) : Int) := by decide +kernel
theorem rsplit_at : ∀ n : Fin 63, wigeonref09_split.f 12 ((n.val + 2 : Nat) : Int) = some ((sp (n.val + 2) : Nat) : Int) := by decide +kernel
theorem split_ev (n : Nat) (h : 2 ≤ n) (h2 : n ≤ 64) : Ev (fun k => book_split.f k (n : Int)) ((sp n : Nat) : Int) := by
  have := split_at ⟨n - 2, by omega⟩
  rw [show n - 2 + 2 = n by omega] at this
  exact Ev.of (book_split.mono _) this
theorem rsplit_ev (n : Nat) (h : 2 ≤ n) (h2 : n ≤ 64) : Ev (fun k => wigeonref09_split.f k (n : Int)) ((sp n : Nat) : Int) := by
  have := rsplit_at ⟨n - 2, by omega⟩
  rw [show n - 2 + 2 = n by omega] at this
  exact Ev.of (wigeonref09_split.mono _) this

-- root
/-- the root of sums -/
def rt (l : List Int) : Int :=
  if h : l.length ≤ 1 then l.headD 0 else jn (rt (l.take (sp l.length))) (rt (l.drop (sp l.length)))
termination_by l.length
decreasing_by
  · have := sp_lt l.length (by omega); rw [List.length_take]; omega
  · have := sp_pos l.length; rw [List.length_drop]; omega
theorem rt_nil : rt [] = 0 := by rw [rt]; simp
theorem rt_one (x : Int) : rt [x] = x := by rw [rt]; simp
theorem rt_two (l : List Int) (h : 2 ≤ l.length) : rt l = jn (rt (l.take (sp l.length))) (rt (l.drop (sp l.length))) := by
  rw [rt, dif_neg (by omega)]
theorem rt_range : ∀ (n : Nat) (l : List Int), l.length ≤ n → (∀ x ∈ l, sumP x) → sumP (rt l)
  | 0, l, h, _ => by
    obtain rfl : l = [] := List.length_eq_zero_iff.1 (by omega)
    rw [rt_nil]; exact ⟨by decide, by decide⟩
  | n + 1, l, h, hl => by
    match l, h, hl with
    | [], _, _ => rw [rt_nil]; exact ⟨by decide, by decide⟩
    | [x], _, hl => rw [rt_one]; exact hl x List.mem_cons_self
    | x :: y :: l, h, hl =>
      have h2 : 2 ≤ (x :: y :: l).length := by simp
      have a := sp_lt _ h2
      have b := sp_pos (x :: y :: l).length
      rw [rt_two _ h2]
      exact jn_range _ _ (rt_range n _ (by rw [List.length_take]; omega) (fun z hz => hl z (List.mem_of_mem_take hz))) (rt_range n _ (by rw [List.length_drop]; omega) (fun z hz => hl z (List.mem_of_mem_drop hz)))
theorem root_ev : ∀ (n : Nat) (l : List Int), l.length ≤ n → l.length ≤ 64 → Ev (fun k => book_root.f k l) (rt l)
  | 0, l, h, h64 => by
    obtain rfl : l = [] := List.length_eq_zero_iff.1 (by omega)
    refine Ev.step (fun k => book_root.f.eq_2 ..) (evp (by simp) ?_)
    rw [rt_nil]; exact Ev.now _
  | n + 1, l, h, h64 => by
    by_cases h0 : l.length = 0
    · obtain rfl : l = [] := List.length_eq_zero_iff.1 h0
      refine Ev.step (fun k => book_root.f.eq_2 ..) (evp (by simp) ?_)
      rw [rt_nil]; exact Ev.now _
    by_cases h1 : l.length = 1
    · obtain ⟨x, rfl⟩ := List.length_eq_one_iff.1 h1
      refine Ev.step (fun k => book_root.f.eq_2 ..) (evn (by simp) (evp (by simp) (evp (by simp) ?_)))
      rw [rt_one, show rd [x] 0 = x from rfl]; exact Ev.now _
    have h2 : 2 ≤ l.length := by omega
    have a := sp_lt _ h2
    have b := sp_pos l.length
    refine Ev.step (fun k => book_root.f.eq_2 ..) (evn (by omega) (evn (by omega) (evb (split_ev _ h2 h64) (evp (by omega) (evp (by omega) ?_)))))
    rw [Int.toNat_natCast]
    refine evb (root_ev n _ (by rw [List.length_take]; omega) (by rw [List.length_take]; omega)) (evb (root_ev n _ (by rw [List.length_drop]; omega) (by rw [List.length_drop]; omega)) (evs (join_eq _ _) ?_))
    rw [rt_two _ h2]; exact Ev.now _
theorem rroot_ev : ∀ (n : Nat) (l : List Int), l.length ≤ n → l.length ≤ 64 → Ev (fun k => wigeonref09_root.f k l) (rt l)
  | 0, l, h, h64 => by
    obtain rfl : l = [] := List.length_eq_zero_iff.1 (by omega)
    refine Ev.step (fun k => wigeonref09_root.f.eq_2 ..) (evp (by simp) ?_)
    rw [rt_nil]; exact Ev.now _
  | n + 1, l, h, h64 => by
    by_cases h0 : l.length = 0
    · obtain rfl : l = [] := List.length_eq_zero_iff.1 h0
      refine Ev.step (fun k => wigeonref09_root.f.eq_2 ..) (evp (by simp) ?_)
      rw [rt_nil]; exact Ev.now _
    by_cases h1 : l.length = 1
    · obtain ⟨x, rfl⟩ := List.length_eq_one_iff.1 h1
      refine Ev.step (fun k => wigeonref09_root.f.eq_2 ..) (evn (by simp) (evp (by simp) (evp (by simp) ?_)))
      rw [rt_one, show rd [x] 0 = x from rfl]; exact Ev.now _
    have h2 : 2 ≤ l.length := by omega
    have a := sp_lt _ h2
    have b := sp_pos l.length
    refine Ev.step (fun k => wigeonref09_root.f.eq_2 ..) (evn (by omega) (evn (by omega) (evb (rsplit_ev _ h2 h64) (evp (by omega) (evp (by omega) ?_)))))
    rw [Int.toNat_natCast]
    refine evb (rroot_ev n _ (by rw [List.length_take]; omega) (by rw [List.length_take]; omega)) (evb (rroot_ev n _ (by rw [List.length_drop]; omega) (by rw [List.length_drop]; omega)) (evs (rjoin_eq _ _) ?_))
    rw [rt_two _ h2]; exact Ev.now _

-- validate
def vP (l : List ByteArray) : Int := if l.length > 64 then 3 else if l.all pageB then 0 else 1
theorem vP_l0 (l : List ByteArray) (hl : l.length ≤ 64) : ∀ d i : Nat, i + d = l.length → Ev (fun k => book_ValidatePages.l0 k l (l.length : Int) (i : Int)) (if (l.drop i).all pageB then (0 : Int) else 1)
  | 0, i, h => by
    refine Ev.step (fun k => book_ValidatePages.l0.eq_2 ..) (evn (by omega) ?_)
    rw [List.drop_eq_nil_of_le (by omega)]; exact Ev.now _
  | d + 1, i, h => by
    have hlt : i < l.length := by omega
    have R := vP_l0 l hl d (i + 1) (by omega)
    refine Ev.step (fun k => book_ValidatePages.l0.eq_2 ..) (evp (by omega) (evp (by omega) (evp (by omega) (evs rfl ?_))))
    rw [rdS_at l i hlt, List.drop_eq_getElem_cons hlt, List.all_cons, w64 (by omega) (by omega)]
    cases pageB l[i]
    · exact evn (by decide) (Ev.now _)
    · exact evp rfl (by rw [Bool.true_and]; exact R)
theorem vP_ev (l : List ByteArray) (hl : l.length ≤ 1000) : Ev (fun k => book_ValidatePages.f k l) (vP l) := by
  unfold book_ValidatePages.f vP
  by_cases h : l.length > 64
  · rw [if_pos h]; exact evp (by omega) (Ev.now _)
  · rw [if_neg h]; exact evn (by omega) (vP_l0 l (by omega) l.length 0 (by omega))
theorem rvP_l0 (l : List ByteArray) (hl : l.length ≤ 64) (hs : ∀ s ∈ l, s.size ≤ 9223372036854775807) : ∀ d i : Nat, i + d = l.length → Ev (fun k => wigeonref09_ValidatePages.l0 k l (i : Int)) (if (l.drop i).all pageB then (0 : Int) else 1)
  | 0, i, h => by
    refine Ev.step (fun k => wigeonref09_ValidatePages.l0.eq_2 ..) (evn (by omega) ?_)
    rw [List.drop_eq_nil_of_le (by omega)]; exact Ev.now _
  | d + 1, i, h => by
    have hlt : i < l.length := by omega
    have R := rvP_l0 l hl hs d (i + 1) (by omega)
    refine Ev.step (fun k => wigeonref09_ValidatePages.l0.eq_2 ..) (evp (by omega) (evp (by omega) ?_))
    rw [rdS_at l i hlt, List.drop_eq_getElem_cons hlt, List.all_cons, w64 (by omega) (by omega)]
    refine evb (rIsPage_ev _ (hs _ (List.getElem_mem hlt))) ?_
    cases pageB l[i]
    · exact evn (by decide) (Ev.now _)
    · exact evp rfl (by rw [Bool.true_and]; exact R)
theorem rvP_ev (l : List ByteArray) (hl : l.length ≤ 1000) (hs : ∀ s ∈ l, s.size ≤ 9223372036854775807) : Ev (fun k => wigeonref09_ValidatePages.f k l) (vP l) := by
  unfold wigeonref09_ValidatePages.f vP
  by_cases h : l.length > 64
  · rw [if_pos h]; exact evp (by omega) (Ev.now _)
  · rw [if_neg h]; exact evn (by omega) (rvP_l0 l (by omega) hs l.length 0 (by omega))
theorem vP_cases (l : List ByteArray) : (vP l = 0 ∧ l.length ≤ 64 ∧ ∀ s ∈ l, pageB s = true) ∨ vP l ≠ 0 := by
  unfold vP
  by_cases h : l.length > 64
  · rw [if_pos h]; exact Or.inr (by decide)
  · rw [if_neg h]
    by_cases h2 : l.all pageB = true
    · rw [if_pos h2]; exact Or.inl ⟨rfl, by omega, fun s hs => List.all_eq_true.1 h2 s hs⟩
    · rw [if_neg h2]; exact Or.inr (by decide)
theorem vP_zero (l : List ByteArray) (h1 : l.length ≤ 64) (h2 : ∀ s ∈ l, pageB s = true) : vP l = 0 := by
  unfold vP; rw [if_neg (by omega), if_pos (List.all_eq_true.2 h2)]

-- leaves
def lvs (l : List ByteArray) : List Int := l.map leafV
theorem lvs_length (l : List ByteArray) : (lvs l).length = l.length := List.length_map _
theorem lvs_range (l : List ByteArray) : ∀ x ∈ lvs l, sumP x := by
  intro x hx
  obtain ⟨s, _, rfl⟩ := List.mem_map.1 hx
  exact leaf_range s
theorem leaves_l0 (l : List ByteArray) (hl : l.length ≤ 64) (hs : ∀ s ∈ l, s.size ≤ 1000) : ∀ (d i : Nat) (acc : List Int), i + d = l.length → acc.length + d ≤ 64 → Ev (fun k => book_leaves.l0 k acc l (l.length : Int) (i : Int)) (acc ++ lvs (l.drop i))
  | 0, i, acc, h, _ => by
    refine Ev.step (fun k => book_leaves.l0.eq_2 ..) (evn (by omega) ?_)
    rw [List.drop_eq_nil_of_le (by omega)]; simp [lvs]; exact Ev.now _
  | d + 1, i, acc, h, ha => by
    have hlt : i < l.length := by omega
    refine Ev.step (fun k => book_leaves.l0.eq_2 ..) (evp (by omega) (evp (by omega) (evp (by omega) ?_)))
    rw [rdS_at l i hlt]
    refine evs (leaf_eq _ (by have := hs _ (List.getElem_mem hlt); omega)) (evp (by omega) ?_)
    rw [w64 (by omega) (by omega)]
    have R := leaves_l0 l hl hs d (i + 1) (acc ++ [leafV l[i]]) (by omega) (by simp; omega)
    rw [List.drop_eq_getElem_cons hlt]
    rw [show acc ++ lvs (l[i] :: l.drop (i + 1)) = acc ++ [leafV l[i]] ++ lvs (l.drop (i + 1)) from (List.append_assoc acc [leafV l[i]] _).symm]
    exact R
theorem leaves_ev (l : List ByteArray) (hl : l.length ≤ 64) (hs : ∀ s ∈ l, s.size ≤ 1000) : Ev (fun k => book_leaves.f k l) (lvs l) := by
  have := leaves_l0 l hl hs l.length 0 [] (by omega) (by simp; omega)
  rwa [List.nil_append] at this
theorem rleaves_l0 (l : List ByteArray) (hl : l.length ≤ 64) (hs : ∀ s ∈ l, s.size ≤ 1000) : ∀ (d i : Nat) (acc : List Int), i + d = l.length → acc.length + d ≤ 64 → Ev (fun k => wigeonref09_leaves.l0 k l acc (i : Int)) (acc ++ lvs (l.drop i))
  | 0, i, acc, h, _ => by
    refine Ev.step (fun k => wigeonref09_leaves.l0.eq_2 ..) (evn (by omega) ?_)
    rw [List.drop_eq_nil_of_le (by omega)]; simp [lvs]; exact Ev.now _
  | d + 1, i, acc, h, ha => by
    have hlt : i < l.length := by omega
    refine Ev.step (fun k => wigeonref09_leaves.l0.eq_2 ..) (evp (by omega) (evp (by omega) ?_))
    rw [rdS_at l i hlt]
    refine evb (rleaf_ev _ (by have := hs _ (List.getElem_mem hlt); omega)) (evp (by omega) ?_)
    rw [w64 (by omega) (by omega)]
    have R := rleaves_l0 l hl hs d (i + 1) (acc ++ [leafV l[i]]) (by omega) (by simp; omega)
    rw [List.drop_eq_getElem_cons hlt]
    rw [show acc ++ lvs (l[i] :: l.drop (i + 1)) = acc ++ [leafV l[i]] ++ lvs (l.drop (i + 1)) from (List.append_assoc acc [leafV l[i]] _).symm]
    exact R
theorem rleaves_ev (l : List ByteArray) (hl : l.length ≤ 64) (hs : ∀ s ∈ l, s.size ≤ 1000) : Ev (fun k => wigeonref09_leaves.f k l) (lvs l) := by
  have := rleaves_l0 l hl hs l.length 0 [] (by omega) (by simp; omega)
  rwa [List.nil_append] at this

-- Root
def rootR (l : List ByteArray) : Int × Int := if vP l = 0 then (rt (lvs l), 0) else (0, vP l)
theorem Root_ev (l : List ByteArray) (hl : l.length ≤ 1000) : Ev (fun k => book_Root.f k l) (rootR l) := by
  unfold book_Root.f rootR
  refine evb (vP_ev l hl) ?_
  rcases vP_cases l with ⟨h, h64, hp⟩ | h
  · rw [if_pos h]
    exact evp h (evb (leaves_ev l h64 (fun s hs => by have := page_small s (hp s hs); omega)) (evb (root_ev 64 _ (by rw [lvs_length]; omega) (by rw [lvs_length]; omega)) (Ev.now _)))
  · rw [if_neg h]
    exact evn h (Ev.now _)
theorem rRoot_ev (l : List ByteArray) (hl : l.length ≤ 1000) (hs : ∀ s ∈ l, s.size ≤ 9223372036854775807) : Ev (fun k => wigeonref09_Root.f k l) (rootR l) := by
  unfold wigeonref09_Root.f rootR
  refine evb (rvP_ev l hl hs) ?_
  rcases vP_cases l with ⟨h, h64, hp⟩ | h
  · rw [if_pos h]
    exact evp h (evb (rleaves_ev l h64 (fun s hs => by have := page_small s (hp s hs); omega)) (evb (rroot_ev 64 _ (by rw [lvs_length]; omega) (by rw [lvs_length]; omega)) (Ev.now _)))
  · rw [if_neg h]
    exact evn h (Ev.now _)

-- Long
def longB (l : List ByteArray) : Bool := l.any (fun s => decide (200 < s.size)) || decide (100 < l.length)
theorem Long_l0 (l : List ByteArray) (hl : l.length ≤ 9223372036854775807) : ∀ d i : Nat, i + d = l.length → Ev (fun k => wigeonlaw09_Long.l0 k l (i : Int)) ((l.drop i).any (fun s => decide (200 < s.size)) || decide (100 < l.length))
  | 0, i, h => by
    refine Ev.step (fun k => wigeonlaw09_Long.l0.eq_2 ..) (evn (by omega) ?_)
    rw [List.drop_eq_nil_of_le (by omega), List.any_nil, Bool.false_or, show decide (100 < l.length) = decide ((l.length : Int) > 100) from decide_eq_decide.2 (by omega)]; exact Ev.now _
  | d + 1, i, h => by
    have hlt : i < l.length := by omega
    have R := Long_l0 l hl d (i + 1) (by omega)
    refine Ev.step (fun k => wigeonlaw09_Long.l0.eq_2 ..) (evp (by omega) (evp (by omega) ?_))
    rw [rdS_at l i hlt, List.drop_eq_getElem_cons hlt, List.any_cons]
    by_cases h2 : 200 < l[i].size
    · refine evp (by omega) ?_
      rw [decide_eq_true h2, Bool.true_or, Bool.true_or]; exact Ev.now _
    · refine evn (by omega) ?_
      rw [decide_eq_false h2, Bool.false_or, w64 (by omega) (by omega)]; exact R
theorem Long_ev (l : List ByteArray) (hl : l.length ≤ 9223372036854775807) : Ev (fun k => wigeonlaw09_Long.f k l) (longB l) := Long_l0 l hl l.length 0 (by omega)
theorem long_not (l : List ByteArray) (h : ¬ longB l = true) : l.length ≤ 100 ∧ ∀ s ∈ l, s.size ≤ 200 := by
  unfold longB at h
  simp only [Bool.or_eq_true, List.any_eq_true, decide_eq_true_eq, not_or, not_exists, not_and] at h
  exact ⟨by omega, fun s hs => by have := h.1 s hs; omega⟩

-- Split
def splitR (n : Int) : Int × Int := if n < 2 ∨ 64 < n then (0, 1) else ((sp n.toNat : Nat), 0)
theorem Split_ev (n : Int) : Ev (fun k => book_Split.f k n) (splitR n) := by
  unfold book_Split.f splitR
  by_cases h : n < 2
  · rw [if_pos (Or.inl h)]; exact evp h (Ev.now _)
  · refine evn h ?_
    by_cases h2 : n > 64
    · rw [if_pos (Or.inr h2)]; exact evp h2 (Ev.now _)
    · rw [if_neg (by omega)]
      obtain ⟨m, rfl⟩ := Int.eq_ofNat_of_zero_le (show 0 ≤ n by omega)
      exact evn h2 (evb (split_ev m (by omega) (by omega)) (Ev.now _))
theorem rSplit_ev (n : Int) : Ev (fun k => wigeonref09_Split.f k n) (splitR n) := by
  unfold wigeonref09_Split.f splitR
  by_cases h : n < 2
  · rw [if_pos (Or.inl h)]; exact evp h (Ev.now _)
  · refine evn h ?_
    by_cases h2 : n > 64
    · rw [if_pos (Or.inr h2)]; exact evp h2 (Ev.now _)
    · rw [if_neg (by omega)]
      obtain ⟨m, rfl⟩ := Int.eq_ofNat_of_zero_le (show 0 ≤ n by omega)
      exact evn h2 (evb (rsplit_ev m (by omega) (by omega)) (Ev.now _))


end Go.Proofs.Ythjdocddohijnaa.Pure
