/- Of the text PureBookWrites, what the row of BookWrites reaches. -/
import Derived.Test.YtfccgfjiplnmfaaDoorZBookWritesBAx34
import Derived.Lib.AtoiAllCases
namespace Go.Proofs.YtfccgfjiplnmfaaDoor.Pure
set_option linter.unusedVariables false
set_option linter.unusedSimpArgs false
open Go.RowKit Go.Proofs.YtfccgfjiplnmfaaDoor.BA Go.Proofs.YtfccgfjiplnmfaaDoorW.PrintWords Go.Proofs.YtfccgfjiplnmfaaDoorW.PrintLast

theorem evp {α : Type} {c : Prop} [Decidable c] {f g : Nat → Option α} {r : α} (h : c) (k : Ev f r) : Ev (fun n => if c then f n else g n) r :=
  Ev.congr (fun _ => if_pos h) k
theorem evn {α : Type} {c : Prop} [Decidable c] {f g : Nat → Option α} {r : α} (h : ¬ c) (k : Ev g r) : Ev (fun n => if c then f n else g n) r :=
  Ev.congr (fun _ => if_neg h) k
theorem evb {α β : Type} {g : Nat → Option α} {f : Nat → α → Option β} {a : α} {r : β} (h : Ev g a) (k : Ev (fun n => f n a) r) : Ev (fun n => (g n).bind (f n)) r := Ev.bind h k
theorem evs {α β : Type} {x : Option α} {f : Nat → α → Option β} {a : α} {r : β} (h : x = some a) (k : Ev (fun n => f n a) r) : Ev (fun n => x.bind (f n)) r := by
  subst h; exact k
theorem w64 {n : Int} (h : -9223372036854775808 ≤ n) (h2 : n ≤ 9223372036854775807) : wrap64 n = n := by unfold wrap64; omega
theorem rd_at (l : List Int) (i : Nat) (h : i < l.length) : rd l (i : Int) = l[i] := by
  simp [rd, List.getD_eq_getElem?_getD, List.getElem?_eq_getElem h]
theorem rdS_at (l : List ByteArray) (i : Nat) (h : i < l.length) : rdOf ByteArray.empty l (i : Int) = l[i] := by
  simp [rdOf, List.getD_eq_getElem?_getD, List.getElem?_eq_getElem h]
theorem bt_bytes (s : ByteArray) (i : Nat) (h : i < (bytesOf s).length) : bt s (i : Int) = (bytesOf s)[i] := by
  rw [← rd_bytesOf, rd_at _ _ h]

theorem rIsPage_l0 (s : ByteArray) (hs : s.size ≤ 9223372036854775807) : ∀ d i : Nat, i + d = s.size → Ev (fun k => wigeonref09_IsPage.l0 k s (i : Int)) (decide (1 ≤ s.size ∧ s.size ≤ 60) && !(((bytesOf s).drop i).any (fun c => decide (c < 32) || decide (126 < c))))
  | 0, i, h => by
    refine Ev.step (fun k => wigeonref09_IsPage.l0.eq_2 ..) (evn (by omega) ?_)
    rw [List.drop_eq_nil_of_le (by rw [bytesOf_length]; omega), List.any_nil, Bool.not_false, Bool.and_true]
    by_cases h1 : 1 ≤ s.size
    · refine evp (by omega) ?_
      rw [show decide (1 ≤ s.size ∧ s.size ≤ 60) = decide ((s.size : Int) ≤ 60) from decide_eq_decide.2 (by omega)]
      exact Ev.now _
    · refine evn (by omega) ?_
      rw [show decide (1 ≤ s.size ∧ s.size ≤ 60) = false from decide_eq_false (by omega)]
      exact Ev.now _
  | d + 1, i, h => by
    have hl : i < (bytesOf s).length := by rw [bytesOf_length]; omega
    have R := rIsPage_l0 s hs d (i + 1) (by omega)
    refine Ev.step (fun k => wigeonref09_IsPage.l0.eq_2 ..) (evp (by omega) (evp (by omega) ?_))
    rw [bt_bytes s i hl, List.drop_eq_getElem_cons hl, List.any_cons, w64 (by omega) (by omega)]
    generalize (bytesOf s)[i] = c at *
    by_cases h1 : c < 32
    · refine evp h1 ?_
      rw [show decide (c < 32) = true from decide_eq_true h1, Bool.true_or, Bool.true_or, Bool.not_true, Bool.and_false]; exact Ev.now _
    · refine evn h1 ?_
      rw [show decide (c < 32) = false from decide_eq_false h1, Bool.false_or]
      by_cases h2 : c > 126
      · refine evp h2 ?_
        rw [show decide (126 < c) = true from decide_eq_true h2, Bool.true_or, Bool.not_true, Bool.and_false]; exact Ev.now _
      · refine evn h2 ?_
        rw [show decide (126 < c) = false from decide_eq_false h2, Bool.false_or]
        exact R
theorem rIsPage_ev (s : ByteArray) (hs : s.size ≤ 9223372036854775807) : Ev (fun k => wigeonref09_IsPage.f k s) (pageB s) := rIsPage_l0 s hs s.size 0 (by omega)
theorem page_small (s : ByteArray) (h : pageB s = true) : s.size ≤ 60 := by
  unfold pageB at h
  simp only [Bool.and_eq_true, decide_eq_true_eq] at h
  exact h.1.2
theorem rleaf_l0 (s : ByteArray) (hs : s.size ≤ 1000000) : ∀ d i : Nat, i + d = s.size → Ev (fun k => wigeonref09_leaf.l0 k s (((bytesOf s).take i).foldl (fun x c => (wrap64 (wrap64 (wrap64 (x * 257) + c) + 1)).tmod 2147483647) 1) (i : Int)) (leafV s)
  | 0, i, h => by
    refine Ev.step (fun k => wigeonref09_leaf.l0.eq_2 ..) (evn (by omega) ?_)
    rw [List.take_of_length_le (by rw [bytesOf_length]; omega)]
    exact Ev.now _
  | d + 1, i, h => by
    have hl : i < (bytesOf s).length := by rw [bytesOf_length]; omega
    have R := rleaf_l0 s hs d (i + 1) (by omega)
    refine Ev.step (fun k => wigeonref09_leaf.l0.eq_2 ..) (evp (by omega) (evp (by omega) ?_))
    have hb := bytesOf_range s _ (List.getElem_mem hl)
    rw [leafV_snoc s i hl] at R
    rw [bt_bytes s i hl, w64 (n := (bytesOf s)[i]) (by omega) (by omega), w64 (n := (i : Int) + 1) (by omega) (by omega)]
    exact R
theorem rleaf_ev (s : ByteArray) (hs : s.size ≤ 1000000) : Ev (fun k => wigeonref09_leaf.f k s) (leafV s) := rleaf_l0 s hs s.size 0 (by omega)
theorem leaf_eq (s : ByteArray) (hs : s.size ≤ 1000000) : book_leaf.f s = some (leafV s) := if_pos hs
theorem fold_range : ∀ (l : List Int) (x : Int), (∀ c ∈ l, 0 ≤ c ∧ c ≤ 255) → 0 ≤ x → x < 2147483647 → 0 ≤ l.foldl (fun x c => (wrap64 (wrap64 (wrap64 (x * 257) + c) + 1)).tmod 2147483647) x ∧ l.foldl (fun x c => (wrap64 (wrap64 (wrap64 (x * 257) + c) + 1)).tmod 2147483647) x < 2147483647
  | [], x, _, h0, h1 => ⟨h0, h1⟩
  | c :: l, x, h, h0, h1 => by
    obtain ⟨c0, c1⟩ := h c List.mem_cons_self
    rw [List.foldl_cons]
    refine fold_range l _ (fun d hd => h d (List.mem_cons_of_mem _ hd)) ?_ ?_
    · rw [w64 (n := x * 257) (by omega) (by omega), w64 (n := x * 257 + c) (by omega) (by omega), w64 (n := x * 257 + c + 1) (by omega) (by omega), Int.tmod_eq_emod_of_nonneg (by omega)]; omega
    · rw [w64 (n := x * 257) (by omega) (by omega), w64 (n := x * 257 + c) (by omega) (by omega), w64 (n := x * 257 + c + 1) (by omega) (by omega), Int.tmod_eq_emod_of_nonneg (by omega)]; omega
def sumP (x : Int) : Prop := 0 ≤ x ∧ x < 2147483647
instance (x : Int) : Decidable (sumP x) := by unfold sumP; exact inferInstance
theorem leaf_range (s : ByteArray) : sumP (leafV s) := fold_range _ 1 (bytesOf_range s) (by decide) (by decide)

def jn (x y : Int) : Int := Int.tmod (wrap64 ((wrap64 ((wrap64 (x * 48271)) + (wrap64 (y * 16807)))) + 1)) 2147483647
theorem jn_range (x y : Int) (hx : sumP x) (hy : sumP y) : sumP (jn x y) := by
  obtain ⟨a, b⟩ := hx
  obtain ⟨c, d⟩ := hy
  unfold jn sumP
  rw [w64 (n := x * 48271) (by omega) (by omega), w64 (n := y * 16807) (by omega) (by omega), w64 (n := x * 48271 + y * 16807) (by omega) (by omega), w64 (n := x * 48271 + y * 16807 + 1) (by omega) (by omega), Int.tmod_eq_emod_of_nonneg (by omega)]
  omega
theorem join_eq (x y : Int) : book_join.f x y = some (jn x y) := rfl
theorem rjoin_eq (x y : Int) : wigeonref09_join.f x y = some (jn x y) := rfl
theorem isSum_eq (l : List Int) : book_isSum.f l = some (decide (∀ x ∈ l, sumP x)) := by
  unfold book_isSum.f cf_isSum.f
  rw [Option.bind_some]
  congr 1
  by_cases h : ∀ x ∈ l, sumP x
  · rw [decide_eq_true h, show (l.any fun x => decide (x < 0) || decide (x ≥ 2147483647)) = false from List.any_eq_false.2 (fun x hx => by have := h x hx; unfold sumP at this; simp; omega)]; rfl
  · rw [decide_eq_false h]
    have : (l.any fun x => decide (x < 0) || decide (x ≥ 2147483647)) = true := by
      rw [List.any_eq_true]
      refine Classical.byContradiction fun hn => h fun x hx => ?_
      unfold sumP
      refine Classical.byContradiction fun hs => hn ⟨x, hx, by simp; omega⟩
    rw [this]; rfl

theorem known_at : wigeonlaw09_known.f 100 = some true := by decide +kernel
theorem known_ev : Ev (fun k => wigeonlaw09_known.f k) true := Ev.of wigeonlaw09_known.mono known_at

/-- the greatest power of two below n -/
def sp (n : Nat) : Nat := 2 ^ Nat.log2 (n - 1)
theorem sp_lt (n : Nat) (h : 2 ≤ n) : sp n < n := by
  have := Nat.log2_self_le (n := n - 1) (by omega)
  unfold sp; omega
theorem sp_pos (n : Nat) : 0 < sp n := Nat.pow_pos (by decide)
theorem split_at : ∀ n : Fin 63, book_split.f 8 ((n.val + 2 : Nat) : Int) = some ((sp (n.val + 2) : Nat) : Int) := by decide +kernel
theorem rsplit_at : ∀ n : Fin 63, wigeonref09_split.f 12 ((n.val + 2 : Nat) : Int) = some ((sp (n.val + 2) : Nat) : Int) := by decide +kernel
theorem split_ev (n : Nat) (h : 2 ≤ n) (h2 : n ≤ 64) : Ev (fun k => book_split.f k (n : Int)) ((sp n : Nat) : Int) := by
  have := split_at ⟨n - 2, by omega⟩
  rw [show n - 2 + 2 = n by omega] at this
  exact Ev.of (book_split.mono _) this
theorem rsplit_ev (n : Nat) (h : 2 ≤ n) (h2 : n ≤ 64) : Ev (fun k => wigeonref09_split.f k (n : Int)) ((sp n : Nat) : Int) := by
  have := rsplit_at ⟨n - 2, by omega⟩
  rw [show n - 2 + 2 = n by omega] at this
  exact Ev.of (wigeonref09_split.mono _) this

/-- the root of sums -/
def rt (l : List Int) : Int :=
  if h : l.length ≤ 1 then l.headD 0 else jn (rt (l.take (sp l.length))) (rt (l.drop (sp l.length)))
termination_by l.length
decreasing_by
  · have := sp_lt l.length (by omega); rw [List.length_take]; omega
  · have := sp_pos l.length; rw [List.length_drop]; omega
theorem rt_nil : rt [] = 0 := by rw [rt]; simp
theorem rt_one (x : Int) : rt [x] = x := by rw [rt]; simp
theorem rt_two (l : List Int) (h : 2 ≤ l.length) : rt l = jn (rt (l.take (sp l.length))) (rt (l.drop (sp l.length))) := by
  rw [rt, dif_neg (by omega)]
theorem rt_range : ∀ (n : Nat) (l : List Int), l.length ≤ n → (∀ x ∈ l, sumP x) → sumP (rt l)
  | 0, l, h, _ => by
    obtain rfl : l = [] := List.length_eq_zero_iff.1 (by omega)
    rw [rt_nil]; exact ⟨by decide, by decide⟩
  | n + 1, l, h, hl => by
    match l, h, hl with
    | [], _, _ => rw [rt_nil]; exact ⟨by decide, by decide⟩
    | [x], _, hl => rw [rt_one]; exact hl x List.mem_cons_self
    | x :: y :: l, h, hl =>
      have h2 : 2 ≤ (x :: y :: l).length := by simp
      have a := sp_lt _ h2
      have b := sp_pos (x :: y :: l).length
      rw [rt_two _ h2]
      exact jn_range _ _ (rt_range n _ (by rw [List.length_take]; omega) (fun z hz => hl z (List.mem_of_mem_take hz))) (rt_range n _ (by rw [List.length_drop]; omega) (fun z hz => hl z (List.mem_of_mem_drop hz)))
theorem root_ev : ∀ (n : Nat) (l : List Int), l.length ≤ n → l.length ≤ 64 → Ev (fun k => book_root.f k l) (rt l)
  | 0, l, h, h64 => by
    obtain rfl : l = [] := List.length_eq_zero_iff.1 (by omega)
    refine Ev.step (fun k => book_root.f.eq_2 ..) (evp (by simp) ?_)
    rw [rt_nil]; exact Ev.now _
  | n + 1, l, h, h64 => by
    by_cases h0 : l.length = 0
    · obtain rfl : l = [] := List.length_eq_zero_iff.1 h0
      refine Ev.step (fun k => book_root.f.eq_2 ..) (evp (by simp) ?_)
      rw [rt_nil]; exact Ev.now _
    by_cases h1 : l.length = 1
    · obtain ⟨x, rfl⟩ := List.length_eq_one_iff.1 h1
      refine Ev.step (fun k => book_root.f.eq_2 ..) (evn (by simp) (evp (by simp) (evp (by simp) ?_)))
      rw [rt_one, show rd [x] 0 = x from rfl]; exact Ev.now _
    have h2 : 2 ≤ l.length := by omega
    have a := sp_lt _ h2
    have b := sp_pos l.length
    refine Ev.step (fun k => book_root.f.eq_2 ..) (evn (by omega) (evn (by omega) (evb (split_ev _ h2 h64) (evp (by omega) (evp (by omega) ?_)))))
    rw [Int.toNat_natCast]
    refine evb (root_ev n _ (by rw [List.length_take]; omega) (by rw [List.length_take]; omega)) (evb (root_ev n _ (by rw [List.length_drop]; omega) (by rw [List.length_drop]; omega)) (evs (join_eq _ _) ?_))
    rw [rt_two _ h2]; exact Ev.now _
theorem rroot_ev : ∀ (n : Nat) (l : List Int), l.length ≤ n → l.length ≤ 64 → Ev (fun k => wigeonref09_root.f k l) (rt l)
  | 0, l, h, h64 => by
    obtain rfl : l = [] := List.length_eq_zero_iff.1 (by omega)
    refine Ev.step (fun k => wigeonref09_root.f.eq_2 ..) (evp (by simp) ?_)
    rw [rt_nil]; exact Ev.now _
  | n + 1, l, h, h64 => by
    by_cases h0 : l.length = 0
    · obtain rfl : l = [] := List.length_eq_zero_iff.1 h0
      refine Ev.step (fun k => wigeonref09_root.f.eq_2 ..) (evp (by simp) ?_)
      rw [rt_nil]; exact Ev.now _
    by_cases h1 : l.length = 1
    · obtain ⟨x, rfl⟩ := List.length_eq_one_iff.1 h1
      refine Ev.step (fun k => wigeonref09_root.f.eq_2 ..) (evn (by simp) (evp (by simp) (evp (by simp) ?_)))
      rw [rt_one, show rd [x] 0 = x from rfl]; exact Ev.now _
    have h2 : 2 ≤ l.length := by omega
    have a := sp_lt _ h2
    have b := sp_pos l.length
    refine Ev.step (fun k => wigeonref09_root.f.eq_2 ..) (evn (by omega) (evn (by omega) (evb (rsplit_ev _ h2 h64) (evp (by omega) (evp (by omega) ?_)))))
    rw [Int.toNat_natCast]
    refine evb (rroot_ev n _ (by rw [List.length_take]; omega) (by rw [List.length_take]; omega)) (evb (rroot_ev n _ (by rw [List.length_drop]; omega) (by rw [List.length_drop]; omega)) (evs (rjoin_eq _ _) ?_))
    rw [rt_two _ h2]; exact Ev.now _

def vP (l : List ByteArray) : Int := if l.length > 64 then 3 else if l.all pageB then 0 else 1
theorem vP_l0 (l : List ByteArray) (hl : l.length ≤ 64) : ∀ d i : Nat, i + d = l.length → Ev (fun k => book_ValidatePages.l0 k l (l.length : Int) (i : Int)) (if (l.drop i).all pageB then (0 : Int) else 1)
  | 0, i, h => by
    refine Ev.step (fun k => book_ValidatePages.l0.eq_2 ..) (evn (by omega) ?_)
    rw [List.drop_eq_nil_of_le (by omega)]; exact Ev.now _
  | d + 1, i, h => by
    have hlt : i < l.length := by omega
    have R := vP_l0 l hl d (i + 1) (by omega)
    refine Ev.step (fun k => book_ValidatePages.l0.eq_2 ..) (evp (by omega) (evp (by omega) (evp (by omega) (evs rfl ?_))))
    rw [rdS_at l i hlt, List.drop_eq_getElem_cons hlt, List.all_cons, w64 (by omega) (by omega)]
    cases pageB l[i]
    · exact evn (by decide) (Ev.now _)
    · exact evp rfl (by rw [Bool.true_and]; exact R)
theorem vP_ev (l : List ByteArray) (hl : l.length ≤ 1000) : Ev (fun k => book_ValidatePages.f k l) (vP l) := by
  unfold book_ValidatePages.f vP
  by_cases h : l.length > 64
  · rw [if_pos h]; exact evp (by omega) (Ev.now _)
  · rw [if_neg h]; exact evn (by omega) (vP_l0 l (by omega) l.length 0 (by omega))
theorem rvP_l0 (l : List ByteArray) (hl : l.length ≤ 64) (hs : ∀ s ∈ l, s.size ≤ 9223372036854775807) : ∀ d i : Nat, i + d = l.length → Ev (fun k => wigeonref09_ValidatePages.l0 k l (i : Int)) (if (l.drop i).all pageB then (0 : Int) else 1)
  | 0, i, h => by
    refine Ev.step (fun k => wigeonref09_ValidatePages.l0.eq_2 ..) (evn (by omega) ?_)
    rw [List.drop_eq_nil_of_le (by omega)]; exact Ev.now _
  | d + 1, i, h => by
    have hlt : i < l.length := by omega
    have R := rvP_l0 l hl hs d (i + 1) (by omega)
    refine Ev.step (fun k => wigeonref09_ValidatePages.l0.eq_2 ..) (evp (by omega) (evp (by omega) ?_))
    rw [rdS_at l i hlt, List.drop_eq_getElem_cons hlt, List.all_cons, w64 (by omega) (by omega)]
    refine evb (rIsPage_ev _ (hs _ (List.getElem_mem hlt))) ?_
    cases pageB l[i]
    · exact evn (by decide) (Ev.now _)
    · exact evp rfl (by rw [Bool.true_and]; exact R)
theorem rvP_ev (l : List ByteArray) (hl : l.length ≤ 1000) (hs : ∀ s ∈ l, s.size ≤ 9223372036854775807) : Ev (fun k => wigeonref09_ValidatePages.f k l) (vP l) := by
  unfold wigeonref09_ValidatePages.f vP
  by_cases h : l.length > 64
  · rw [if_pos h]; exact evp (by omega) (Ev.now _)
  · rw [if_neg h]; exact evn (by omega) (rvP_l0 l (by omega) hs l.length 0 (by omega))
theorem vP_cases (l : List ByteArray) : (vP l = 0 ∧ l.length ≤ 64 ∧ ∀ s ∈ l, pageB s = true) ∨ vP l ≠ 0 := by
  unfold vP
  by_cases h : l.length > 64
  · rw [if_pos h]; exact Or.inr (by decide)
  · rw [if_neg h]
    by_cases h2 : l.all pageB = true
    · rw [if_pos h2]; exact Or.inl ⟨rfl, by omega, fun s hs => List.all_eq_true.1 h2 s hs⟩
    · rw [if_neg h2]; exact Or.inr (by decide)
theorem vP_zero (l : List ByteArray) (h1 : l.length ≤ 64) (h2 : ∀ s ∈ l, pageB s = true) : vP l = 0 := by
  unfold vP; rw [if_neg (by omega), if_pos (List.all_eq_true.2 h2)]

def lvs (l : List ByteArray) : List Int := l.map leafV
theorem lvs_length (l : List ByteArray) : (lvs l).length = l.length := List.length_map _
theorem lvs_range (l : List ByteArray) : ∀ x ∈ lvs l, sumP x := by
  intro x hx
  obtain ⟨s, _, rfl⟩ := List.mem_map.1 hx
  exact leaf_range s
theorem leaves_l0 (l : List ByteArray) (hl : l.length ≤ 64) (hs : ∀ s ∈ l, s.size ≤ 1000) : ∀ (d i : Nat) (acc : List Int), i + d = l.length → acc.length + d ≤ 64 → Ev (fun k => book_leaves.l0 k acc l (l.length : Int) (i : Int)) (acc ++ lvs (l.drop i))
  | 0, i, acc, h, _ => by
    refine Ev.step (fun k => book_leaves.l0.eq_2 ..) (evn (by omega) ?_)
    rw [List.drop_eq_nil_of_le (by omega)]; simp [lvs]; exact Ev.now _
  | d + 1, i, acc, h, ha => by
    have hlt : i < l.length := by omega
    refine Ev.step (fun k => book_leaves.l0.eq_2 ..) (evp (by omega) (evp (by omega) (evp (by omega) ?_)))
    rw [rdS_at l i hlt]
    refine evs (leaf_eq _ (by have := hs _ (List.getElem_mem hlt); omega)) (evp (by omega) ?_)
    rw [w64 (by omega) (by omega)]
    have R := leaves_l0 l hl hs d (i + 1) (acc ++ [leafV l[i]]) (by omega) (by simp; omega)
    rw [List.drop_eq_getElem_cons hlt]
    rw [show acc ++ lvs (l[i] :: l.drop (i + 1)) = acc ++ [leafV l[i]] ++ lvs (l.drop (i + 1)) from (List.append_assoc acc [leafV l[i]] _).symm]
    exact R
theorem leaves_ev (l : List ByteArray) (hl : l.length ≤ 64) (hs : ∀ s ∈ l, s.size ≤ 1000) : Ev (fun k => book_leaves.f k l) (lvs l) := by
  have := leaves_l0 l hl hs l.length 0 [] (by omega) (by simp; omega)
  rwa [List.nil_append] at this
theorem rleaves_l0 (l : List ByteArray) (hl : l.length ≤ 64) (hs : ∀ s ∈ l, s.size ≤ 1000) : ∀ (d i : Nat) (acc : List Int), i + d = l.length → acc.length + d ≤ 64 → Ev (fun k => wigeonref09_leaves.l0 k l acc (i : Int)) (acc ++ lvs (l.drop i))
  | 0, i, acc, h, _ => by
    refine Ev.step (fun k => wigeonref09_leaves.l0.eq_2 ..) (evn (by omega) ?_)
    rw [List.drop_eq_nil_of_le (by omega)]; simp [lvs]; exact Ev.now _
  | d + 1, i, acc, h, ha => by
    have hlt : i < l.length := by omega
    refine Ev.step (fun k => wigeonref09_leaves.l0.eq_2 ..) (evp (by omega) (evp (by omega) ?_))
    rw [rdS_at l i hlt]
    refine evb (rleaf_ev _ (by have := hs _ (List.getElem_mem hlt); omega)) (evp (by omega) ?_)
    rw [w64 (by omega) (by omega)]
    have R := rleaves_l0 l hl hs d (i + 1) (acc ++ [leafV l[i]]) (by omega) (by simp; omega)
    rw [List.drop_eq_getElem_cons hlt]
    rw [show acc ++ lvs (l[i] :: l.drop (i + 1)) = acc ++ [leafV l[i]] ++ lvs (l.drop (i + 1)) from (List.append_assoc acc [leafV l[i]] _).symm]
    exact R
theorem rleaves_ev (l : List ByteArray) (hl : l.length ≤ 64) (hs : ∀ s ∈ l, s.size ≤ 1000) : Ev (fun k => wigeonref09_leaves.f k l) (lvs l) := by
  have := rleaves_l0 l hl hs l.length 0 [] (by omega) (by simp; omega)
  rwa [List.nil_append] at this

def rootR (l : List ByteArray) : Int × Int := if vP l = 0 then (rt (lvs l), 0) else (0, vP l)
theorem rRoot_ev (l : List ByteArray) (hl : l.length ≤ 1000) (hs : ∀ s ∈ l, s.size ≤ 9223372036854775807) : Ev (fun k => wigeonref09_Root.f k l) (rootR l) := by
  unfold wigeonref09_Root.f rootR
  refine evb (rvP_ev l hl hs) ?_
  rcases vP_cases l with ⟨h, h64, hp⟩ | h
  · rw [if_pos h]
    exact evp h (evb (rleaves_ev l h64 (fun s hs => by have := page_small s (hp s hs); omega)) (evb (rroot_ev 64 _ (by rw [lvs_length]; omega) (by rw [lvs_length]; omega)) (Ev.now _)))
  · rw [if_neg h]
    exact evn h (Ev.now _)

def longB (l : List ByteArray) : Bool := l.any (fun s => decide (200 < s.size)) || decide (100 < l.length)
theorem Long_l0 (l : List ByteArray) (hl : l.length ≤ 9223372036854775807) : ∀ d i : Nat, i + d = l.length → Ev (fun k => wigeonlaw09_Long.l0 k l (i : Int)) ((l.drop i).any (fun s => decide (200 < s.size)) || decide (100 < l.length))
  | 0, i, h => by
    refine Ev.step (fun k => wigeonlaw09_Long.l0.eq_2 ..) (evn (by omega) ?_)
    rw [List.drop_eq_nil_of_le (by omega), List.any_nil, Bool.false_or, show decide (100 < l.length) = decide ((l.length : Int) > 100) from decide_eq_decide.2 (by omega)]; exact Ev.now _
  | d + 1, i, h => by
    have hlt : i < l.length := by omega
    have R := Long_l0 l hl d (i + 1) (by omega)
    refine Ev.step (fun k => wigeonlaw09_Long.l0.eq_2 ..) (evp (by omega) (evp (by omega) ?_))
    rw [rdS_at l i hlt, List.drop_eq_getElem_cons hlt, List.any_cons]
    by_cases h2 : 200 < l[i].size
    · refine evp (by omega) ?_
      rw [decide_eq_true h2, Bool.true_or, Bool.true_or]; exact Ev.now _
    · refine evn (by omega) ?_
      rw [decide_eq_false h2, Bool.false_or, w64 (by omega) (by omega)]; exact R
theorem Long_ev (l : List ByteArray) (hl : l.length ≤ 9223372036854775807) : Ev (fun k => wigeonlaw09_Long.f k l) (longB l) := Long_l0 l hl l.length 0 (by omega)
theorem long_not (l : List ByteArray) (h : ¬ longB l = true) : l.length ≤ 100 ∧ ∀ s ∈ l, s.size ≤ 200 := by
  unfold longB at h
  simp only [Bool.or_eq_true, List.any_eq_true, decide_eq_true_eq, not_or, not_exists, not_and] at h
  exact ⟨by omega, fun s hs => by have := h.1 s hs; omega⟩

def bl (s : ByteArray) : List UInt8 := s.data.toList
def ofL (l : List UInt8) : ByteArray := ⟨l.toArray⟩
theorem bl_ofL (l : List UInt8) : bl (ofL l) = l := by simp [bl, ofL]
theorem ofL_bl (s : ByteArray) : ofL (bl s) = s := by cases s; simp [bl, ofL]
theorem bl_len (s : ByteArray) : (bl s).length = s.size := by cases s; simp [bl, ByteArray.size]
theorem ofL_size (l : List UInt8) : (ofL l).size = l.length := by rw [← bl_len, bl_ofL]
theorem bl_inj {a b : ByteArray} (h : bl a = bl b) : a = b := by rw [← ofL_bl a, h, ofL_bl]
theorem bl_tl (s : ByteArray) : s.toList = bl s := ByteArray.toList_eq s
theorem bl_app (a b : ByteArray) : bl (a ++ b) = bl a ++ bl b := by simp [bl]
theorem bl_ext (s : ByteArray) (i j : Nat) : bl (s.extract i j) = ((bl s).take j).drop i := by
  simp only [bl, ByteArray.data_extract, Array.toList_extract, List.extract_eq_take_drop, List.drop_take]
theorem bl_from (s : ByteArray) (i : Nat) : bl (s.extract i s.size) = (bl s).drop i := by
  rw [bl_ext, List.take_of_length_le (by rw [bl_len]; omega)]
theorem bl_to (s : ByteArray) (j : Nat) : bl (s.extract 0 j) = (bl s).take j := by rw [bl_ext, List.drop_zero]
theorem bt_bl (s : ByteArray) (i : Nat) (h : i < (bl s).length) : bt s (i : Int) = (((bl s)[i]).toNat : Int) := by
  rw [bt_bytes s i (by rw [bytesOf_length, ← bl_len]; exact h)]
  simp [bytesOf, bl]

def splA (cur : List UInt8) : List UInt8 → List (List UInt8)
  | [] => [cur]
  | c :: l => if c = 32 then cur :: splA [] l else splA (cur ++ [c]) l
theorem splA_cons (cur : List UInt8) (c : UInt8) (l : List UInt8) : splA cur (c :: l) = if c = 32 then cur :: splA [] l else splA (cur ++ [c]) l := rfl
theorem spl_none : ∀ l cur : List UInt8, l.count 32 = 0 → splA cur l = [cur ++ l]
  | [], cur, _ => by simp [splA]
  | c :: l, cur, h => by
    unfold splA
    have hc : ¬ c = 32 := fun e => by subst e; simp at h
    rw [if_neg hc, spl_none l _ (by rwa [List.count_cons_of_ne hc] at h)]; simp
theorem spl_at : ∀ (l cur : List UInt8) (m : Nat), l[m]? = some 32 → (∀ k, k < m → l[k]? ≠ some 32) → splA cur l = (cur ++ l.take m) :: splA [] (l.drop (m + 1))
  | [], _, m, h, _ => by simp at h
  | c :: l, cur, m, h, g => by
    rw [splA_cons]
    cases m with
    | zero =>
      simp only [List.getElem?_cons_zero, Option.some.injEq] at h
      rw [if_pos h]; simp
    | succ m =>
      have hc : ¬ c = 32 := fun e => g 0 (by omega) (by simp [e])
      rw [if_neg hc, spl_at l _ m (by simpa using h) (fun k hk => by simpa using g (k + 1) (by omega))]
      simp
theorem count_at (l : List UInt8) (m : Nat) (h : l[m]? = some 32) (g : ∀ k, k < m → l[k]? ≠ some 32) : l.count 32 = (l.drop (m + 1)).count 32 + 1 := by
  have hm : m < l.length := by
    rcases Nat.lt_or_ge m l.length with q | q
    · exact q
    · rw [List.getElem?_eq_none q] at h; cases h
  have e : l = l.take m ++ 32 :: l.drop (m + 1) := by
    rw [List.getElem?_eq_getElem hm] at h
    rw [← Option.some.inj h, ← List.drop_eq_getElem_cons hm, List.take_append_drop]
  have z : (l.take m).count 32 = 0 := by
    refine List.count_eq_zero.2 fun q => ?_
    obtain ⟨k, hk, hq⟩ := List.getElem_of_mem q
    have hk2 : k < m := by rw [List.length_take] at hk; omega
    exact g k hk2 (by rw [List.getElem_take] at hq; rw [List.getElem?_eq_getElem (by omega), hq])
  rw [show l.count 32 = (l.take m ++ 32 :: l.drop (m + 1)).count 32 from congrArg _ e, List.count_append, z, List.count_cons_self]; omega
theorem idx_none {l : List UInt8} {c : UInt8} (h : Lib.indexByte l c < 0) : l.count c = 0 := by
  have h1 : Lib.indexByte l c = -1 := by have := Lib.indexByte_ge l c; omega
  refine List.count_eq_zero.2 fun q => ?_
  obtain ⟨k, hk, hq⟩ := List.getElem_of_mem q
  exact Lib.indexByte_none h1 k (by rw [List.getElem?_eq_getElem hk, hq])
theorem idx_some {l : List UInt8} {c : UInt8} (h : 0 ≤ Lib.indexByte l c) : ∃ m : Nat, Lib.indexByte l c = m ∧ m < l.length ∧ l[m]? = some c ∧ ∀ k, k < m → l[k]? ≠ some c := by
  obtain ⟨m, hm⟩ := Int.eq_ofNat_of_zero_le h
  obtain ⟨h1, h2⟩ := Lib.indexByte_some hm
  refine ⟨m, hm, ?_, h1, h2⟩
  rcases Nat.lt_or_ge m l.length with q | q
  · exact q
  · rw [List.getElem?_eq_none q] at h1; cases h1
theorem idx_pos {l : List UInt8} {c : UInt8} (h : l.count c ≠ 0) : 0 ≤ Lib.indexByte l c := by
  rcases Int.lt_or_le (Lib.indexByte l c) 0 with q | q
  · exact absurd (idx_none q) h
  · exact q

theorem Index_eq (s : ByteArray) (c : UInt8) : strings_Index.f s ⟨#[c]⟩ = some (Lib.indexByte (bl s) c) := rfl
theorem Count_eq (s : ByteArray) (c : UInt8) : strings_Count.f s ⟨#[c]⟩ = some (((bl s).count c : Nat) : Int) := rfl
theorem split_l0 : ∀ (d : Nat) (s : ByteArray) (arr : List ByteArray) (i : Nat), (bl s).count 32 = d → arr.length = i + d + 1 → s.size ≤ 100000 → i + d ≤ 100000 →
    Ev (fun k => strings_genSplit.l0 k s ⟨#[32]⟩ 0 ((i + d : Nat) : Int) arr (i : Int)) (arr.take i ++ (splA [] (bl s)).map ofL)
  | 0, s, arr, i, hc, ha, hs, hi => by
    refine Ev.step (fun k => strings_genSplit.l0.eq_2 ..) (evn (by omega) (evp (by omega) (evp (by omega) ?_)))
    rw [w64 (by omega) (by omega)]
    refine evp (by omega) (evp (by omega) ?_)
    rw [spl_none _ _ hc, List.nil_append, List.map_cons, List.map_nil, ofL_bl, show ((i : Int) + 1).toNat = i + 1 by omega, show (i : Int).toNat = i by omega]
    rw [show (arr.set i s).take (i + 1) = arr.take i ++ [s] by
      rw [List.take_succ_eq_append_getElem (by rw [List.length_set]; omega), List.getElem_set_self, List.take_set_of_le (by omega)]]
    exact Ev.now _
  | d + 1, s, arr, i, hc, ha, hs, hi => by
    obtain ⟨m, hm, hl, h1, h2⟩ := idx_some (idx_pos (c := 32) (l := bl s) (by omega))
    have hl2 : m < s.size := by rw [← bl_len]; exact hl
    have hk := count_at _ m h1 h2
    refine Ev.step (fun k => strings_genSplit.l0.eq_2 ..) (evp (by omega) (evs (Index_eq s 32) ?_))
    rw [hm]
    refine evn (by omega) ?_
    rw [show (⟨#[32]⟩ : ByteArray).size = 1 from rfl, Int.add_zero, w64 (by omega) (by omega), w64 (by omega) (by omega), w64 (by omega) (by omega)]
    refine evp (by omega) (evp (by omega) (evp (by omega) (evp (by omega) (evp (by omega) (evp (by omega) ?_)))))
    rw [show ((m : Int) + ((1 : Nat) : Int)).toNat = m + 1 by omega, show (m : Int).toNat = m by omega, show (i : Int).toNat = i by omega]
    have R := split_l0 d (s.extract (m + 1) s.size) (arr.set i (s.extract 0 m)) (i + 1) (by rw [bl_from]; omega) (by rw [List.length_set]; omega) (by rw [ByteArray.size_extract]; omega) (by omega)
    rw [show i + 1 + d = i + (d + 1) by omega, bl_from, List.take_succ_eq_append_getElem (by rw [List.length_set]; omega), List.getElem_set_self, List.take_set_of_le (by omega)] at R
    rw [spl_at _ _ m h1 h2, List.nil_append, List.map_cons, ← bl_to, ofL_bl]
    rw [List.append_assoc] at R
    exact R
def spl (s : ByteArray) : List ByteArray := (splA [] (bl s)).map ofL
theorem Split_ev (s : ByteArray) (hs : s.size ≤ 10000) : Ev (fun k => strings_Split.f k s ⟨#[32]⟩) (spl s) := by
  unfold strings_Split.f strings_genSplit.f
  have hcl : (bl s).count 32 ≤ s.size := by rw [← bl_len]; exact List.count_le_length
  refine evb (evn (by decide) (evn (by simp [bl_tl, bl]) (evp (by decide) (evs (Count_eq s 32) ?_)))) (Ev.now _)
  refine Ev.step (fun k => strings_genSplit.j0.eq_2 ..) ?_
  rw [w64 (by omega) (by omega), w64 (by omega) (by omega), show mn (((bl s).count 32 : Nat) + 1 : Int) ((s.size : Int) + 1) = (((bl s).count 32 + 1 : Nat) : Int) by unfold mn; split <;> omega]
  refine evp (by omega) (evp (by omega) ?_)
  rw [w64 (by omega) (by omega)]
  have R := split_l0 _ s (List.replicate ((bl s).count 32 + 1) ⟨#[]⟩) 0 rfl (by simp) (by omega) (by omega)
  rw [List.take_zero, List.nil_append, Nat.zero_add] at R
  rw [show ((((bl s).count 32 + 1 : Nat) : Int) - 1) = (((bl s).count 32 : Nat) : Int) by omega, show (((bl s).count 32 + 1 : Nat) : Int).toNat = (bl s).count 32 + 1 by omega]
  exact R

def digs (l : List UInt8) : Prop := ∀ c ∈ l, 48 ≤ c.toNat ∧ c.toNat ≤ 57
def val (x : Nat) (l : List UInt8) : Nat := l.foldl (fun x c => 10 * x + (c.toNat - 48)) x
theorem val_cons (x : Nat) (c : UInt8) (l : List UInt8) : val x (c :: l) = val (10 * x + (c.toNat - 48)) l := by unfold val; rw [List.foldl_cons]
theorem dec_small {n : Nat} (h : n < 10) : Lib.decDigits n = [UInt8.ofNat (48 + n)] := by rw [Lib.decDigits, dif_pos h]
theorem dec_big {n : Nat} (h : ¬ n < 10) : Lib.decDigits n = Lib.decDigits (n / 10) ++ [UInt8.ofNat (48 + n % 10)] := by rw [Lib.decDigits, dif_neg h]
theorem ch_nat {d : Nat} (h : d < 10) : (UInt8.ofNat (48 + d)).toNat = 48 + d := by
  rw [UInt8.toNat_ofNat']; omega
theorem dec_digs (n : Nat) : digs (Lib.decDigits n) := by
  induction n using Nat.strongRecOn with
  | _ n ih =>
    by_cases h : n < 10
    · rw [dec_small h]; intro c hc; rw [List.mem_singleton.1 hc, ch_nat h]; omega
    · rw [dec_big h]
      intro c hc
      rcases List.mem_append.1 hc with q | q
      · exact ih (n / 10) (by omega) c q
      · rw [List.mem_singleton.1 q, ch_nat (by omega)]; omega
theorem dec_val (n : Nat) : val 0 (Lib.decDigits n) = n := by
  induction n using Nat.strongRecOn with
  | _ n ih =>
    by_cases h : n < 10
    · rw [dec_small h]; unfold val; simp only [List.foldl_cons, List.foldl_nil]; rw [ch_nat h]; omega
    · rw [dec_big h]; unfold val at ih ⊢; rw [List.foldl_append, ih (n / 10) (by omega)]
      simp only [List.foldl_cons, List.foldl_nil]; rw [ch_nat (by omega)]; omega
theorem dec_ne (n : Nat) : Lib.decDigits n ≠ [] := by
  by_cases h : n < 10
  · rw [dec_small h]; simp
  · rw [dec_big h]; simp
theorem dec_len : ∀ (k n : Nat), n < 10 ^ (k + 1) → (Lib.decDigits n).length ≤ k + 1
  | 0, n, h => by rw [dec_small (by simpa using h)]; simp
  | k + 1, n, h => by
    by_cases h2 : n < 10
    · rw [dec_small h2]; simp
    · rw [dec_big h2]
      have := dec_len k (n / 10) (by rw [Nat.pow_succ] at h; omega)
      simp; omega
theorem parse_val : ∀ (l : List UInt8) (acc a : Nat), digs l → acc < 10 ^ a → a + l.length ≤ 18 → Lib.parseUint10 acc l = .ok (val acc l)
  | [], acc, a, _, _, _ => rfl
  | c :: l, acc, a, hd, ha, hl => by
    have h1 := hd c List.mem_cons_self
    rw [List.length_cons] at hl
    have hp : 10 ^ a ≤ 10 ^ 17 := Nat.pow_le_pow_right (by decide) (by omega)
    have hs : acc * 10 + (c.toNat - 48) < 10 ^ (a + 1) := by rw [Nat.pow_succ]; omega
    have hn : (10 : Nat) ^ 17 = 100000000000000000 := by decide
    unfold Lib.parseUint10
    rw [if_pos h1, if_neg (by omega), if_neg (by omega), parse_val l _ (a + 1) (fun c q => hd c (List.mem_cons_of_mem _ q)) hs (by omega), val_cons, Nat.mul_comm]
theorem atoi_dec (n : Nat) (h : n < 10 ^ 10) : Lib.atoiAll (Lib.decDigits n) = .ok (n : Int) := by
  have hd := dec_digs n
  have hl := dec_len 9 n h
  have hp := parse_val (Lib.decDigits n) 0 0 hd (by decide) (by omega)
  rw [dec_val] at hp
  cases e : Lib.decDigits n with
  | nil => exact absurd e (dec_ne n)
  | cons c r =>
    have hc := hd c (by rw [e]; exact List.mem_cons_self)
    rw [e] at hp
    have hn : (10 : Nat) ^ 10 = 10000000000 := by decide
    unfold Lib.atoiAll Lib.parseMag
    simp only [if_neg (show ¬ (c.toNat = 43 ∨ c.toNat = 45) by omega), if_neg (List.cons_ne_nil c r), hp]
    rw [if_neg (fun q => by omega), if_neg (fun q => by omega), if_neg (by omega)]
theorem itoa_at (n : Nat) : Lib.itoa (n : Int) = Lib.decDigits n := by unfold Lib.itoa; rw [if_neg (by omega)]; rfl

theorem Digit_at : ∀ d : Fin 10, wigeonref01_Digit.f (d.val : Int) = some (ofL [UInt8.ofNat (48 + d.val)]) := by decide +kernel
theorem Digit_eq (n : Int) (h0 : 0 ≤ n) (h1 : n < 10) : wigeonref01_Digit.f n = some (ofL [UInt8.ofNat (48 + n.toNat)]) := by
  have := Digit_at ⟨n.toNat, by omega⟩
  rw [show ((n.toNat : Nat) : Int) = n by omega] at this
  exact this
theorem Number_ev (n : Nat) (h : n < 10 ^ 12) : Ev (fun k => wigeonref09_Number.f k (n : Int)) (ofL (Lib.decDigits n)) := by
  induction n using Nat.strongRecOn with
  | _ n ih =>
    have hn : (10 : Nat) ^ 12 = 1000000000000 := by decide
    refine Ev.step (fun k => wigeonref09_Number.f.eq_2 ..) ?_
    by_cases h2 : n < 10
    · refine evp (by omega) (evs (Digit_eq _ (by omega) (by omega)) ?_)
      rw [dec_small h2]; exact Ev.now _
    · refine evn (by omega) ?_
      rw [show Int.tdiv (n : Int) 10 = ((n / 10 : Nat) : Int) from rfl, show Int.tmod (n : Int) 10 = ((n % 10 : Nat) : Int) from rfl, w64 (by omega) (by omega)]
      refine evb (ih (n / 10) (by omega) (by omega)) (evs (Digit_eq _ (by omega) (by omega)) ?_)
      have hl := dec_len 11 (n / 10) (by omega)
      refine evp (by rw [ofL_size, ofL_size]; simp; omega) ?_
      rw [show ofL (Lib.decDigits (n / 10)) ++ ofL [UInt8.ofNat (48 + (((n % 10 : Nat) : Int)).toNat)] = ofL (Lib.decDigits n) from bl_inj (by rw [bl_app, bl_ofL, bl_ofL, bl_ofL, dec_big h2]; rfl)]
      exact Ev.now _

def pgs : List UInt8 := [112, 97, 103, 101, 115]
def fst9 (n r : Nat) : List UInt8 := (((pgs ++ [32]) ++ Lib.decDigits n ++ [32]) ++ Lib.decDigits r) ++ [10]
theorem first_ev (n r : Nat) (hn : n < 10 ^ 12) (hr : r < 10 ^ 12) : Ev (fun k => wigeonref09_first.f k (n : Int) (r : Int)) (ofL (fst9 n r)) := by
  unfold wigeonref09_first.f
  have h1 := dec_len 11 n hn
  have h2 := dec_len 11 r hr
  refine evb (Number_ev n hn) (evp (by rw [ofL_size]; omega) (evp (by rw [ByteArray.size_append, ofL_size]; simp [ByteArray.size]; omega) (evb (Number_ev r hr) (evp (by rw [ByteArray.size_append, ByteArray.size_append, ofL_size, ofL_size]; simp [ByteArray.size]; omega) (evp (by rw [ByteArray.size_append, ByteArray.size_append, ByteArray.size_append, ofL_size, ofL_size]; simp [ByteArray.size]; omega) ?_)))))
  rw [show (((((⟨#[112, 97, 103, 101, 115, 32]⟩ : ByteArray) ++ ofL (Lib.decDigits n)) ++ (⟨#[32]⟩ : ByteArray)) ++ ofL (Lib.decDigits r)) ++ (⟨#[10]⟩ : ByteArray)) = ofL (fst9 n r) from bl_inj (by simp only [bl_app, bl_ofL]; rfl)]
  exact Ev.now _

def nlI (t : ByteArray) : Int := Lib.indexByte (bl t) 10
theorem nl_at {t : ByteArray} {m : Nat} (h : nlI t = m) : m < t.size := by
  obtain ⟨k, hk, hl, _⟩ := idx_some (l := bl t) (c := 10) (by show 0 ≤ nlI t; omega)
  have : k = m := by have : nlI t = k := hk; omega
  rw [← bl_len]; omega
theorem Cut_no (t : ByteArray) (h : nlI t < 0) : strings_Cut.f t ⟨#[10]⟩ = some (t, ⟨#[]⟩, false) := by
  unfold strings_Cut.f stringslite_Cut.f
  rw [show stringslite_Index.f t ⟨#[10]⟩ = some (nlI t) from rfl, Option.bind_some, if_neg (by omega)]; rfl
theorem Cut_at (t : ByteArray) (m : Nat) (h : nlI t = m) (hs : t.size ≤ 100000) : strings_Cut.f t ⟨#[10]⟩ = some (t.extract 0 m, t.extract (m + 1) t.size, true) := by
  have hm := nl_at h
  unfold strings_Cut.f stringslite_Cut.f
  rw [show stringslite_Index.f t ⟨#[10]⟩ = some (nlI t) from rfl, Option.bind_some, h, if_pos (by omega), if_pos (by omega), if_pos (by omega), show (⟨#[10]⟩ : ByteArray).size = 1 from rfl, w64 (by omega) (by omega), if_pos (by omega), if_pos (by omega), Option.bind_some, show ((m : Int) + ((1 : Nat) : Int)).toNat = m + 1 by omega, show (m : Int).toNat = m by omega]

def HW (W : List (List UInt8)) (n r : Nat) : Prop := W = [pgs, Lib.decDigits n, Lib.decDigits r] ∧ n ≤ 64 ∧ r < 2147483647
theorem Atoi_dec (n : Nat) (h : n < 10 ^ 10) : strconv_Atoi_70.f (ofL (Lib.decDigits n)) = some ((n : Int), none) := by
  unfold strconv_Atoi_70.f
  have hl := dec_len 9 n h
  rw [if_pos (by rw [ofL_size]; omega), show (ofL (Lib.decDigits n)).data.toList = Lib.decDigits n from bl_ofL _, atoi_dec n h]
theorem Itoa_eq (v : Int) (h : -9223372036854775808 ≤ v ∧ v ≤ 9223372036854775807) : strconv_Itoa_50.f v = some (ofL (Lib.itoa v)) := if_pos h
theorem w0_at (a b c : ByteArray) : rdOf ByteArray.empty [a, b, c] 0 = a := rfl
theorem w1_at (a b c : ByteArray) : rdOf ByteArray.empty [a, b, c] 1 = b := rfl
theorem w2_at (a b c : ByteArray) : rdOf ByteArray.empty [a, b, c] 2 = c := rfl
theorem j0_ok (x a : ByteArray) (n r : Nat) (hn : n ≤ 64) (hr : r < 2147483647) : Ev (fun k => book_head.j0 k x [a, ofL (Lib.decDigits n), ofL (Lib.decDigits r)] false) ((n : Int), (r : Int), x, true) := by
  have hp : (10 : Nat) ^ 10 = 10000000000 := by decide
  refine Ev.step (fun k => book_head.j0.eq_2 ..) (evn (by decide) (evp (show (1 : Int) < ((3 : Nat) : Int) by decide) (evs (by rw [w1_at]; exact Atoi_dec n (by omega)) (evp (show (2 : Int) < ((3 : Nat) : Int) by decide) (evs (by rw [w2_at]; exact Atoi_dec r (by omega)) ?_)))))
  rw [w1_at, w2_at]
  refine evp rfl (evp rfl (evs (Itoa_eq _ (by omega)) ?_))
  rw [itoa_at]
  refine evp rfl (evs (Itoa_eq _ (by omega)) ?_)
  rw [itoa_at]
  refine evp rfl (evn (by omega) (evn (by omega) (evs (isSum_eq _) ?_)))
  rw [show decide (∀ x ∈ [(r : Int)], sumP x) = true from decide_eq_true (fun x hx => by rw [List.mem_singleton.1 hx]; unfold sumP; omega)]
  exact evp rfl (Ev.now _)
theorem head_ok (t : ByteArray) (m n r : Nat) (hs : t.size ≤ 10000) (h : nlI t = m) (hw : HW (splA [] ((bl t).take m)) n r) : Ev (fun k => book_head.f k t) ((n : Int), (r : Int), t.extract (m + 1) t.size, true) := by
  unfold book_head.f
  obtain ⟨e, hn, hr⟩ := hw
  refine evs (Cut_at t m h (by omega)) (evb (Split_ev _ (by rw [ByteArray.size_extract]; omega)) (evp rfl ?_))
  rw [show spl (t.extract 0 m) = [ofL pgs, ofL (Lib.decDigits n), ofL (Lib.decDigits r)] by unfold spl; rw [bl_to, e]; rfl]
  refine evp rfl (evp (show (0 : Int) < ((3 : Nat) : Int) by decide) ?_)
  rw [w0_at, show ((ofL pgs).toList != [112, 97, 103, 101, 115]) = false by rw [bl_tl, bl_ofL]; rfl]
  exact j0_ok _ _ n r hn hr
theorem drop_idx (t : List UInt8) (m : Nat) (h1 : t[m]? = some 10) (h2 : ∀ k, k < m → t[k]? ≠ some 10) : Lib.indexByte t 10 = m := by
  have hc : t.count 10 ≠ 0 := by
    refine fun q => List.count_eq_zero.1 q ?_
    exact List.mem_of_getElem? h1
  obtain ⟨k, hk, _, g1, g2⟩ := idx_some (idx_pos hc)
  rcases Nat.lt_trichotomy k m with q | q | q
  · exact absurd g1 (h2 k q)
  · rw [hk, q]
  · exact absurd h1 (g2 m q)
def rdl : Nat → List ByteArray → ByteArray → List ByteArray × ByteArray × Bool
  | 0, acc, t => (acc, t, true)
  | d + 1, acc, t => if 0 ≤ nlI t ∧ pageB (t.extract 0 (nlI t).toNat) = true then rdl d (acc ++ [t.extract 0 (nlI t).toNat]) (t.extract ((nlI t).toNat + 1) t.size) else (acc, t, false)
def rdE (p : List ByteArray × ByteArray × Bool) (sum : Int) : List ByteArray × ByteArray × Bool × Int :=
  if p.2.2 = true then (if rt (lvs p.1) = sum then (p.1, p.2.1, true, 0) else ([], ⟨#[]⟩, false, 7)) else (p.1, p.2.1, false, 0)
theorem next_no (t : ByteArray) (hs : t.size ≤ 100000) (h : ¬ (0 ≤ nlI t ∧ pageB (t.extract 0 (nlI t).toNat) = true)) : book_next.f t = some (t, false) := by
  unfold book_next.f
  by_cases h1 : nlI t < 0
  · rw [Cut_no t h1, Option.bind_some, if_neg (show ¬ (false = true) by decide)]
  · obtain ⟨m, hm⟩ := Int.eq_ofNat_of_zero_le (show 0 ≤ nlI t by omega)
    rw [Cut_at t m hm hs, Option.bind_some, if_pos rfl]
    show (some (pageB _)).bind _ = _
    rw [Option.bind_some, if_neg (fun q => h ⟨by omega, by rw [hm]; exact q⟩)]
theorem next_ok (t : ByteArray) (hs : t.size ≤ 100000) (h : 0 ≤ nlI t ∧ pageB (t.extract 0 (nlI t).toNat) = true) : book_next.f t = some (t.extract 0 (nlI t).toNat, true) := by
  unfold book_next.f
  obtain ⟨m, hm⟩ := Int.eq_ofNat_of_zero_le h.1
  rw [Cut_at t m hm hs, Option.bind_some, if_pos rfl]
  have h2 := h.2
  rw [hm, show ((m : Nat) : Int).toNat = m from rfl] at h2 ⊢
  show (some (pageB _)).bind _ = _
  rw [Option.bind_some, if_pos h2]
theorem read_l0 (sum : Int) : ∀ (d : Nat) (acc : List ByteArray) (t : ByteArray) (n : Nat), acc.length + d = n → n ≤ 64 → (∀ s ∈ acc, pageB s = true) → t.size ≤ 10000 → Ev (fun k => book_read.l0 k acc t (n : Int) sum) (rdE (rdl d acc t) sum)
  | 0, acc, t, n, h, hn, ha, ht => by
    refine Ev.step (fun k => book_read.l0.eq_2 ..) (evn (by omega) (evb (leaves_ev acc (by omega) (fun s hs => by have := page_small s (ha s hs); omega)) (evb (root_ev _ (lvs acc) (Nat.le_refl _) (by rw [lvs_length]; omega)) ?_)))
    unfold rdl rdE
    rw [if_pos rfl]
    by_cases h1 : rt (lvs acc) = sum
    · simp only [if_pos h1]; exact Ev.now _
    · simp only [if_neg h1]; exact Ev.now _
  | d + 1, acc, t, n, h, hn, ha, ht => by
    refine Ev.step (fun k => book_read.l0.eq_2 ..) (evp (by omega) ?_)
    unfold rdl
    by_cases g : 0 ≤ nlI t ∧ pageB (t.extract 0 (nlI t).toNat) = true
    · rw [if_pos g]
      obtain ⟨m, hm⟩ := Int.eq_ofNat_of_zero_le g.1
      have hl := nl_at hm
      refine evs (next_ok t (by omega) g) (evp rfl (evs (show book_page_text.f _ = some _ from rfl) (evp (by omega) ?_)))
      have g2 := g.2
      rw [hm, show ((m : Nat) : Int).toNat = m from rfl] at g2 ⊢
      rw [show (wrap64 (((t.extract 0 m).size : Int) + 1)) = ((m + 1 : Nat) : Int) by rw [ByteArray.size_extract, w64 (by omega) (by omega)]; omega]
      refine evp (by omega) (evp (by omega) ?_)
      exact read_l0 sum d (acc ++ [t.extract 0 m]) (t.extract (m + 1) t.size) n (by simp; omega) hn (fun s hs => by
        rcases List.mem_append.1 hs with q | q
        · exact ha s q
        · rw [List.mem_singleton.1 q]; exact g2) (by rw [ByteArray.size_extract]; omega)
    · rw [if_neg g]
      refine evs (next_no t (by omega) g) (evn (show ¬ (false = true) by decide) ?_)
      unfold rdE
      rw [if_neg (show ¬ (false = true) by decide)]
      exact Ev.now _
theorem read_ok (t : ByteArray) (m n r : Nat) (hs : t.size ≤ 10000) (h : nlI t = m) (hw : HW (splA [] ((bl t).take m)) n r) : Ev (fun k => book_read.f k t) (rdE (rdl n [] (t.extract (m + 1) t.size)) r) := by
  unfold book_read.f
  refine evb (head_ok t m n r hs h hw) (evp rfl ?_)
  exact read_l0 r n [] _ n (by simp) hw.2.1 (fun s q => absurd q (by simp)) (by rw [ByteArray.size_extract]; omega)
theorem same_l0 (l : List ByteArray) (hl : l.length ≤ 1000) : ∀ d i : Nat, i + d = l.length → Ev (fun k => wigeonref01_SameTexts.l0 k l l (i : Int)) true
  | 0, i, h => Ev.step (fun k => wigeonref01_SameTexts.l0.eq_2 ..) (evn (by omega) (Ev.now _))
  | d + 1, i, h => by
    refine Ev.step (fun k => wigeonref01_SameTexts.l0.eq_2 ..) (evp (by omega) (evp (by omega) (evp (by omega) (evp rfl ?_))))
    rw [w64 (by omega) (by omega)]
    exact same_l0 l hl d (i + 1) (by omega)
theorem same_ev (l : List ByteArray) (hl : l.length ≤ 1000) : Ev (fun k => wigeonref01_SameTexts.f k l l) true := by
  unfold wigeonref01_SameTexts.f
  exact evp rfl (same_l0 l hl l.length 0 (by omega))
def body (l : List ByteArray) : List UInt8 := l.flatMap fun p => bl p ++ [10]
theorem body_cons (p : ByteArray) (l : List ByteArray) : body (p :: l) = bl p ++ 10 :: body l := by simp [body]
theorem body_len : ∀ l : List ByteArray, (∀ s ∈ l, s.size ≤ 60) → (body l).length ≤ l.length * 61
  | [], _ => by simp [body]
  | p :: l, h => by
    have h1 := h p List.mem_cons_self
    have h2 := body_len l (fun s hs => h s (List.mem_cons_of_mem _ hs))
    rw [body_cons, List.length_append, List.length_cons, List.length_cons, bl_len]; omega
theorem page_no10 (p : ByteArray) (h : pageB p = true) : (bl p).count 10 = 0 := by
  unfold pageB at h
  simp only [Bool.and_eq_true, Bool.not_eq_true', List.any_eq_false] at h
  refine List.count_eq_zero.2 fun q => ?_
  have := h.2 10 (by unfold bytesOf; exact List.mem_map.2 ⟨10, q, rfl⟩)
  exact this (by decide)
theorem idx_at (A B : List UInt8) (h : A.count 10 = 0) : Lib.indexByte (A ++ 10 :: B) 10 = A.length := by
  refine drop_idx _ _ (by rw [List.getElem?_append_right (Nat.le_refl _), Nat.sub_self]; rfl) fun k hk q => ?_
  rw [List.getElem?_append_left hk] at q
  exact List.count_eq_zero.1 h (List.mem_of_getElem? q)
theorem idx_no (A : List UInt8) (h : A.count 10 = 0) : Lib.indexByte A 10 < 0 := by
  rcases Int.lt_or_le (Lib.indexByte A 10) 0 with q | q
  · exact q
  · obtain ⟨m, _, _, h1, _⟩ := idx_some q
    exact absurd (List.mem_of_getElem? h1) (List.count_eq_zero.1 h)
theorem splA_app (A B cur : List UInt8) (h : A.count 32 = 0) : splA cur (A ++ 32 :: B) = (cur ++ A) :: splA [] B := by
  rw [spl_at (A ++ 32 :: B) cur A.length (by rw [List.getElem?_append_right (Nat.le_refl _), Nat.sub_self]; rfl) (fun k hk q => by
    rw [List.getElem?_append_left hk] at q
    exact List.count_eq_zero.1 h (List.mem_of_getElem? q))]
  rw [List.take_left' rfl, show A.length + 1 = (A ++ [32]).length by simp, show A ++ 32 :: B = (A ++ [32]) ++ B by simp, List.drop_left' rfl]
theorem dec_no (n : Nat) (c : UInt8) (hc : c.toNat < 48) : (Lib.decDigits n).count c = 0 := by
  refine List.count_eq_zero.2 fun q => ?_
  have := dec_digs n c q; omega
def hdl (n r : Nat) : List UInt8 := pgs ++ 32 :: (Lib.decDigits n ++ 32 :: Lib.decDigits r)
theorem hdl_spl (n r : Nat) : splA [] (hdl n r) = [pgs, Lib.decDigits n, Lib.decDigits r] := by
  unfold hdl
  rw [splA_app _ _ _ (by decide), splA_app _ _ _ (dec_no n 32 (by decide)), spl_none _ _ (dec_no r 32 (by decide))]; rfl
theorem hdl_no (n r : Nat) : (hdl n r).count 10 = 0 := by
  unfold hdl
  rw [List.count_append, List.count_cons_of_ne (by decide), List.count_append, List.count_cons_of_ne (by decide), dec_no n 10 (by decide), dec_no r 10 (by decide)]; decide
theorem fst_hdl (n r : Nat) : fst9 n r = hdl n r ++ [10] := by unfold fst9 hdl; simp

theorem take_at (A B : List UInt8) (t : ByteArray) (h : bl t = A ++ 10 :: B) (hA : A.count 10 = 0) : nlI t = A.length ∧ t.extract 0 (nlI t).toNat = ofL A ∧ t.extract ((nlI t).toNat + 1) t.size = ofL B := by
  have e : nlI t = A.length := by unfold nlI; rw [h]; exact idx_at A B hA
  refine ⟨e, bl_inj ?_, bl_inj ?_⟩
  · rw [bl_to, bl_ofL, h, e]; exact List.take_left' rfl
  · rw [bl_from, bl_ofL, h, e, show ((A.length : Nat) : Int).toNat + 1 = (A ++ [10]).length by simp, show A ++ 10 :: B = (A ++ [10]) ++ B by simp]; exact List.drop_left' rfl
theorem rdl_full : ∀ (l acc : List ByteArray), (∀ s ∈ l, pageB s = true) → rdl l.length acc (ofL (body l)) = (acc ++ l, ofL [], true)
  | [], acc, _ => by simp [rdl, body]
  | p :: l, acc, h => by
    have hp := h p List.mem_cons_self
    obtain ⟨e1, e2, e3⟩ := take_at (bl p) (body l) (ofL (body (p :: l))) (by rw [bl_ofL, body_cons]) (page_no10 p hp)
    rw [List.length_cons]
    unfold rdl
    rw [e2, e3, ofL_bl, if_pos ⟨by omega, hp⟩, rdl_full l (acc ++ [p]) (fun s hs => h s (List.mem_cons_of_mem _ hs)), List.append_assoc]; rfl
theorem rdl_cut : ∀ (l acc : List ByteArray) (j : Nat), (∀ s ∈ l, pageB s = true) → j ≤ (body l).length → ∃ i torn fl, rdl l.length acc (ofL ((body l).take j)) = (acc ++ l.take i, torn, fl) ∧ i ≤ l.length ∧ torn.size + (body (l.take i)).length = j ∧ (fl = true → i = l.length)
  | [], acc, j, _, hj => ⟨0, ofL [], true, by simp [rdl, body], by simp, by simp [body] at hj ⊢; simp [ofL_size, hj], fun _ => rfl⟩
  | p :: l, acc, j, h, hj => by
    have hp := h p List.mem_cons_self
    rw [body_cons] at hj ⊢
    rw [List.length_append, List.length_cons] at hj
    rw [List.length_cons]
    by_cases hl : j ≤ (bl p).length
    · have e : nlI (ofL ((bl p ++ 10 :: body l).take j)) < 0 := by
        unfold nlI
        rw [bl_ofL, List.take_append_of_le_length hl]
        refine idx_no _ (List.count_eq_zero.2 fun q => ?_)
        exact List.count_eq_zero.1 (page_no10 p hp) (List.mem_of_mem_take q)
      refine ⟨0, ofL ((bl p ++ 10 :: body l).take j), false, ?_, by omega, ?_, fun q => by cases q⟩
      · unfold rdl; rw [if_neg (fun q => by omega)]; simp
      · rw [ofL_size, List.length_take, List.length_append, List.length_cons]; simp [body]; omega
    · obtain ⟨j', rfl⟩ : ∃ j', j = (bl p).length + 1 + j' := ⟨j - (bl p).length - 1, by omega⟩
      have et : (bl p ++ 10 :: body l).take ((bl p).length + 1 + j') = bl p ++ 10 :: (body l).take j' := by
        rw [show bl p ++ 10 :: body l = (bl p ++ [10]) ++ body l by simp, show (bl p).length + 1 + j' = (bl p ++ [10]).length + j' by simp, List.take_length_add_append]; simp
      rw [et]
      obtain ⟨e1, e2, e3⟩ := take_at (bl p) ((body l).take j') (ofL (bl p ++ 10 :: (body l).take j')) (by rw [bl_ofL]) (page_no10 p hp)
      obtain ⟨i, torn, fl, R, hi, hs, hf⟩ := rdl_cut l (acc ++ [p]) j' (fun s hs => h s (List.mem_cons_of_mem _ hs)) (by omega)
      refine ⟨i + 1, torn, fl, ?_, by omega, ?_, fun q => by rw [hf q]⟩
      · unfold rdl
        rw [e2, e3, ofL_bl, if_pos ⟨by omega, hp⟩, R, List.append_assoc]; rfl
      · rw [List.take_succ_cons, body_cons, List.length_append, List.length_cons]; omega

def wrL (l : List ByteArray) (r : Nat) : List UInt8 := fst9 l.length r ++ body l
theorem write_l0 (l : List ByteArray) (hl : l.length ≤ 64) (hs : ∀ s ∈ l, s.size ≤ 60) : ∀ (d i : Nat) (acc : List UInt8), i + d = l.length → acc.length ≤ 1000 + i * 61 → Ev (fun k => book_write.l0 k l (l.length : Int) (i : Int) (ofL acc)) (ofL (acc ++ body (l.drop i)))
  | 0, i, acc, h, ha => by
    refine Ev.step (fun k => book_write.l0.eq_2 ..) (evn (by omega) ?_)
    rw [List.drop_eq_nil_of_le (by omega), show body [] = [] from rfl, List.append_nil]; exact Ev.now _
  | d + 1, i, acc, h, ha => by
    have hi : i < l.length := by omega
    have h1 := hs l[i] (List.getElem_mem hi)
    refine Ev.step (fun k => book_write.l0.eq_2 ..) (evp (by omega) (evp (by omega) (evp (by omega) ?_)))
    rw [rdS_at l i hi]
    refine evp (by omega) (evp (by rw [ofL_size, ByteArray.size_append, show (⟨#[10]⟩ : ByteArray).size = 1 from rfl]; omega) ?_)
    rw [w64 (by omega) (by omega), show ofL acc ++ (l[i] ++ ⟨#[10]⟩) = ofL (acc ++ (bl l[i] ++ [10])) from bl_inj (by rw [bl_app, bl_app, bl_ofL, bl_ofL]; rfl)]
    have R := write_l0 l hl hs d (i + 1) (acc ++ (bl l[i] ++ [10])) (by omega) (by rw [List.length_append, List.length_append, bl_len, List.length_singleton]; omega)
    rw [List.drop_eq_getElem_cons hi, body_cons]
    rw [List.append_assoc, List.append_assoc] at R
    exact R
theorem rwrite_l0 (l : List ByteArray) (hl : l.length ≤ 64) (hs : ∀ s ∈ l, s.size ≤ 60) : ∀ (d i : Nat) (acc : List UInt8), i + d = l.length → acc.length ≤ 1000 + i * 61 → Ev (fun k => wigeonref09_Write.l0 k l (ofL acc) (i : Int)) (ofL (acc ++ body (l.drop i)), 0)
  | 0, i, acc, h, ha => by
    refine Ev.step (fun k => wigeonref09_Write.l0.eq_2 ..) (evn (by omega) ?_)
    rw [List.drop_eq_nil_of_le (by omega), show body [] = [] from rfl, List.append_nil]; exact Ev.now _
  | d + 1, i, acc, h, ha => by
    have hi : i < l.length := by omega
    have h1 := hs l[i] (List.getElem_mem hi)
    refine Ev.step (fun k => wigeonref09_Write.l0.eq_2 ..) (evp (by omega) (evp (by omega) ?_))
    rw [rdS_at l i hi]
    refine evp (by omega) (evp (by rw [ofL_size, ByteArray.size_append, show (⟨#[10]⟩ : ByteArray).size = 1 from rfl]; omega) ?_)
    rw [w64 (by omega) (by omega), show ofL acc ++ (l[i] ++ ⟨#[10]⟩) = ofL (acc ++ (bl l[i] ++ [10])) from bl_inj (by rw [bl_app, bl_app, bl_ofL, bl_ofL]; rfl)]
    have R := rwrite_l0 l hl hs d (i + 1) (acc ++ (bl l[i] ++ [10])) (by omega) (by rw [List.length_append, List.length_append, bl_len, List.length_singleton]; omega)
    rw [List.drop_eq_getElem_cons hi, body_cons]
    rw [List.append_assoc, List.append_assoc] at R
    exact R
theorem rt_nat (l : List ByteArray) : ∃ r : Nat, rt (lvs l) = (r : Int) ∧ r < 2147483647 := by
  have h := rt_range (lvs l).length (lvs l) (Nat.le_refl _) (lvs_range l)
  obtain ⟨r, hr⟩ := Int.eq_ofNat_of_zero_le h.1
  exact ⟨r, hr, by have := h.2; omega⟩
theorem fst_len (n r : Nat) (hn : n ≤ 64) (hr : r < 2147483647) : (fst9 n r).length ≤ 40 := by
  have hp : (10 : Nat) ^ 12 = 1000000000000 := by decide
  have h1 := dec_len 11 n (by omega)
  have h2 := dec_len 11 r (by omega)
  unfold fst9 pgs
  simp only [List.length_append, List.length_cons, List.length_nil]; omega
theorem write_ev (l : List ByteArray) (hl : l.length ≤ 64) (hp : ∀ s ∈ l, pageB s = true) (r : Nat) (hr : rt (lvs l) = (r : Int)) (hr2 : r < 2147483647) : Ev (fun k => book_write.f k l) (ofL (wrL l r)) := by
  have hs : ∀ s ∈ l, s.size ≤ 60 := fun s q => page_small s (hp s q)
  have hq : (10 : Nat) ^ 12 = 1000000000000 := by decide
  have h1 := dec_len 11 l.length (by omega)
  have h2 := dec_len 11 r (by omega)
  unfold book_write.f
  have I1 : strconv_Itoa_50.f (l.length : Int) = some (ofL (Lib.decDigits l.length)) := by rw [Itoa_eq _ (by omega), itoa_at]
  have I2 : strconv_Itoa_50.f (rt (lvs l)) = some (ofL (Lib.decDigits r)) := by rw [hr, Itoa_eq _ (by omega), itoa_at]
  have E : (((((⟨#[112, 97, 103, 101, 115, 32]⟩ : ByteArray) ++ ofL (Lib.decDigits l.length)) ++ (⟨#[32]⟩ : ByteArray)) ++ ofL (Lib.decDigits r)) ++ (⟨#[10]⟩ : ByteArray)) = ofL (fst9 l.length r) := bl_inj (by simp only [bl_app, bl_ofL]; rfl)
  have hf := fst_len l.length r hl hr2
  refine evs I1 (evp (by rw [ofL_size]; omega) (evp (by rw [ByteArray.size_append, ofL_size]; simp [ByteArray.size]; omega) (evb (leaves_ev l hl (fun s q => by have := hs s q; omega)) (evb (root_ev _ (lvs l) (Nat.le_refl _) (by rw [lvs_length]; omega)) (evs I2 (evp (by rw [ByteArray.size_append, ByteArray.size_append, ofL_size, ofL_size]; simp [ByteArray.size]; omega) (evp (by rw [ByteArray.size_append, ByteArray.size_append, ByteArray.size_append, ofL_size, ofL_size]; simp [ByteArray.size]; omega) ?_)))))))
  rw [E]
  refine evp (by rw [ofL_size]; omega) ?_
  exact write_l0 l hl hs l.length 0 (fst9 l.length r) (by omega) (by omega)
theorem Write_ok (l : List ByteArray) (hl : l.length ≤ 64) (hp : ∀ s ∈ l, pageB s = true) (r : Nat) (hr : rt (lvs l) = (r : Int)) (hr2 : r < 2147483647) : Ev (fun k => book_Write.f k l) (ofL (wrL l r), 0) := by
  have V := vP_ev l (by omega)
  rw [vP_zero l hl hp] at V
  unfold book_Write.f
  exact evb V (evp rfl (evb (write_ev l hl hp r hr hr2) (Ev.now _)))
theorem rWrite_ok (l : List ByteArray) (hl : l.length ≤ 64) (hp : ∀ s ∈ l, pageB s = true) (r : Nat) (hr : rt (lvs l) = (r : Int)) (hr2 : r < 2147483647) : Ev (fun k => wigeonref09_Write.f k l) (ofL (wrL l r), 0) := by
  have hs : ∀ s ∈ l, s.size ≤ 60 := fun s q => page_small s (hp s q)
  have hq : (10 : Nat) ^ 12 = 1000000000000 := by decide
  have V := rRoot_ev l (by omega) (fun s q => by have := hs s q; omega)
  unfold rootR at V
  rw [if_pos (vP_zero l hl hp), hr] at V
  have hf := fst_len l.length r hl hr2
  unfold wigeonref09_Write.f
  exact evb V (evp rfl (evb (first_ev l.length r (by omega) (by omega)) (rwrite_l0 l hl hs l.length 0 (fst9 l.length r) (by omega) (by omega))))
theorem Write_no (l : List ByteArray) (hl : l.length ≤ 1000) (h : vP l ≠ 0) : Ev (fun k => book_Write.f k l) (⟨#[]⟩, vP l) := by
  unfold book_Write.f
  exact evb (vP_ev l hl) (evn h (Ev.now _))
theorem rWrite_no (l : List ByteArray) (hl : l.length ≤ 1000) (hs : ∀ s ∈ l, s.size ≤ 9223372036854775807) (h : vP l ≠ 0) : Ev (fun k => wigeonref09_Write.f k l) (⟨#[]⟩, vP l) := by
  have V := rRoot_ev l hl hs
  unfold rootR at V
  rw [if_neg h] at V
  unfold wigeonref09_Write.f
  exact evb V (evn h (Ev.now _))

theorem wr_len (l : List ByteArray) (r : Nat) (hl : l.length ≤ 64) (hp : ∀ s ∈ l, pageB s = true) (hr2 : r < 2147483647) : (wrL l r).length ≤ 4000 := by
  have h1 := body_len l (fun s q => page_small s (hp s q))
  have h2 := fst_len l.length r hl hr2
  unfold wrL; rw [List.length_append]; omega
theorem cut_read (l : List ByteArray) (r j : Nat) (hl : l.length ≤ 64) (hp : ∀ s ∈ l, pageB s = true) (hr2 : r < 2147483647) (hj : j ≤ (body l).length) :
    Ev (fun k => book_read.f k (ofL (hdl l.length r ++ 10 :: (body l).take j))) (rdE (rdl l.length [] (ofL ((body l).take j))) r) := by
  obtain ⟨e1, e2, e3⟩ := take_at (hdl l.length r) ((body l).take j) (ofL (hdl l.length r ++ 10 :: (body l).take j)) (by rw [bl_ofL]) (hdl_no _ _)
  have hz := wr_len l r hl hp hr2
  have R := read_ok (ofL (hdl l.length r ++ 10 :: (body l).take j)) (hdl l.length r).length l.length r (by
    unfold wrL at hz; rw [fst_hdl] at hz
    rw [ofL_size]; simp only [List.length_append, List.length_cons, List.length_nil, List.length_take] at hz ⊢; omega) e1 (by
    rw [bl_ofL, List.take_left' rfl]; exact ⟨hdl_spl _ _, hl, hr2⟩)
  rw [e1] at e3
  rw [show ((hdl l.length r).length : Int).toNat = (hdl l.length r).length from rfl] at e3
  rw [e3] at R
  exact R
theorem full_read (l : List ByteArray) (r : Nat) (hl : l.length ≤ 64) (hp : ∀ s ∈ l, pageB s = true) (hr : rt (lvs l) = (r : Int)) (hr2 : r < 2147483647) : Ev (fun k => book_read.f k (ofL (wrL l r))) (l, ofL [], true, 0) := by
  have R := cut_read l r (body l).length hl hp hr2 (Nat.le_refl _)
  rw [List.take_length, rdl_full l [] hp] at R
  unfold rdE at R
  rw [if_pos rfl, List.nil_append, if_pos hr] at R
  rw [show wrL l r = hdl l.length r ++ 10 :: body l by unfold wrL; rw [fst_hdl]; simp]
  exact R
theorem part_read (l : List ByteArray) (r j : Nat) (hl : l.length ≤ 64) (hp : ∀ s ∈ l, pageB s = true) (hr : rt (lvs l) = (r : Int)) (hr2 : r < 2147483647) (hj : j ≤ (body l).length) :
    ∃ i torn fl, Ev (fun k => book_read.f k (ofL (hdl l.length r ++ 10 :: (body l).take j))) (l.take i, torn, fl, 0) ∧ i ≤ l.length ∧ torn.size + (body (l.take i)).length = j := by
  have R := cut_read l r j hl hp hr2 hj
  obtain ⟨i, torn, fl, e, hi, hs, hf⟩ := rdl_cut l [] j hp hj
  rw [e, List.nil_append] at R
  unfold rdE at R
  refine ⟨i, torn, fl, ?_, hi, hs⟩
  cases fl with
  | true =>
    have := hf rfl
    subst this
    rw [if_pos rfl, if_pos (by rw [List.take_length]; exact hr)] at R
    exact R
  | false =>
    rw [if_neg (show ¬ (false = true) by decide)] at R
    exact R

theorem sum_l1 (kk : Int) (y : List ByteArray) (hy : y.length ≤ 64) (hs : ∀ s ∈ y, s.size ≤ 60) : ∀ (d i : Nat) (n : Nat), i + d = y.length → n ≤ 10000 + i * 61 → ((n + (body (y.drop i)).length : Nat) : Int) = kk → Ev (fun k => wigeonlaw09_BookWrites.l1 k kk y (n : Int) (i : Int)) true
  | 0, i, n, h, hn, e => by
    refine Ev.step (fun k => wigeonlaw09_BookWrites.l1.eq_2 ..) (evn (by omega) ?_)
    rw [List.drop_eq_nil_of_le (by omega), show (body []).length = 0 from rfl, Nat.add_zero] at e
    exact evp e (evb known_ev (Ev.now _))
  | d + 1, i, n, h, hn, e => by
    have hi : i < y.length := by omega
    have h1 := hs y[i] (List.getElem_mem hi)
    refine Ev.step (fun k => wigeonlaw09_BookWrites.l1.eq_2 ..) (evp (by omega) (evp (by omega) ?_))
    rw [rdS_at y i hi, w64 (n := ((y[i].size : Int) + 1)) (by omega) (by omega), w64 (n := (i : Int) + 1) (by omega) (by omega), w64 (by omega) (by omega), show ((n : Int) + ((y[i].size : Int) + 1)) = ((n + y[i].size + 1 : Nat) : Int) by omega]
    refine sum_l1 kk y hy hs d (i + 1) (n + y[i].size + 1) (by omega) (by omega) ?_
    rw [List.drop_eq_getElem_cons hi, body_cons, List.length_append, List.length_cons, bl_len] at e
    omega
theorem find_l0 (l : List ByteArray) (cut : Int) (a : ByteArray) (m : Nat) (ha : a.size ≤ 10000) (hm : nlI a = m) (F : Ev (fun k => wigeonlaw09_BookWrites.l0 k l cut a (m : Int)) true) : ∀ (d i : Nat), i + d = m → Ev (fun k => wigeonlaw09_BookWrites.l0 k l cut a (i : Int)) true
  | 0, i, h => by rw [show i = m by omega]; exact F
  | d + 1, i, h => by
    have hl := nl_at hm
    have hi : i < (bl a).length := by rw [bl_len]; omega
    obtain ⟨q, hq, _, _, g⟩ := idx_some (l := bl a) (c := 10) (by show 0 ≤ nlI a; omega)
    have hqm : q = m := by have : nlI a = q := hq; omega
    subst hqm
    refine Ev.step (fun k => wigeonlaw09_BookWrites.l0.eq_2 ..) (evp (by omega) (evp (by omega) ?_))
    rw [bt_bl a i hi, w64 (n := (i : Int) + 1) (by omega) (by omega)]
    refine evn (fun z => g i (by omega) ?_) (find_l0 l cut a q ha hm F d (i + 1) (by omega))
    rw [List.getElem?_eq_getElem hi]; exact congrArg some (UInt8.toNat_inj.1 (by show _ = 10; omega))
theorem BookWrites (a0 : List ByteArray) (a1 : Int) (h0 : a0.length ≤ 9223372036854775807 ∧ ∀ x_ ∈ a0, x_.size ≤ 9223372036854775807) (h1 : (Lit.int .i64 a1).wf = true) : ∃ k, wigeonlaw09_BookWrites.f k a0 a1 = some true := by
  refine Ev.rounds ?_
  unfold wigeonlaw09_BookWrites.f
  refine evb (Long_ev a0 h0.1) ?_
  by_cases h : longB a0 = true
  · exact evp h (evb known_ev (Ev.now _))
  refine evn h ?_
  obtain ⟨l1, l2⟩ := long_not a0 h
  rcases vP_cases a0 with ⟨_, hl, hp⟩ | hv
  · obtain ⟨r, hr, hr2⟩ := rt_nat a0
    refine evb (Write_ok a0 hl hp r hr hr2) (evb (rWrite_ok a0 hl hp r hr hr2) (evp rfl ?_))
    show Ev (fun k => wigeonlaw09_BookWrites.j0 k a0 a1 (ofL (wrL a0 r)) 0 false) true
    refine Ev.step (fun k => wigeonlaw09_BookWrites.j0.eq_2 ..) (evn (by decide) (evp rfl ?_))
    have RD : Ev (fun k => book_Read.f k (ofL (wrL a0 r))) (a0, ofL [], 0) := by unfold book_Read.f; exact evb (full_read a0 r hl hp hr hr2) (Ev.now _)
    refine evb RD (evp rfl (evp (by rw [bl_tl, bl_ofL]) (evb (same_ev a0 (by omega)) ?_)))
    refine Ev.step (fun k => wigeonlaw09_BookWrites.j1.eq_2 ..) (evn (by decide) ?_)
    have hz := wr_len a0 r hl hp hr2
    have ew : wrL a0 r = hdl a0.length r ++ 10 :: body a0 := by unfold wrL; rw [fst_hdl]; simp
    obtain ⟨e1, _, _⟩ := take_at (hdl a0.length r) (body a0) (ofL (wrL a0 r)) (by rw [bl_ofL, ew]) (hdl_no _ _)
    have hsz : (ofL (wrL a0 r)).size = (hdl a0.length r).length + 1 + (body a0).length := by rw [ofL_size, ew, List.length_append, List.length_cons]; omega
    rw [← ofL_size] at hz
    refine find_l0 a0 a1 (ofL (wrL a0 r)) (hdl a0.length r).length (by omega) e1 ?_ (hdl a0.length r).length 0 (by omega)
    generalize hM : (hdl a0.length r).length = M at *
    have hbt : bt (ofL (wrL a0 r)) (M : Int) = 10 := by
      rw [bt_bl _ M (by rw [bl_len]; omega)]
      have : (bl (ofL (wrL a0 r)))[M]? = some 10 := by rw [bl_ofL, ew, List.getElem?_append_right (by omega), hM, Nat.sub_self]; rfl
      rw [List.getElem?_eq_getElem (by rw [bl_len]; omega)] at this
      rw [Option.some.inj this]; rfl
    refine Ev.step (fun k => wigeonlaw09_BookWrites.l0.eq_2 ..) (evp (by omega) (evp (by omega) (evp hbt ?_)))
    have eS : IntKind.u64.wrap (wrap64 (((ofL (wrL a0 r)).size : Int) - (M : Int))) = ((1 + (body a0).length : Nat) : Int) := by
      rw [IntKind.wrap_u64, w64 (by omega) (by omega), hsz]; omega
    have hc : 0 ≤ IntKind.u64.wrap a1 := by rw [IntKind.wrap_u64]; omega
    obtain ⟨c, ec⟩ := Int.eq_ofNat_of_zero_le hc
    rw [eS, ec, show Int.tmod (c : Int) ((1 + (body a0).length : Nat) : Int) = ((c % (1 + (body a0).length) : Nat) : Int) from rfl]
    have hj : c % (1 + (body a0).length) < 1 + (body a0).length := Nat.mod_lt _ (by omega)
    generalize c % (1 + (body a0).length) = j at hj ⊢
    rw [w64 (n := (M : Int) + 1) (by omega) (by omega), w64 (n := (j : Int)) (by omega) (by omega), w64 (n := ((M : Int) + 1 + (j : Int))) (by omega) (by omega)]
    refine evn (by omega) (evp (by omega) (evp (by omega) ?_))
    obtain ⟨i, torn, fl, PR, hi, hs⟩ := part_read a0 r j hl hp hr hr2 (by omega)
    have ex : (ofL (wrL a0 r)).extract 0 ((M : Int) + 1 + (j : Int)).toNat = ofL (hdl a0.length r ++ 10 :: (body a0).take j) := bl_inj (by
      rw [bl_to, bl_ofL, bl_ofL, ew, show ((M : Int) + 1 + (j : Int)).toNat = (hdl a0.length r ++ [10]).length + j by rw [List.length_append, hM]; simp; omega, show hdl a0.length r ++ 10 :: body a0 = (hdl a0.length r ++ [10]) ++ body a0 by simp, List.take_length_add_append]; simp)
    rw [ex]
    have RP : Ev (fun k => book_Read.f k (ofL (hdl a0.length r ++ 10 :: (body a0).take j))) (a0.take i, torn, 0) := by unfold book_Read.f; exact evb PR (Ev.now _)
    have hti : (a0.take i).length = i := by rw [List.length_take]; omega
    refine evb RP (evp rfl (evn (by show ¬ ((a0.take i).length : Int) > _; rw [hti]; omega) (evp (by omega) (evp (by show ((a0.take i).length : Int) ≤ _; rw [hti]; omega) ?_))))
    show Ev (fun k => (wigeonref01_SameTexts.f k (a0.take i) (a0.take (((a0.take i).length : Int)).toNat)).bind _) _
    rw [show (((a0.take i).length : Int)).toNat = i by rw [hti]; rfl]
    refine evb (same_ev (a0.take i) (by rw [hti]; omega)) ?_
    refine Ev.step (fun k => wigeonlaw09_BookWrites.j3.eq_2 ..) (evn (by decide) ?_)
    have ht : torn.size ≤ 5000 := by have := hs; omega
    dsimp only
    rw [w64 (n := (M : Int) + 1) (by omega) (by omega), w64 (by omega) (by omega), show ((M : Int) + 1 + (torn.size : Int)) = ((M + 1 + torn.size : Nat) : Int) by omega]
    exact sum_l1 _ (a0.take i) (by rw [hti]; omega) (fun s q => page_small s (hp s (List.mem_of_mem_take q))) (a0.take i).length 0 (M + 1 + torn.size) (by omega) (by omega) (by rw [List.drop_zero]; omega)
  · refine evb (Write_no a0 (by omega) hv) (evb (rWrite_no a0 (by omega) h0.2 hv) (evp rfl ?_))
    rw [bne_self_eq_false]
    exact Ev.step (fun k => wigeonlaw09_BookWrites.j0.eq_2 ..) (evn (by decide) (evn hv (evb known_ev (Ev.now _))))

end Go.Proofs.YtfccgfjiplnmfaaDoor.Pure

