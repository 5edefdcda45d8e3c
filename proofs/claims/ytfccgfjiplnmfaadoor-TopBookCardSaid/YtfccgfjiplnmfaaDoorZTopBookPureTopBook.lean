/- Of the text PureTopBook, what the row of TopBook reaches. -/
import Derived.Test.YtfccgfjiplnmfaaDoorZTopBookBAx40
import Derived.Lib.AtoiAllCases
namespace Go.Proofs.YtfccgfjiplnmfaaDoor.Pure
set_option linter.unusedVariables false
set_option linter.unusedSimpArgs false
open Go.RowKit Go.Proofs.YtfccgfjiplnmfaaDoor.BA Go.Proofs.YtfccgfjiplnmfaaDoorW.PrintWords Go.Proofs.YtfccgfjiplnmfaaDoorW.PrintLast

theorem evp {α : Type} {c : Prop} [Decidable c] {f g : Nat → Option α} {r : α} (h : c) (k : Ev f r) : Ev (fun n => if c then f n else g n) r :=
  Ev.congr (fun _ => if_pos h) k
theorem evn {α : Type} {c : Prop} [Decidable c] {f g : Nat → Option α} {r : α} (h : ¬ c) (k : Ev g r) : Ev (fun n => if c then f n else g n) r :=
  Ev.congr (fun _ => if_neg h) k
theorem evb {α β : Type} {g : Nat → Option α} {f : Nat → α → Option β} {a : α} {r : β} (h : Ev g a) (k : Ev (fun n => f n a) r) : Ev (fun n => (g n).bind (f n)) r := Ev.bind h k
theorem evs {α β : Type} {x : Option α} {f : Nat → α → Option β} {a : α} {r : β} (h : x = some a) (k : Ev (fun n => f n a) r) : Ev (fun n => x.bind (f n)) r := by
  subst h; exact k
theorem w64 {n : Int} (h : -9223372036854775808 ≤ n) (h2 : n ≤ 9223372036854775807) : wrap64 n = n := by unfold wrap64; omega
theorem rd_at (l : List Int) (i : Nat) (h : i < l.length) : rd l (i : Int) = l[i] := by
  simp [rd, List.getD_eq_getElem?_getD, List.getElem?_eq_getElem h]
theorem rdS_at (l : List ByteArray) (i : Nat) (h : i < l.length) : rdOf ByteArray.empty l (i : Int) = l[i] := by
  simp [rdOf, List.getD_eq_getElem?_getD, List.getElem?_eq_getElem h]
theorem rdB_at (l : List Bool) (i : Nat) (h : i < l.length) : rdOf false l (i : Int) = l[i] := by
  simp [rdOf, List.getD_eq_getElem?_getD, List.getElem?_eq_getElem h]
theorem page_small (s : ByteArray) (h : pageB s = true) : s.size ≤ 60 := by
  unfold pageB at h
  simp only [Bool.and_eq_true, decide_eq_true_eq] at h
  exact h.1.2
theorem leaf_eq (s : ByteArray) (hs : s.size ≤ 1000000) : book_leaf.f s = some (leafV s) := if_pos hs
theorem fold_range : ∀ (l : List Int) (x : Int), (∀ c ∈ l, 0 ≤ c ∧ c ≤ 255) → 0 ≤ x → x < 2147483647 → 0 ≤ l.foldl (fun x c => (wrap64 (wrap64 (wrap64 (x * 257) + c) + 1)).tmod 2147483647) x ∧ l.foldl (fun x c => (wrap64 (wrap64 (wrap64 (x * 257) + c) + 1)).tmod 2147483647) x < 2147483647
  | [], x, _, h0, h1 => ⟨h0, h1⟩
  | c :: l, x, h, h0, h1 => by
    obtain ⟨c0, c1⟩ := h c List.mem_cons_self
    rw [List.foldl_cons]
    refine fold_range l _ (fun d hd => h d (List.mem_cons_of_mem _ hd)) ?_ ?_
    · rw [w64 (n := x * 257) (by omega) (by omega), w64 (n := x * 257 + c) (by omega) (by omega), w64 (n := x * 257 + c + 1) (by omega) (by omega), Int.tmod_eq_emod_of_nonneg (by omega)]; omega
    · rw [w64 (n := x * 257) (by omega) (by omega), w64 (n := x * 257 + c) (by omega) (by omega), w64 (n := x * 257 + c + 1) (by omega) (by omega), Int.tmod_eq_emod_of_nonneg (by omega)]; omega
def sumP (x : Int) : Prop := 0 ≤ x ∧ x < 2147483647
instance (x : Int) : Decidable (sumP x) := by unfold sumP; exact inferInstance
theorem leaf_range (s : ByteArray) : sumP (leafV s) := fold_range _ 1 (bytesOf_range s) (by decide) (by decide)

def jn (x y : Int) : Int := Int.tmod (wrap64 ((wrap64 ((wrap64 (x * 48271)) + (wrap64 (y * 16807)))) + 1)) 2147483647
theorem jn_range (x y : Int) (hx : sumP x) (hy : sumP y) : sumP (jn x y) := by
  obtain ⟨a, b⟩ := hx
  obtain ⟨c, d⟩ := hy
  unfold jn sumP
  rw [w64 (n := x * 48271) (by omega) (by omega), w64 (n := y * 16807) (by omega) (by omega), w64 (n := x * 48271 + y * 16807) (by omega) (by omega), w64 (n := x * 48271 + y * 16807 + 1) (by omega) (by omega), Int.tmod_eq_emod_of_nonneg (by omega)]
  omega
theorem join_eq (x y : Int) : book_join.f x y = some (jn x y) := rfl
theorem isSum_eq (l : List Int) : book_isSum.f l = some (decide (∀ x ∈ l, sumP x)) := by
  unfold book_isSum.f cf_isSum.f
  rw [Option.bind_some]
  congr 1
  by_cases h : ∀ x ∈ l, sumP x
  · rw [decide_eq_true h, show (l.any fun x => decide (x < 0) || decide (x ≥ 2147483647)) = false from List.any_eq_false.2 (fun x hx => by have := h x hx; unfold sumP at this; simp; omega)]; rfl
  · rw [decide_eq_false h]
    have : (l.any fun x => decide (x < 0) || decide (x ≥ 2147483647)) = true := by
      rw [List.any_eq_true]
      refine Classical.byContradiction fun hn => h fun x hx => ?_
      unfold sumP
      refine Classical.byContradiction fun hs => hn ⟨x, hx, by simp; omega⟩
    rw [this]; rfl

/-- the greatest power of two below n -/
def sp (n : Nat) : Nat := 2 ^ Nat.log2 (n - 1)
theorem sp_lt (n : Nat) (h : 2 ≤ n) : sp n < n := by
  have := Nat.log2_self_le (n := n - 1) (by omega)
  unfold sp; omega
theorem sp_pos (n : Nat) : 0 < sp n := Nat.pow_pos (by decide)
theorem split_at : ∀ n : Fin 63, book_split.f 8 ((n.val + 2 : Nat) : Int) = some ((sp (n.val + 2) : Nat) : Int) := by decide +kernel
theorem split_ev (n : Nat) (h : 2 ≤ n) (h2 : n ≤ 64) : Ev (fun k => book_split.f k (n : Int)) ((sp n : Nat) : Int) := by
  have := split_at ⟨n - 2, by omega⟩
  rw [show n - 2 + 2 = n by omega] at this
  exact Ev.of (book_split.mono _) this
/-- the root of sums -/
def rt (l : List Int) : Int :=
  if h : l.length ≤ 1 then l.headD 0 else jn (rt (l.take (sp l.length))) (rt (l.drop (sp l.length)))
termination_by l.length
decreasing_by
  · have := sp_lt l.length (by omega); rw [List.length_take]; omega
  · have := sp_pos l.length; rw [List.length_drop]; omega
theorem rt_nil : rt [] = 0 := by rw [rt]; simp
theorem rt_one (x : Int) : rt [x] = x := by rw [rt]; simp
theorem rt_two (l : List Int) (h : 2 ≤ l.length) : rt l = jn (rt (l.take (sp l.length))) (rt (l.drop (sp l.length))) := by
  rw [rt, dif_neg (by omega)]
theorem rt_range : ∀ (n : Nat) (l : List Int), l.length ≤ n → (∀ x ∈ l, sumP x) → sumP (rt l)
  | 0, l, h, _ => by
    obtain rfl : l = [] := List.length_eq_zero_iff.1 (by omega)
    rw [rt_nil]; exact ⟨by decide, by decide⟩
  | n + 1, l, h, hl => by
    match l, h, hl with
    | [], _, _ => rw [rt_nil]; exact ⟨by decide, by decide⟩
    | [x], _, hl => rw [rt_one]; exact hl x List.mem_cons_self
    | x :: y :: l, h, hl =>
      have h2 : 2 ≤ (x :: y :: l).length := by simp
      have a := sp_lt _ h2
      have b := sp_pos (x :: y :: l).length
      rw [rt_two _ h2]
      exact jn_range _ _ (rt_range n _ (by rw [List.length_take]; omega) (fun z hz => hl z (List.mem_of_mem_take hz))) (rt_range n _ (by rw [List.length_drop]; omega) (fun z hz => hl z (List.mem_of_mem_drop hz)))
theorem root_ev : ∀ (n : Nat) (l : List Int), l.length ≤ n → l.length ≤ 64 → Ev (fun k => book_root.f k l) (rt l)
  | 0, l, h, h64 => by
    obtain rfl : l = [] := List.length_eq_zero_iff.1 (by omega)
    refine Ev.step (fun k => book_root.f.eq_2 ..) (evp (by simp) ?_)
    rw [rt_nil]; exact Ev.now _
  | n + 1, l, h, h64 => by
    by_cases h0 : l.length = 0
    · obtain rfl : l = [] := List.length_eq_zero_iff.1 h0
      refine Ev.step (fun k => book_root.f.eq_2 ..) (evp (by simp) ?_)
      rw [rt_nil]; exact Ev.now _
    by_cases h1 : l.length = 1
    · obtain ⟨x, rfl⟩ := List.length_eq_one_iff.1 h1
      refine Ev.step (fun k => book_root.f.eq_2 ..) (evn (by simp) (evp (by simp) (evp (by simp) ?_)))
      rw [rt_one, show rd [x] 0 = x from rfl]; exact Ev.now _
    have h2 : 2 ≤ l.length := by omega
    have a := sp_lt _ h2
    have b := sp_pos l.length
    refine Ev.step (fun k => book_root.f.eq_2 ..) (evn (by omega) (evn (by omega) (evb (split_ev _ h2 h64) (evp (by omega) (evp (by omega) ?_)))))
    rw [Int.toNat_natCast]
    refine evb (root_ev n _ (by rw [List.length_take]; omega) (by rw [List.length_take]; omega)) (evb (root_ev n _ (by rw [List.length_drop]; omega) (by rw [List.length_drop]; omega)) (evs (join_eq _ _) ?_))
    rw [rt_two _ h2]; exact Ev.now _
def vP (l : List ByteArray) : Int := if l.length > 64 then 3 else if l.all pageB then 0 else 1
theorem vP_l0 (l : List ByteArray) (hl : l.length ≤ 64) : ∀ d i : Nat, i + d = l.length → Ev (fun k => book_ValidatePages.l0 k l (l.length : Int) (i : Int)) (if (l.drop i).all pageB then (0 : Int) else 1)
  | 0, i, h => by
    refine Ev.step (fun k => book_ValidatePages.l0.eq_2 ..) (evn (by omega) ?_)
    rw [List.drop_eq_nil_of_le (by omega)]; exact Ev.now _
  | d + 1, i, h => by
    have hlt : i < l.length := by omega
    have R := vP_l0 l hl d (i + 1) (by omega)
    refine Ev.step (fun k => book_ValidatePages.l0.eq_2 ..) (evp (by omega) (evp (by omega) (evp (by omega) (evs rfl ?_))))
    rw [rdS_at l i hlt, List.drop_eq_getElem_cons hlt, List.all_cons, w64 (by omega) (by omega)]
    cases pageB l[i]
    · exact evn (by decide) (Ev.now _)
    · exact evp rfl (by rw [Bool.true_and]; exact R)
theorem vP_ev (l : List ByteArray) (hl : l.length ≤ 1000) : Ev (fun k => book_ValidatePages.f k l) (vP l) := by
  unfold book_ValidatePages.f vP
  by_cases h : l.length > 64
  · rw [if_pos h]; exact evp (by omega) (Ev.now _)
  · rw [if_neg h]; exact evn (by omega) (vP_l0 l (by omega) l.length 0 (by omega))
theorem vP_cases (l : List ByteArray) : (vP l = 0 ∧ l.length ≤ 64 ∧ ∀ s ∈ l, pageB s = true) ∨ vP l ≠ 0 := by
  unfold vP
  by_cases h : l.length > 64
  · rw [if_pos h]; exact Or.inr (by decide)
  · rw [if_neg h]
    by_cases h2 : l.all pageB = true
    · rw [if_pos h2]; exact Or.inl ⟨rfl, by omega, fun s hs => List.all_eq_true.1 h2 s hs⟩
    · rw [if_neg h2]; exact Or.inr (by decide)
theorem vP_zero (l : List ByteArray) (h1 : l.length ≤ 64) (h2 : ∀ s ∈ l, pageB s = true) : vP l = 0 := by
  unfold vP; rw [if_neg (by omega), if_pos (List.all_eq_true.2 h2)]

def lvs (l : List ByteArray) : List Int := l.map leafV
theorem lvs_length (l : List ByteArray) : (lvs l).length = l.length := List.length_map _
theorem lvs_range (l : List ByteArray) : ∀ x ∈ lvs l, sumP x := by
  intro x hx
  obtain ⟨s, _, rfl⟩ := List.mem_map.1 hx
  exact leaf_range s
theorem leaves_l0 (l : List ByteArray) (hl : l.length ≤ 64) (hs : ∀ s ∈ l, s.size ≤ 1000) : ∀ (d i : Nat) (acc : List Int), i + d = l.length → acc.length + d ≤ 64 → Ev (fun k => book_leaves.l0 k acc l (l.length : Int) (i : Int)) (acc ++ lvs (l.drop i))
  | 0, i, acc, h, _ => by
    refine Ev.step (fun k => book_leaves.l0.eq_2 ..) (evn (by omega) ?_)
    rw [List.drop_eq_nil_of_le (by omega)]; simp [lvs]; exact Ev.now _
  | d + 1, i, acc, h, ha => by
    have hlt : i < l.length := by omega
    refine Ev.step (fun k => book_leaves.l0.eq_2 ..) (evp (by omega) (evp (by omega) (evp (by omega) ?_)))
    rw [rdS_at l i hlt]
    refine evs (leaf_eq _ (by have := hs _ (List.getElem_mem hlt); omega)) (evp (by omega) ?_)
    rw [w64 (by omega) (by omega)]
    have R := leaves_l0 l hl hs d (i + 1) (acc ++ [leafV l[i]]) (by omega) (by simp; omega)
    rw [List.drop_eq_getElem_cons hlt]
    rw [show acc ++ lvs (l[i] :: l.drop (i + 1)) = acc ++ [leafV l[i]] ++ lvs (l.drop (i + 1)) from (List.append_assoc acc [leafV l[i]] _).symm]
    exact R
theorem leaves_ev (l : List ByteArray) (hl : l.length ≤ 64) (hs : ∀ s ∈ l, s.size ≤ 1000) : Ev (fun k => book_leaves.f k l) (lvs l) := by
  have := leaves_l0 l hl hs l.length 0 [] (by omega) (by simp; omega)
  rwa [List.nil_append] at this
def rootR (l : List ByteArray) : Int × Int := if vP l = 0 then (rt (lvs l), 0) else (0, vP l)
theorem Root_ev (l : List ByteArray) (hl : l.length ≤ 1000) : Ev (fun k => book_Root.f k l) (rootR l) := by
  unfold book_Root.f rootR
  refine evb (vP_ev l hl) ?_
  rcases vP_cases l with ⟨h, h64, hp⟩ | h
  · rw [if_pos h]
    exact evp h (evb (leaves_ev l h64 (fun s hs => by have := page_small s (hp s hs); omega)) (evb (root_ev 64 _ (by rw [lvs_length]; omega) (by rw [lvs_length]; omega)) (Ev.now _)))
  · rw [if_neg h]
    exact evn h (Ev.now _)
def longB (l : List ByteArray) : Bool := l.any (fun s => decide (200 < s.size)) || decide (100 < l.length)
theorem Long_l0 (l : List ByteArray) (hl : l.length ≤ 9223372036854775807) : ∀ d i : Nat, i + d = l.length → Ev (fun k => wigeonlaw09_Long.l0 k l (i : Int)) ((l.drop i).any (fun s => decide (200 < s.size)) || decide (100 < l.length))
  | 0, i, h => by
    refine Ev.step (fun k => wigeonlaw09_Long.l0.eq_2 ..) (evn (by omega) ?_)
    rw [List.drop_eq_nil_of_le (by omega), List.any_nil, Bool.false_or, show decide (100 < l.length) = decide ((l.length : Int) > 100) from decide_eq_decide.2 (by omega)]; exact Ev.now _
  | d + 1, i, h => by
    have hlt : i < l.length := by omega
    have R := Long_l0 l hl d (i + 1) (by omega)
    refine Ev.step (fun k => wigeonlaw09_Long.l0.eq_2 ..) (evp (by omega) (evp (by omega) ?_))
    rw [rdS_at l i hlt, List.drop_eq_getElem_cons hlt, List.any_cons]
    by_cases h2 : 200 < l[i].size
    · refine evp (by omega) ?_
      rw [decide_eq_true h2, Bool.true_or, Bool.true_or]; exact Ev.now _
    · refine evn (by omega) ?_
      rw [decide_eq_false h2, Bool.false_or, w64 (by omega) (by omega)]; exact R
theorem Long_ev (l : List ByteArray) (hl : l.length ≤ 9223372036854775807) : Ev (fun k => wigeonlaw09_Long.f k l) (longB l) := Long_l0 l hl l.length 0 (by omega)
theorem long_not (l : List ByteArray) (h : ¬ longB l = true) : l.length ≤ 100 ∧ ∀ s ∈ l, s.size ≤ 200 := by
  unfold longB at h
  simp only [Bool.or_eq_true, List.any_eq_true, decide_eq_true_eq, not_or, not_exists, not_and] at h
  exact ⟨by omega, fun s hs => by have := h.1 s hs; omega⟩

def numR (i n : Int) : Int := if n < 1 ∨ 64 < n then 1 else if i < 0 ∨ n ≤ i then 4 else 0
theorem numR_1 {i n : Int} (h : n < 1 ∨ 64 < n) : numR i n = 1 := if_pos h
theorem numR_4 {i n : Int} (h : ¬ (n < 1 ∨ 64 < n)) (h2 : i < 0 ∨ n ≤ i) : numR i n = 4 := (if_neg h).trans (if_pos h2)
theorem numR_0 {i n : Int} (h : ¬ (n < 1 ∨ 64 < n)) (h2 : ¬ (i < 0 ∨ n ≤ i)) : numR i n = 0 := (if_neg h).trans (if_neg h2)
theorem numbered_ev (i n : Int) : Ev (fun k => book_numbered.f k i n) (numR i n) := by
  unfold book_numbered.f
  by_cases h : n < 1
  · rw [numR_1 (Or.inl h)]; exact evp h (Ev.step (fun k => book_numbered.j0.eq_2 ..) (evp rfl (Ev.now _)))
  · refine evn h (Ev.step (fun k => book_numbered.j0.eq_2 ..) ?_)
    by_cases h2 : n > 64
    · rw [numR_1 (Or.inr h2)]; exact evp (by simpa using h2) (Ev.now _)
    · refine evn (by simpa using h2) ?_
      by_cases h3 : i < 0
      · rw [numR_4 (by omega) (Or.inl h3)]; exact evp h3 (Ev.now _)
      · refine evn h3 ?_
        by_cases h4 : i ≥ n
        · rw [numR_4 (by omega) (Or.inr h4)]; exact evp h4 (Ev.now _)
        · rw [numR_0 (by omega) (by omega)]; exact evn h4 (Ev.now _)
theorem numR_ok (i n : Int) (h : numR i n = 0) : 1 ≤ n ∧ n ≤ 64 ∧ 0 ≤ i ∧ i < n := by
  unfold numR at h
  by_cases h1 : n < 1 ∨ 64 < n
  · rw [if_pos h1] at h; exact absurd h (by decide)
  · rw [if_neg h1] at h
    by_cases h2 : i < 0 ∨ n ≤ i
    · rw [if_pos h2] at h; exact absurd h (by decide)
    · omega
/-- on which side the sums of a proof stand -/
def sd (i n : Nat) : List Bool :=
  if h : n ≤ 1 then [] else if i < sp n then sd i (sp n) ++ [false] else sd (i - sp n) (n - sp n) ++ [true]
termination_by n
decreasing_by
  · exact sp_lt n (by omega)
  · have := sp_pos n; omega
theorem sd_one (i n : Nat) (h : n ≤ 1) : sd i n = [] := by rw [sd, dif_pos h]
theorem sd_lt (i n : Nat) (h : 2 ≤ n) (hi : i < sp n) : sd i n = sd i (sp n) ++ [false] := by rw [sd, dif_neg (by omega), if_pos hi]
theorem sd_ge (i n : Nat) (h : 2 ≤ n) (hi : ¬ i < sp n) : sd i n = sd (i - sp n) (n - sp n) ++ [true] := by rw [sd, dif_neg (by omega), if_neg hi]
theorem sd_len : ∀ (m n i : Nat), n ≤ m → (sd i n).length ≤ n
  | 0, n, i, h => by rw [sd_one i n (by omega)]; simp
  | m + 1, n, i, h => by
    by_cases h1 : n ≤ 1
    · rw [sd_one i n h1]; simp
    · have a := sp_lt n (by omega)
      have b := sp_pos n
      by_cases h2 : i < sp n
      · rw [sd_lt i n (by omega) h2]
        have := sd_len m (sp n) i (by omega)
        simp; omega
      · rw [sd_ge i n (by omega) h2]
        have := sd_len m (n - sp n) (i - sp n) (by omega)
        simp; omega
theorem sides_ev : ∀ (m n i : Nat), n ≤ m → 1 ≤ n → n ≤ 64 → i < n → Ev (fun k => book_sides.f k (i : Int) (n : Int)) (sd i n)
  | 0, n, i, h, h1, _, _ => by omega
  | m + 1, n, i, h, h1, h64, hin => by
    by_cases h2 : n ≤ 1
    · rw [sd_one i n h2]
      exact Ev.step (fun k => book_sides.f.eq_2 ..) (evp (by omega) (Ev.now _))
    · have a := sp_lt n (by omega)
      have b := sp_pos n
      refine Ev.step (fun k => book_sides.f.eq_2 ..) (evn (by omega) (evb (split_ev n (by omega) h64) ?_))
      by_cases h3 : i < sp n
      · rw [sd_lt i n (by omega) h3]
        have l := sd_len m (sp n) i (by omega)
        exact evp (by omega) (evb (sides_ev m (sp n) i (by omega) (by omega) (by omega) h3) (evp (by omega) (Ev.now _)))
      · rw [sd_ge i n (by omega) h3]
        have l := sd_len m (n - sp n) (i - sp n) (by omega)
        refine evn (by omega) ?_
        rw [w64 (n := (i : Int) - _) (by omega) (by omega), w64 (n := (n : Int) - _) (by omega) (by omega), show (i : Int) - (sp n : Nat) = ((i - sp n : Nat) : Int) by omega, show (n : Int) - (sp n : Nat) = ((n - sp n : Nat) : Int) by omega]
        exact evb (sides_ev m (n - sp n) (i - sp n) (by omega) (by omega) (by omega) (by omega)) (evp (by omega) (Ev.now _))

def clF : List Bool → List Int → Int → Int
  | b :: bs, y :: ys, x => clF bs ys (if b then jn y x else jn x y)
  | _, _, x => x
theorem climb_l0 (s : List Bool) (p : List Int) (hs : s.length = p.length) (hp : p.length ≤ 1000) : ∀ (d i : Nat) (x : Int), i + d = p.length → Ev (fun k => book_Climb.l0 k s x p (p.length : Int) (i : Int)) (clF (s.drop i) (p.drop i) x, 0)
  | 0, i, x, h => by
    refine Ev.step (fun k => book_Climb.l0.eq_2 ..) (evn (by omega) ?_)
    rw [List.drop_eq_nil_of_le (by omega), List.drop_eq_nil_of_le (by omega)]; exact Ev.now _
  | d + 1, i, x, h => by
    have h1 : i < p.length := by omega
    have h2 : i < s.length := by omega
    refine Ev.step (fun k => book_Climb.l0.eq_2 ..) (evp (by omega) (evp (by omega) (evp (by omega) (evp (by omega) ?_))))
    rw [rdB_at s i h2, rd_at p i h1, List.drop_eq_getElem_cons h1, List.drop_eq_getElem_cons h2, w64 (by omega) (by omega)]
    unfold clF
    cases s[i]
    · exact evn (by decide) (evs (join_eq _ _) (climb_l0 s p hs hp d (i + 1) _ (by omega)))
    · exact evp rfl (evs (join_eq _ _) (climb_l0 s p hs hp d (i + 1) _ (by omega)))
def climbR (x i n : Int) (p : List Int) : Int × Int :=
  if numR i n = 0 then (if sumP x ∧ ∀ y ∈ p, sumP y then (if (sd i.toNat n.toNat).length = p.length then (clF (sd i.toNat n.toNat) p x, 0) else (0, 7)) else (0, 1)) else (0, numR i n)
theorem Climb_ev (x i n : Int) (p : List Int) (hp : p.length ≤ 1000) : Ev (fun k => book_Climb.f k x i n p) (climbR x i n p) := by
  unfold book_Climb.f climbR
  refine evb (numbered_ev i n) ?_
  by_cases h : numR i n = 0
  · rw [if_pos h]
    refine evp h (evs (isSum_eq _) ?_)
    obtain ⟨n1, n2, i1, i2⟩ := numR_ok i n h
    obtain ⟨i, rfl⟩ := Int.eq_ofNat_of_zero_le i1
    obtain ⟨n, rfl⟩ := Int.eq_ofNat_of_zero_le (show 0 ≤ n by omega)
    by_cases hx : sumP x
    · refine evp (by simpa using hx) (evs (isSum_eq _) ?_)
      by_cases hy : ∀ y ∈ p, sumP y
      · rw [if_pos ⟨hx, hy⟩, decide_eq_true hy]
        refine Ev.step (fun k => book_Climb.j0.eq_2 ..) (evn (by decide) (evb (sides_ev n n i (Nat.le_refl _) (by omega) (by omega) (by omega)) ?_))
        rw [Int.toNat_natCast, Int.toNat_natCast]
        by_cases hl : (sd i n).length = p.length
        · rw [if_pos hl]; exact evp (by omega) (climb_l0 _ p hl hp p.length 0 x (by omega))
        · rw [if_neg hl]; exact evn (by omega) (Ev.now _)
      · rw [if_neg (fun q => hy q.2), decide_eq_false hy]
        exact Ev.step (fun k => book_Climb.j0.eq_2 ..) (evp rfl (Ev.now _))
    · rw [if_neg (fun q => hx q.1)]
      exact evn (by simpa using hx) (Ev.step (fun k => book_Climb.j0.eq_2 ..) (evp rfl (Ev.now _)))
  · rw [if_neg h]; exact evn h (Ev.now _)

theorem Leaf_eq (s : ByteArray) (hs : s.size ≤ 1000) : book_Leaf.f s = some (if pageB s then (leafV s, 0) else (0, 1)) := by
  unfold book_Leaf.f book_IsPage.f
  rw [Option.bind_some, leaf_eq s (by omega)]
  cases pageB s <;> rfl
def chkR (root : Int) (page : ByteArray) (i n : Int) (p : List Int) : Int :=
  if pageB page then (if (climbR (leafV page) i n p).2 = 0 then (if sumP root then (if (climbR (leafV page) i n p).1 = root then 0 else 7) else 1) else (climbR (leafV page) i n p).2) else 1
theorem chkR_p {root : Int} {page : ByteArray} {i n : Int} {p : List Int} (h : ¬ pageB page = true) : chkR root page i n p = 1 := if_neg h
theorem chkR_c {root : Int} {page : ByteArray} {i n : Int} {p : List Int} (h : pageB page = true) (h2 : ¬ (climbR (leafV page) i n p).2 = 0) : chkR root page i n p = (climbR (leafV page) i n p).2 := (if_pos h).trans (if_neg h2)
theorem chkR_s {root : Int} {page : ByteArray} {i n : Int} {p : List Int} (h : pageB page = true) (h2 : (climbR (leafV page) i n p).2 = 0) (h3 : ¬ sumP root) : chkR root page i n p = 1 := (if_pos h).trans ((if_pos h2).trans (if_neg h3))
theorem chkR_e {root : Int} {page : ByteArray} {i n : Int} {p : List Int} (h : pageB page = true) (h2 : (climbR (leafV page) i n p).2 = 0) (h3 : sumP root) (h4 : (climbR (leafV page) i n p).1 = root) : chkR root page i n p = 0 := (if_pos h).trans ((if_pos h2).trans ((if_pos h3).trans (if_pos h4)))
theorem chkR_n {root : Int} {page : ByteArray} {i n : Int} {p : List Int} (h : pageB page = true) (h2 : (climbR (leafV page) i n p).2 = 0) (h3 : sumP root) (h4 : ¬ (climbR (leafV page) i n p).1 = root) : chkR root page i n p = 7 := (if_pos h).trans ((if_pos h2).trans ((if_pos h3).trans (if_neg h4)))
theorem CheckPage_ev (root : Int) (page : ByteArray) (i n : Int) (p : List Int) (hs : page.size ≤ 1000) (hp : p.length ≤ 1000) : Ev (fun k => book_CheckPage.f k root page i n p) (chkR root page i n p) := by
  unfold book_CheckPage.f
  refine evs (Leaf_eq page hs) ?_
  by_cases hq : pageB page = true
  · rw [if_pos hq]
    refine evp rfl (evb (Climb_ev _ _ _ _ hp) ?_)
    by_cases h : (climbR (leafV page) i n p).2 = 0
    · refine evp h (evs (isSum_eq _) ?_)
      by_cases hr : sumP root
      · refine evp (by simpa using hr) ?_
        by_cases he : (climbR (leafV page) i n p).1 = root
        · rw [chkR_e hq h hr he]; exact evp he (Ev.now _)
        · rw [chkR_n hq h hr he]; exact evn he (Ev.now _)
      · rw [chkR_s hq h hr]; exact evn (by simpa using hr) (Ev.now _)
    · rw [chkR_c hq h]; exact evn h (Ev.now _)
  · rw [if_neg hq, chkR_p hq]
    exact evn (by simp) (Ev.now _)

/-- the sums of a proof -/
def pf (i : Nat) (l : List Int) : List Int :=
  if h : l.length ≤ 1 then [] else if i < sp l.length then pf i (l.take (sp l.length)) ++ [rt (l.drop (sp l.length))] else pf (i - sp l.length) (l.drop (sp l.length)) ++ [rt (l.take (sp l.length))]
termination_by l.length
decreasing_by
  · have := sp_lt l.length (by omega); rw [List.length_take]; omega
  · have := sp_pos l.length; rw [List.length_drop]; omega
theorem pf_one (i : Nat) (l : List Int) (h : l.length ≤ 1) : pf i l = [] := by rw [pf, dif_pos h]
theorem pf_lt (i : Nat) (l : List Int) (h : 2 ≤ l.length) (hi : i < sp l.length) : pf i l = pf i (l.take (sp l.length)) ++ [rt (l.drop (sp l.length))] := by rw [pf, dif_neg (by omega), if_pos hi]
theorem pf_ge (i : Nat) (l : List Int) (h : 2 ≤ l.length) (hi : ¬ i < sp l.length) : pf i l = pf (i - sp l.length) (l.drop (sp l.length)) ++ [rt (l.take (sp l.length))] := by rw [pf, dif_neg (by omega), if_neg hi]
theorem take_len (l : List Int) (h : 2 ≤ l.length) : (l.take (sp l.length)).length = sp l.length := by
  have := sp_lt l.length h
  rw [List.length_take]; omega
theorem drop_len (l : List Int) : (l.drop (sp l.length)).length = l.length - sp l.length := List.length_drop
theorem pf_len : ∀ (m : Nat) (l : List Int) (i : Nat), l.length ≤ m → (pf i l).length = (sd i l.length).length
  | 0, l, i, h => by rw [pf_one i l (by omega), sd_one i _ (by omega)]; rfl
  | m + 1, l, i, h => by
    by_cases h1 : l.length ≤ 1
    · rw [pf_one i l h1, sd_one i _ h1]; rfl
    · have a := sp_lt l.length (by omega)
      have b := sp_pos l.length
      by_cases h2 : i < sp l.length
      · have R := pf_len m (l.take (sp l.length)) i (by rw [take_len l (by omega)]; omega)
        rw [take_len l (by omega)] at R
        rw [pf_lt i l (by omega) h2, sd_lt i _ (by omega) h2, List.length_append, List.length_append, R]; rfl
      · have R := pf_len m (l.drop (sp l.length)) (i - sp l.length) (by rw [drop_len]; omega)
        rw [drop_len] at R
        rw [pf_ge i l (by omega) h2, sd_ge i _ (by omega) h2, List.length_append, List.length_append, R]; rfl
theorem pf_sums : ∀ (m : Nat) (l : List Int) (i : Nat), l.length ≤ m → (∀ x ∈ l, sumP x) → ∀ y ∈ pf i l, sumP y
  | 0, l, i, h, _ => by rw [pf_one i l (by omega)]; intro y hy; exact absurd hy (by simp)
  | m + 1, l, i, h, hl => by
    by_cases h1 : l.length ≤ 1
    · rw [pf_one i l h1]; intro y hy; exact absurd hy (by simp)
    · have a := sp_lt l.length (by omega)
      have b := sp_pos l.length
      have t1 : ∀ x ∈ l.take (sp l.length), sumP x := fun x hx => hl x (List.mem_of_mem_take hx)
      have t2 : ∀ x ∈ l.drop (sp l.length), sumP x := fun x hx => hl x (List.mem_of_mem_drop hx)
      by_cases h2 : i < sp l.length
      · rw [pf_lt i l (by omega) h2]
        intro y hy
        rcases List.mem_append.1 hy with e | e
        · exact pf_sums m _ i (by rw [take_len l (by omega)]; omega) t1 y e
        · rw [List.mem_singleton.1 e]; exact rt_range _ _ (Nat.le_refl _) t2
      · rw [pf_ge i l (by omega) h2]
        intro y hy
        rcases List.mem_append.1 hy with e | e
        · exact pf_sums m _ _ (by rw [drop_len]; omega) t2 y e
        · rw [List.mem_singleton.1 e]; exact rt_range _ _ (Nat.le_refl _) t1
theorem clF_snoc : ∀ (s : List Bool) (p : List Int) (x y : Int) (b : Bool), s.length = p.length → clF (s ++ [b]) (p ++ [y]) x = if b then jn y (clF s p x) else jn (clF s p x) y
  | [], [], x, y, b, _ => by cases b <;> rfl
  | [], _ :: _, _, _, _, h => absurd h (by simp)
  | _ :: _, [], _, _, _, h => absurd h (by simp)
  | a :: s, q :: p, x, y, b, h => by
    show clF (s ++ [b]) (p ++ [y]) (if a then jn q x else jn x q) = if b then jn y (clF s p (if a then jn q x else jn x q)) else jn (clF s p (if a then jn q x else jn x q)) y
    exact clF_snoc s p _ y b (by simpa using h)
theorem pf_climb : ∀ (m : Nat) (l : List Int) (i : Nat) (x : Int) (hx : l[i]? = some x), l.length ≤ m → clF (sd i l.length) (pf i l) x = rt l
  | 0, l, i, x, hx, h => by
    obtain rfl : l = [] := List.length_eq_zero_iff.1 (by omega)
    exact absurd hx (by simp)
  | m + 1, l, i, x, hx, h => by
    have hi : i < l.length := by
      by_cases q : i < l.length
      · exact q
      · rw [List.getElem?_eq_none (by omega)] at hx; exact absurd hx (by simp)
    by_cases h1 : l.length ≤ 1
    · obtain ⟨y, rfl⟩ := List.length_eq_one_iff.1 (show l.length = 1 by omega)
      obtain rfl : i = 0 := by simp at hi; exact hi
      obtain rfl : y = x := by simpa using hx
      rw [pf_one _ _ h1, sd_one _ _ h1, rt_one]; rfl
    · have a := sp_lt l.length (by omega)
      have b := sp_pos l.length
      by_cases h2 : i < sp l.length
      · have T := take_len l (by omega)
        have R := pf_climb m (l.take (sp l.length)) i x (by rw [List.getElem?_take_of_lt h2]; exact hx) (by omega)
        have L := pf_len m (l.take (sp l.length)) i (by omega)
        rw [T] at R L
        rw [pf_lt i l (by omega) h2, sd_lt i _ (by omega) h2, clF_snoc _ _ _ _ _ L.symm, rt_two l (by omega), ← R]; rfl
      · have T := drop_len l
        have R := pf_climb m (l.drop (sp l.length)) (i - sp l.length) x (by rw [List.getElem?_drop, show sp l.length + (i - sp l.length) = i by omega]; exact hx) (by omega)
        have L := pf_len m (l.drop (sp l.length)) (i - sp l.length) (by omega)
        rw [T] at R L
        rw [pf_ge i l (by omega) h2, sd_ge i _ (by omega) h2, clF_snoc _ _ _ _ _ L.symm, rt_two l (by omega), ← R]; rfl
theorem proof_ev : ∀ (m : Nat) (l : List Int) (i : Nat), l.length ≤ m → l.length ≤ 64 → i < l.length → Ev (fun k => book_proof.f k l (i : Int)) (pf i l)
  | 0, l, i, h, _, hi => by omega
  | m + 1, l, i, h, h64, hi => by
    by_cases h1 : l.length = 1
    · rw [pf_one i l (by omega)]
      exact Ev.step (fun k => book_proof.f.eq_2 ..) (evp (by omega) (Ev.now _))
    · have a := sp_lt l.length (by omega)
      have b := sp_pos l.length
      have T := take_len l (by omega)
      have D := drop_len l
      refine Ev.step (fun k => book_proof.f.eq_2 ..) (evn (by omega) (evb (split_ev _ (by omega) h64) ?_))
      by_cases h2 : i < sp l.length
      · have L := pf_len m (l.take (sp l.length)) i (by omega)
        have M := sd_len _ (l.take (sp l.length)).length i (Nat.le_refl _)
        rw [pf_lt i l (by omega) h2]
        refine evp (by omega) (evp (by omega) (evp (by omega) ?_))
        rw [Int.toNat_natCast]
        exact evb (proof_ev m _ i (by omega) (by omega) (by omega)) (evb (root_ev 64 _ (by omega) (by omega)) (evp (by omega) (Ev.now _)))
      · have L := pf_len m (l.drop (sp l.length)) (i - sp l.length) (by omega)
        have M := sd_len _ (l.drop (sp l.length)).length (i - sp l.length) (Nat.le_refl _)
        rw [pf_ge i l (by omega) h2]
        refine evn (by omega) (evp (by omega) (evp (by omega) ?_))
        rw [Int.toNat_natCast, w64 (n := (i : Int) - _) (by omega) (by omega), show (i : Int) - (sp l.length : Nat) = ((i - sp l.length : Nat) : Int) by omega]
        exact evb (proof_ev m _ _ (by omega) (by omega) (by omega)) (evb (root_ev 64 _ (by omega) (by omega)) (evp (by omega) (Ev.now _)))
def prR (l : List ByteArray) (i : Int) : List Int × Int := if vP l = 0 then (if i < 0 ∨ i ≥ (l.length : Int) then ([], 4) else (pf i.toNat (lvs l), 0)) else ([], vP l)
theorem prR_v {l : List ByteArray} {i : Int} (h : ¬ vP l = 0) : prR l i = ([], vP l) := if_neg h
theorem prR_4 {l : List ByteArray} {i : Int} (h : vP l = 0) (h2 : i < 0 ∨ i ≥ (l.length : Int)) : prR l i = ([], 4) := (if_pos h).trans (if_pos h2)
theorem prR_0 {l : List ByteArray} {i : Int} (h : vP l = 0) (h2 : ¬ (i < 0 ∨ i ≥ (l.length : Int))) : prR l i = (pf i.toNat (lvs l), 0) := (if_pos h).trans (if_neg h2)
theorem Proof_ev (l : List ByteArray) (i : Int) (hl : l.length ≤ 1000) : Ev (fun k => book_Proof.f k l i) (prR l i) := by
  unfold book_Proof.f
  refine evb (vP_ev l hl) ?_
  rcases vP_cases l with ⟨hv, h64, hp⟩ | hv
  · refine evp hv ?_
    by_cases h : i < 0
    · rw [prR_4 hv (Or.inl h)]; exact evp h (Ev.step (fun k => book_Proof.j0.eq_2 ..) (evp rfl (Ev.now _)))
    · refine evn h (Ev.step (fun k => book_Proof.j0.eq_2 ..) ?_)
      by_cases h2 : i ≥ (l.length : Int)
      · rw [prR_4 hv (Or.inr h2)]; exact evp (by simpa using h2) (Ev.now _)
      · rw [prR_0 hv (by omega)]
        obtain ⟨i, rfl⟩ := Int.eq_ofNat_of_zero_le (show 0 ≤ i by omega)
        have e := lvs_length l
        exact evn (by simpa using h2) (evb (leaves_ev l h64 (fun s hs => by have := page_small s (hp s hs); omega)) (evb (proof_ev 64 _ i (by omega) (by omega) (by omega)) (Ev.now _)))
  · rw [prR_v hv]; exact evn hv (Ev.now _)

/-- what follows from a proof of growth: the two roots, and how many sums are used -/
def uq (old : Int) (l : List Int) (m n : Nat) (known : Bool) : Option (Int × Int × Nat) :=
  if h : m = n ∨ n ≤ 1 then (if known then some (old, old, 0) else (match l with
    | [] => none
    | x :: _ => some (x, x, 1)))
  else if m ≤ sp n then (uq old l m (sp n) known).bind fun r => (l[r.2.2]?).map fun x => (r.1, jn r.2.1 x, r.2.2 + 1)
  else (uq old l (m - sp n) (n - sp n) false).bind fun r => (l[r.2.2]?).map fun x => (jn x r.1, jn x r.2.1, r.2.2 + 1)
termination_by n
decreasing_by
  · exact sp_lt n (by omega)
  · have := sp_pos n; omega
theorem uq_eq (old : Int) (l : List Int) (n : Nat) (known : Bool) : uq old l n n known = if known then some (old, old, 0) else (match l with
    | [] => none
    | x :: _ => some (x, x, 1)) := by rw [uq.eq_def, dif_pos (Or.inl rfl)]
theorem uq_lt (old : Int) (l : List Int) (m n : Nat) (known : Bool) (h : m ≠ n) (h1 : 1 < n) (h2 : m ≤ sp n) : uq old l m n known = (uq old l m (sp n) known).bind fun r => (l[r.2.2]?).map fun x => (r.1, jn r.2.1 x, r.2.2 + 1) := by rw [uq.eq_def, dif_neg (by omega), if_pos h2]
theorem uq_gt (old : Int) (l : List Int) (m n : Nat) (known : Bool) (h : m ≠ n) (h1 : 1 < n) (h2 : ¬ m ≤ sp n) : uq old l m n known = (uq old l (m - sp n) (n - sp n) false).bind fun r => (l[r.2.2]?).map fun x => (jn x r.1, jn x r.2.1, r.2.2 + 1) := by rw [uq.eq_def, dif_neg (by omega), if_neg h2]
theorem tk_at (l : List Int) (u : Nat) (x : Int) (h : l[u]? = some x) : tk1 (l.drop u) = x ∧ tk2 (l.drop u) = l.drop (u + 1) ∧ tk3 (l.drop u) true = true ∧ u < l.length := by
  have hu : u < l.length := by
    by_cases q : u < l.length
    · exact q
    · rw [List.getElem?_eq_none (by omega)] at h; exact absurd h (by simp)
  rw [List.getElem?_eq_getElem hu] at h
  rw [List.drop_eq_getElem_cons hu, Option.some.inj h]
  exact ⟨rfl, rfl, rfl, hu⟩
theorem tk_no (l : List Int) (u : Nat) (h : l[u]? = none) : tk3 (l.drop u) true = false := by
  rw [List.drop_eq_nil_of_le (List.getElem?_eq_none_iff.1 h)]; rfl
theorem tk3_false (r : List Int) : tk3 r false = false := by cases r <;> rfl
theorem up_ev (old : Int) (l : List Int) : ∀ (f n m : Nat) (known : Bool), n ≤ f → 1 ≤ m → m ≤ n → n ≤ 64 →
    (match uq old l m n known with
      | some r => Ev (fun k => up.f k old (m : Int) (n : Int) known l true) (r.1, r.2.1, l.drop r.2.2, true)
      | none => ∃ b a r, Ev (fun k => up.f k old (m : Int) (n : Int) known l true) (b, a, r, false))
  | 0, n, m, known, h, h1, h2, h3 => by omega
  | f + 1, n, m, known, h, h1, h2, h3 => by
    by_cases e : m = n
    · subst e
      rw [uq_eq]
      cases known with
      | true =>
        exact Ev.step (fun k => up.f.eq_2 ..) (evp rfl (evp rfl (Ev.now _)))
      | false =>
        cases l with
        | nil => exact ⟨_, _, _, Ev.step (fun k => up.f.eq_2 ..) (evp rfl (evn (by decide) (Ev.now _)))⟩
        | cons x l => exact Ev.step (fun k => up.f.eq_2 ..) (evp rfl (evn (by decide) (Ev.now _)))
    · have a := sp_lt n (by omega)
      have b := sp_pos n
      by_cases c : m ≤ sp n
      · have R := up_ev old l f (sp n) m known (by omega) h1 c (by omega)
        rw [uq_lt old l m n known e (by omega) c]
        cases q : uq old l m (sp n) known with
        | none =>
          rw [q] at R
          obtain ⟨x, y, r, R⟩ := R
          refine ⟨x, jn y (tk1 r), tk2 r, Ev.step (fun k => up.f.eq_2 ..) (evn (by omega) (evb (split_ev n (by omega) h3) (evp (by omega) (evb R (evs (join_eq _ _) ?_)))))⟩
          rw [tk3_false]; exact Ev.now _
        | some r =>
          rw [q] at R
          cases z : l[r.2.2]? with
          | none =>
            simp only [Option.bind_some, z, Option.map_none, Option.map_some]
            refine ⟨r.1, jn r.2.1 (tk1 (l.drop r.2.2)), tk2 (l.drop r.2.2), Ev.step (fun k => up.f.eq_2 ..) (evn (by omega) (evb (split_ev n (by omega) h3) (evp (by omega) (evb R (evs (join_eq _ _) ?_)))))⟩
            rw [tk_no _ _ z]; exact Ev.now _
          | some x =>
            simp only [Option.bind_some, z, Option.map_none, Option.map_some]
            obtain ⟨t1, t2, t3, _⟩ := tk_at l r.2.2 x z
            refine Ev.step (fun k => up.f.eq_2 ..) (evn (by omega) (evb (split_ev n (by omega) h3) (evp (by omega) (evb R (evs (join_eq _ _) ?_)))))
            rw [t1, t2, t3]; exact Ev.now _
      · have R := up_ev old l f (n - sp n) (m - sp n) false (by omega) (by omega) (by omega) (by omega)
        rw [uq_gt old l m n known e (by omega) c]
        have w1 : wrap64 ((m : Int) - (sp n : Nat)) = ((m - sp n : Nat) : Int) := by rw [w64 (by omega) (by omega)]; omega
        have w2 : wrap64 ((n : Int) - (sp n : Nat)) = ((n - sp n : Nat) : Int) := by rw [w64 (by omega) (by omega)]; omega
        cases q : uq old l (m - sp n) (n - sp n) false with
        | none =>
          rw [q] at R
          obtain ⟨x, y, r, R⟩ := R
          refine ⟨jn (tk1 r) x, jn (tk1 r) y, tk2 r, Ev.step (fun k => up.f.eq_2 ..) (evn (by omega) (evb (split_ev n (by omega) h3) (evn (by omega) ?_)))⟩
          rw [w1, w2]
          refine evb R (evs (join_eq _ _) (evs (join_eq _ _) ?_))
          rw [tk3_false]; exact Ev.now _
        | some r =>
          rw [q] at R
          cases z : l[r.2.2]? with
          | none =>
            simp only [Option.bind_some, z, Option.map_none, Option.map_some]
            refine ⟨jn (tk1 (l.drop r.2.2)) r.1, jn (tk1 (l.drop r.2.2)) r.2.1, tk2 (l.drop r.2.2), Ev.step (fun k => up.f.eq_2 ..) (evn (by omega) (evb (split_ev n (by omega) h3) (evn (by omega) ?_)))⟩
            rw [w1, w2]
            refine evb R (evs (join_eq _ _) (evs (join_eq _ _) ?_))
            rw [tk_no _ _ z]; exact Ev.now _
          | some x =>
            simp only [Option.bind_some, z, Option.map_none, Option.map_some]
            obtain ⟨t1, t2, t3, _⟩ := tk_at l r.2.2 x z
            refine Ev.step (fun k => up.f.eq_2 ..) (evn (by omega) (evb (split_ev n (by omega) h3) (evn (by omega) ?_)))
            rw [w1, w2]
            refine evb R (evs (join_eq _ _) (evs (join_eq _ _) ?_))
            rw [t1, t2, t3]; exact Ev.now _
theorem uq_base (old : Int) (l : List Int) (m n : Nat) (known : Bool) (h : m = n ∨ n ≤ 1) : uq old l m n known = if known then some (old, old, 0) else (match l with
    | [] => none
    | x :: _ => some (x, x, 1)) := by rw [uq.eq_def, dif_pos h]
theorem uq_len (old : Int) (l : List Int) : ∀ (f n m : Nat) (known : Bool) (r : Int × Int × Nat), n ≤ f → uq old l m n known = some r → r.2.2 ≤ l.length := by
  intro f
  induction f with
  | zero =>
    intro n m known r h e
    rw [uq_base old l m n known (Or.inr (by omega))] at e
    cases known with
    | true => obtain rfl : (old, old, 0) = r := by simpa using e
              exact Nat.zero_le _
    | false =>
      cases l with
      | nil => exact absurd e (by simp)
      | cons x l => obtain rfl : (x, x, 1) = r := by simpa using e
                    simp
  | succ f ih =>
    intro n m known r h e
    by_cases b : m = n ∨ n ≤ 1
    · rw [uq_base old l m n known b] at e
      cases known with
      | true => obtain rfl : (old, old, 0) = r := by simpa using e
                exact Nat.zero_le _
      | false =>
        cases l with
        | nil => exact absurd e (by simp)
        | cons x l => obtain rfl : (x, x, 1) = r := by simpa using e
                      simp
    · have a1 := sp_lt n (by omega)
      have a2 := sp_pos n
      by_cases c : m ≤ sp n
      · rw [uq_lt old l m n known (by omega) (by omega) c] at e
        obtain ⟨q, _, e⟩ := Option.bind_eq_some_iff.1 e
        obtain ⟨x, z, e⟩ := Option.map_eq_some_iff.1 e
        have := (tk_at l q.2.2 x z).2.2.2
        subst e; exact this
      · rw [uq_gt old l m n known (by omega) (by omega) c] at e
        obtain ⟨q, _, e⟩ := Option.bind_eq_some_iff.1 e
        obtain ⟨x, z, e⟩ := Option.map_eq_some_iff.1 e
        have := (tk_at l q.2.2 x z).2.2.2
        subst e; exact this
def unOk (m n old : Int) (l : List Int) : Prop := 1 ≤ m ∧ m ≤ n ∧ n ≤ 64 ∧ sumP old ∧ ∀ x ∈ l, sumP x
instance (m n old : Int) (l : List Int) : Decidable (unOk m n old l) := by unfold unOk; exact inferInstance
/-- what follows from a proof of growth -/
def unR (m n old : Int) (l : List Int) : Int × Int × Int :=
  if unOk m n old l then (match uq old l m.toNat n.toNat true with
    | none => (0, 0, 7)
    | some r => if r.2.2 = l.length then (r.1, r.2.1, 0) else (0, 0, 7)) else (0, 0, 1)
theorem unR_1 {m n old : Int} {l : List Int} (h : ¬ unOk m n old l) : unR m n old l = (0, 0, 1) := if_neg h
theorem unR_n {m n : Nat} {old : Int} {l : List Int} (h : unOk m n old l) (q : uq old l m n true = none) : unR m n old l = (0, 0, 7) := by
  unfold unR; rw [if_pos h, Int.toNat_natCast, Int.toNat_natCast, q]
theorem unR_s {m n : Nat} {old : Int} {l : List Int} (h : unOk m n old l) {r : Int × Int × Nat} (q : uq old l m n true = some r) (e : r.2.2 = l.length) : unR m n old l = (r.1, r.2.1, 0) := by
  unfold unR; rw [if_pos h, Int.toNat_natCast, Int.toNat_natCast, q]; exact if_pos e
theorem unR_l {m n : Nat} {old : Int} {l : List Int} (h : unOk m n old l) {r : Int × Int × Nat} (q : uq old l m n true = some r) (e : ¬ r.2.2 = l.length) : unR m n old l = (0, 0, 7) := by
  unfold unR; rw [if_pos h, Int.toNat_natCast, Int.toNat_natCast, q]; exact if_neg e
theorem Unfold_ev (m n old : Int) (l : List Int) : Ev (fun k => book_Unfold.f k m n old l) (unR m n old l) := by
  unfold book_Unfold.f
  refine evs (isSum_eq [old]) (evs (isSum_eq l) ?_)
  have z : (∀ x ∈ [old], sumP x) ↔ sumP old := by simp
  by_cases h : unOk m n old l
  · have h' := h
    obtain ⟨h1, h2, h3, h4, h5⟩ := h
    refine evn (by rw [decide_eq_true (z.2 h4), decide_eq_true h5]; simp; omega) ?_
    obtain ⟨m, rfl⟩ := Int.eq_ofNat_of_zero_le (show 0 ≤ m by omega)
    obtain ⟨n, rfl⟩ := Int.eq_ofNat_of_zero_le (show 0 ≤ n by omega)
    have R := up_ev old l n n m true (Nat.le_refl _) (by omega) (by omega) (by omega)
    cases q : uq old l m n true with
    | none =>
      rw [q] at R
      obtain ⟨b, a, r, R⟩ := R
      rw [unR_n h' q]
      exact evb R (evp (Or.inl rfl) (Ev.now _))
    | some r =>
      rw [q] at R
      have L := uq_len old l n n m true r (Nat.le_refl _) q
      by_cases e : r.2.2 = l.length
      · rw [unR_s h' q e]
        exact evb R (evn (by simp; omega) (Ev.now _))
      · rw [unR_l h' q e]
        exact evb R (evp (by right; simp; omega) (Ev.now _))
  · rw [unR_1 h]
    refine evp ?_ (Ev.now _)
    unfold unOk at h
    by_cases h4 : sumP old
    · by_cases h5 : ∀ x ∈ l, sumP x
      · have : ¬ (1 ≤ m ∧ m ≤ n ∧ n ≤ 64) := fun q => h ⟨q.1, q.2.1, q.2.2, h4, h5⟩
        omega
      · right; right; right; right; exact decide_eq_false h5
    · right; right; right; left; exact decide_eq_false (fun q => h4 (z.1 q))
def cgR (old root m n : Int) (l : List Int) : Int := if (unR m n old l).2.2 = 0 then (if sumP root then (if (unR m n old l).1 = old then (if (unR m n old l).2.1 = root then 0 else 7) else 7) else 1) else (unR m n old l).2.2
theorem cgR_n {old root m n : Int} {l : List Int} (h : ¬ (unR m n old l).2.2 = 0) : cgR old root m n l = (unR m n old l).2.2 := if_neg h
theorem cgR_s {old root m n : Int} {l : List Int} (h : (unR m n old l).2.2 = 0) (h2 : ¬ sumP root) : cgR old root m n l = 1 := (if_pos h).trans (if_neg h2)
theorem cgR_x {old root m n : Int} {l : List Int} (h : (unR m n old l).2.2 = 0) (h2 : sumP root) (h3 : ¬ (unR m n old l).1 = old) : cgR old root m n l = 7 := (if_pos h).trans ((if_pos h2).trans (if_neg h3))
theorem cgR_y {old root m n : Int} {l : List Int} (h : (unR m n old l).2.2 = 0) (h2 : sumP root) (h3 : (unR m n old l).1 = old) (h4 : ¬ (unR m n old l).2.1 = root) : cgR old root m n l = 7 := (if_pos h).trans ((if_pos h2).trans ((if_pos h3).trans (if_neg h4)))
theorem cgR_0 {old root m n : Int} {l : List Int} (h : (unR m n old l).2.2 = 0) (h2 : sumP root) (h3 : (unR m n old l).1 = old) (h4 : (unR m n old l).2.1 = root) : cgR old root m n l = 0 := (if_pos h).trans ((if_pos h2).trans ((if_pos h3).trans (if_pos h4)))
theorem CheckGrowth_ev (old root m n : Int) (l : List Int) : Ev (fun k => book_CheckGrowth.f k old root m n l) (cgR old root m n l) := by
  unfold book_CheckGrowth.f
  refine evb (Unfold_ev _ _ _ _) ?_
  by_cases h : (unR m n old l).2.2 = 0
  · refine evp h (evs (isSum_eq _) ?_)
    by_cases hr : sumP root
    · refine evp (by simpa using hr) ?_
      by_cases h1 : (unR m n old l).1 = old
      · refine evp h1 ?_
        by_cases h2 : (unR m n old l).2.1 = root
        · rw [cgR_0 h hr h1 h2]; exact evp h2 (Ev.now _)
        · rw [cgR_y h hr h1 h2]; exact evn h2 (Ev.now _)
      · rw [cgR_x h hr h1]; exact evn h1 (Ev.now _)
    · rw [cgR_s h hr]; exact evn (by simpa using hr) (Ev.now _)
  · rw [cgR_n h]; exact evn h (Ev.now _)

/-- the proof of growth -/
def gr (m : Nat) (l : List Int) (known : Bool) : List Int :=
  if h : m = l.length ∨ l.length ≤ 1 then (if known then [] else [rt l])
  else if m ≤ sp l.length then gr m (l.take (sp l.length)) known ++ [rt (l.drop (sp l.length))]
  else gr (m - sp l.length) (l.drop (sp l.length)) false ++ [rt (l.take (sp l.length))]
termination_by l.length
decreasing_by
  · have := sp_lt l.length (by omega); rw [List.length_take]; omega
  · have := sp_pos l.length; rw [List.length_drop]; omega
theorem gr_base (m : Nat) (l : List Int) (known : Bool) (h : m = l.length ∨ l.length ≤ 1) : gr m l known = if known then [] else [rt l] := by rw [gr.eq_def, dif_pos h]
theorem gr_lt (m : Nat) (l : List Int) (known : Bool) (h : ¬ (m = l.length ∨ l.length ≤ 1)) (h2 : m ≤ sp l.length) : gr m l known = gr m (l.take (sp l.length)) known ++ [rt (l.drop (sp l.length))] := by rw [gr.eq_def, dif_neg h, if_pos h2]
theorem gr_gt (m : Nat) (l : List Int) (known : Bool) (h : ¬ (m = l.length ∨ l.length ≤ 1)) (h2 : ¬ m ≤ sp l.length) : gr m l known = gr (m - sp l.length) (l.drop (sp l.length)) false ++ [rt (l.take (sp l.length))] := by rw [gr.eq_def, dif_neg h, if_neg h2]
theorem gr_len : ∀ (f m : Nat) (l : List Int) (known : Bool), l.length ≤ f → (gr m l known).length ≤ l.length + 1
  | 0, m, l, known, h => by
    rw [gr_base m l known (by omega)]; cases known <;> simp
  | f + 1, m, l, known, h => by
    by_cases b : m = l.length ∨ l.length ≤ 1
    · rw [gr_base m l known b]; cases known <;> simp
    · have a1 := sp_lt l.length (by omega)
      have a2 := sp_pos l.length
      have T := take_len l (by omega)
      have D := drop_len l
      by_cases c : m ≤ sp l.length
      · have := gr_len f m (l.take (sp l.length)) known (by omega)
        rw [gr_lt m l known b c, List.length_append, List.length_singleton]; omega
      · have := gr_len f (m - sp l.length) (l.drop (sp l.length)) false (by omega)
        rw [gr_gt m l known b c, List.length_append, List.length_singleton]; omega
theorem gr_sums : ∀ (f m : Nat) (l : List Int) (known : Bool), l.length ≤ f → (∀ x ∈ l, sumP x) → ∀ y ∈ gr m l known, sumP y
  | 0, m, l, known, h, hl => by
    rw [gr_base m l known (by omega)]
    cases known with
    | true => intro y hy; exact absurd hy (by simp)
    | false => intro y hy; rw [List.mem_singleton.1 hy]; exact rt_range _ _ (Nat.le_refl _) hl
  | f + 1, m, l, known, h, hl => by
    by_cases b : m = l.length ∨ l.length ≤ 1
    · rw [gr_base m l known b]
      cases known with
      | true => intro y hy; exact absurd hy (by simp)
      | false => intro y hy; rw [List.mem_singleton.1 hy]; exact rt_range _ _ (Nat.le_refl _) hl
    · have a1 := sp_lt l.length (by omega)
      have a2 := sp_pos l.length
      have T := take_len l (by omega)
      have D := drop_len l
      have t1 : ∀ x ∈ l.take (sp l.length), sumP x := fun x hx => hl x (List.mem_of_mem_take hx)
      have t2 : ∀ x ∈ l.drop (sp l.length), sumP x := fun x hx => hl x (List.mem_of_mem_drop hx)
      by_cases c : m ≤ sp l.length
      · rw [gr_lt m l known b c]
        intro y hy
        rcases List.mem_append.1 hy with e | e
        · exact gr_sums f m _ known (by omega) t1 y e
        · rw [List.mem_singleton.1 e]; exact rt_range _ _ (Nat.le_refl _) t2
      · rw [gr_gt m l known b c]
        intro y hy
        rcases List.mem_append.1 hy with e | e
        · exact gr_sums f _ _ false (by omega) t2 y e
        · rw [List.mem_singleton.1 e]; exact rt_range _ _ (Nat.le_refl _) t1
theorem sp_mid (m n : Nat) (h : sp n < m) (h2 : m ≤ n) (h3 : 2 ≤ n) : sp m = sp n := by
  unfold sp at h ⊢
  have a : Nat.log2 (m - 1) = Nat.log2 (n - 1) := by
    have p := Nat.two_pow_pos (n - 1).log2
    refine (Nat.log2_eq_iff (by omega)).2 ⟨by omega, ?_⟩
    have := (Nat.lt_log2_self (n := n - 1))
    omega
  rw [a]
theorem get_mid (a q : List Int) (x : Int) : (a ++ [x] ++ q)[a.length]? = some x := by simp
theorem gr_uq (old : Int) : ∀ (f m : Nat) (l q : List Int) (known : Bool), l.length ≤ f → 1 ≤ m → m ≤ l.length → (known = true → old = rt (l.take m)) →
    uq old (gr m l known ++ q) m l.length known = some (rt (l.take m), rt l, (gr m l known).length)
  | 0, m, l, q, known, h, h1, h2, ho => by omega
  | f + 1, m, l, q, known, h, h1, h2, ho => by
    by_cases b : m = l.length
    · subst b
      rw [gr_base _ l known (Or.inl rfl), uq_base _ _ _ _ _ (Or.inl rfl), List.take_length]
      rw [List.take_length] at ho
      cases known with
      | true => rw [ho rfl]; rfl
      | false => rfl
    · have nb : ¬ (m = l.length ∨ l.length ≤ 1) := by omega
      have a1 := sp_lt l.length (by omega)
      have a2 := sp_pos l.length
      have T := take_len l (by omega)
      have D := drop_len l
      by_cases c : m ≤ sp l.length
      · have e : (l.take (sp l.length)).take m = l.take m := by rw [List.take_take, Nat.min_eq_left c]
        have R := gr_uq old f m (l.take (sp l.length)) ([rt (l.drop (sp l.length))] ++ q) known (by omega) h1 (by omega) (by rw [e]; exact ho)
        rw [T, e, ← List.append_assoc] at R
        rw [gr_lt m l known nb c, uq_lt _ _ _ _ _ b (by omega) c, R, Option.bind_some]
        show ((_ : List Int)[_]?).map _ = _
        rw [get_mid, Option.map_some, rt_two l (by omega), List.length_append, List.length_singleton]
      · have e : l.take m = l.take (sp l.length) ++ (l.drop (sp l.length)).take (m - sp l.length) := by
          rw [← List.take_append_drop (sp l.length) (l.take m), List.take_take, Nat.min_eq_left (by omega), List.drop_take]
        have R := gr_uq old f (m - sp l.length) (l.drop (sp l.length)) ([rt (l.take (sp l.length))] ++ q) false (by omega) (by omega) (by omega) (fun h => absurd h (by decide))
        rw [D, ← List.append_assoc] at R
        have lm : (l.take m).length = m := by rw [List.length_take]; omega
        have M : rt (l.take m) = jn (rt (l.take (sp l.length))) (rt ((l.drop (sp l.length)).take (m - sp l.length))) := by
          rw [rt_two (l.take m) (by omega), lm, sp_mid m l.length (by omega) h2 (by omega), List.take_take, Nat.min_eq_left (by omega), List.drop_take]
        rw [gr_gt m l known nb c, uq_gt _ _ _ _ _ b (by omega) c, R, Option.bind_some]
        show ((_ : List Int)[_]?).map _ = _
        rw [get_mid, Option.map_some, M, rt_two l (by omega), List.length_append, List.length_singleton]
theorem grow_ev : ∀ (f : Nat) (l : List Int) (m : Nat) (known : Bool), l.length ≤ f → l.length ≤ 64 → 1 ≤ m → m ≤ l.length → Ev (fun k => book_grow.f k l (m : Int) known) (gr m l known)
  | 0, l, m, known, h, h64, h1, h2 => by omega
  | f + 1, l, m, known, h, h64, h1, h2 => by
    by_cases b : m = l.length
    · rw [gr_base m l known (Or.inl b)]
      cases known with
      | true => exact Ev.step (fun k => book_grow.f.eq_2 ..) (evp (by omega) (evp rfl (Ev.now _)))
      | false => exact Ev.step (fun k => book_grow.f.eq_2 ..) (evp (by omega) (evn (by decide) (evb (root_ev 64 l h64 h64) (Ev.now _))))
    · have nb : ¬ (m = l.length ∨ l.length ≤ 1) := by omega
      have a1 := sp_lt l.length (by omega)
      have a2 := sp_pos l.length
      have T := take_len l (by omega)
      have D := drop_len l
      refine Ev.step (fun k => book_grow.f.eq_2 ..) (evn (by omega) (evb (split_ev _ (by omega) h64) ?_))
      by_cases c : m ≤ sp l.length
      · have L := gr_len _ m (l.take (sp l.length)) known (Nat.le_refl _)
        rw [gr_lt m l known nb c]
        refine evp (by omega) (evp (by omega) (evp (by omega) ?_))
        rw [Int.toNat_natCast]
        exact evb (grow_ev f _ m known (by omega) (by omega) h1 (by omega)) (evb (root_ev 64 _ (by omega) (by omega)) (evp (by omega) (Ev.now _)))
      · have L := gr_len _ (m - sp l.length) (l.drop (sp l.length)) false (Nat.le_refl _)
        rw [gr_gt m l known nb c]
        refine evn (by omega) (evp (by omega) (evp (by omega) ?_))
        rw [Int.toNat_natCast, w64 (n := (m : Int) - _) (by omega) (by omega), show (m : Int) - (sp l.length : Nat) = ((m - sp l.length : Nat) : Int) by omega]
        exact evb (grow_ev f _ _ false (by omega) (by omega) (by omega) (by omega)) (evb (root_ev 64 _ (by omega) (by omega)) (evp (by omega) (Ev.now _)))
def groR (l : List ByteArray) (m : Int) : List Int × Int := if vP l = 0 then (if m < 1 ∨ m > (l.length : Int) then ([], 1) else (gr m.toNat (lvs l) true, 0)) else ([], vP l)
theorem groR_v {l : List ByteArray} {m : Int} (h : ¬ vP l = 0) : groR l m = ([], vP l) := if_neg h
theorem groR_1 {l : List ByteArray} {m : Int} (h : vP l = 0) (h2 : m < 1 ∨ m > (l.length : Int)) : groR l m = ([], 1) := (if_pos h).trans (if_pos h2)
theorem groR_0 {l : List ByteArray} {m : Int} (h : vP l = 0) (h2 : ¬ (m < 1 ∨ m > (l.length : Int))) : groR l m = (gr m.toNat (lvs l) true, 0) := (if_pos h).trans (if_neg h2)
theorem Growth_ev (l : List ByteArray) (m : Int) (hl : l.length ≤ 1000) : Ev (fun k => book_Growth.f k l m) (groR l m) := by
  unfold book_Growth.f
  refine evb (vP_ev l hl) ?_
  rcases vP_cases l with ⟨hv, h64, hp⟩ | hv
  · refine evp hv ?_
    by_cases h : m < 1
    · rw [groR_1 hv (Or.inl h)]; exact evp h (Ev.step (fun k => book_Growth.j0.eq_2 ..) (evp rfl (Ev.now _)))
    · refine evn h (Ev.step (fun k => book_Growth.j0.eq_2 ..) ?_)
      by_cases h2 : m > (l.length : Int)
      · rw [groR_1 hv (Or.inr h2)]; exact evp (by simpa using h2) (Ev.now _)
      · rw [groR_0 hv (by omega)]
        obtain ⟨m, rfl⟩ := Int.eq_ofNat_of_zero_le (show 0 ≤ m by omega)
        have e := lvs_length l
        exact evn (by simpa using h2) (evb (leaves_ev l h64 (fun s hs => by have := page_small s (hp s hs); omega)) (evb (grow_ev 64 _ m true (by omega) (by omega) (by omega) (by omega)) (Ev.now _)))
  · rw [groR_v hv]; exact evn hv (Ev.now _)

def bl (s : ByteArray) : List UInt8 := s.data.toList
def ofL (l : List UInt8) : ByteArray := ⟨l.toArray⟩
theorem bl_ofL (l : List UInt8) : bl (ofL l) = l := by simp [bl, ofL]
theorem ofL_bl (s : ByteArray) : ofL (bl s) = s := by cases s; simp [bl, ofL]
theorem bl_len (s : ByteArray) : (bl s).length = s.size := by cases s; simp [bl, ByteArray.size]
theorem ofL_size (l : List UInt8) : (ofL l).size = l.length := by rw [← bl_len, bl_ofL]
theorem bl_inj {a b : ByteArray} (h : bl a = bl b) : a = b := by rw [← ofL_bl a, h, ofL_bl]
theorem bl_tl (s : ByteArray) : s.toList = bl s := ByteArray.toList_eq s
theorem bl_app (a b : ByteArray) : bl (a ++ b) = bl a ++ bl b := by simp [bl]
theorem bl_ext (s : ByteArray) (i j : Nat) : bl (s.extract i j) = ((bl s).take j).drop i := by
  simp only [bl, ByteArray.data_extract, Array.toList_extract, List.extract_eq_take_drop, List.drop_take]
theorem bl_from (s : ByteArray) (i : Nat) : bl (s.extract i s.size) = (bl s).drop i := by
  rw [bl_ext, List.take_of_length_le (by rw [bl_len]; omega)]
theorem bl_to (s : ByteArray) (j : Nat) : bl (s.extract 0 j) = (bl s).take j := by rw [bl_ext, List.drop_zero]
def splA (cur : List UInt8) : List UInt8 → List (List UInt8)
  | [] => [cur]
  | c :: l => if c = 32 then cur :: splA [] l else splA (cur ++ [c]) l
theorem splA_cons (cur : List UInt8) (c : UInt8) (l : List UInt8) : splA cur (c :: l) = if c = 32 then cur :: splA [] l else splA (cur ++ [c]) l := rfl
theorem spl_none : ∀ l cur : List UInt8, l.count 32 = 0 → splA cur l = [cur ++ l]
  | [], cur, _ => by simp [splA]
  | c :: l, cur, h => by
    unfold splA
    have hc : ¬ c = 32 := fun e => by subst e; simp at h
    rw [if_neg hc, spl_none l _ (by rwa [List.count_cons_of_ne hc] at h)]; simp
theorem spl_at : ∀ (l cur : List UInt8) (m : Nat), l[m]? = some 32 → (∀ k, k < m → l[k]? ≠ some 32) → splA cur l = (cur ++ l.take m) :: splA [] (l.drop (m + 1))
  | [], _, m, h, _ => by simp at h
  | c :: l, cur, m, h, g => by
    rw [splA_cons]
    cases m with
    | zero =>
      simp only [List.getElem?_cons_zero, Option.some.injEq] at h
      rw [if_pos h]; simp
    | succ m =>
      have hc : ¬ c = 32 := fun e => g 0 (by omega) (by simp [e])
      rw [if_neg hc, spl_at l _ m (by simpa using h) (fun k hk => by simpa using g (k + 1) (by omega))]
      simp
theorem count_at (l : List UInt8) (m : Nat) (h : l[m]? = some 32) (g : ∀ k, k < m → l[k]? ≠ some 32) : l.count 32 = (l.drop (m + 1)).count 32 + 1 := by
  have hm : m < l.length := by
    rcases Nat.lt_or_ge m l.length with q | q
    · exact q
    · rw [List.getElem?_eq_none q] at h; cases h
  have e : l = l.take m ++ 32 :: l.drop (m + 1) := by
    rw [List.getElem?_eq_getElem hm] at h
    rw [← Option.some.inj h, ← List.drop_eq_getElem_cons hm, List.take_append_drop]
  have z : (l.take m).count 32 = 0 := by
    refine List.count_eq_zero.2 fun q => ?_
    obtain ⟨k, hk, hq⟩ := List.getElem_of_mem q
    have hk2 : k < m := by rw [List.length_take] at hk; omega
    exact g k hk2 (by rw [List.getElem_take] at hq; rw [List.getElem?_eq_getElem (by omega), hq])
  rw [show l.count 32 = (l.take m ++ 32 :: l.drop (m + 1)).count 32 from congrArg _ e, List.count_append, z, List.count_cons_self]; omega
theorem idx_none {l : List UInt8} {c : UInt8} (h : Lib.indexByte l c < 0) : l.count c = 0 := by
  have h1 : Lib.indexByte l c = -1 := by have := Lib.indexByte_ge l c; omega
  refine List.count_eq_zero.2 fun q => ?_
  obtain ⟨k, hk, hq⟩ := List.getElem_of_mem q
  exact Lib.indexByte_none h1 k (by rw [List.getElem?_eq_getElem hk, hq])
theorem idx_some {l : List UInt8} {c : UInt8} (h : 0 ≤ Lib.indexByte l c) : ∃ m : Nat, Lib.indexByte l c = m ∧ m < l.length ∧ l[m]? = some c ∧ ∀ k, k < m → l[k]? ≠ some c := by
  obtain ⟨m, hm⟩ := Int.eq_ofNat_of_zero_le h
  obtain ⟨h1, h2⟩ := Lib.indexByte_some hm
  refine ⟨m, hm, ?_, h1, h2⟩
  rcases Nat.lt_or_ge m l.length with q | q
  · exact q
  · rw [List.getElem?_eq_none q] at h1; cases h1
theorem idx_pos {l : List UInt8} {c : UInt8} (h : l.count c ≠ 0) : 0 ≤ Lib.indexByte l c := by
  rcases Int.lt_or_le (Lib.indexByte l c) 0 with q | q
  · exact absurd (idx_none q) h
  · exact q

theorem Index_eq (s : ByteArray) (c : UInt8) : strings_Index.f s ⟨#[c]⟩ = some (Lib.indexByte (bl s) c) := rfl
theorem Count_eq (s : ByteArray) (c : UInt8) : strings_Count.f s ⟨#[c]⟩ = some (((bl s).count c : Nat) : Int) := rfl
theorem split_l0 : ∀ (d : Nat) (s : ByteArray) (arr : List ByteArray) (i : Nat), (bl s).count 32 = d → arr.length = i + d + 1 → s.size ≤ 100000 → i + d ≤ 100000 →
    Ev (fun k => strings_genSplit.l0 k s ⟨#[32]⟩ 0 ((i + d : Nat) : Int) arr (i : Int)) (arr.take i ++ (splA [] (bl s)).map ofL)
  | 0, s, arr, i, hc, ha, hs, hi => by
    refine Ev.step (fun k => strings_genSplit.l0.eq_2 ..) (evn (by omega) (evp (by omega) (evp (by omega) ?_)))
    rw [w64 (by omega) (by omega)]
    refine evp (by omega) (evp (by omega) ?_)
    rw [spl_none _ _ hc, List.nil_append, List.map_cons, List.map_nil, ofL_bl, show ((i : Int) + 1).toNat = i + 1 by omega, show (i : Int).toNat = i by omega]
    rw [show (arr.set i s).take (i + 1) = arr.take i ++ [s] by
      rw [List.take_succ_eq_append_getElem (by rw [List.length_set]; omega), List.getElem_set_self, List.take_set_of_le (by omega)]]
    exact Ev.now _
  | d + 1, s, arr, i, hc, ha, hs, hi => by
    obtain ⟨m, hm, hl, h1, h2⟩ := idx_some (idx_pos (c := 32) (l := bl s) (by omega))
    have hl2 : m < s.size := by rw [← bl_len]; exact hl
    have hk := count_at _ m h1 h2
    refine Ev.step (fun k => strings_genSplit.l0.eq_2 ..) (evp (by omega) (evs (Index_eq s 32) ?_))
    rw [hm]
    refine evn (by omega) ?_
    rw [show (⟨#[32]⟩ : ByteArray).size = 1 from rfl, Int.add_zero, w64 (by omega) (by omega), w64 (by omega) (by omega), w64 (by omega) (by omega)]
    refine evp (by omega) (evp (by omega) (evp (by omega) (evp (by omega) (evp (by omega) (evp (by omega) ?_)))))
    rw [show ((m : Int) + ((1 : Nat) : Int)).toNat = m + 1 by omega, show (m : Int).toNat = m by omega, show (i : Int).toNat = i by omega]
    have R := split_l0 d (s.extract (m + 1) s.size) (arr.set i (s.extract 0 m)) (i + 1) (by rw [bl_from]; omega) (by rw [List.length_set]; omega) (by rw [ByteArray.size_extract]; omega) (by omega)
    rw [show i + 1 + d = i + (d + 1) by omega, bl_from, List.take_succ_eq_append_getElem (by rw [List.length_set]; omega), List.getElem_set_self, List.take_set_of_le (by omega)] at R
    rw [spl_at _ _ m h1 h2, List.nil_append, List.map_cons, ← bl_to, ofL_bl]
    rw [List.append_assoc] at R
    exact R
def spl (s : ByteArray) : List ByteArray := (splA [] (bl s)).map ofL
theorem Split_ev (s : ByteArray) (hs : s.size ≤ 10000) : Ev (fun k => strings_Split.f k s ⟨#[32]⟩) (spl s) := by
  unfold strings_Split.f strings_genSplit.f
  have hcl : (bl s).count 32 ≤ s.size := by rw [← bl_len]; exact List.count_le_length
  refine evb (evn (by decide) (evn (by simp [bl_tl, bl]) (evp (by decide) (evs (Count_eq s 32) ?_)))) (Ev.now _)
  refine Ev.step (fun k => strings_genSplit.j0.eq_2 ..) ?_
  rw [w64 (by omega) (by omega), w64 (by omega) (by omega), show mn (((bl s).count 32 : Nat) + 1 : Int) ((s.size : Int) + 1) = (((bl s).count 32 + 1 : Nat) : Int) by unfold mn; split <;> omega]
  refine evp (by omega) (evp (by omega) ?_)
  rw [w64 (by omega) (by omega)]
  have R := split_l0 _ s (List.replicate ((bl s).count 32 + 1) ⟨#[]⟩) 0 rfl (by simp) (by omega) (by omega)
  rw [List.take_zero, List.nil_append, Nat.zero_add] at R
  rw [show ((((bl s).count 32 + 1 : Nat) : Int) - 1) = (((bl s).count 32 : Nat) : Int) by omega, show (((bl s).count 32 + 1 : Nat) : Int).toNat = (bl s).count 32 + 1 by omega]
  exact R

def digs (l : List UInt8) : Prop := ∀ c ∈ l, 48 ≤ c.toNat ∧ c.toNat ≤ 57
def val (x : Nat) (l : List UInt8) : Nat := l.foldl (fun x c => 10 * x + (c.toNat - 48)) x
theorem val_cons (x : Nat) (c : UInt8) (l : List UInt8) : val x (c :: l) = val (10 * x + (c.toNat - 48)) l := by unfold val; rw [List.foldl_cons]
theorem dec_small {n : Nat} (h : n < 10) : Lib.decDigits n = [UInt8.ofNat (48 + n)] := by rw [Lib.decDigits, dif_pos h]
theorem dec_big {n : Nat} (h : ¬ n < 10) : Lib.decDigits n = Lib.decDigits (n / 10) ++ [UInt8.ofNat (48 + n % 10)] := by rw [Lib.decDigits, dif_neg h]
theorem ch_nat {d : Nat} (h : d < 10) : (UInt8.ofNat (48 + d)).toNat = 48 + d := by
  rw [UInt8.toNat_ofNat']; omega
theorem dec_digs (n : Nat) : digs (Lib.decDigits n) := by
  induction n using Nat.strongRecOn with
  | _ n ih =>
    by_cases h : n < 10
    · rw [dec_small h]; intro c hc; rw [List.mem_singleton.1 hc, ch_nat h]; omega
    · rw [dec_big h]
      intro c hc
      rcases List.mem_append.1 hc with q | q
      · exact ih (n / 10) (by omega) c q
      · rw [List.mem_singleton.1 q, ch_nat (by omega)]; omega
theorem dec_val (n : Nat) : val 0 (Lib.decDigits n) = n := by
  induction n using Nat.strongRecOn with
  | _ n ih =>
    by_cases h : n < 10
    · rw [dec_small h]; unfold val; simp only [List.foldl_cons, List.foldl_nil]; rw [ch_nat h]; omega
    · rw [dec_big h]; unfold val at ih ⊢; rw [List.foldl_append, ih (n / 10) (by omega)]
      simp only [List.foldl_cons, List.foldl_nil]; rw [ch_nat (by omega)]; omega
theorem dec_ne (n : Nat) : Lib.decDigits n ≠ [] := by
  by_cases h : n < 10
  · rw [dec_small h]; simp
  · rw [dec_big h]; simp
theorem dec_len : ∀ (k n : Nat), n < 10 ^ (k + 1) → (Lib.decDigits n).length ≤ k + 1
  | 0, n, h => by rw [dec_small (by simpa using h)]; simp
  | k + 1, n, h => by
    by_cases h2 : n < 10
    · rw [dec_small h2]; simp
    · rw [dec_big h2]
      have := dec_len k (n / 10) (by rw [Nat.pow_succ] at h; omega)
      simp; omega
theorem parse_val : ∀ (l : List UInt8) (acc a : Nat), digs l → acc < 10 ^ a → a + l.length ≤ 18 → Lib.parseUint10 acc l = .ok (val acc l)
  | [], acc, a, _, _, _ => rfl
  | c :: l, acc, a, hd, ha, hl => by
    have h1 := hd c List.mem_cons_self
    rw [List.length_cons] at hl
    have hp : 10 ^ a ≤ 10 ^ 17 := Nat.pow_le_pow_right (by decide) (by omega)
    have hs : acc * 10 + (c.toNat - 48) < 10 ^ (a + 1) := by rw [Nat.pow_succ]; omega
    have hn : (10 : Nat) ^ 17 = 100000000000000000 := by decide
    unfold Lib.parseUint10
    rw [if_pos h1, if_neg (by omega), if_neg (by omega), parse_val l _ (a + 1) (fun c q => hd c (List.mem_cons_of_mem _ q)) hs (by omega), val_cons, Nat.mul_comm]
theorem atoi_dec (n : Nat) (h : n < 10 ^ 10) : Lib.atoiAll (Lib.decDigits n) = .ok (n : Int) := by
  have hd := dec_digs n
  have hl := dec_len 9 n h
  have hp := parse_val (Lib.decDigits n) 0 0 hd (by decide) (by omega)
  rw [dec_val] at hp
  cases e : Lib.decDigits n with
  | nil => exact absurd e (dec_ne n)
  | cons c r =>
    have hc := hd c (by rw [e]; exact List.mem_cons_self)
    rw [e] at hp
    have hn : (10 : Nat) ^ 10 = 10000000000 := by decide
    unfold Lib.atoiAll Lib.parseMag
    simp only [if_neg (show ¬ (c.toNat = 43 ∨ c.toNat = 45) by omega), if_neg (List.cons_ne_nil c r), hp]
    rw [if_neg (fun q => by omega), if_neg (fun q => by omega), if_neg (by omega)]
theorem itoa_at (n : Nat) : Lib.itoa (n : Int) = Lib.decDigits n := by unfold Lib.itoa; rw [if_neg (by omega)]; rfl

def pgs : List UInt8 := [112, 97, 103, 101, 115]
def fst9 (n r : Nat) : List UInt8 := (((pgs ++ [32]) ++ Lib.decDigits n ++ [32]) ++ Lib.decDigits r) ++ [10]
def nlI (t : ByteArray) : Int := Lib.indexByte (bl t) 10
theorem nl_at {t : ByteArray} {m : Nat} (h : nlI t = m) : m < t.size := by
  obtain ⟨k, hk, hl, _⟩ := idx_some (l := bl t) (c := 10) (by show 0 ≤ nlI t; omega)
  have : k = m := by have : nlI t = k := hk; omega
  rw [← bl_len]; omega
theorem Cut_no (t : ByteArray) (h : nlI t < 0) : strings_Cut.f t ⟨#[10]⟩ = some (t, ⟨#[]⟩, false) := by
  unfold strings_Cut.f stringslite_Cut.f
  rw [show stringslite_Index.f t ⟨#[10]⟩ = some (nlI t) from rfl, Option.bind_some, if_neg (by omega)]; rfl
theorem Cut_at (t : ByteArray) (m : Nat) (h : nlI t = m) (hs : t.size ≤ 100000) : strings_Cut.f t ⟨#[10]⟩ = some (t.extract 0 m, t.extract (m + 1) t.size, true) := by
  have hm := nl_at h
  unfold strings_Cut.f stringslite_Cut.f
  rw [show stringslite_Index.f t ⟨#[10]⟩ = some (nlI t) from rfl, Option.bind_some, h, if_pos (by omega), if_pos (by omega), if_pos (by omega), show (⟨#[10]⟩ : ByteArray).size = 1 from rfl, w64 (by omega) (by omega), if_pos (by omega), if_pos (by omega), Option.bind_some, show ((m : Int) + ((1 : Nat) : Int)).toNat = m + 1 by omega, show (m : Int).toNat = m by omega]

def HW (W : List (List UInt8)) (n r : Nat) : Prop := W = [pgs, Lib.decDigits n, Lib.decDigits r] ∧ n ≤ 64 ∧ r < 2147483647
theorem Atoi_dec (n : Nat) (h : n < 10 ^ 10) : strconv_Atoi_70.f (ofL (Lib.decDigits n)) = some ((n : Int), none) := by
  unfold strconv_Atoi_70.f
  have hl := dec_len 9 n h
  rw [if_pos (by rw [ofL_size]; omega), show (ofL (Lib.decDigits n)).data.toList = Lib.decDigits n from bl_ofL _, atoi_dec n h]
theorem Itoa_eq (v : Int) (h : -9223372036854775808 ≤ v ∧ v ≤ 9223372036854775807) : strconv_Itoa_50.f v = some (ofL (Lib.itoa v)) := if_pos h
theorem w0_at (a b c : ByteArray) : rdOf ByteArray.empty [a, b, c] 0 = a := rfl
theorem w1_at (a b c : ByteArray) : rdOf ByteArray.empty [a, b, c] 1 = b := rfl
theorem w2_at (a b c : ByteArray) : rdOf ByteArray.empty [a, b, c] 2 = c := rfl
theorem j0_ok (x a : ByteArray) (n r : Nat) (hn : n ≤ 64) (hr : r < 2147483647) : Ev (fun k => book_head.j0 k x [a, ofL (Lib.decDigits n), ofL (Lib.decDigits r)] false) ((n : Int), (r : Int), x, true) := by
  have hp : (10 : Nat) ^ 10 = 10000000000 := by decide
  refine Ev.step (fun k => book_head.j0.eq_2 ..) (evn (by decide) (evp (show (1 : Int) < ((3 : Nat) : Int) by decide) (evs (by rw [w1_at]; exact Atoi_dec n (by omega)) (evp (show (2 : Int) < ((3 : Nat) : Int) by decide) (evs (by rw [w2_at]; exact Atoi_dec r (by omega)) ?_)))))
  rw [w1_at, w2_at]
  refine evp rfl (evp rfl (evs (Itoa_eq _ (by omega)) ?_))
  rw [itoa_at]
  refine evp rfl (evs (Itoa_eq _ (by omega)) ?_)
  rw [itoa_at]
  refine evp rfl (evn (by omega) (evn (by omega) (evs (isSum_eq _) ?_)))
  rw [show decide (∀ x ∈ [(r : Int)], sumP x) = true from decide_eq_true (fun x hx => by rw [List.mem_singleton.1 hx]; unfold sumP; omega)]
  exact evp rfl (Ev.now _)
theorem head_ok (t : ByteArray) (m n r : Nat) (hs : t.size ≤ 10000) (h : nlI t = m) (hw : HW (splA [] ((bl t).take m)) n r) : Ev (fun k => book_head.f k t) ((n : Int), (r : Int), t.extract (m + 1) t.size, true) := by
  unfold book_head.f
  obtain ⟨e, hn, hr⟩ := hw
  refine evs (Cut_at t m h (by omega)) (evb (Split_ev _ (by rw [ByteArray.size_extract]; omega)) (evp rfl ?_))
  rw [show spl (t.extract 0 m) = [ofL pgs, ofL (Lib.decDigits n), ofL (Lib.decDigits r)] by unfold spl; rw [bl_to, e]; rfl]
  refine evp rfl (evp (show (0 : Int) < ((3 : Nat) : Int) by decide) ?_)
  rw [w0_at, show ((ofL pgs).toList != [112, 97, 103, 101, 115]) = false by rw [bl_tl, bl_ofL]; rfl]
  exact j0_ok _ _ n r hn hr
theorem drop_idx (t : List UInt8) (m : Nat) (h1 : t[m]? = some 10) (h2 : ∀ k, k < m → t[k]? ≠ some 10) : Lib.indexByte t 10 = m := by
  have hc : t.count 10 ≠ 0 := by
    refine fun q => List.count_eq_zero.1 q ?_
    exact List.mem_of_getElem? h1
  obtain ⟨k, hk, _, g1, g2⟩ := idx_some (idx_pos hc)
  rcases Nat.lt_trichotomy k m with q | q | q
  · exact absurd g1 (h2 k q)
  · rw [hk, q]
  · exact absurd h1 (g2 m q)
def rdl : Nat → List ByteArray → ByteArray → List ByteArray × ByteArray × Bool
  | 0, acc, t => (acc, t, true)
  | d + 1, acc, t => if 0 ≤ nlI t ∧ pageB (t.extract 0 (nlI t).toNat) = true then rdl d (acc ++ [t.extract 0 (nlI t).toNat]) (t.extract ((nlI t).toNat + 1) t.size) else (acc, t, false)
def rdE (p : List ByteArray × ByteArray × Bool) (sum : Int) : List ByteArray × ByteArray × Bool × Int :=
  if p.2.2 = true then (if rt (lvs p.1) = sum then (p.1, p.2.1, true, 0) else ([], ⟨#[]⟩, false, 7)) else (p.1, p.2.1, false, 0)
theorem next_no (t : ByteArray) (hs : t.size ≤ 100000) (h : ¬ (0 ≤ nlI t ∧ pageB (t.extract 0 (nlI t).toNat) = true)) : book_next.f t = some (t, false) := by
  unfold book_next.f
  by_cases h1 : nlI t < 0
  · rw [Cut_no t h1, Option.bind_some, if_neg (show ¬ (false = true) by decide)]
  · obtain ⟨m, hm⟩ := Int.eq_ofNat_of_zero_le (show 0 ≤ nlI t by omega)
    rw [Cut_at t m hm hs, Option.bind_some, if_pos rfl]
    show (some (pageB _)).bind _ = _
    rw [Option.bind_some, if_neg (fun q => h ⟨by omega, by rw [hm]; exact q⟩)]
theorem next_ok (t : ByteArray) (hs : t.size ≤ 100000) (h : 0 ≤ nlI t ∧ pageB (t.extract 0 (nlI t).toNat) = true) : book_next.f t = some (t.extract 0 (nlI t).toNat, true) := by
  unfold book_next.f
  obtain ⟨m, hm⟩ := Int.eq_ofNat_of_zero_le h.1
  rw [Cut_at t m hm hs, Option.bind_some, if_pos rfl]
  have h2 := h.2
  rw [hm, show ((m : Nat) : Int).toNat = m from rfl] at h2 ⊢
  show (some (pageB _)).bind _ = _
  rw [Option.bind_some, if_pos h2]
theorem read_l0 (sum : Int) : ∀ (d : Nat) (acc : List ByteArray) (t : ByteArray) (n : Nat), acc.length + d = n → n ≤ 64 → (∀ s ∈ acc, pageB s = true) → t.size ≤ 10000 → Ev (fun k => book_read.l0 k acc t (n : Int) sum) (rdE (rdl d acc t) sum)
  | 0, acc, t, n, h, hn, ha, ht => by
    refine Ev.step (fun k => book_read.l0.eq_2 ..) (evn (by omega) (evb (leaves_ev acc (by omega) (fun s hs => by have := page_small s (ha s hs); omega)) (evb (root_ev _ (lvs acc) (Nat.le_refl _) (by rw [lvs_length]; omega)) ?_)))
    unfold rdl rdE
    rw [if_pos rfl]
    by_cases h1 : rt (lvs acc) = sum
    · simp only [if_pos h1]; exact Ev.now _
    · simp only [if_neg h1]; exact Ev.now _
  | d + 1, acc, t, n, h, hn, ha, ht => by
    refine Ev.step (fun k => book_read.l0.eq_2 ..) (evp (by omega) ?_)
    unfold rdl
    by_cases g : 0 ≤ nlI t ∧ pageB (t.extract 0 (nlI t).toNat) = true
    · rw [if_pos g]
      obtain ⟨m, hm⟩ := Int.eq_ofNat_of_zero_le g.1
      have hl := nl_at hm
      refine evs (next_ok t (by omega) g) (evp rfl (evs (show book_page_text.f _ = some _ from rfl) (evp (by omega) ?_)))
      have g2 := g.2
      rw [hm, show ((m : Nat) : Int).toNat = m from rfl] at g2 ⊢
      rw [show (wrap64 (((t.extract 0 m).size : Int) + 1)) = ((m + 1 : Nat) : Int) by rw [ByteArray.size_extract, w64 (by omega) (by omega)]; omega]
      refine evp (by omega) (evp (by omega) ?_)
      exact read_l0 sum d (acc ++ [t.extract 0 m]) (t.extract (m + 1) t.size) n (by simp; omega) hn (fun s hs => by
        rcases List.mem_append.1 hs with q | q
        · exact ha s q
        · rw [List.mem_singleton.1 q]; exact g2) (by rw [ByteArray.size_extract]; omega)
    · rw [if_neg g]
      refine evs (next_no t (by omega) g) (evn (show ¬ (false = true) by decide) ?_)
      unfold rdE
      rw [if_neg (show ¬ (false = true) by decide)]
      exact Ev.now _
theorem read_ok (t : ByteArray) (m n r : Nat) (hs : t.size ≤ 10000) (h : nlI t = m) (hw : HW (splA [] ((bl t).take m)) n r) : Ev (fun k => book_read.f k t) (rdE (rdl n [] (t.extract (m + 1) t.size)) r) := by
  unfold book_read.f
  refine evb (head_ok t m n r hs h hw) (evp rfl ?_)
  exact read_l0 r n [] _ n (by simp) hw.2.1 (fun s q => absurd q (by simp)) (by rw [ByteArray.size_extract]; omega)
def cmn : List ByteArray → List ByteArray → Nat
  | x :: a, y :: b => if x.toList = y.toList then cmn a b + 1 else 0
  | _, _ => 0
theorem common_l0 (a b : List ByteArray) (ha : a.length ≤ 1000) : ∀ d i : Nat, i + d = a.length → Ev (fun k => book_common.l0 k a b (i : Int)) ((i + cmn (a.drop i) (b.drop i) : Nat) : Int)
  | 0, i, h => by
    refine Ev.step (fun k => book_common.l0.eq_2 ..) (evn (by omega) ?_)
    rw [List.drop_eq_nil_of_le (by omega)]; unfold cmn; exact Ev.now _
  | d + 1, i, h => by
    have h1 : i < a.length := by omega
    refine Ev.step (fun k => book_common.l0.eq_2 ..) (evp (by omega) ?_)
    by_cases h2 : i < b.length
    · refine evp (by omega) (evp (by omega) ?_)
      rw [rdS_at a i h1, rdS_at b i h2, List.drop_eq_getElem_cons h1, List.drop_eq_getElem_cons h2]
      unfold cmn
      by_cases e : (a[i]).toList = (b[i]).toList
      · rw [if_pos e, w64 (by omega) (by omega)]
        have R := common_l0 a b ha d (i + 1) (by omega)
        rw [show i + (cmn (a.drop (i + 1)) (b.drop (i + 1)) + 1) = i + 1 + cmn (a.drop (i + 1)) (b.drop (i + 1)) by omega]
        exact evp e R
      · rw [if_neg e]; exact evn e (Ev.now _)
    · refine evn (by omega) ?_
      rw [List.drop_eq_nil_of_le (show b.length ≤ i by omega), List.drop_eq_getElem_cons h1]; unfold cmn; exact Ev.now _
theorem common_ev (a b : List ByteArray) (ha : a.length ≤ 1000) : Ev (fun k => book_common.f k a b) ((cmn a b : Nat) : Int) := by
  have := common_l0 a b ha a.length 0 (by omega)
  rw [List.drop_zero, List.drop_zero, Nat.zero_add] at this
  exact this
def mgS (x y : List ByteArray) (a b : ByteArray) : ByteArray × Int × Int :=
  if cmn x y = y.length then (a, (x.length : Int), 0) else if cmn x y = x.length then (b, (y.length : Int), 0) else (⟨#[]⟩, ((cmn x y : Nat) : Int), 7)
def mgR (X Y : List ByteArray × ByteArray × Bool × Int) (a b : ByteArray) : ByteArray × Int × Int :=
  if X.2.2.2 = 0 then (if Y.2.2.2 = 0 then (if X.2.2.1 = true ∧ Y.2.2.1 = true ∧ X.2.1.toList = [] ∧ Y.2.1.toList = [] then mgS X.1 Y.1 a b else (⟨#[]⟩, 0, 9)) else (⟨#[]⟩, 0, Y.2.2.2)) else (⟨#[]⟩, 0, X.2.2.2)
theorem bne_nil {s : ByteArray} (h : s.toList = []) : (s.toList != ([] : List UInt8)) = false := by rw [h]; rfl
theorem bne_not {s : ByteArray} (h : ¬ s.toList = []) : (s.toList != ([] : List UInt8)) = true := bne_iff_ne.2 h
theorem merge_t (a b : ByteArray) (x y : List ByteArray) : Ev (fun k => book_Merge.j0 k a b x y true) (⟨#[]⟩, 0, 9) := Ev.step (fun k => book_Merge.j0.eq_2 ..) (evp rfl (Ev.now _))
theorem merge_f (a b : ByteArray) (x y : List ByteArray) (hx : x.length ≤ 64) : Ev (fun k => book_Merge.j0 k a b x y false) (mgS x y a b) := by
  refine Ev.step (fun k => book_Merge.j0.eq_2 ..) (evn (by decide) (evb (common_ev x y (by omega)) ?_))
  unfold mgS
  by_cases h1 : cmn x y = y.length
  · rw [if_pos h1]; exact evp (by omega) (Ev.now _)
  · rw [if_neg h1]; refine evn (by omega) ?_
    by_cases h2 : cmn x y = x.length
    · rw [if_pos h2]; exact evp (by omega) (Ev.now _)
    · rw [if_neg h2]; exact evn (by omega) (Ev.now _)
theorem Merge_ev (a b : ByteArray) (X Y : List ByteArray × ByteArray × Bool × Int) (hx : X.1.length ≤ 64) (A : Ev (fun k => book_read.f k a) X) (B : Ev (fun k => book_read.f k b) Y) : Ev (fun k => book_Merge.f k a b) (mgR X Y a b) := by
  unfold book_Merge.f mgR
  refine evb A ?_
  by_cases h1 : X.2.2.2 = 0
  · rw [if_pos h1]
    refine evp h1 (evb B ?_)
    by_cases h2 : Y.2.2.2 = 0
    · rw [if_pos h2]
      refine evp h2 ?_
      by_cases h3 : X.2.2.1 = true
      · refine evp h3 ?_
        by_cases h4 : Y.2.2.1 = true
        · refine evp h4 ?_
          by_cases h5 : X.2.1.toList = []
          · refine evp h5 ?_
            by_cases h6 : Y.2.1.toList = []
            · rw [if_pos ⟨h3, h4, h5, h6⟩]; simp only [bne_nil h6]; exact merge_f a b _ _ hx
            · rw [if_neg (fun q => h6 q.2.2.2)]; simp only [bne_not h6]; exact merge_t a b _ _
          · rw [if_neg (fun q => h5 q.2.2.1)]; exact evn h5 (merge_t a b _ _)
        · rw [if_neg (fun q => h4 q.2.1)]; exact evn h4 (merge_t a b _ _)
      · rw [if_neg (fun q => h3 q.1)]; exact evn h3 (merge_t a b _ _)
    · rw [if_neg h2]; exact evn h2 (Ev.now _)
  · rw [if_neg h1]; exact evn h1 (Ev.now _)
def body (l : List ByteArray) : List UInt8 := l.flatMap fun p => bl p ++ [10]
theorem body_cons (p : ByteArray) (l : List ByteArray) : body (p :: l) = bl p ++ 10 :: body l := by simp [body]
theorem body_len : ∀ l : List ByteArray, (∀ s ∈ l, s.size ≤ 60) → (body l).length ≤ l.length * 61
  | [], _ => by simp [body]
  | p :: l, h => by
    have h1 := h p List.mem_cons_self
    have h2 := body_len l (fun s hs => h s (List.mem_cons_of_mem _ hs))
    rw [body_cons, List.length_append, List.length_cons, List.length_cons, bl_len]; omega
theorem page_no10 (p : ByteArray) (h : pageB p = true) : (bl p).count 10 = 0 := by
  unfold pageB at h
  simp only [Bool.and_eq_true, Bool.not_eq_true', List.any_eq_false] at h
  refine List.count_eq_zero.2 fun q => ?_
  have := h.2 10 (by unfold bytesOf; exact List.mem_map.2 ⟨10, q, rfl⟩)
  exact this (by decide)
theorem idx_at (A B : List UInt8) (h : A.count 10 = 0) : Lib.indexByte (A ++ 10 :: B) 10 = A.length := by
  refine drop_idx _ _ (by rw [List.getElem?_append_right (Nat.le_refl _), Nat.sub_self]; rfl) fun k hk q => ?_
  rw [List.getElem?_append_left hk] at q
  exact List.count_eq_zero.1 h (List.mem_of_getElem? q)
theorem splA_app (A B cur : List UInt8) (h : A.count 32 = 0) : splA cur (A ++ 32 :: B) = (cur ++ A) :: splA [] B := by
  rw [spl_at (A ++ 32 :: B) cur A.length (by rw [List.getElem?_append_right (Nat.le_refl _), Nat.sub_self]; rfl) (fun k hk q => by
    rw [List.getElem?_append_left hk] at q
    exact List.count_eq_zero.1 h (List.mem_of_getElem? q))]
  rw [List.take_left' rfl, show A.length + 1 = (A ++ [32]).length by simp, show A ++ 32 :: B = (A ++ [32]) ++ B by simp, List.drop_left' rfl]
theorem dec_no (n : Nat) (c : UInt8) (hc : c.toNat < 48) : (Lib.decDigits n).count c = 0 := by
  refine List.count_eq_zero.2 fun q => ?_
  have := dec_digs n c q; omega
def hdl (n r : Nat) : List UInt8 := pgs ++ 32 :: (Lib.decDigits n ++ 32 :: Lib.decDigits r)
theorem hdl_spl (n r : Nat) : splA [] (hdl n r) = [pgs, Lib.decDigits n, Lib.decDigits r] := by
  unfold hdl
  rw [splA_app _ _ _ (by decide), splA_app _ _ _ (dec_no n 32 (by decide)), spl_none _ _ (dec_no r 32 (by decide))]; rfl
theorem hdl_no (n r : Nat) : (hdl n r).count 10 = 0 := by
  unfold hdl
  rw [List.count_append, List.count_cons_of_ne (by decide), List.count_append, List.count_cons_of_ne (by decide), dec_no n 10 (by decide), dec_no r 10 (by decide)]; decide
theorem fst_hdl (n r : Nat) : fst9 n r = hdl n r ++ [10] := by unfold fst9 hdl; simp

theorem take_at (A B : List UInt8) (t : ByteArray) (h : bl t = A ++ 10 :: B) (hA : A.count 10 = 0) : nlI t = A.length ∧ t.extract 0 (nlI t).toNat = ofL A ∧ t.extract ((nlI t).toNat + 1) t.size = ofL B := by
  have e : nlI t = A.length := by unfold nlI; rw [h]; exact idx_at A B hA
  refine ⟨e, bl_inj ?_, bl_inj ?_⟩
  · rw [bl_to, bl_ofL, h, e]; exact List.take_left' rfl
  · rw [bl_from, bl_ofL, h, e, show ((A.length : Nat) : Int).toNat + 1 = (A ++ [10]).length by simp, show A ++ 10 :: B = (A ++ [10]) ++ B by simp]; exact List.drop_left' rfl
theorem rdl_full : ∀ (l acc : List ByteArray), (∀ s ∈ l, pageB s = true) → rdl l.length acc (ofL (body l)) = (acc ++ l, ofL [], true)
  | [], acc, _ => by simp [rdl, body]
  | p :: l, acc, h => by
    have hp := h p List.mem_cons_self
    obtain ⟨e1, e2, e3⟩ := take_at (bl p) (body l) (ofL (body (p :: l))) (by rw [bl_ofL, body_cons]) (page_no10 p hp)
    rw [List.length_cons]
    unfold rdl
    rw [e2, e3, ofL_bl, if_pos ⟨by omega, hp⟩, rdl_full l (acc ++ [p]) (fun s hs => h s (List.mem_cons_of_mem _ hs)), List.append_assoc]; rfl
def wrL (l : List ByteArray) (r : Nat) : List UInt8 := fst9 l.length r ++ body l
theorem write_l0 (l : List ByteArray) (hl : l.length ≤ 64) (hs : ∀ s ∈ l, s.size ≤ 60) : ∀ (d i : Nat) (acc : List UInt8), i + d = l.length → acc.length ≤ 1000 + i * 61 → Ev (fun k => book_write.l0 k l (l.length : Int) (i : Int) (ofL acc)) (ofL (acc ++ body (l.drop i)))
  | 0, i, acc, h, ha => by
    refine Ev.step (fun k => book_write.l0.eq_2 ..) (evn (by omega) ?_)
    rw [List.drop_eq_nil_of_le (by omega), show body [] = [] from rfl, List.append_nil]; exact Ev.now _
  | d + 1, i, acc, h, ha => by
    have hi : i < l.length := by omega
    have h1 := hs l[i] (List.getElem_mem hi)
    refine Ev.step (fun k => book_write.l0.eq_2 ..) (evp (by omega) (evp (by omega) (evp (by omega) ?_)))
    rw [rdS_at l i hi]
    refine evp (by omega) (evp (by rw [ofL_size, ByteArray.size_append, show (⟨#[10]⟩ : ByteArray).size = 1 from rfl]; omega) ?_)
    rw [w64 (by omega) (by omega), show ofL acc ++ (l[i] ++ ⟨#[10]⟩) = ofL (acc ++ (bl l[i] ++ [10])) from bl_inj (by rw [bl_app, bl_app, bl_ofL, bl_ofL]; rfl)]
    have R := write_l0 l hl hs d (i + 1) (acc ++ (bl l[i] ++ [10])) (by omega) (by rw [List.length_append, List.length_append, bl_len, List.length_singleton]; omega)
    rw [List.drop_eq_getElem_cons hi, body_cons]
    rw [List.append_assoc, List.append_assoc] at R
    exact R
theorem rt_nat (l : List ByteArray) : ∃ r : Nat, rt (lvs l) = (r : Int) ∧ r < 2147483647 := by
  have h := rt_range (lvs l).length (lvs l) (Nat.le_refl _) (lvs_range l)
  obtain ⟨r, hr⟩ := Int.eq_ofNat_of_zero_le h.1
  exact ⟨r, hr, by have := h.2; omega⟩
theorem fst_len (n r : Nat) (hn : n ≤ 64) (hr : r < 2147483647) : (fst9 n r).length ≤ 40 := by
  have hp : (10 : Nat) ^ 12 = 1000000000000 := by decide
  have h1 := dec_len 11 n (by omega)
  have h2 := dec_len 11 r (by omega)
  unfold fst9 pgs
  simp only [List.length_append, List.length_cons, List.length_nil]; omega
theorem write_ev (l : List ByteArray) (hl : l.length ≤ 64) (hp : ∀ s ∈ l, pageB s = true) (r : Nat) (hr : rt (lvs l) = (r : Int)) (hr2 : r < 2147483647) : Ev (fun k => book_write.f k l) (ofL (wrL l r)) := by
  have hs : ∀ s ∈ l, s.size ≤ 60 := fun s q => page_small s (hp s q)
  have hq : (10 : Nat) ^ 12 = 1000000000000 := by decide
  have h1 := dec_len 11 l.length (by omega)
  have h2 := dec_len 11 r (by omega)
  unfold book_write.f
  have I1 : strconv_Itoa_50.f (l.length : Int) = some (ofL (Lib.decDigits l.length)) := by rw [Itoa_eq _ (by omega), itoa_at]
  have I2 : strconv_Itoa_50.f (rt (lvs l)) = some (ofL (Lib.decDigits r)) := by rw [hr, Itoa_eq _ (by omega), itoa_at]
  have E : (((((⟨#[112, 97, 103, 101, 115, 32]⟩ : ByteArray) ++ ofL (Lib.decDigits l.length)) ++ (⟨#[32]⟩ : ByteArray)) ++ ofL (Lib.decDigits r)) ++ (⟨#[10]⟩ : ByteArray)) = ofL (fst9 l.length r) := bl_inj (by simp only [bl_app, bl_ofL]; rfl)
  have hf := fst_len l.length r hl hr2
  refine evs I1 (evp (by rw [ofL_size]; omega) (evp (by rw [ByteArray.size_append, ofL_size]; simp [ByteArray.size]; omega) (evb (leaves_ev l hl (fun s q => by have := hs s q; omega)) (evb (root_ev _ (lvs l) (Nat.le_refl _) (by rw [lvs_length]; omega)) (evs I2 (evp (by rw [ByteArray.size_append, ByteArray.size_append, ofL_size, ofL_size]; simp [ByteArray.size]; omega) (evp (by rw [ByteArray.size_append, ByteArray.size_append, ByteArray.size_append, ofL_size, ofL_size]; simp [ByteArray.size]; omega) ?_)))))))
  rw [E]
  refine evp (by rw [ofL_size]; omega) ?_
  exact write_l0 l hl hs l.length 0 (fst9 l.length r) (by omega) (by omega)
theorem Write_ok (l : List ByteArray) (hl : l.length ≤ 64) (hp : ∀ s ∈ l, pageB s = true) (r : Nat) (hr : rt (lvs l) = (r : Int)) (hr2 : r < 2147483647) : Ev (fun k => book_Write.f k l) (ofL (wrL l r), 0) := by
  have V := vP_ev l (by omega)
  rw [vP_zero l hl hp] at V
  unfold book_Write.f
  exact evb V (evp rfl (evb (write_ev l hl hp r hr hr2) (Ev.now _)))
theorem wr_len (l : List ByteArray) (r : Nat) (hl : l.length ≤ 64) (hp : ∀ s ∈ l, pageB s = true) (hr2 : r < 2147483647) : (wrL l r).length ≤ 4000 := by
  have h1 := body_len l (fun s q => page_small s (hp s q))
  have h2 := fst_len l.length r hl hr2
  unfold wrL; rw [List.length_append]; omega
theorem cut_read (l : List ByteArray) (r j : Nat) (hl : l.length ≤ 64) (hp : ∀ s ∈ l, pageB s = true) (hr2 : r < 2147483647) (hj : j ≤ (body l).length) :
    Ev (fun k => book_read.f k (ofL (hdl l.length r ++ 10 :: (body l).take j))) (rdE (rdl l.length [] (ofL ((body l).take j))) r) := by
  obtain ⟨e1, e2, e3⟩ := take_at (hdl l.length r) ((body l).take j) (ofL (hdl l.length r ++ 10 :: (body l).take j)) (by rw [bl_ofL]) (hdl_no _ _)
  have hz := wr_len l r hl hp hr2
  have R := read_ok (ofL (hdl l.length r ++ 10 :: (body l).take j)) (hdl l.length r).length l.length r (by
    unfold wrL at hz; rw [fst_hdl] at hz
    rw [ofL_size]; simp only [List.length_append, List.length_cons, List.length_nil, List.length_take] at hz ⊢; omega) e1 (by
    rw [bl_ofL, List.take_left' rfl]; exact ⟨hdl_spl _ _, hl, hr2⟩)
  rw [e1] at e3
  rw [show ((hdl l.length r).length : Int).toNat = (hdl l.length r).length from rfl] at e3
  rw [e3] at R
  exact R
theorem full_read (l : List ByteArray) (r : Nat) (hl : l.length ≤ 64) (hp : ∀ s ∈ l, pageB s = true) (hr : rt (lvs l) = (r : Int)) (hr2 : r < 2147483647) : Ev (fun k => book_read.f k (ofL (wrL l r))) (l, ofL [], true, 0) := by
  have R := cut_read l r (body l).length hl hp hr2 (Nat.le_refl _)
  rw [List.take_length, rdl_full l [] hp] at R
  unfold rdE at R
  rw [if_pos rfl, List.nil_append, if_pos hr] at R
  rw [show wrL l r = hdl l.length r ++ 10 :: body l by unfold wrL; rw [fst_hdl]; simp]
  exact R
def comR (a b : List ByteArray) : Int × Int := if vP a = 0 then (if vP b = 0 then ((cmn a b : Nat), 0) else (0, vP b)) else (0, vP a)
theorem Common_ev (a b : List ByteArray) (ha : a.length ≤ 1000) (hb : b.length ≤ 1000) : Ev (fun k => book_Common.f k a b) (comR a b) := by
  unfold book_Common.f comR
  refine evb (vP_ev a ha) ?_
  by_cases h : vP a = 0
  · rw [if_pos h]
    refine evp h (evb (vP_ev b hb) ?_)
    by_cases h2 : vP b = 0
    · rw [if_pos h2]
      have := common_l0 a b ha a.length 0 (by omega)
      rw [List.drop_zero, List.drop_zero, Nat.zero_add] at this
      exact evp h2 (evb this (Ev.now _))
    · rw [if_neg h2]; exact evn h2 (Ev.now _)
  · rw [if_neg h]; exact evn h (Ev.now _)
theorem Join12 : book_Join.f 1 2 = some (81886, 0) := by decide +kernel
theorem root_ok (l : List ByteArray) (h64 : l.length ≤ 64) (hp : ∀ s ∈ l, pageB s = true) : Ev (fun k => book_Root.f k l) (rt (lvs l), 0) := by
  have R := Root_ev l (by omega)
  unfold rootR at R
  rwa [if_pos (vP_zero l h64 hp)] at R
theorem growth_ok (l : List ByteArray) (m : Nat) (h64 : l.length ≤ 64) (hp : ∀ s ∈ l, pageB s = true) (h1 : 1 ≤ m) (h2 : m ≤ l.length) : Ev (fun k => book_Growth.f k l (m : Int)) (gr m (lvs l) true, 0) := by
  have R := Growth_ev l (m : Int) (by omega)
  rwa [groR_0 (vP_zero l h64 hp) (by omega), Int.toNat_natCast] at R
theorem check_ok (l : List ByteArray) (m : Nat) (h64 : l.length ≤ 64) (h1 : 1 ≤ m) (h2 : m ≤ l.length) : Ev (fun k => book_CheckGrowth.f k (rt (lvs (l.take m))) (rt (lvs l)) (m : Int) (l.length : Int) (gr m (lvs l) true)) 0 := by
  have e := lvs_length l
  have tk : lvs (l.take m) = (lvs l).take m := List.map_take ..
  have ok : unOk (m : Int) (l.length : Int) (rt ((lvs l).take m)) (gr m (lvs l) true) := ⟨by omega, by omega, by omega, rt_range _ _ (Nat.le_refl _) (fun x hx => lvs_range l x (List.mem_of_mem_take hx)), gr_sums _ m (lvs l) true (Nat.le_refl _) (lvs_range l)⟩
  have G := gr_uq (rt ((lvs l).take m)) _ m (lvs l) [] true (Nat.le_refl _) (by omega) (by omega) (fun _ => rfl)
  rw [List.append_nil, e] at G
  have U := unR_s ok G rfl
  have R := CheckGrowth_ev (rt ((lvs l).take m)) (rt (lvs l)) (m : Int) (l.length : Int) (gr m (lvs l) true)
  rw [cgR_0 (by rw [U]) (rt_range _ _ (Nat.le_refl _) (lvs_range l)) (by rw [U]) (by rw [U])] at R
  rw [tk]; exact R
theorem page_ok (l : List ByteArray) (i : Nat) (hi : i < l.length) (h64 : l.length ≤ 64) (hp : ∀ s ∈ l, pageB s = true) : Ev (fun k => book_Proof.f k l (i : Int)) (pf i (lvs l), 0) ∧ Ev (fun k => book_CheckPage.f k (rt (lvs l)) l[i] (i : Int) (l.length : Int) (pf i (lvs l))) 0 := by
  have hv := vP_zero l h64 hp
  have P := Proof_ev l (i : Int) (by omega)
  rw [prR_0 hv (by omega), Int.toNat_natCast] at P
  have e := lvs_length l
  have num : numR (i : Int) (l.length : Int) = 0 := numR_0 (by omega) (by omega)
  have pl := pf_len _ (lvs l) i (Nat.le_refl _)
  rw [e] at pl
  have sm := pf_sums _ (lvs l) i (Nat.le_refl _) (lvs_range l)
  have cl := pf_climb _ (lvs l) i (leafV l[i]) (by rw [lvs, List.getElem?_map, List.getElem?_eq_getElem hi]; rfl) (Nat.le_refl _)
  have pg : pageB l[i] = true := hp _ (List.getElem_mem hi)
  rw [e] at cl
  have cr : climbR (leafV l[i]) (i : Int) (l.length : Int) (pf i (lvs l)) = (rt (lvs l), 0) := by
    unfold climbR
    rw [if_pos num, if_pos ⟨leaf_range _, sm⟩, Int.toNat_natCast, Int.toNat_natCast, if_pos pl.symm, cl]
  have C := CheckPage_ev (rt (lvs l)) l[i] (i : Int) (l.length : Int) (pf i (lvs l)) (by have := page_small _ pg; omega) (by have := sd_len _ l.length i (Nat.le_refl _); show (pf i (lvs l)).length ≤ 1000; omega)
  rw [chkR_e pg (by rw [cr]) (rt_range _ _ (Nat.le_refl _) (lvs_range l)) (by rw [cr])] at C
  exact ⟨P, C⟩
theorem cmn_pre : ∀ (l : List ByteArray) (n : Nat), n ≤ l.length → cmn (l.take n) l = n
  | l, 0, _ => by cases l <;> simp [cmn]
  | x :: l, n + 1, h => by rw [List.take_succ_cons]; unfold cmn; rw [if_pos rfl, cmn_pre l n (by simpa using h)]
  | [], n + 1, h => by simp at h
theorem tm1 (x : Int) (n : Nat) (hn : 1 ≤ n) (hn2 : n ≤ 64) : ∃ m : Nat, 1 ≤ m ∧ m ≤ n ∧ wrap64 (1 + (wrap64 (Int.tmod (IntKind.u64.wrap x) (IntKind.u64.wrap (n : Int))))) = (m : Int) := by
  have hc : 0 ≤ IntKind.u64.wrap x := by rw [IntKind.wrap_u64]; omega
  obtain ⟨c, ec⟩ := Int.eq_ofNat_of_zero_le hc
  have en : IntKind.u64.wrap (n : Int) = (n : Int) := by rw [IntKind.wrap_u64]; omega
  have hj : c % n < n := Nat.mod_lt _ (by omega)
  refine ⟨1 + c % n, by omega, by omega, ?_⟩
  rw [en, ec, show Int.tmod (c : Int) (n : Int) = ((c % n : Nat) : Int) from rfl, w64 (n := ((c % n : Nat) : Int)) (by omega) (by omega), w64 (by omega) (by omega)]; omega
theorem top_j4 (l : List ByteArray) (n : Nat) (h64 : l.length ≤ 64) (hp : ∀ s ∈ l, pageB s = true) (h1 : n ≤ l.length) : Ev (fun k => wigeontop_TopBook.j4 k l (n : Int) (l.take n) false) true := by
  have q := cmn_pre l n h1
  have pl : (l.take n).length = n := by rw [List.length_take]; omega
  have pp : ∀ s ∈ l.take n, pageB s = true := fun s hs => hp s (List.mem_of_mem_take hs)
  obtain ⟨r, hr, hr2⟩ := rt_nat l
  obtain ⟨s, hs, hs2⟩ := rt_nat (l.take n)
  have hm : mgS (l.take n) l (ofL (wrL (l.take n) s)) (ofL (wrL l r)) = (ofL (wrL l r), (l.length : Int), 0) := by
    unfold mgS
    rw [q]
    by_cases e : n = l.length
    · subst e
      rw [if_pos rfl]
      rw [List.take_length] at hs ⊢
      have : s = r := by omega
      subst this; rfl
    · rw [if_neg e, if_pos pl.symm]
  have M := Merge_ev (ofL (wrL (l.take n) s)) (ofL (wrL l r)) (l.take n, ofL [], true, 0) (l, ofL [], true, 0) (by show (l.take n).length ≤ 64; omega) (full_read (l.take n) s (by omega) pp hs hs2) (full_read l r h64 hp hr hr2)
  have ez : (ofL []).toList = [] := by rw [bl_tl, bl_ofL]
  unfold mgR at M
  rw [if_pos rfl, if_pos rfl, if_pos ⟨rfl, rfl, ez, ez⟩] at M
  dsimp only at M
  rw [hm] at M
  have C := Common_ev (l.take n) l (by omega) (by omega)
  unfold comR at C
  rw [if_pos (vP_zero _ (by omega) pp), if_pos (vP_zero l h64 hp), q] at C
  refine Ev.step (fun k => wigeontop_TopBook.j4.eq_2 ..) (evn (by decide) (evb (Write_ok l h64 hp r hr hr2) (evb (Write_ok (l.take n) (by omega) pp s hs hs2) (evb M (evb C (evp rfl (evp rfl (evp rfl (evp rfl (evp rfl (evp rfl ?_)))))))))))
  dsimp only
  rw [show ((n : Int) == (n : Int)) = true from beq_self_eq_true _]; exact Ev.now _
theorem top_l0 (l : List ByteArray) (a1 a2 : Int) (h64 : l.length ≤ 64) (hp : ∀ s ∈ l, pageB s = true) (h0 : 1 ≤ l.length) : ∀ d i : Nat, i + d = l.length → Ev (fun k => wigeontop_TopBook.l0 k l a1 a2 (rt (lvs l)) (i : Int)) true
  | 0, i, h => by
    obtain ⟨n, n1, n2, en⟩ := tm1 a2 l.length h0 h64
    obtain ⟨m, m1, m2, em⟩ := tm1 a1 n n1 (by omega)
    have eu : ∀ j : Nat, 1 ≤ j → j ≤ 64 → ¬ IntKind.u64.wrap (j : Int) = 0 := fun j _ _ => by rw [IntKind.wrap_u64]; omega
    have pl : (l.take n).length = n := by rw [List.length_take]; omega
    have pp : ∀ s ∈ l.take n, pageB s = true := fun s hs => hp s (List.mem_of_mem_take hs)
    have qp : ∀ s ∈ l.take m, pageB s = true := fun s hs => hp s (List.mem_of_mem_take hs)
    refine Ev.step (fun k => wigeontop_TopBook.l0.eq_2 ..) (evn (by omega) (evn (eu _ h0 h64) ?_))
    rw [en, em]
    refine evn (eu n n1 (by omega)) (evs rfl (evp (by omega) (evp (by omega) (evp (by simp only [List.length_take, List.length_nil, Int.toNat_natCast]; omega) (evs rfl (evp (by omega) (evp (by omega) ?_)))))))
    rw [List.nil_append, Int.toNat_natCast, Int.toNat_natCast]
    have K1 := check_ok (l.take n) m (by omega) m1 (by omega)
    rw [pl, List.take_take, Nat.min_eq_left m2] at K1
    refine evb (root_ok (l.take m) (by rw [List.length_take]; omega) qp) (evb (root_ok (l.take n) (by omega) pp) (evb (growth_ok (l.take n) m (by omega) pp m1 (by omega)) (evb (growth_ok l n h64 hp n1 n2) (evb (growth_ok l m h64 hp m1 (by omega)) (evp rfl (evp rfl (evp rfl (evp rfl ?_))))))))
    rw [show ((gr m (lvs l) true, (0 : Int)).2 != 0) = false from rfl]
    refine Ev.step (fun k => wigeontop_TopBook.j3.eq_2 ..) (evn (by decide) (evb K1 (evp rfl (evb (check_ok l n h64 n1 n2) (evp rfl (evb (check_ok l m h64 m1 (by omega)) ?_))))))
    exact top_j4 l n h64 hp n2
  | d + 1, i, h => by
    have hi : i < l.length := by omega
    obtain ⟨P, C⟩ := page_ok l i hi h64 hp
    refine Ev.step (fun k => wigeontop_TopBook.l0.eq_2 ..) (evp (by omega) (evb P (evp rfl (evp (by omega) ?_))))
    rw [rdS_at l i hi]
    refine evb C (evp rfl ?_)
    rw [w64 (by omega) (by omega)]
    exact top_l0 l a1 a2 h64 hp h0 d (i + 1) (by omega)
theorem TopBook (a0 : List ByteArray) (a1 : Int) (a2 : Int) (h0 : a0.length ≤ 9223372036854775807 ∧ ∀ x_ ∈ a0, x_.size ≤ 9223372036854775807) (h1 : (Lit.int .i64 a1).wf = true) (h2 : (Lit.int .i64 a2).wf = true) : ∃ k, wigeontop_TopBook.f k a0 a1 a2 = some true := by
  refine Ev.rounds ?_
  unfold wigeontop_TopBook.f
  refine evs Join12 (evp rfl ?_)
  show Ev (fun k => wigeontop_TopBook.j0 k a0 a1 a2 false) true
  refine Ev.step (fun k => wigeontop_TopBook.j0.eq_2 ..) (evn (by decide) (evb (Long_ev a0 h0.1) ?_))
  by_cases h : longB a0 = true
  · exact evp h (Ev.now _)
  refine evn h ?_
  obtain ⟨l1, l2⟩ := long_not a0 h
  rcases vP_cases a0 with ⟨hv, hl, hp⟩ | hv
  · refine evb (root_ok a0 hl hp) (evp rfl ?_)
    by_cases e : a0.length = 0
    · obtain rfl := List.length_eq_zero_iff.1 e
      exact Ev.step (fun k => wigeontop_TopBook.j1.eq_2 ..) (evp rfl (by rw [show rt (lvs []) = 0 from rt_nil]; exact Ev.now _))
    · rw [show ((a0.length : Int) == 0) = false from beq_eq_false_iff_ne.2 (by omega)]
      exact Ev.step (fun k => wigeontop_TopBook.j1.eq_2 ..) (evn (by decide) (top_l0 a0 a1 a2 hl hp (by omega) a0.length 0 (by omega)))
  · have R := Root_ev a0 (by omega)
    unfold rootR at R
    rw [if_neg hv] at R
    exact evb R (evn hv (Ev.step (fun k => wigeontop_TopBook.j1.eq_2 ..) (evp rfl (Ev.now _))))

end Go.Proofs.YtfccgfjiplnmfaaDoor.Pure

