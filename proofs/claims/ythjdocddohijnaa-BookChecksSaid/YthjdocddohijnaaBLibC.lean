/- The plain law behind the row: what the printed functions of this law compute answers true, for every input that the row lets in. -/
import Derived.Test.YthjdocddohijnaaBLibB
import Derived.Test.YthjdocddohijnaaBKx17
namespace Go.Proofs.Ythjdocddohijnaa.Pure
set_option linter.unusedVariables false
set_option linter.unusedSimpArgs false
open Go.RowKit Go.Proofs.Ythjdocddohijnaa.BK Go.Proofs.YthjdocddohijnaaW.PrintWords Go.Proofs.YthjdocddohijnaaW.PrintLast

-- sides
def numR (i n : Int) : Int := if n < 1 ∨ 64 < n then 1 else if i < 0 ∨ n ≤ i then 4 else 0
theorem numR_1 {i n : Int} (h : n < 1 ∨ 64 < n) : numR i n = 1 := if_pos h
theorem numR_4 {i n : Int} (h : ¬ (n < 1 ∨ 64 < n)) (h2 : i < 0 ∨ n ≤ i) : numR i n = 4 := (if_neg h).trans (if_pos h2)
theorem numR_0 {i n : Int} (h : ¬ (n < 1 ∨ 64 < n)) (h2 : ¬ (i < 0 ∨ n ≤ i)) : numR i n = 0 := (if_neg h).trans (if_neg h2)
theorem numbered_ev (i n : Int) : Ev (fun k => book_numbered.f k i n) (numR i n) := by
  unfold book_numbered.f
  by_cases h : n < 1
  · rw [numR_1 (Or.inl h)]; exact evp h (Ev.step (fun k => book_numbered.j0.eq_2 ..) (evp rfl (Ev.now _)))
  · refine evn h (Ev.step (fun k => book_numbered.j0.eq_2 ..) ?_)
    by_cases h2 : n > 64
    · rw [numR_1 (Or.inr h2)]; exact evp (by simpa using h2) (Ev.now _)
    · refine evn (by simpa using h2) ?_
      by_cases h3 : i < 0
      · rw [numR_4 (by omega) (Or.inl h3)]; exact evp h3 (Ev.now _)
      · refine evn h3 ?_
        by_cases h4 : i ≥ n
        · rw [numR_4 (by omega) (Or.inr h4)]; exact evp h4 (Ev.now _)
        · rw [numR_0 (by omega) (by omega)]; exact evn h4 (Ev.now _)
theorem place_ev (i n : Int) : Ev (fun k => wigeonref09_place.f k i n) (numR i n) := by
  unfold wigeonref09_place.f
  by_cases h : n < 1
  · rw [numR_1 (Or.inl h)]; exact evp h (Ev.step (fun k => wigeonref09_place.j0.eq_2 ..) (evp rfl (Ev.now _)))
  · refine evn h (Ev.step (fun k => wigeonref09_place.j0.eq_2 ..) ?_)
    by_cases h2 : n > 64
    · rw [numR_1 (Or.inr h2)]; exact evp (by simpa using h2) (Ev.now _)
    · refine evn (by simpa using h2) ?_
      by_cases h3 : i < 0
      · rw [numR_4 (by omega) (Or.inl h3)]; exact evp h3 (Ev.now _)
      · refine evn h3 ?_
        by_cases h4 : i ≥ n
        · rw [numR_4 (by omega) (Or.inr h4)]; exact evp h4 (Ev.now _)
        · rw [numR_0 (by omega) (by omega)]; exact evn h4 (Ev.now _)
theorem numR_ok (i n : Int) (h : numR i n = 0) : 1 ≤ n ∧ n ≤ 64 ∧ 0 ≤ i ∧ i < n := by
  unfold numR at h
  by_cases h1 : n < 1 ∨ 64 < n
  · rw [if_pos h1] at h; exact absurd h (by decide)
  · rw [if_neg h1] at h
    by_cases h2 : i < 0 ∨ n ≤ i
    · rw [if_pos h2] at h; exact absurd h (by decide)
    · omega
/-- on which side the sums of a proof stand -/
def sd (i n : Nat) : List Bool :=
  if h : n ≤ 1 then [] else if i < sp n then sd i (sp n) ++ [false] else sd (i - sp n) (n - sp n) ++ [true]
termination_by n
decreasing_by
  · exact sp_lt n (by omega)
  · have := sp_pos n; omega
theorem sd_one (i n : Nat) (h : n ≤ 1) : sd i n = [] := by rw [sd, dif_pos h]
theorem sd_lt (i n : Nat) (h : 2 ≤ n) (hi : i < sp n) : sd i n = sd i (sp n) ++ [false] := by rw [sd, dif_neg (by omega), if_pos hi]
theorem sd_ge (i n : Nat) (h : 2 ≤ n) (hi : ¬ i < sp n) : sd i n = sd (i - sp n) (n - sp n) ++ [true] := by rw [sd, dif_neg (by omega), if_neg hi]
theorem sd_len : ∀ (m n i : Nat), n ≤ m → (sd i n).length ≤ n
  | 0, n, i, h => by rw [sd_one i n (by omega)]; simp
  | m + 1, n, i, h => by
    by_cases h1 : n ≤ 1
    · rw [sd_one i n h1]; simp
    · have a := sp_lt n (by omega)
      have b := sp_pos n
      by_cases h2 : i < sp n
      · rw [sd_lt i n (by omega) h2]
        have := sd_len m (sp n) i (by omega)
        simp; omega
      · rw [sd_ge i n (by omega) h2]
        have := sd_len m (n - sp n) (i - sp n) (by omega)
        simp; omega
theorem sides_ev : ∀ (m n i : Nat), n ≤ m → 1 ≤ n → n ≤ 64 → i < n → Ev (fun k => book_sides.f k (i : Int) (n : Int)) (sd i n)
  | 0, n, i, h, h1, _, _ => by omega
  | m + 1, n, i, h, h1, h64, hin => by
    by_cases h2 : n ≤ 1
    · rw [sd_one i n h2]
      exact Ev.step (fun k => book_sides.f.eq_2 ..) (evp (by omega) (Ev.now _))
    · have a := sp_lt n (by omega)
      have b := sp_pos n
      refine Ev.step (fun k => book_sides.f.eq_2 ..) (evn (by omega) (evb (split_ev n (by omega) h64) ?_))
      by_cases h3 : i < sp n
      · rw [sd_lt i n (by omega) h3]
        have l := sd_len m (sp n) i (by omega)
        exact evp (by omega) (evb (sides_ev m (sp n) i (by omega) (by omega) (by omega) h3) (evp (by omega) (Ev.now _)))
      · rw [sd_ge i n (by omega) h3]
        have l := sd_len m (n - sp n) (i - sp n) (by omega)
        refine evn (by omega) ?_
        rw [w64 (n := (i : Int) - _) (by omega) (by omega), w64 (n := (n : Int) - _) (by omega) (by omega), show (i : Int) - (sp n : Nat) = ((i - sp n : Nat) : Int) by omega, show (n : Int) - (sp n : Nat) = ((n - sp n : Nat) : Int) by omega]
        exact evb (sides_ev m (n - sp n) (i - sp n) (by omega) (by omega) (by omega) (by omega)) (evp (by omega) (Ev.now _))
theorem rsides_ev : ∀ (m n i : Nat), n ≤ m → 1 ≤ n → n ≤ 64 → i < n → Ev (fun k => wigeonref09_sides.f k (i : Int) (n : Int)) (sd i n)
  | 0, n, i, h, h1, _, _ => by omega
  | m + 1, n, i, h, h1, h64, hin => by
    by_cases h2 : n ≤ 1
    · rw [sd_one i n h2]
      exact Ev.step (fun k => wigeonref09_sides.f.eq_2 ..) (evp (by omega) (Ev.now _))
    · have a := sp_lt n (by omega)
      have b := sp_pos n
      refine Ev.step (fun k => wigeonref09_sides.f.eq_2 ..) (evn (by omega) (evb (rsplit_ev n (by omega) h64) ?_))
      by_cases h3 : i < sp n
      · rw [sd_lt i n (by omega) h3]
        have l := sd_len m (sp n) i (by omega)
        exact evp (by omega) (evb (rsides_ev m (sp n) i (by omega) (by omega) (by omega) h3) (evp (by omega) (Ev.now _)))
      · rw [sd_ge i n (by omega) h3]
        have l := sd_len m (n - sp n) (i - sp n) (by omega)
        refine evn (by omega) ?_
        rw [w64 (n := (i : Int) - _) (by omega) (by omega), w64 (n := (n : Int) - _) (by omega) (by omega), show (i : Int) - (sp n : Nat) = ((i - sp n : Nat) : Int) by omega, show (n : Int) - (sp n : Nat) = ((n - sp n : Nat) : Int) by omega]
        exact evb (rsides_ev m (n - sp n) (i - sp n) (by omega) (by omega) (by omega) (by omega)) (evp (by omega) (Ev.now _))

-- climb
theorem sums_one (y : Int) (m : List Int) (h : sumP y) : decide (∀ x ∈ y :: m, sumP x) = decide (∀ x ∈ m, sumP x) := decide_eq_decide.2 ⟨fun q x hx => q x (List.mem_cons_of_mem _ hx), fun q x hx => by
  rcases List.mem_cons.1 hx with e | e
  · rw [e]; exact h
  · exact q x e⟩
theorem sums_not (y : Int) (m : List Int) (h : ¬ sumP y) : decide (∀ x ∈ y :: m, sumP x) = false := decide_eq_false fun q => h (q y List.mem_cons_self)
theorem areSums_l0 (l : List Int) (hl : l.length ≤ 1000) : ∀ d i : Nat, i + d = l.length → Ev (fun k => wigeonref09_areSums.l0 k l (i : Int)) (decide (∀ x ∈ l.drop i, sumP x))
  | 0, i, h => by
    refine Ev.step (fun k => wigeonref09_areSums.l0.eq_2 ..) (evn (by omega) ?_)
    rw [List.drop_eq_nil_of_le (by omega), show decide (∀ x ∈ ([] : List Int), sumP x) = true from decide_eq_true (by simp)]; exact Ev.now _
  | d + 1, i, h => by
    have hlt : i < l.length := by omega
    have R := areSums_l0 l hl d (i + 1) (by omega)
    refine Ev.step (fun k => wigeonref09_areSums.l0.eq_2 ..) (evp (by omega) (evp (by omega) (evs (risSum_eq _) ?_)))
    rw [rd_at l i hlt, List.drop_eq_getElem_cons hlt]
    by_cases hs : sumP l[i]
    · refine evp (by simpa using hs) ?_
      rw [w64 (by omega) (by omega), sums_one _ _ hs]
      exact R
    · refine evn (by simpa using hs) ?_
      rw [sums_not _ _ hs]; exact Ev.now _
theorem areSums_ev (l : List Int) (hl : l.length ≤ 1000) : Ev (fun k => wigeonref09_areSums.f k l) (decide (∀ x ∈ l, sumP x)) := areSums_l0 l hl l.length 0 (by omega)
def clF : List Bool → List Int → Int → Int
  | b :: bs, y :: ys, x => clF bs ys (if b then jn y x else jn x y)
  | _, _, x => x
theorem climb_l0 (s : List Bool) (p : List Int) (hs : s.length = p.length) (hp : p.length ≤ 1000) : ∀ (d i : Nat) (x : Int), i + d = p.length → Ev (fun k => book_Climb.l0 k s x p (p.length : Int) (i : Int)) (clF (s.drop i) (p.drop i) x, 0)
  | 0, i, x, h => by
    refine Ev.step (fun k => book_Climb.l0.eq_2 ..) (evn (by omega) ?_)
    rw [List.drop_eq_nil_of_le (by omega), List.drop_eq_nil_of_le (by omega)]; exact Ev.now _
  | d + 1, i, x, h => by
    have h1 : i < p.length := by omega
    have h2 : i < s.length := by omega
    refine Ev.step (fun k => book_Climb.l0.eq_2 ..) (evp (by omega) (evp (by omega) (evp (by omega) (evp (by omega) ?_))))
    rw [rdB_at s i h2, rd_at p i h1, List.drop_eq_getElem_cons h1, List.drop_eq_getElem_cons h2, w64 (by omega) (by omega)]
    unfold clF
    cases s[i]
    · exact evn (by decide) (evs (join_eq _ _) (climb_l0 s p hs hp d (i + 1) _ (by omega)))
    · exact evp rfl (evs (join_eq _ _) (climb_l0 s p hs hp d (i + 1) _ (by omega)))
theorem rclimb_l0 (s : List Bool) (p : List Int) (hs : s.length = p.length) (hp : p.length ≤ 1000) : ∀ (d i : Nat) (x : Int), i + d = p.length → Ev (fun k => wigeonref09_Climb.l0 k x p s (i : Int)) (clF (s.drop i) (p.drop i) x, 0)
  | 0, i, x, h => by
    refine Ev.step (fun k => wigeonref09_Climb.l0.eq_2 ..) (evn (by omega) ?_)
    rw [List.drop_eq_nil_of_le (by omega), List.drop_eq_nil_of_le (by omega)]; exact Ev.now _
  | d + 1, i, x, h => by
    have h1 : i < p.length := by omega
    have h2 : i < s.length := by omega
    refine Ev.step (fun k => wigeonref09_Climb.l0.eq_2 ..) (evp (by omega) (evp (by omega) (evp (by omega) ?_)))
    rw [rdB_at s i h2, rd_at p i h1, List.drop_eq_getElem_cons h1, List.drop_eq_getElem_cons h2, w64 (by omega) (by omega)]
    unfold clF
    cases s[i]
    · exact evn (by decide) (evs (rjoin_eq _ _) (rclimb_l0 s p hs hp d (i + 1) _ (by omega)))
    · exact evp rfl (evs (rjoin_eq _ _) (rclimb_l0 s p hs hp d (i + 1) _ (by omega)))
def climbR (x i n : Int) (p : List Int) : Int × Int :=
  if numR i n = 0 then (if sumP x ∧ ∀ y ∈ p, sumP y then (if (sd i.toNat n.toNat).length = p.length then (clF (sd i.toNat n.toNat) p x, 0) else (0, 7)) else (0, 1)) else (0, numR i n)
theorem Climb_ev (x i n : Int) (p : List Int) (hp : p.length ≤ 1000) : Ev (fun k => book_Climb.f k x i n p) (climbR x i n p) := by
  unfold book_Climb.f climbR
  refine evb (numbered_ev i n) ?_
  by_cases h : numR i n = 0
  · rw [if_pos h]
    refine evp h (evs (isSum_eq _) ?_)
    obtain ⟨n1, n2, i1, i2⟩ := numR_ok i n h
    obtain ⟨i, rfl⟩ := Int.eq_ofNat_of_zero_le i1
    obtain ⟨n, rfl⟩ := Int.eq_ofNat_of_zero_le (show 0 ≤ n by omega)
    by_cases hx : sumP x
    · refine evp (by simpa using hx) (evs (isSum_eq _) ?_)
      by_cases hy : ∀ y ∈ p, sumP y
      · rw [if_pos ⟨hx, hy⟩, decide_eq_true hy]
        refine Ev.step (fun k => book_Climb.j0.eq_2 ..) (evn (by decide) (evb (sides_ev n n i (Nat.le_refl _) (by omega) (by omega) (by omega)) ?_))
        rw [Int.toNat_natCast, Int.toNat_natCast]
        by_cases hl : (sd i n).length = p.length
        · rw [if_pos hl]; exact evp (by omega) (climb_l0 _ p hl hp p.length 0 x (by omega))
        · rw [if_neg hl]; exact evn (by omega) (Ev.now _)
      · rw [if_neg (fun q => hy q.2), decide_eq_false hy]
        exact Ev.step (fun k => book_Climb.j0.eq_2 ..) (evp rfl (Ev.now _))
    · rw [if_neg (fun q => hx q.1)]
      exact evn (by simpa using hx) (Ev.step (fun k => book_Climb.j0.eq_2 ..) (evp rfl (Ev.now _)))
  · rw [if_neg h]; exact evn h (Ev.now _)
theorem rClimb_ev (x i n : Int) (p : List Int) (hp : p.length ≤ 1000) : Ev (fun k => wigeonref09_Climb.f k x i n p) (climbR x i n p) := by
  unfold wigeonref09_Climb.f climbR
  refine evb (place_ev i n) ?_
  by_cases h : numR i n = 0
  · rw [if_pos h]
    refine evp h (evs (risSum_eq _) ?_)
    obtain ⟨n1, n2, i1, i2⟩ := numR_ok i n h
    obtain ⟨i, rfl⟩ := Int.eq_ofNat_of_zero_le i1
    obtain ⟨n, rfl⟩ := Int.eq_ofNat_of_zero_le (show 0 ≤ n by omega)
    by_cases hx : sumP x
    · refine evp (by simpa using hx) (evb (areSums_ev _ hp) ?_)
      by_cases hy : ∀ y ∈ p, sumP y
      · rw [if_pos ⟨hx, hy⟩, decide_eq_true hy]
        refine Ev.step (fun k => wigeonref09_Climb.j0.eq_2 ..) (evn (by decide) (evb (rsides_ev n n i (Nat.le_refl _) (by omega) (by omega) (by omega)) ?_))
        rw [Int.toNat_natCast, Int.toNat_natCast]
        by_cases hl : (sd i n).length = p.length
        · rw [if_pos hl]; exact evp (by omega) (rclimb_l0 _ p hl hp p.length 0 x (by omega))
        · rw [if_neg hl]; exact evn (by omega) (Ev.now _)
      · rw [if_neg (fun q => hy q.2), decide_eq_false hy]
        exact Ev.step (fun k => wigeonref09_Climb.j0.eq_2 ..) (evp rfl (Ev.now _))
    · rw [if_neg (fun q => hx q.1)]
      exact evn (by simpa using hx) (Ev.step (fun k => wigeonref09_Climb.j0.eq_2 ..) (evp rfl (Ev.now _)))
  · rw [if_neg h]; exact evn h (Ev.now _)


end Go.Proofs.Ythjdocddohijnaa.Pure
