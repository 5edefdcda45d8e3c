/- Of the text PureBookUnfolds, what the row of BookUnfolds reaches. -/
import Derived.Test.YthjdocddohijnaaZBookUnfoldsBUx16
import Derived.Test.YthjdocddohijnaaZBookUnfoldsBUx20
namespace Go.Proofs.Ythjdocddohijnaa.Pure
set_option linter.unusedVariables false
set_option linter.unusedSimpArgs false
open Go.RowKit Go.Proofs.Ythjdocddohijnaa.BU Go.Proofs.YthjdocddohijnaaW.PrintWords Go.Proofs.YthjdocddohijnaaW.PrintLast

theorem evp {α : Type} {c : Prop} [Decidable c] {f g : Nat → Option α} {r : α} (h : c) (k : Ev f r) : Ev (fun n => if c then f n else g n) r :=
  Ev.congr (fun _ => if_pos h) k
theorem evn {α : Type} {c : Prop} [Decidable c] {f g : Nat → Option α} {r : α} (h : ¬ c) (k : Ev g r) : Ev (fun n => if c then f n else g n) r :=
  Ev.congr (fun _ => if_neg h) k
theorem evb {α β : Type} {g : Nat → Option α} {f : Nat → α → Option β} {a : α} {r : β} (h : Ev g a) (k : Ev (fun n => f n a) r) : Ev (fun n => (g n).bind (f n)) r := Ev.bind h k
theorem evs {α β : Type} {x : Option α} {f : Nat → α → Option β} {a : α} {r : β} (h : x = some a) (k : Ev (fun n => f n a) r) : Ev (fun n => x.bind (f n)) r := by
  subst h; exact k
theorem w64 {n : Int} (h : -9223372036854775808 ≤ n) (h2 : n ≤ 9223372036854775807) : wrap64 n = n := by unfold wrap64; omega
theorem rd_at (l : List Int) (i : Nat) (h : i < l.length) : rd l (i : Int) = l[i] := by
  simp [rd, List.getD_eq_getElem?_getD, List.getElem?_eq_getElem h]
def sumP (x : Int) : Prop := 0 ≤ x ∧ x < 2147483647
instance (x : Int) : Decidable (sumP x) := by unfold sumP; exact inferInstance
def jn (x y : Int) : Int := Int.tmod (wrap64 ((wrap64 ((wrap64 (x * 48271)) + (wrap64 (y * 16807)))) + 1)) 2147483647
theorem join_eq (x y : Int) : book_join.f x y = some (jn x y) := rfl
theorem rjoin_eq (x y : Int) : wigeonref09_join.f x y = some (jn x y) := rfl
theorem risSum_eq (x : Int) : wigeonref09_isSum.f x = some (decide (sumP x)) := by
  unfold wigeonref09_isSum.f
  by_cases h : x ≥ 0
  · rw [if_pos h]; rw [show decide (sumP x) = decide (x < 2147483647) from decide_eq_decide.2 (by unfold sumP; omega)]
  · rw [if_neg h, show decide (sumP x) = false from decide_eq_false (fun p => h p.1)]
theorem isSum_eq (l : List Int) : book_isSum.f l = some (decide (∀ x ∈ l, sumP x)) := by
  unfold book_isSum.f cf_isSum.f
  rw [Option.bind_some]
  congr 1
  by_cases h : ∀ x ∈ l, sumP x
  · rw [decide_eq_true h, show (l.any fun x => decide (x < 0) || decide (x ≥ 2147483647)) = false from List.any_eq_false.2 (fun x hx => by have := h x hx; unfold sumP at this; simp; omega)]; rfl
  · rw [decide_eq_false h]
    have : (l.any fun x => decide (x < 0) || decide (x ≥ 2147483647)) = true := by
      rw [List.any_eq_true]
      refine Classical.byContradiction fun hn => h fun x hx => ?_
      unfold sumP
      refine Classical.byContradiction fun hs => hn ⟨x, hx, by simp; omega⟩
    rw [this]; rfl

theorem known_at : wigeonlaw09_known.f 100 = some true := by decide +kernel
theorem known_ev : Ev (fun k => wigeonlaw09_known.f k) true := Ev.of wigeonlaw09_known.mono known_at

/-- the greatest power of two below n -/
def sp (n : Nat) : Nat := 2 ^ Nat.log2 (n - 1)
theorem sp_lt (n : Nat) (h : 2 ≤ n) : sp n < n := by
  have := Nat.log2_self_le (n := n - 1) (by omega)
  unfold sp; omega
theorem sp_pos (n : Nat) : 0 < sp n := Nat.pow_pos (by decide)
theorem split_at : ∀ n : Fin 63, book_split.f 8 ((n.val + 2 : Nat) : Int) = some ((sp (n.val + 2) : Nat) : Int) := by decide +kernel
theorem rsplit_at : ∀ n : Fin 63, wigeonref09_split.f 12 ((n.val + 2 : Nat) : Int) = some ((sp (n.val + 2) : Nat) : Int) := by decide +kernel
theorem split_ev (n : Nat) (h : 2 ≤ n) (h2 : n ≤ 64) : Ev (fun k => book_split.f k (n : Int)) ((sp n : Nat) : Int) := by
  have := split_at ⟨n - 2, by omega⟩
  rw [show n - 2 + 2 = n by omega] at this
  exact Ev.of (book_split.mono _) this
theorem rsplit_ev (n : Nat) (h : 2 ≤ n) (h2 : n ≤ 64) : Ev (fun k => wigeonref09_split.f k (n : Int)) ((sp n : Nat) : Int) := by
  have := rsplit_at ⟨n - 2, by omega⟩
  rw [show n - 2 + 2 = n by omega] at this
  exact Ev.of (wigeonref09_split.mono _) this

theorem sums_one (y : Int) (m : List Int) (h : sumP y) : decide (∀ x ∈ y :: m, sumP x) = decide (∀ x ∈ m, sumP x) := decide_eq_decide.2 ⟨fun q x hx => q x (List.mem_cons_of_mem _ hx), fun q x hx => by
  rcases List.mem_cons.1 hx with e | e
  · rw [e]; exact h
  · exact q x e⟩
theorem sums_not (y : Int) (m : List Int) (h : ¬ sumP y) : decide (∀ x ∈ y :: m, sumP x) = false := decide_eq_false fun q => h (q y List.mem_cons_self)
theorem areSums_l0 (l : List Int) (hl : l.length ≤ 1000) : ∀ d i : Nat, i + d = l.length → Ev (fun k => wigeonref09_areSums.l0 k l (i : Int)) (decide (∀ x ∈ l.drop i, sumP x))
  | 0, i, h => by
    refine Ev.step (fun k => wigeonref09_areSums.l0.eq_2 ..) (evn (by omega) ?_)
    rw [List.drop_eq_nil_of_le (by omega), show decide (∀ x ∈ ([] : List Int), sumP x) = true from decide_eq_true (by simp)]; exact Ev.now _
  | d + 1, i, h => by
    have hlt : i < l.length := by omega
    have R := areSums_l0 l hl d (i + 1) (by omega)
    refine Ev.step (fun k => wigeonref09_areSums.l0.eq_2 ..) (evp (by omega) (evp (by omega) (evs (risSum_eq _) ?_)))
    rw [rd_at l i hlt, List.drop_eq_getElem_cons hlt]
    by_cases hs : sumP l[i]
    · refine evp (by simpa using hs) ?_
      rw [w64 (by omega) (by omega), sums_one _ _ hs]
      exact R
    · refine evn (by simpa using hs) ?_
      rw [sums_not _ _ hs]; exact Ev.now _
theorem areSums_ev (l : List Int) (hl : l.length ≤ 1000) : Ev (fun k => wigeonref09_areSums.f k l) (decide (∀ x ∈ l, sumP x)) := areSums_l0 l hl l.length 0 (by omega)
/-- what follows from a proof of growth: the two roots, and how many sums are used -/
def uq (old : Int) (l : List Int) (m n : Nat) (known : Bool) : Option (Int × Int × Nat) :=
  if h : m = n ∨ n ≤ 1 then (if known then some (old, old, 0) else (match l with
    | [] => none
    | x :: _ => some (x, x, 1)))
  else if m ≤ sp n then (uq old l m (sp n) known).bind fun r => (l[r.2.2]?).map fun x => (r.1, jn r.2.1 x, r.2.2 + 1)
  else (uq old l (m - sp n) (n - sp n) false).bind fun r => (l[r.2.2]?).map fun x => (jn x r.1, jn x r.2.1, r.2.2 + 1)
termination_by n
decreasing_by
  · exact sp_lt n (by omega)
  · have := sp_pos n; omega
theorem uq_eq (old : Int) (l : List Int) (n : Nat) (known : Bool) : uq old l n n known = if known then some (old, old, 0) else (match l with
    | [] => none
    | x :: _ => some (x, x, 1)) := by rw [uq.eq_def, dif_pos (Or.inl rfl)]
theorem uq_lt (old : Int) (l : List Int) (m n : Nat) (known : Bool) (h : m ≠ n) (h1 : 1 < n) (h2 : m ≤ sp n) : uq old l m n known = (uq old l m (sp n) known).bind fun r => (l[r.2.2]?).map fun x => (r.1, jn r.2.1 x, r.2.2 + 1) := by rw [uq.eq_def, dif_neg (by omega), if_pos h2]
theorem uq_gt (old : Int) (l : List Int) (m n : Nat) (known : Bool) (h : m ≠ n) (h1 : 1 < n) (h2 : ¬ m ≤ sp n) : uq old l m n known = (uq old l (m - sp n) (n - sp n) false).bind fun r => (l[r.2.2]?).map fun x => (jn x r.1, jn x r.2.1, r.2.2 + 1) := by rw [uq.eq_def, dif_neg (by omega), if_neg h2]
theorem tk_at (l : List Int) (u : Nat) (x : Int) (h : l[u]? = some x) : tk1 (l.drop u) = x ∧ tk2 (l.drop u) = l.drop (u + 1) ∧ tk3 (l.drop u) true = true ∧ u < l.length := by
  have hu : u < l.length := by
    by_cases q : u < l.length
    · exact q
    · rw [List.getElem?_eq_none (by omega)] at h; exact absurd h (by simp)
  rw [List.getElem?_eq_getElem hu] at h
  rw [List.drop_eq_getElem_cons hu, Option.some.inj h]
  exact ⟨rfl, rfl, rfl, hu⟩
theorem tk_no (l : List Int) (u : Nat) (h : l[u]? = none) : tk3 (l.drop u) true = false := by
  rw [List.drop_eq_nil_of_le (List.getElem?_eq_none_iff.1 h)]; rfl
theorem tk3_false (r : List Int) : tk3 r false = false := by cases r <;> rfl
theorem up_ev (old : Int) (l : List Int) : ∀ (f n m : Nat) (known : Bool), n ≤ f → 1 ≤ m → m ≤ n → n ≤ 64 →
    (match uq old l m n known with
      | some r => Ev (fun k => up.f k old (m : Int) (n : Int) known l true) (r.1, r.2.1, l.drop r.2.2, true)
      | none => ∃ b a r, Ev (fun k => up.f k old (m : Int) (n : Int) known l true) (b, a, r, false))
  | 0, n, m, known, h, h1, h2, h3 => by omega
  | f + 1, n, m, known, h, h1, h2, h3 => by
    by_cases e : m = n
    · subst e
      rw [uq_eq]
      cases known with
      | true =>
        exact Ev.step (fun k => up.f.eq_2 ..) (evp rfl (evp rfl (Ev.now _)))
      | false =>
        cases l with
        | nil => exact ⟨_, _, _, Ev.step (fun k => up.f.eq_2 ..) (evp rfl (evn (by decide) (Ev.now _)))⟩
        | cons x l => exact Ev.step (fun k => up.f.eq_2 ..) (evp rfl (evn (by decide) (Ev.now _)))
    · have a := sp_lt n (by omega)
      have b := sp_pos n
      by_cases c : m ≤ sp n
      · have R := up_ev old l f (sp n) m known (by omega) h1 c (by omega)
        rw [uq_lt old l m n known e (by omega) c]
        cases q : uq old l m (sp n) known with
        | none =>
          rw [q] at R
          obtain ⟨x, y, r, R⟩ := R
          refine ⟨x, jn y (tk1 r), tk2 r, Ev.step (fun k => up.f.eq_2 ..) (evn (by omega) (evb (split_ev n (by omega) h3) (evp (by omega) (evb R (evs (join_eq _ _) ?_)))))⟩
          rw [tk3_false]; exact Ev.now _
        | some r =>
          rw [q] at R
          cases z : l[r.2.2]? with
          | none =>
            simp only [Option.bind_some, z, Option.map_none, Option.map_some]
            refine ⟨r.1, jn r.2.1 (tk1 (l.drop r.2.2)), tk2 (l.drop r.2.2), Ev.step (fun k => up.f.eq_2 ..) (evn (by omega) (evb (split_ev n (by omega) h3) (evp (by omega) (evb R (evs (join_eq _ _) ?_)))))⟩
            rw [tk_no _ _ z]; exact Ev.now _
          | some x =>
            simp only [Option.bind_some, z, Option.map_none, Option.map_some]
            obtain ⟨t1, t2, t3, _⟩ := tk_at l r.2.2 x z
            refine Ev.step (fun k => up.f.eq_2 ..) (evn (by omega) (evb (split_ev n (by omega) h3) (evp (by omega) (evb R (evs (join_eq _ _) ?_)))))
            rw [t1, t2, t3]; exact Ev.now _
      · have R := up_ev old l f (n - sp n) (m - sp n) false (by omega) (by omega) (by omega) (by omega)
        rw [uq_gt old l m n known e (by omega) c]
        have w1 : wrap64 ((m : Int) - (sp n : Nat)) = ((m - sp n : Nat) : Int) := by rw [w64 (by omega) (by omega)]; omega
        have w2 : wrap64 ((n : Int) - (sp n : Nat)) = ((n - sp n : Nat) : Int) := by rw [w64 (by omega) (by omega)]; omega
        cases q : uq old l (m - sp n) (n - sp n) false with
        | none =>
          rw [q] at R
          obtain ⟨x, y, r, R⟩ := R
          refine ⟨jn (tk1 r) x, jn (tk1 r) y, tk2 r, Ev.step (fun k => up.f.eq_2 ..) (evn (by omega) (evb (split_ev n (by omega) h3) (evn (by omega) ?_)))⟩
          rw [w1, w2]
          refine evb R (evs (join_eq _ _) (evs (join_eq _ _) ?_))
          rw [tk3_false]; exact Ev.now _
        | some r =>
          rw [q] at R
          cases z : l[r.2.2]? with
          | none =>
            simp only [Option.bind_some, z, Option.map_none, Option.map_some]
            refine ⟨jn (tk1 (l.drop r.2.2)) r.1, jn (tk1 (l.drop r.2.2)) r.2.1, tk2 (l.drop r.2.2), Ev.step (fun k => up.f.eq_2 ..) (evn (by omega) (evb (split_ev n (by omega) h3) (evn (by omega) ?_)))⟩
            rw [w1, w2]
            refine evb R (evs (join_eq _ _) (evs (join_eq _ _) ?_))
            rw [tk_no _ _ z]; exact Ev.now _
          | some x =>
            simp only [Option.bind_some, z, Option.map_none, Option.map_some]
            obtain ⟨t1, t2, t3, _⟩ := tk_at l r.2.2 x z
            refine Ev.step (fun k => up.f.eq_2 ..) (evn (by omega) (evb (split_ev n (by omega) h3) (evn (by omega) ?_)))
            rw [w1, w2]
            refine evb R (evs (join_eq _ _) (evs (join_eq _ _) ?_))
            rw [t1, t2, t3]; exact Ev.now _
theorem uq_base (old : Int) (l : List Int) (m n : Nat) (known : Bool) (h : m = n ∨ n ≤ 1) : uq old l m n known = if known then some (old, old, 0) else (match l with
    | [] => none
    | x :: _ => some (x, x, 1)) := by rw [uq.eq_def, dif_pos h]
theorem uq_len (old : Int) (l : List Int) : ∀ (f n m : Nat) (known : Bool) (r : Int × Int × Nat), n ≤ f → uq old l m n known = some r → r.2.2 ≤ l.length := by
  intro f
  induction f with
  | zero =>
    intro n m known r h e
    rw [uq_base old l m n known (Or.inr (by omega))] at e
    cases known with
    | true => obtain rfl : (old, old, 0) = r := by simpa using e
              exact Nat.zero_le _
    | false =>
      cases l with
      | nil => exact absurd e (by simp)
      | cons x l => obtain rfl : (x, x, 1) = r := by simpa using e
                    simp
  | succ f ih =>
    intro n m known r h e
    by_cases b : m = n ∨ n ≤ 1
    · rw [uq_base old l m n known b] at e
      cases known with
      | true => obtain rfl : (old, old, 0) = r := by simpa using e
                exact Nat.zero_le _
      | false =>
        cases l with
        | nil => exact absurd e (by simp)
        | cons x l => obtain rfl : (x, x, 1) = r := by simpa using e
                      simp
    · have a1 := sp_lt n (by omega)
      have a2 := sp_pos n
      by_cases c : m ≤ sp n
      · rw [uq_lt old l m n known (by omega) (by omega) c] at e
        obtain ⟨q, _, e⟩ := Option.bind_eq_some_iff.1 e
        obtain ⟨x, z, e⟩ := Option.map_eq_some_iff.1 e
        have := (tk_at l q.2.2 x z).2.2.2
        subst e; exact this
      · rw [uq_gt old l m n known (by omega) (by omega) c] at e
        obtain ⟨q, _, e⟩ := Option.bind_eq_some_iff.1 e
        obtain ⟨x, z, e⟩ := Option.map_eq_some_iff.1 e
        have := (tk_at l q.2.2 x z).2.2.2
        subst e; exact this
def unOk (m n old : Int) (l : List Int) : Prop := 1 ≤ m ∧ m ≤ n ∧ n ≤ 64 ∧ sumP old ∧ ∀ x ∈ l, sumP x
instance (m n old : Int) (l : List Int) : Decidable (unOk m n old l) := by unfold unOk; exact inferInstance
/-- what follows from a proof of growth -/
def unR (m n old : Int) (l : List Int) : Int × Int × Int :=
  if unOk m n old l then (match uq old l m.toNat n.toNat true with
    | none => (0, 0, 7)
    | some r => if r.2.2 = l.length then (r.1, r.2.1, 0) else (0, 0, 7)) else (0, 0, 1)
theorem unR_1 {m n old : Int} {l : List Int} (h : ¬ unOk m n old l) : unR m n old l = (0, 0, 1) := if_neg h
theorem unR_n {m n : Nat} {old : Int} {l : List Int} (h : unOk m n old l) (q : uq old l m n true = none) : unR m n old l = (0, 0, 7) := by
  unfold unR; rw [if_pos h, Int.toNat_natCast, Int.toNat_natCast, q]
theorem unR_s {m n : Nat} {old : Int} {l : List Int} (h : unOk m n old l) {r : Int × Int × Nat} (q : uq old l m n true = some r) (e : r.2.2 = l.length) : unR m n old l = (r.1, r.2.1, 0) := by
  unfold unR; rw [if_pos h, Int.toNat_natCast, Int.toNat_natCast, q]; exact if_pos e
theorem unR_l {m n : Nat} {old : Int} {l : List Int} (h : unOk m n old l) {r : Int × Int × Nat} (q : uq old l m n true = some r) (e : ¬ r.2.2 = l.length) : unR m n old l = (0, 0, 7) := by
  unfold unR; rw [if_pos h, Int.toNat_natCast, Int.toNat_natCast, q]; exact if_neg e
theorem Unfold_ev (m n old : Int) (l : List Int) : Ev (fun k => book_Unfold.f k m n old l) (unR m n old l) := by
  unfold book_Unfold.f
  refine evs (isSum_eq [old]) (evs (isSum_eq l) ?_)
  have z : (∀ x ∈ [old], sumP x) ↔ sumP old := by simp
  by_cases h : unOk m n old l
  · have h' := h
    obtain ⟨h1, h2, h3, h4, h5⟩ := h
    refine evn (by rw [decide_eq_true (z.2 h4), decide_eq_true h5]; simp; omega) ?_
    obtain ⟨m, rfl⟩ := Int.eq_ofNat_of_zero_le (show 0 ≤ m by omega)
    obtain ⟨n, rfl⟩ := Int.eq_ofNat_of_zero_le (show 0 ≤ n by omega)
    have R := up_ev old l n n m true (Nat.le_refl _) (by omega) (by omega) (by omega)
    cases q : uq old l m n true with
    | none =>
      rw [q] at R
      obtain ⟨b, a, r, R⟩ := R
      rw [unR_n h' q]
      exact evb R (evp (Or.inl rfl) (Ev.now _))
    | some r =>
      rw [q] at R
      have L := uq_len old l n n m true r (Nat.le_refl _) q
      by_cases e : r.2.2 = l.length
      · rw [unR_s h' q e]
        exact evb R (evn (by simp; omega) (Ev.now _))
      · rw [unR_l h' q e]
        exact evb R (evp (by right; simp; omega) (Ev.now _))
  · rw [unR_1 h]
    refine evp ?_ (Ev.now _)
    unfold unOk at h
    by_cases h4 : sumP old
    · by_cases h5 : ∀ x ∈ l, sumP x
      · have : ¬ (1 ≤ m ∧ m ≤ n ∧ n ≤ 64) := fun q => h ⟨q.1, q.2.1, q.2.2, h4, h5⟩
        omega
      · right; right; right; right; exact decide_eq_false h5
    · right; right; right; left; exact decide_eq_false (fun q => h4 (z.1 q))
theorem runf_ev (old : Int) (l : List Int) (hl : l.length ≤ 1000) : ∀ (f n m : Nat) (known : Bool), n ≤ f → 1 ≤ m → m ≤ n → n ≤ 64 →
    (match uq old l m n known with
      | some r => Ev (fun k => wigeonref09_unfold.f k (m : Int) (n : Int) known old l) (r.1, r.2.1, (r.2.2 : Nat), true)
      | none => Ev (fun k => wigeonref09_unfold.f k (m : Int) (n : Int) known old l) (0, 0, 0, false))
  | 0, n, m, known, h, h1, h2, h3 => by omega
  | f + 1, n, m, known, h, h1, h2, h3 => by
    by_cases e : m = n
    · subst e
      rw [uq_eq]
      cases known with
      | true => exact Ev.step (fun k => wigeonref09_unfold.f.eq_2 ..) (evp rfl (evp rfl (Ev.now _)))
      | false =>
        cases l with
        | nil => exact Ev.step (fun k => wigeonref09_unfold.f.eq_2 ..) (evp rfl (evn (by decide) (evp rfl (Ev.now _))))
        | cons x l => exact Ev.step (fun k => wigeonref09_unfold.f.eq_2 ..) (evp rfl (evn (by decide) (evn (by simp only [List.length_cons]; omega) (evp (by simp only [List.length_cons]; omega) (Ev.now _)))))
    · have a := sp_lt n (by omega)
      have b := sp_pos n
      by_cases c : m ≤ sp n
      · have R := runf_ev old l hl f (sp n) m known (by omega) h1 c (by omega)
        rw [uq_lt old l m n known e (by omega) c]
        cases q : uq old l m (sp n) known with
        | none =>
          rw [q] at R
          exact Ev.step (fun k => wigeonref09_unfold.f.eq_2 ..) (evn (by omega) (evb (rsplit_ev n (by omega) h3) (evp (by omega) (evb R (evn (by decide) (Ev.now _))))))
        | some r =>
          rw [q] at R
          cases z : l[r.2.2]? with
          | none =>
            have := List.getElem?_eq_none_iff.1 z
            simp only [Option.bind_some, z, Option.map_none]
            exact Ev.step (fun k => wigeonref09_unfold.f.eq_2 ..) (evn (by omega) (evb (rsplit_ev n (by omega) h3) (evp (by omega) (evb R (evp rfl (evp (by simp only; omega) (Ev.now _)))))))
          | some x =>
            have t4 := (tk_at l r.2.2 x z).2.2.2
            simp only [Option.bind_some, z, Option.map_some]
            have hx : rd l (r.2.2 : Nat) = x := by rw [rd_at l _ t4]; rw [List.getElem?_eq_getElem t4] at z; exact Option.some.inj z
            refine Ev.step (fun k => wigeonref09_unfold.f.eq_2 ..) (evn (by omega) (evb (rsplit_ev n (by omega) h3) (evp (by omega) (evb R (evp rfl (evn (by simp only; omega) (evp (by simp only; omega) (evp (by simp only; omega) (evs (rjoin_eq _ _) ?_)))))))))
            simp only [hx]
            rw [w64 (n := ((r.2.2 : Nat) : Int) + 1) (by omega) (by omega)]
            exact Ev.now _
      · have R := runf_ev old l hl f (n - sp n) (m - sp n) false (by omega) (by omega) (by omega) (by omega)
        rw [uq_gt old l m n known e (by omega) c]
        have w1 : wrap64 ((m : Int) - (sp n : Nat)) = ((m - sp n : Nat) : Int) := by rw [w64 (by omega) (by omega)]; omega
        have w2 : wrap64 ((n : Int) - (sp n : Nat)) = ((n - sp n : Nat) : Int) := by rw [w64 (by omega) (by omega)]; omega
        cases q : uq old l (m - sp n) (n - sp n) false with
        | none =>
          rw [q] at R
          refine Ev.step (fun k => wigeonref09_unfold.f.eq_2 ..) (evn (by omega) (evb (rsplit_ev n (by omega) h3) (evn (by omega) ?_)))
          rw [w1, w2]
          exact evb R (evn (by decide) (Ev.step (fun k => wigeonref09_unfold.j0.eq_2 ..) (evp rfl (Ev.now _))))
        | some r =>
          rw [q] at R
          cases z : l[r.2.2]? with
          | none =>
            have := List.getElem?_eq_none_iff.1 z
            simp only [Option.bind_some, z, Option.map_none]
            refine Ev.step (fun k => wigeonref09_unfold.f.eq_2 ..) (evn (by omega) (evb (rsplit_ev n (by omega) h3) (evn (by omega) ?_)))
            rw [w1, w2]
            exact evb R (evp rfl (Ev.step (fun k => wigeonref09_unfold.j0.eq_2 ..) (evp (decide_eq_true (by simp only; omega)) (Ev.now _))))
          | some x =>
            have t4 := (tk_at l r.2.2 x z).2.2.2
            simp only [Option.bind_some, z, Option.map_some]
            have hx : rd l (r.2.2 : Nat) = x := by rw [rd_at l _ t4]; rw [List.getElem?_eq_getElem t4] at z; exact Option.some.inj z
            refine Ev.step (fun k => wigeonref09_unfold.f.eq_2 ..) (evn (by omega) (evb (rsplit_ev n (by omega) h3) (evn (by omega) ?_)))
            rw [w1, w2]
            refine evb R (evp rfl (Ev.step (fun k => wigeonref09_unfold.j0.eq_2 ..) (evn (by rw [decide_eq_false (by simp only; omega)]; decide) (evp (by simp only; omega) (evp (by simp only; omega) (evs (rjoin_eq _ _) (evs (rjoin_eq _ _) ?_)))))))
            simp only [hx]
            rw [w64 (n := ((r.2.2 : Nat) : Int) + 1) (by omega) (by omega)]
            exact Ev.now _
theorem rUnfold_ev (m n old : Int) (l : List Int) (hl : l.length ≤ 1000) : Ev (fun k => wigeonref09_Unfold.f k m n old l) (unR m n old l) := by
  unfold wigeonref09_Unfold.f
  have Z : ∀ (h : ¬ unOk m n old l), Ev (fun k => wigeonref09_Unfold.j0 k m n old l true) (unR m n old l) := fun h => by
    rw [unR_1 h]; exact Ev.step (fun k => wigeonref09_Unfold.j0.eq_2 ..) (evp rfl (Ev.now _))
  by_cases h1 : m < 1
  · exact evp h1 (Z fun q => by have := q.1; omega)
  refine evn h1 ?_
  by_cases h2 : n < m
  · exact evp h2 (Z fun q => by have := q.2.1; omega)
  refine evn h2 ?_
  by_cases h3 : n > 64
  · exact evp h3 (Z fun q => by have := q.2.2.1; omega)
  refine evn h3 (evs (risSum_eq old) ?_)
  by_cases h4 : sumP old
  · refine evp (decide_eq_true h4) (evb (areSums_ev l hl) ?_)
    by_cases h5 : ∀ x ∈ l, sumP x
    · have h : unOk m n old l := ⟨by omega, by omega, by omega, h4, h5⟩
      rw [decide_eq_true h5]
      refine Ev.step (fun k => wigeonref09_Unfold.j0.eq_2 ..) (evn (by decide) ?_)
      obtain ⟨m, rfl⟩ := Int.eq_ofNat_of_zero_le (show 0 ≤ m by omega)
      obtain ⟨n, rfl⟩ := Int.eq_ofNat_of_zero_le (show 0 ≤ n by omega)
      have R := runf_ev old l hl n n m true (Nat.le_refl _) (by omega) (by omega) (by omega)
      cases q : uq old l m n true with
      | none => rw [q] at R; rw [unR_n h q]; exact evb R (evn (by decide) (Ev.now _))
      | some r =>
        rw [q] at R
        by_cases e : r.2.2 = l.length
        · rw [unR_s h q e]; exact evb R (evp rfl (evp (by simp only; omega) (Ev.now _)))
        · rw [unR_l h q e]; exact evb R (evp rfl (evn (by simp only; omega) (Ev.now _)))
    · rw [decide_eq_false h5]
      exact Z fun q => h5 q.2.2.2.2
  · exact evn (by simpa using h4) (Z fun q => h4 q.2.2.2.1)
def cgR (old root m n : Int) (l : List Int) : Int := if (unR m n old l).2.2 = 0 then (if sumP root then (if (unR m n old l).1 = old then (if (unR m n old l).2.1 = root then 0 else 7) else 7) else 1) else (unR m n old l).2.2
theorem cgR_n {old root m n : Int} {l : List Int} (h : ¬ (unR m n old l).2.2 = 0) : cgR old root m n l = (unR m n old l).2.2 := if_neg h
theorem cgR_s {old root m n : Int} {l : List Int} (h : (unR m n old l).2.2 = 0) (h2 : ¬ sumP root) : cgR old root m n l = 1 := (if_pos h).trans (if_neg h2)
theorem cgR_x {old root m n : Int} {l : List Int} (h : (unR m n old l).2.2 = 0) (h2 : sumP root) (h3 : ¬ (unR m n old l).1 = old) : cgR old root m n l = 7 := (if_pos h).trans ((if_pos h2).trans (if_neg h3))
theorem cgR_y {old root m n : Int} {l : List Int} (h : (unR m n old l).2.2 = 0) (h2 : sumP root) (h3 : (unR m n old l).1 = old) (h4 : ¬ (unR m n old l).2.1 = root) : cgR old root m n l = 7 := (if_pos h).trans ((if_pos h2).trans ((if_pos h3).trans (if_neg h4)))
theorem cgR_0 {old root m n : Int} {l : List Int} (h : (unR m n old l).2.2 = 0) (h2 : sumP root) (h3 : (unR m n old l).1 = old) (h4 : (unR m n old l).2.1 = root) : cgR old root m n l = 0 := (if_pos h).trans ((if_pos h2).trans ((if_pos h3).trans (if_pos h4)))
theorem CheckGrowth_ev (old root m n : Int) (l : List Int) : Ev (fun k => book_CheckGrowth.f k old root m n l) (cgR old root m n l) := by
  unfold book_CheckGrowth.f
  refine evb (Unfold_ev _ _ _ _) ?_
  by_cases h : (unR m n old l).2.2 = 0
  · refine evp h (evs (isSum_eq _) ?_)
    by_cases hr : sumP root
    · refine evp (by simpa using hr) ?_
      by_cases h1 : (unR m n old l).1 = old
      · refine evp h1 ?_
        by_cases h2 : (unR m n old l).2.1 = root
        · rw [cgR_0 h hr h1 h2]; exact evp h2 (Ev.now _)
        · rw [cgR_y h hr h1 h2]; exact evn h2 (Ev.now _)
      · rw [cgR_x h hr h1]; exact evn h1 (Ev.now _)
    · rw [cgR_s h hr]; exact evn (by simpa using hr) (Ev.now _)
  · rw [cgR_n h]; exact evn h (Ev.now _)
theorem rCheckGrowth_ev (old root m n : Int) (l : List Int) (hl : l.length ≤ 1000) : Ev (fun k => wigeonref09_CheckGrowth.f k old root m n l) (cgR old root m n l) := by
  unfold wigeonref09_CheckGrowth.f
  refine evb (rUnfold_ev _ _ _ _ hl) ?_
  by_cases h : (unR m n old l).2.2 = 0
  · refine evp h (evs (risSum_eq _) ?_)
    by_cases hr : sumP root
    · refine evp (by simpa using hr) ?_
      by_cases h1 : (unR m n old l).1 = old
      · refine evp h1 ?_
        by_cases h2 : (unR m n old l).2.1 = root
        · rw [cgR_0 h hr h1 h2]; exact evp h2 (Ev.now _)
        · rw [cgR_y h hr h1 h2]; exact evn h2 (Ev.now _)
      · rw [cgR_x h hr h1]; exact evn h1 (Ev.now _)
    · rw [cgR_s h hr]; exact evn (by simpa using hr) (Ev.now _)
  · rw [cgR_n h]; exact evn h (Ev.now _)

theorem BookUnfolds (a0_0 : Int) (a0_1 : Int) (a0_2 : Int) (a0_3 : Int) (a0_4 : List Int) (h0_0 : (Lit.int .i64 a0_0).wf = true) (h0_1 : (Lit.int .i64 a0_1).wf = true) (h0_2 : (Lit.int .i64 a0_2).wf = true) (h0_3 : (Lit.int .i64 a0_3).wf = true) (h0_4 : (a0_4.length ≤ 9223372036854775807 ∧ ∀ x_ ∈ a0_4, (Lit.int .i64 x_).wf = true)) : ∃ k, wigeonlaw09_BookUnfolds.f k a0_0 a0_1 a0_2 a0_3 a0_4 = some true := by
  refine Ev.rounds (g := fun k => wigeonlaw09_BookUnfolds.f k a0_0 a0_1 a0_2 a0_3 a0_4) ?_
  unfold wigeonlaw09_BookUnfolds.f
  refine evs (show wigeonlaw09_many.f a0_4 = some (decide ((a0_4.length : Int) > 100)) from rfl) ?_
  by_cases h : (a0_4.length : Int) > 100
  · exact evp (by simpa using h) (evb known_ev (Ev.now _))
  · exact evn (by simpa using h) (evb (Unfold_ev _ _ _ _) (evb (rUnfold_ev _ _ _ _ (by omega)) (evp rfl (evp rfl (evp rfl (evb (CheckGrowth_ev _ _ _ _ _) (evb (rCheckGrowth_ev _ _ _ _ _ (by omega)) (evp rfl (evb known_ev (Ev.now _))))))))))

end Go.Proofs.Ythjdocddohijnaa.Pure

