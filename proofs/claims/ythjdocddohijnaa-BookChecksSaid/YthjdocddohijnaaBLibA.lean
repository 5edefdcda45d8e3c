/- The plain law behind the row: what the printed functions of this law compute answers true, for every input that the row lets in. -/
import Derived.Test.YthjdocddohijnaaBKx12
namespace Go.Proofs.Ythjdocddohijnaa.Pure
set_option linter.unusedVariables false
set_option linter.unusedSimpArgs false
open Go.RowKit Go.Proofs.Ythjdocddohijnaa.BK Go.Proofs.YthjdocddohijnaaW.PrintWords Go.Proofs.YthjdocddohijnaaW.PrintLast

-- base
theorem evp {α : Type} {c : Prop} [Decidable c] {f g : Nat → Option α} {r : α} (h : c) (k : Ev f r) : Ev (fun n => if c then f n else g n) r :=
  Ev.congr (fun _ => if_pos h) k
theorem evn {α : Type} {c : Prop} [Decidable c] {f g : Nat → Option α} {r : α} (h : ¬ c) (k : Ev g r) : Ev (fun n => if c then f n else g n) r :=
  Ev.congr (fun _ => if_neg h) k
theorem evb {α β : Type} {g : Nat → Option α} {f : Nat → α → Option β} {a : α} {r : β} (h : Ev g a) (k : Ev (fun n => f n a) r) : Ev (fun n => (g n).bind (f n)) r := Ev.bind h k
theorem evs {α β : Type} {x : Option α} {f : Nat → α → Option β} {a : α} {r : β} (h : x = some a) (k : Ev (fun n => f n a) r) : Ev (fun n => x.bind (f n)) r := by
  subst h; exact k
theorem w64 {n : Int} (h : -9223372036854775808 ≤ n) (h2 : n ≤ 9223372036854775807) : wrap64 n = n := by unfold wrap64; omega
theorem rd_at (l : List Int) (i : Nat) (h : i < l.length) : rd l (i : Int) = l[i] := by
  simp [rd, List.getD_eq_getElem?_getD, List.getElem?_eq_getElem h]
theorem rdS_at (l : List ByteArray) (i : Nat) (h : i < l.length) : rdOf ByteArray.empty l (i : Int) = l[i] := by
  simp [rdOf, List.getD_eq_getElem?_getD, List.getElem?_eq_getElem h]
theorem rdB_at (l : List Bool) (i : Nat) (h : i < l.length) : rdOf false l (i : Int) = l[i] := by
  simp [rdOf, List.getD_eq_getElem?_getD, List.getElem?_eq_getElem h]
theorem bt_bytes (s : ByteArray) (i : Nat) (h : i < (bytesOf s).length) : bt s (i : Int) = (bytesOf s)[i] := by
  rw [← rd_bytesOf, rd_at _ _ h]

-- page
theorem rIsPage_l0 (s : ByteArray) (hs : s.size ≤ 9223372036854775807) : ∀ d i : Nat, i + d = s.size → Ev (fun k => wigeonref09_IsPage.l0 k s (i : Int)) (decide (1 ≤ s.size ∧ s.size ≤ 60) && !(((bytesOf s).drop i).any (fun c => decide (c < 32) || decide (126 < c))))
  | 0, i, h => by
    refine Ev.step (fun k => wigeonref09_IsPage.l0.eq_2 ..) (evn (by omega) ?_)
    rw [List.drop_eq_nil_of_le (by rw [bytesOf_length]; omega), List.any_nil, Bool.not_false, Bool.and_true]
    by_cases h1 : 1 ≤ s.size
    · refine evp (by omega) ?_
      rw [show decide (1 ≤ s.size ∧ s.size ≤ 60) = decide ((s.size : Int) ≤ 60) from decide_eq_decide.2 (by omega)]
      exact Ev.now _
    · refine evn (by omega) ?_
      rw [show decide (1 ≤ s.size ∧ s.size ≤ 60) = false from decide_eq_false (by omega)]
      exact Ev.now _
  | d + 1, i, h => by
    have hl : i < (bytesOf s).length := by rw [bytesOf_length]; omega
    have R := rIsPage_l0 s hs d (i + 1) (by omega)
    refine Ev.step (fun k => wigeonref09_IsPage.l0.eq_2 ..) (evp (by omega) (evp (by omega) ?_))
    rw [bt_bytes s i hl, List.drop_eq_getElem_cons hl, List.any_cons, w64 (by omega) (by omega)]
    generalize (bytesOf s)[i] = c at *
    by_cases h1 : c < 32
    · refine evp h1 ?_
      rw [show decide (c < 32) = true from decide_eq_true h1, Bool.true_or, Bool.true_or, Bool.not_true, Bool.and_false]; exact Ev.now _
    · refine evn h1 ?_
      rw [show decide (c < 32) = false from decide_eq_false h1, Bool.false_or]
      by_cases h2 : c > 126
      · refine evp h2 ?_
        rw [show decide (126 < c) = true from decide_eq_true h2, Bool.true_or, Bool.not_true, Bool.and_false]; exact Ev.now _
      · refine evn h2 ?_
        rw [show decide (126 < c) = false from decide_eq_false h2, Bool.false_or]
        exact R
theorem rIsPage_ev (s : ByteArray) (hs : s.size ≤ 9223372036854775807) : Ev (fun k => wigeonref09_IsPage.f k s) (pageB s) := rIsPage_l0 s hs s.size 0 (by omega)
theorem page_small (s : ByteArray) (h : pageB s = true) : s.size ≤ 60 := by
  unfold pageB at h
  simp only [Bool.and_eq_true, decide_eq_true_eq] at h
  exact h.1.2
theorem page_size (s : ByteArray) (h : pageB s = true) : 1 ≤ s.size := by
  unfold pageB at h
  simp only [Bool.and_eq_true, decide_eq_true_eq] at h
  exact h.1.1

-- leaf
theorem rleaf_l0 (s : ByteArray) (hs : s.size ≤ 1000000) : ∀ d i : Nat, i + d = s.size → Ev (fun k => wigeonref09_leaf.l0 k s (((bytesOf s).take i).foldl (fun x c => (wrap64 (wrap64 (wrap64 (x * 257) + c) + 1)).tmod 2147483647) 1) (i : Int)) (leafV s)
  | 0, i, h => by
    refine Ev.step (fun k => wigeonref09_leaf.l0.eq_2 ..) (evn (by omega) ?_)
    rw [List.take_of_length_le (by rw [bytesOf_length]; omega)]
    exact Ev.now _
  | d + 1, i, h => by
    have hl : i < (bytesOf s).length := by rw [bytesOf_length]; omega
    have R := rleaf_l0 s hs d (i + 1) (by omega)
    refine Ev.step (fun k => wigeonref09_leaf.l0.eq_2 ..) (evp (by omega) (evp (by omega) ?_))
    have hb := bytesOf_range s _ (List.getElem_mem hl)
    rw [leafV_snoc s i hl] at R
    rw [bt_bytes s i hl, w64 (n := (bytesOf s)[i]) (by omega) (by omega), w64 (n := (i : Int) + 1) (by omega) (by omega)]
    exact R
theorem rleaf_ev (s : ByteArray) (hs : s.size ≤ 1000000) : Ev (fun k => wigeonref09_leaf.f k s) (leafV s) := rleaf_l0 s hs s.size 0 (by omega)
theorem leaf_eq (s : ByteArray) (hs : s.size ≤ 1000000) : book_leaf.f s = some (leafV s) := if_pos hs
theorem fold_range : ∀ (l : List Int) (x : Int), (∀ c ∈ l, 0 ≤ c ∧ c ≤ 255) → 0 ≤ x → x < 2147483647 → 0 ≤ l.foldl (fun x c => (wrap64 (wrap64 (wrap64 (x * 257) + c) + 1)).tmod 2147483647) x ∧ l.foldl (fun x c => (wrap64 (wrap64 (wrap64 (x * 257) + c) + 1)).tmod 2147483647) x < 2147483647
  | [], x, _, h0, h1 => ⟨h0, h1⟩
  | c :: l, x, h, h0, h1 => by
    obtain ⟨c0, c1⟩ := h c List.mem_cons_self
    rw [List.foldl_cons]
    refine fold_range l _ (fun d hd => h d (List.mem_cons_of_mem _ hd)) ?_ ?_
    · rw [w64 (n := x * 257) (by omega) (by omega), w64 (n := x * 257 + c) (by omega) (by omega), w64 (n := x * 257 + c + 1) (by omega) (by omega), Int.tmod_eq_emod_of_nonneg (by omega)]; omega
    · rw [w64 (n := x * 257) (by omega) (by omega), w64 (n := x * 257 + c) (by omega) (by omega), w64 (n := x * 257 + c + 1) (by omega) (by omega), Int.tmod_eq_emod_of_nonneg (by omega)]; omega
def sumP (x : Int) : Prop := 0 ≤ x ∧ x < 2147483647
instance (x : Int) : Decidable (sumP x) := by unfold sumP; exact inferInstance
theorem leaf_range (s : ByteArray) : sumP (leafV s) := fold_range _ 1 (bytesOf_range s) (by decide) (by decide)

-- join
def jn (x y : Int) : Int := Int.tmod (wrap64 ((wrap64 ((wrap64 (x * 48271)) + (wrap64 (y * 16807)))) + 1)) 2147483647
theorem jn_range (x y : Int) (hx : sumP x) (hy : sumP y) : sumP (jn x y) := by
  obtain ⟨a, b⟩ := hx
  obtain ⟨c, d⟩ := hy
  unfold jn sumP
  rw [w64 (n := x * 48271) (by omega) (by omega), w64 (n := y * 16807) (by omega) (by omega), w64 (n := x * 48271 + y * 16807) (by omega) (by omega), w64 (n := x * 48271 + y * 16807 + 1) (by omega) (by omega), Int.tmod_eq_emod_of_nonneg (by omega)]
  omega
theorem join_eq (x y : Int) : book_join.f x y = some (jn x y) := rfl
theorem rjoin_eq (x y : Int) : wigeonref09_join.f x y = some (jn x y) := rfl
theorem risSum_eq (x : Int) : wigeonref09_isSum.f x = some (decide (sumP x)) := by
  unfold wigeonref09_isSum.f
  by_cases h : x ≥ 0
  · rw [if_pos h]; rw [show decide (sumP x) = decide (x < 2147483647) from decide_eq_decide.2 (by unfold sumP; omega)]
  · rw [if_neg h, show decide (sumP x) = false from decide_eq_false (fun p => h p.1)]
theorem isSum_eq (l : List Int) : book_isSum.f l = some (decide (∀ x ∈ l, sumP x)) := by
  unfold book_isSum.f cf_isSum.f
  rw [Option.bind_some]
  congr 1
  by_cases h : ∀ x ∈ l, sumP x
  · rw [decide_eq_true h, show (l.any fun x => decide (x < 0) || decide (x ≥ 2147483647)) = false from List.any_eq_false.2 (fun x hx => by have := h x hx; unfold sumP at this; simp; omega)]; rfl
  · rw [decide_eq_false h]
    have : (l.any fun x => decide (x < 0) || decide (x ≥ 2147483647)) = true := by
      rw [List.any_eq_true]
      refine Classical.byContradiction fun hn => h fun x hx => ?_
      unfold sumP
      refine Classical.byContradiction fun hs => hn ⟨x, hx, by simp; omega⟩
    rw [this]; rfl

-- known
theorem known_at : wigeonlaw09_known.f 100 = some true := by decide +kernel
theorem known_ev : Ev (fun k => wigeonlaw09_known.f k) true := Ev.of wigeonlaw09_known.mono known_at


end Go.Proofs.Ythjdocddohijnaa.Pure
