/- Of the text BAx38, what the row of TopBook reaches. -/
import Derived.Test.YtfccgfjiplnmfaaDoorZTopBookBAx0
import Derived.Test.YtfccgfjiplnmfaaDoorZTopBookBAx5
import Derived.Test.YtfccgfjiplnmfaaDoorZTopBookBAx10
import Derived.Laws.EntriesVeiled
namespace Go.Proofs.YtfccgfjiplnmfaaDoor.BA
open Go.RowKit Go.Proofs.YtfccgfjiplnmfaaDoorW.PrintWords Go.Proofs.YtfccgfjiplnmfaaDoorW.PrintLast Go.Proofs.YtfccgfjiplnmfaaDoorW.PrintMore
attribute [local go_sem] max2_int min2_int max_two min_two max_three min_three max_four min_four   -- for this text's walks alone
set_option linter.unusedVariables false
set_option linter.unusedSimpArgs false

/-- what take takes -/
def tk1 (r : List Int) : Int := r.headD 0
def tk2 (r : List Int) : List Int := r.tail
def tk3 (r : List Int) (ok : Bool) : Bool := match r with
  | [] => false
  | _ => ok
/-- how the boxes of Unfold stand: w0 is the world at its begin -/
structure UnfS (w0 : World) (bo br bk bt bu : Nat) (old : Int) (rest : List Int) (ok : Bool) (W : World) : Prop where
  base : Below w0.heap.size w0 W
  old_ : W.cell? ⟨bo, 0, none⟩ = some (.int .i64 old)
  rest_ : ∃ A c, W.cell? ⟨br, 0, none⟩ = some (.slice A rest.length c) ∧ Kd.C (Kd.int .i64) w0 A rest.length rest ∧ rest.length ≤ c
  ok_ : W.cell? ⟨bk, 0, none⟩ = some (.bool ok)
  take_ : W.cell? ⟨bt, 0, none⟩ = some (.func (.func 47) #[] #[.pointer (some ⟨br, 0, none⟩), .pointer (some ⟨bk, 0, none⟩)])
  up_ : W.cell? ⟨bu, 0, none⟩ = some (.func (.func 48) #[] #[.pointer (some ⟨bo, 0, none⟩), .pointer (some ⟨bt, 0, none⟩), .pointer (some ⟨bu, 0, none⟩)])
  fr : W.frozen? ⟨br, 0, none⟩ = false
  fk : W.frozen? ⟨bk, 0, none⟩ = false
  b1 : w0.heap.size ≤ bo ∧ bo < br ∧ br < bk ∧ bk < bt ∧ bt < bu ∧ bu < W.heap.size
theorem bx_ne {a b : Nat} (h : a ≠ b) : (⟨a, 0, none⟩ : Addr) ≠ ⟨b, 0, none⟩ := fun e => h (by injection e)
theorem setCell_size (w : World) (a : Addr) (v : Value) : w.heap.size ≤ (w.setCell a v).heap.size := by
  first | exact Nat.le_of_eq (World.size_setCell w a v).symm | exact Nat.le_of_eq (World.heap_size_setCell w a v).symm | simp
theorem unf_below {w0 : World} {bo br bk bt bu : Nat} {old : Int} {rest : List Int} {ok : Bool} {W W' : World} (h : UnfS w0 bo br bk bt bu old rest ok W) (hb : Below W.heap.size W W') : UnfS w0 bo br bk bt bu old rest ok W' := by
  obtain ⟨A, c, q1, q2, q3⟩ := h.rest_
  have z := h.b1
  have s := hb.size
  exact ⟨below_step h.base hb, pw_cell_below hb h.old_, ⟨A, c, pw_cell_below hb q1, q2, q3⟩, pw_cell_below hb h.ok_, pw_cell_below hb h.take_, pw_cell_below hb h.up_, ((bcell hb).2 br 0 (by omega)).trans h.fr, ((bcell hb).2 bk 0 (by omega)).trans h.fk, by omega⟩
theorem unf_rest {w0 : World} {bo br bk bt bu : Nat} {old : Int} {rest : List Int} {ok : Bool} {W : World} (h : UnfS w0 bo br bk bt bu old rest ok W) (r : List Int) (A : Option Addr) (c n : Nat) (hn : n = r.length) (h1 : Kd.C (Kd.int .i64) w0 A r.length r) (h2 : r.length ≤ c) : UnfS w0 bo br bk bt bu old r ok (W.setCell ⟨br, 0, none⟩ (.slice A n c)) := by
  subst hn
  obtain ⟨A0, c0, q1, q2, q3⟩ := h.rest_
  have z := h.b1
  have s := setCell_size W ⟨br, 0, none⟩ (.slice A r.length c)
  have o : ∀ b v, b ≠ br → W.cell? ⟨b, 0, none⟩ = some v → (W.setCell ⟨br, 0, none⟩ (.slice A r.length c)).cell? ⟨b, 0, none⟩ = some v := fun b v hb hv => (World.cell?_setCell_other W _ _ _ (by first | exact bx_ne hb | exact bx_ne (Ne.symm hb))).trans hv
  refine ⟨below_set h.base (by omega), o _ _ (by omega) h.old_, ⟨A, c, World.cell?_setCell_same W _ _ q1, h1, h2⟩, o _ _ (by omega) h.ok_, o _ _ (by omega) h.take_, o _ _ (by omega) h.up_, ?_, ?_, by omega⟩
  · rw [World.frozen?_setCell]; exact h.fr
  · rw [World.frozen?_setCell]; exact h.fk
theorem unf_ok {w0 : World} {bo br bk bt bu : Nat} {old : Int} {rest : List Int} {ok : Bool} {W : World} (h : UnfS w0 bo br bk bt bu old rest ok W) (b : Bool) : UnfS w0 bo br bk bt bu old rest b (W.setCell ⟨bk, 0, none⟩ (.bool b)) := by
  obtain ⟨A, c, q1, q2, q3⟩ := h.rest_
  have z := h.b1
  have s := setCell_size W ⟨bk, 0, none⟩ (.bool b)
  have o : ∀ x v, x ≠ bk → W.cell? ⟨x, 0, none⟩ = some v → (W.setCell ⟨bk, 0, none⟩ (.bool b)).cell? ⟨x, 0, none⟩ = some v := fun x v hb hv => (World.cell?_setCell_other W _ _ _ (by first | exact bx_ne hb | exact bx_ne (Ne.symm hb))).trans hv
  refine ⟨below_set h.base (by omega), o _ _ (by omega) h.old_, ⟨A, c, o _ _ (by omega) q1, q2, q3⟩, World.cell?_setCell_same W _ _ h.ok_, o _ _ (by omega) h.take_, o _ _ (by omega) h.up_, ?_, ?_, by omega⟩
  · rw [World.frozen?_setCell]; exact h.fr
  · rw [World.frozen?_setCell]; exact h.fk
set_option maxHeartbeats 4000000 in
set_option maxRecDepth 100000 in
theorem take_calls {w0 : World} {bo br bk bt bu : Nat} {old : Int} {rest : List Int} {ok : Bool} (W : World) (h : UnfS w0 bo br bk bt bu old rest ok W) :
    Calls Tryd.prog 47 #[.pointer (some ⟨br, 0, none⟩), .pointer (some ⟨bk, 0, none⟩)] W fun e w' => e = .returned (.int .i64 (tk1 rest)) ∧ UnfS w0 bo br bk bt bu old (tk2 rest) (tk3 rest ok) w' := by
  have HH := Aside0.mk h
  obtain ⟨A, c, q1, q2, q3⟩ := h.rest_
  have q4 := h.ok_
  have q5 := h.fr
  have q6 := h.fk
  clear h
  cases rest with
  | nil =>
    have q1 : W.cell? ⟨br, 0, none⟩ = some (.slice A 0 c) := q1
    clear q2
    go_enter Tryd.func47, Tryd.ntmps47
    go_wp2
    go_ret
    exact ⟨rfl, unf_ok HH.out false⟩
  | cons x r =>
    obtain ⟨ad, hA, h1⟩ := int_cell (Kd.C_below q2 HH.out.base) 0 (by simp)
    subst hA
    have h1 : W.cell? ad = some (.int .i64 x) := h1
    have hq : ¬ ((x :: r).length : Int) = 0 := by simp only [List.length_cons]; omega
    have hq2 : (0 : Int) < ((x :: r).length : Int) := by simp only [List.length_cons]; omega
    have HC := Aside0.mk q2
    have HQ := Aside0.mk q3
    clear q2
    go_enter Tryd.func47, Tryd.ntmps47
    go_wp2
    · go_ret
      have d := Kd.C_drop (m := 1) HC.out (by simp) HQ.out
      rw [if_pos (by assumption)] at d
      exact ⟨rfl, unf_rest HH.out r (some ad) 0 _ rfl d (by have := HQ.out; simp only [List.length_cons] at this; omega)⟩
    · go_ret
      have d := Kd.C_drop (m := 1) HC.out (by simp) HQ.out
      rw [if_neg (by assumption)] at d
      exact ⟨rfl, unf_rest HH.out r _ (c - 1) _ rfl d (by have := HQ.out; simp only [List.length_cons] at this; omega)⟩
def up.f : Nat → Int → Int → Int → Bool → List Int → Bool → Option (Int × Int × List Int × Bool)
  | 0, _, _, _, _, _, _ => none
  | k + 1, old, m, n, known, rest, ok =>
    if m = n then (if known = true then some (old, old, rest, ok) else some (tk1 rest, tk1 rest, tk2 rest, tk3 rest ok))
    else (book_split.f k n).bind fun s =>
      (if m ≤ s then (up.f k old m s known rest ok).bind fun r => ((book_join.f r.2.1 (tk1 r.2.2.1)).bind fun j => some (r.1, j, tk2 r.2.2.1, tk3 r.2.2.1 r.2.2.2))
      else (up.f k old (wrap64 (m - s)) (wrap64 (n - s)) false rest ok).bind fun r => ((book_join.f (tk1 r.2.2.1) r.1).bind fun b => ((book_join.f (tk1 r.2.2.1) r.2.1).bind fun a => some (b, a, tk2 r.2.2.1, tk3 r.2.2.1 r.2.2.2))))
set_option maxHeartbeats 4000000 in
set_option maxRecDepth 100000 in
theorem up_calls (w0 : World) (bo br bk bt bu : Nat) (old : Int) : ∀ (k : Nat) (m n : Int) (known : Bool) (rest : List Int) (ok : Bool) (r1 r2 : Int) (r3 : List Int) (r4 : Bool) (W : World), UnfS w0 bo br bk bt bu old rest ok W → up.f k old m n known rest ok = some (r1, r2, r3, r4) →
    Calls Tryd.prog 48 #[.int .i64 m, .int .i64 n, .bool known, .pointer (some ⟨bo, 0, none⟩), .pointer (some ⟨bt, 0, none⟩), .pointer (some ⟨bu, 0, none⟩)] W fun e w' => e = .returned (.tuple #[.int .i64 r1, .int .i64 r2]) ∧ UnfS w0 bo br bk bt bu old r3 r4 w'
  | 0, m, n, known, rest, ok, r1, r2, r3, r4, W, h, hf => absurd hf (by simp [up.f])
  | k + 1, m, n, known, rest, ok, r1, r2, r3, r4, W, h, hf => by
    have q1 := h.old_
    have q2 := h.take_
    have q3 := h.up_
    have HH := Aside0.mk h
    clear h
    unfold up.f at hf
    by_cases c1 : m = n
    · rw [if_pos c1] at hf
      subst c1
      cases known with
      | true =>
        rw [if_pos rfl] at hf
        obtain ⟨rfl, rfl, rfl, rfl⟩ : old = r1 ∧ old = r2 ∧ rest = r3 ∧ ok = r4 := by simpa using hf
        go_enter Tryd.func48, Tryd.ntmps48
        go_wp2
        refine bodyPost_ret (results_list (rs := [.tmp 9, .tmp 10]) rfl (by simp) (.tmp (.tmp .nil))) rfl ?_
        exact ⟨rfl, HH.out⟩
      | false =>
        rw [if_neg (by decide)] at hf
        obtain ⟨rfl, rfl, rfl, rfl⟩ : tk1 rest = r1 ∧ tk1 rest = r2 ∧ tk2 rest = r3 ∧ tk3 rest ok = r4 := by simpa using hf
        go_enter Tryd.func48, Tryd.ntmps48
        go_wp2_with fail
        refine (take_calls W HH.out).mono ?_
        rintro e w1 ⟨rfl, hu⟩
        have HU := Aside0.mk hu
        clear hu
        go_wp2
        refine bodyPost_ret (results_list (rs := [.tmp 9, .tmp 10]) rfl (by simp) (.tmp (.tmp .nil))) rfl ?_
        exact ⟨rfl, HU.out⟩
    · rw [if_neg c1] at hf
      obtain ⟨s, A1, hf⟩ := Option.bind_eq_some_iff.mp hf
      have A1 := Aside0.mk A1
      by_cases c2 : m ≤ s
      · rw [if_pos c2] at hf
        obtain ⟨⟨x1, x2, x3, x4⟩, A2, hf⟩ := Option.bind_eq_some_iff.mp hf
        obtain ⟨j, A3, hf⟩ := Option.bind_eq_some_iff.mp hf
        have A2 := Aside0.mk A2
        have A3 := Aside0.mk A3
        obtain ⟨rfl, rfl, rfl, rfl⟩ : x1 = r1 ∧ j = r2 ∧ tk2 x3 = r3 ∧ tk3 x3 x4 = r4 := by simpa using hf
        clear hf
        go_enter Tryd.func48, Tryd.ntmps48
        go_wp2_with fail
        refine (book_split.calls k n s W A1.out).mono ?_
        rintro e w1 ⟨rfl, ⟨nd, rfl⟩⟩
        have H1 := Aside0.mk (unf_below HH.out (pw_below_drewN (Below.refl _ W) nd))
        clear q1 q2 q3
        have q2 := H1.out.take_
        have q3 := H1.out.up_
        generalize W.drewN nd = w2 at *
        go_wp2_with fail
        refine (up_calls w0 bo br bk bt bu old k m s known rest ok x1 x2 x3 x4 w2 H1.out A2.out).mono ?_
        rintro e w3 ⟨rfl, hu⟩
        have H2 := Aside0.mk hu
        clear hu q2 q3
        have q2 := H2.out.take_
        go_wp2_with fail
        refine (take_calls w3 H2.out).mono ?_
        rintro e w4 ⟨rfl, hu⟩
        have H3 := Aside0.mk hu
        clear hu q2
        go_wp2_with fail
        refine (book_join.calls x2 (tk1 x3) j w4 A3.out).mono ?_
        rintro e w5 ⟨rfl, ⟨nd2, rfl⟩⟩
        have H4 := Aside0.mk (unf_below H3.out (pw_below_drewN (Below.refl _ w4) nd2))
        generalize w4.drewN nd2 = w6 at *
        go_wp2
        refine bodyPost_ret (results_list (rs := [.tmp 9, .tmp 10]) rfl (by simp) (.tmp (.tmp .nil))) rfl ?_
        exact ⟨rfl, H4.out⟩
      · rw [if_neg c2] at hf
        obtain ⟨⟨x1, x2, x3, x4⟩, A2, hf⟩ := Option.bind_eq_some_iff.mp hf
        obtain ⟨j1, A3, hf⟩ := Option.bind_eq_some_iff.mp hf
        obtain ⟨j2, A4, hf⟩ := Option.bind_eq_some_iff.mp hf
        have A2 := Aside0.mk A2
        have A3 := Aside0.mk A3
        have A4 := Aside0.mk A4
        obtain ⟨rfl, rfl, rfl, rfl⟩ : j1 = r1 ∧ j2 = r2 ∧ tk2 x3 = r3 ∧ tk3 x3 x4 = r4 := by simpa using hf
        clear hf
        go_enter Tryd.func48, Tryd.ntmps48
        go_wp2_with fail
        refine (book_split.calls k n s W A1.out).mono ?_
        rintro e w1 ⟨rfl, ⟨nd, rfl⟩⟩
        have H1 := Aside0.mk (unf_below HH.out (pw_below_drewN (Below.refl _ W) nd))
        clear q1 q2 q3
        have q2 := H1.out.take_
        have q3 := H1.out.up_
        generalize W.drewN nd = w2 at *
        go_wp2_with fail
        refine (up_calls w0 bo br bk bt bu old k (wrap64 (m - s)) (wrap64 (n - s)) false rest ok x1 x2 x3 x4 w2 H1.out A2.out).mono ?_
        rintro e w3 ⟨rfl, hu⟩
        have H2 := Aside0.mk hu
        clear hu q2 q3
        have q2 := H2.out.take_
        go_wp2_with fail
        refine (take_calls w3 H2.out).mono ?_
        rintro e w4 ⟨rfl, hu⟩
        have H3 := Aside0.mk hu
        clear hu q2
        go_wp2_with fail
        refine (book_join.calls (tk1 x3) x1 j1 w4 A3.out).mono ?_
        rintro e w5 ⟨rfl, ⟨nd2, rfl⟩⟩
        have H4 := Aside0.mk (unf_below H3.out (pw_below_drewN (Below.refl _ w4) nd2))
        generalize w4.drewN nd2 = w6 at *
        go_wp2_with fail
        refine (book_join.calls (tk1 x3) x2 j2 w6 A4.out).mono ?_
        rintro e w7 ⟨rfl, ⟨nd3, rfl⟩⟩
        have H5 := Aside0.mk (unf_below H4.out (pw_below_drewN (Below.refl _ w6) nd3))
        generalize w6.drewN nd3 = w8 at *
        go_wp2
        refine bodyPost_ret (results_list (rs := [.tmp 9, .tmp 10]) rfl (by simp) (.tmp (.tmp .nil))) rfl ?_
        exact ⟨rfl, H5.out⟩
def book_Unfold.f (k : Nat) (a0 a1 a2 : Int) (l3 : List Int) : Option (Int × Int × Int) :=
  (book_isSum.f [a2]).bind fun t1 => ((book_isSum.f l3).bind fun t2 =>
    (if a0 < 1 ∨ a0 > a1 ∨ a1 > 64 ∨ t1 = false ∨ t2 = false then some (0, 0, 1)
    else (up.f k a2 a0 a1 true l3 true).bind fun r => (if r.2.2.2 = false ∨ r.2.2.1.length > 0 then some (0, 0, 7) else some (r.1, r.2.1, 0))))
theorem four_at (w : World) (v1 v2 v3 v4 : Value) (t1 t2 t3 t4 : Nat) :
    ((((w.alloc (.cells #[v1] t1)).alloc (.cells #[v2] t2)).alloc (.cells #[v3] t3)).alloc (.cells #[v4] t4)).cell? ⟨w.heap.size, 0, none⟩ = some v1 ∧
    ((((w.alloc (.cells #[v1] t1)).alloc (.cells #[v2] t2)).alloc (.cells #[v3] t3)).alloc (.cells #[v4] t4)).cell? ⟨w.heap.size + 1, 0, none⟩ = some v2 ∧
    ((((w.alloc (.cells #[v1] t1)).alloc (.cells #[v2] t2)).alloc (.cells #[v3] t3)).alloc (.cells #[v4] t4)).cell? ⟨w.heap.size + 1 + 1, 0, none⟩ = some v3 ∧
    ((((w.alloc (.cells #[v1] t1)).alloc (.cells #[v2] t2)).alloc (.cells #[v3] t3)).alloc (.cells #[v4] t4)).cell? ⟨w.heap.size + 1 + 1 + 1, 0, none⟩ = some v4 ∧
    ((((w.alloc (.cells #[v1] t1)).alloc (.cells #[v2] t2)).alloc (.cells #[v3] t3)).alloc (.cells #[v4] t4)).frozen? ⟨w.heap.size, 0, none⟩ = false ∧
    ((((w.alloc (.cells #[v1] t1)).alloc (.cells #[v2] t2)).alloc (.cells #[v3] t3)).alloc (.cells #[v4] t4)).frozen? ⟨w.heap.size + 1, 0, none⟩ = false ∧
    ((((w.alloc (.cells #[v1] t1)).alloc (.cells #[v2] t2)).alloc (.cells #[v3] t3)).alloc (.cells #[v4] t4)).heap.size = w.heap.size + 1 + 1 + 1 + 1 := by
  have s1 := World.size_alloc w (.cells #[v1] t1)
  have s2 := World.size_alloc (w.alloc (.cells #[v1] t1)) (.cells #[v2] t2)
  have s3 := World.size_alloc ((w.alloc (.cells #[v1] t1)).alloc (.cells #[v2] t2)) (.cells #[v3] t3)
  have s4 := World.size_alloc (((w.alloc (.cells #[v1] t1)).alloc (.cells #[v2] t2)).alloc (.cells #[v3] t3)) (.cells #[v4] t4)
  have e2 : (w.alloc (.cells #[v1] t1)).heap.size = w.heap.size + 1 := s1
  have e3 : ((w.alloc (.cells #[v1] t1)).alloc (.cells #[v2] t2)).heap.size = w.heap.size + 1 + 1 := by rw [s2, s1]
  have e4 : (((w.alloc (.cells #[v1] t1)).alloc (.cells #[v2] t2)).alloc (.cells #[v3] t3)).heap.size = w.heap.size + 1 + 1 + 1 := by rw [s3, s2, s1]
  have n1 := World.cell?_alloc_new (w := w) #[v1] t1 0
  have n2 := World.cell?_alloc_new (w := w.alloc (.cells #[v1] t1)) #[v2] t2 0
  have n3 := World.cell?_alloc_new (w := (w.alloc (.cells #[v1] t1)).alloc (.cells #[v2] t2)) #[v3] t3 0
  have n4 := World.cell?_alloc_new (w := ((w.alloc (.cells #[v1] t1)).alloc (.cells #[v2] t2)).alloc (.cells #[v3] t3)) #[v4] t4 0
  rw [e2] at n2
  rw [e3] at n3
  rw [e4] at n4
  refine ⟨?_, ?_, ?_, n4, ?_, ?_, by rw [s4, e4]⟩
  · rw [World.cell?_alloc_lt _ _ ⟨w.heap.size, 0, none⟩ (by simp only; omega), World.cell?_alloc_lt _ _ ⟨w.heap.size, 0, none⟩ (by simp only; omega), World.cell?_alloc_lt _ _ ⟨w.heap.size, 0, none⟩ (by simp only; omega)]; exact n1
  · rw [World.cell?_alloc_lt _ _ ⟨w.heap.size + 1, 0, none⟩ (by simp only; omega), World.cell?_alloc_lt _ _ ⟨w.heap.size + 1, 0, none⟩ (by simp only; omega)]; exact n2
  · rw [World.cell?_alloc_lt _ _ ⟨w.heap.size + 1 + 1, 0, none⟩ (by simp only; omega)]; exact n3
  · rw [World.frozen?_alloc_old _ _ ⟨w.heap.size, 0, none⟩ (by simp only; omega), World.frozen?_alloc_old _ _ ⟨w.heap.size, 0, none⟩ (by simp only; omega), World.frozen?_alloc_old _ _ ⟨w.heap.size, 0, none⟩ (by simp only; omega)]
    exact World.frozen?_alloc_new ..
  · rw [World.frozen?_alloc_old _ _ ⟨w.heap.size + 1, 0, none⟩ (by simp only; omega), World.frozen?_alloc_old _ _ ⟨w.heap.size + 1, 0, none⟩ (by simp only; omega)]
    have := World.frozen?_alloc_new (w.alloc (.cells #[v1] t1)) #[v2] t2 0
    rwa [e2] at this
theorem alloc_at2 (w : World) (A B : Obj) (c : Array Value) (t i : Nat) : (((w.alloc A).alloc B).alloc (.cells c t)).cell? ⟨w.heap.size + 1 + 1, i, none⟩ = c[i]? := by
  have e : ((w.alloc A).alloc B).heap.size = w.heap.size + 1 + 1 := by rw [World.size_alloc, World.size_alloc]
  rw [← e]; exact World.cell?_alloc_new ..
theorem froz_at2 (w : World) (A B : Obj) (c : Array Value) (t i : Nat) : (((w.alloc A).alloc B).alloc (.cells c t)).frozen? ⟨w.heap.size + 1 + 1, i, none⟩ = false := by
  have e : ((w.alloc A).alloc B).heap.size = w.heap.size + 1 + 1 := by rw [World.size_alloc, World.size_alloc]
  rw [← e]; exact World.frozen?_alloc_new ..
theorem set_at2 (w : World) (A B : Obj) (u v : Value) (t : Nat) : (((w.alloc A).alloc B).alloc (.cells #[u] t)).setCell ⟨w.heap.size + 1 + 1, 0, none⟩ v = ((w.alloc A).alloc B).alloc (.cells #[v] t) := by
  have e : ((w.alloc A).alloc B).heap.size = w.heap.size + 1 + 1 := by rw [World.size_alloc, World.size_alloc]
  rw [← e]; exact (World.setCell_alloc_new #[u] t 0 v).trans (by simp)
set_option maxHeartbeats 8000000 in
set_option maxRecDepth 100000 in
theorem book_Unfold.calls (k : Nat) (a0 a1 a2 : Int) (A3 : Option Addr) (c3 : Nat) (l3 : List Int) (r1 r2 r3 : Int) (w : World) (hr3 : Kd.C (Kd.int .i64) w A3 l3.length l3) (hc3 : l3.length ≤ c3) (h : book_Unfold.f k a0 a1 a2 l3 = some (r1, r2, r3)) :
    Calls Tryd.prog 32 #[.int .i64 a0, .int .i64 a1, .int .i64 a2, .slice A3 l3.length c3] w fun e w' => e = .returned (.tuple #[.int .i64 r1, .int .i64 r2, .int .i64 r3]) ∧ Below w.heap.size w w' := by
  have HR := Aside0.mk hr3
  clear hr3
  unfold book_Unfold.f at h
  obtain ⟨t1, e1, h⟩ := Option.bind_eq_some_iff.mp h
  obtain ⟨t2, e2, h⟩ := Option.bind_eq_some_iff.mp h
  have E1 := Aside0.mk e1
  have E2 := Aside0.mk e2
  have H := Aside0.mk h
  clear h e1 e2
  have C1 : Kd.C (Kd.int .i64) ((w.alloc (.cells #[.int .i64 a2] 3)).alloc (.cells #[.int .i64 a2] 3)) (some ⟨w.heap.size + 1, 0, none⟩) [a2].length [a2] := by
    refine ⟨rfl, by simp, fun _ => ⟨_, rfl, fun i x hx => ?_⟩⟩
    cases i with
    | zero =>
      obtain rfl : a2 = x := by simpa using hx
      refine ⟨[.int .i64 a2], rfl, rfl, fun j u hu => ?_⟩
      cases j with
      | zero =>
        obtain rfl : Value.int .i64 a2 = u := by simpa using hu
        have e : (w.alloc (.cells #[.int .i64 a2] 3)).heap.size = w.heap.size + 1 := World.size_alloc _ _
        have := World.cell?_alloc_new (w := w.alloc (.cells #[.int .i64 a2] 3)) #[.int .i64 a2] 3 0
        rw [e] at this
        exact this
      | succ j => simp at hu
    | succ i => simp at hx
  have hb1 : Below w.heap.size w ((w.alloc (.cells #[.int .i64 a2] 3)).alloc (.cells #[.int .i64 a2] 3)) := below_alloc (below_alloc (Below.refl _ w) _) _
  have hs1 : ((w.alloc (.cells #[.int .i64 a2] 3)).alloc (.cells #[.int .i64 a2] 3)).heap.size = w.heap.size + 2 := by rw [World.size_alloc, World.size_alloc]
  have ho1 : ((w.alloc (.cells #[.int .i64 a2] 3)).alloc (.cells #[.int .i64 a2] 3)).cell? ⟨w.heap.size, 0, none⟩ = some (.int .i64 a2) := by
    rw [World.cell?_alloc_lt (w.alloc (.cells #[.int .i64 a2] 3)) _ ⟨w.heap.size, 0, none⟩ (by rw [World.size_alloc]; exact Nat.lt_succ_self _)]
    exact World.cell?_alloc_new (w := w) #[.int .i64 a2] 3 0
  have HC1 := Aside0.mk C1
  have HB1 := Aside0.mk hb1
  have HS1 := Aside0.mk hs1
  have HO1 := Aside0.mk ho1
  clear C1 hb1 hs1 ho1
  by_cases c1 : a0 < 1
  · go_enter Tryd.func32, Tryd.ntmps32
    go_wp2
    refine bodyPost_ret (results_list (rs := [.tmp 8, .tmp 9, .tmp 10]) rfl (by simp) (.tmp (.tmp (.tmp .nil)))) rfl ?_
    have h := H.out
    rw [if_pos (Or.inl c1)] at h
    obtain ⟨rfl, rfl, rfl⟩ : (0 : Int) = r1 ∧ (0 : Int) = r2 ∧ (1 : Int) = r3 := by simpa using h
    exact ⟨rfl, below_alloc (Below.refl _ w) _⟩
  by_cases c2 : a0 > a1
  · go_enter Tryd.func32, Tryd.ntmps32
    go_wp2
    refine bodyPost_ret (results_list (rs := [.tmp 8, .tmp 9, .tmp 10]) rfl (by simp) (.tmp (.tmp (.tmp .nil)))) rfl ?_
    have h := H.out
    rw [if_pos (Or.inr (Or.inl c2))] at h
    obtain ⟨rfl, rfl, rfl⟩ : (0 : Int) = r1 ∧ (0 : Int) = r2 ∧ (1 : Int) = r3 := by simpa using h
    exact ⟨rfl, below_alloc (Below.refl _ w) _⟩
  by_cases c4 : a1 > 64
  · go_enter Tryd.func32, Tryd.ntmps32
    go_wp2
    refine bodyPost_ret (results_list (rs := [.tmp 8, .tmp 9, .tmp 10]) rfl (by simp) (.tmp (.tmp (.tmp .nil)))) rfl ?_
    have h := H.out
    rw [if_pos (Or.inr (Or.inr (Or.inl c4)))] at h
    obtain ⟨rfl, rfl, rfl⟩ : (0 : Int) = r1 ∧ (0 : Int) = r2 ∧ (1 : Int) = r3 := by simpa using h
    exact ⟨rfl, below_alloc (Below.refl _ w) _⟩
  have K1 := Aside0.mk c1
  have K2 := Aside0.mk c2
  have K4 := Aside0.mk c4
  cases t1 with
  | false =>
    go_enter Tryd.func32, Tryd.ntmps32
    go_wp2_with fail
    refine (book_isSum.calls _ 1 [a2] false _ HC1.out (by simp) E1.out).mono ?_
    rintro e w2 ⟨rfl, hb⟩
    have HB2 := Aside0.mk (below_step HB1.out hb)
    clear hb
    go_wp2
    refine bodyPost_ret (results_list (rs := [.tmp 8, .tmp 9, .tmp 10]) rfl (by simp) (.tmp (.tmp (.tmp .nil)))) rfl ?_
    have h := H.out
    rw [if_pos (by simp)] at h
    obtain ⟨rfl, rfl, rfl⟩ : (0 : Int) = r1 ∧ (0 : Int) = r2 ∧ (1 : Int) = r3 := by simpa using h
    exact ⟨rfl, HB2.out⟩
  | true =>
    go_enter Tryd.func32, Tryd.ntmps32
    go_wp2_with fail
    refine (book_isSum.calls _ 1 [a2] true _ HC1.out (by simp) E1.out).mono ?_
    rintro e w2 ⟨rfl, hb⟩
    have HB2 := Aside0.mk (below_step HB1.out hb)
    have HS2 := Aside0.mk (show w.heap.size + 2 ≤ w2.heap.size by have := hb.size; have := HS1.out; omega)
    have HO2 := Aside0.mk (pw_cell_below hb HO1.out)
    clear hb
    go_wp2_with fail
    refine (book_isSum.calls A3 c3 l3 t2 _ (Kd.C_below HR.out HB2.out) hc3 E2.out).mono ?_
    rintro e w3 ⟨rfl, hb⟩
    have HB3 := Aside0.mk (below_step HB2.out hb)
    have HS3 := Aside0.mk (show w.heap.size + 2 ≤ w3.heap.size by have := hb.size; have := HS2.out; omega)
    have HO3 := Aside0.mk (pw_cell_below hb HO2.out)
    clear hb
    cases t2 with
    | false =>
      go_wp2
      refine bodyPost_ret (results_list (rs := [.tmp 8, .tmp 9, .tmp 10]) rfl (by simp) (.tmp (.tmp (.tmp .nil)))) rfl ?_
      have h := H.out
      rw [if_pos (by simp)] at h
      obtain ⟨rfl, rfl, rfl⟩ : (0 : Int) = r1 ∧ (0 : Int) = r2 ∧ (1 : Int) = r3 := by simpa using h
      exact ⟨rfl, HB3.out⟩
    | true =>
      have F1 : ∀ (A B : Obj) (c : Array Value) (t i : Nat), (((w3.alloc A).alloc B).alloc (.cells c t)).cell? ⟨w3.heap.size + 1 + 1, i, none⟩ = c[i]? := fun A B c t i => alloc_at2 w3 A B c t i
      have F2 : ∀ (A B : Obj) (c : Array Value) (t i : Nat), (((w3.alloc A).alloc B).alloc (.cells c t)).frozen? ⟨w3.heap.size + 1 + 1, i, none⟩ = false := fun A B c t i => froz_at2 w3 A B c t i
      have F3 : ∀ (A B : Obj) (u v : Value) (t : Nat), (((w3.alloc A).alloc B).alloc (.cells #[u] t)).setCell ⟨w3.heap.size + 1 + 1, 0, none⟩ v = ((w3.alloc A).alloc B).alloc (.cells #[v] t) := fun A B u v t => set_at2 w3 A B u v t
      have G1 : ∀ (A B C : Obj) (c : Array Value) (t i : Nat), ((((w3.alloc A).alloc B).alloc C).alloc (.cells c t)).cell? ⟨w3.heap.size + 1 + 1 + 1, i, none⟩ = c[i]? := fun A B C c t i => by have := alloc_at2 (w3.alloc A) B C c t i; rwa [World.size_alloc] at this
      have G2 : ∀ (A B C : Obj) (c : Array Value) (t i : Nat), ((((w3.alloc A).alloc B).alloc C).alloc (.cells c t)).frozen? ⟨w3.heap.size + 1 + 1 + 1, i, none⟩ = false := fun A B C c t i => by have := froz_at2 (w3.alloc A) B C c t i; rwa [World.size_alloc] at this
      have G3 : ∀ (A B C : Obj) (u v : Value) (t : Nat), ((((w3.alloc A).alloc B).alloc C).alloc (.cells #[u] t)).setCell ⟨w3.heap.size + 1 + 1 + 1, 0, none⟩ v = (((w3.alloc A).alloc B).alloc C).alloc (.cells #[v] t) := fun A B C u v t => by have := set_at2 (w3.alloc A) B C u v t; rwa [World.size_alloc] at this
      have h := H.out
      rw [if_neg (fun z => z.elim (fun z => by have := K1.out; omega) (fun z => z.elim (fun z => by have := K2.out; omega) (fun z => z.elim (fun z => by have := K4.out; omega) (fun z => z.elim (fun z => absurd z (by decide)) (fun z => absurd z (by decide))))))] at h
      obtain ⟨⟨x1, x2, x3, x4⟩, A2, h⟩ := Option.bind_eq_some_iff.mp h
      have A2 := Aside0.mk A2
      have H := Aside0.mk h
      clear h
      go_wp2_with fail
      obtain ⟨k1, k2, k3, k4, k5, k6, k7⟩ := four_at w3 (.slice A3 l3.length c3) (.bool true) (.func (.func 47) #[] #[.pointer (some ⟨w3.heap.size, 0, none⟩), .pointer (some ⟨w3.heap.size + 1, 0, none⟩)]) (.func (.func 48) #[] #[.pointer (some ⟨w.heap.size, 0, none⟩), .pointer (some ⟨w3.heap.size + 1 + 1, 0, none⟩), .pointer (some ⟨w3.heap.size + 1 + 1 + 1, 0, none⟩)]) 28 4 72 73
      have hbW : Below w3.heap.size w3 ((((w3.alloc (.cells #[.slice A3 l3.length c3] 28)).alloc (.cells #[.bool true] 4)).alloc (.cells #[.func (.func 47) #[] #[.pointer (some ⟨w3.heap.size, 0, none⟩), .pointer (some ⟨w3.heap.size + 1, 0, none⟩)]] 72)).alloc (.cells #[.func (.func 48) #[] #[.pointer (some ⟨w.heap.size, 0, none⟩), .pointer (some ⟨w3.heap.size + 1 + 1, 0, none⟩), .pointer (some ⟨w3.heap.size + 1 + 1 + 1, 0, none⟩)]] 73)) := below_alloc (below_alloc (below_alloc (below_alloc (Below.refl _ w3) _) _) _) _
      have U := HS3.out
      refine (up_calls w w.heap.size w3.heap.size (w3.heap.size + 1) (w3.heap.size + 1 + 1) (w3.heap.size + 1 + 1 + 1) a2 k a0 a1 true l3 true x1 x2 x3 x4 _ ⟨below_step HB3.out hbW, pw_cell_below hbW HO3.out, ⟨A3, c3, k1, HR.out, hc3⟩, k2, k3, k4, k5, k6, by omega⟩ A2.out).mono ?_
      rintro e w5 ⟨rfl, hu⟩
      have HU := Aside0.mk hu
      obtain ⟨A, c, q1, q2, q3⟩ := hu.rest_
      have q4 := hu.ok_
      clear hu q2 k1 k2 k3 k4 k5 k6 k7 F1 F2 F3 G1 G2 G3 U hbW
      cases x4 with
      | false =>
        have h := H.out
        rw [if_pos (Or.inl rfl)] at h
        obtain ⟨rfl, rfl, rfl⟩ : (0 : Int) = r1 ∧ (0 : Int) = r2 ∧ (7 : Int) = r3 := by simpa using h
        clear h
        go_wp2
        refine bodyPost_ret (results_list (rs := [.tmp 8, .tmp 9, .tmp 10]) rfl (by simp) (.tmp (.tmp (.tmp .nil)))) rfl ?_
        exact ⟨rfl, HU.out.base⟩
      | true =>
        by_cases c5 : x3.length > 0
        · have h := H.out
          rw [if_pos (Or.inr c5)] at h
          obtain ⟨rfl, rfl, rfl⟩ : (0 : Int) = r1 ∧ (0 : Int) = r2 ∧ (7 : Int) = r3 := by simpa using h
          clear h
          have c5' : (x3.length : Int) > 0 := by omega
          go_wp2
          refine bodyPost_ret (results_list (rs := [.tmp 8, .tmp 9, .tmp 10]) rfl (by simp) (.tmp (.tmp (.tmp .nil)))) rfl ?_
          exact ⟨rfl, HU.out.base⟩
        · have h := H.out
          rw [if_neg (by rintro (z | z); exact absurd z (by decide); exact c5 z)] at h
          obtain ⟨rfl, rfl, rfl⟩ : x1 = r1 ∧ x2 = r2 ∧ (0 : Int) = r3 := by simpa using h
          clear h
          have c5' : ¬ (x3.length : Int) > 0 := by omega
          go_wp2
          refine bodyPost_ret (results_list (rs := [.tmp 8, .tmp 9, .tmp 10]) rfl (by simp) (.tmp (.tmp (.tmp .nil)))) rfl ?_
          exact ⟨rfl, HU.out.base⟩

end Go.Proofs.YtfccgfjiplnmfaaDoor.BA

