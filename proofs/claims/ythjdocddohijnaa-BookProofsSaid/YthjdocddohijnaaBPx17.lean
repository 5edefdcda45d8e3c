/- Plain functions and contracts of Go functions of this seat: written by a program of this session out of Lean's own print of the translation. -/
import Derived.Test.YthjdocddohijnaaBPx0
import Derived.Test.YthjdocddohijnaaBPx12
import Derived.Test.YthjdocddohijnaaBPx13
import Derived.Test.YthjdocddohijnaaBPx14
import Derived.Test.YthjdocddohijnaaBPx15
import Derived.Test.YthjdocddohijnaaBPx16
namespace Go.Proofs.Ythjdocddohijnaa.BP
open Go.RowKit Go.Proofs.YthjdocddohijnaaW.PrintWords Go.Proofs.YthjdocddohijnaaW.PrintLast Go.Proofs.YthjdocddohijnaaW.PrintMore
attribute [local go_sem] max2_int min2_int max_two min_two max_three min_three max_four min_four   -- for this text's walks alone
set_option linter.unusedVariables false
set_option linter.unusedSimpArgs false

/-! ### wigeonref09_sides: function 64 -/
def wigeonref09_sides.f : Nat → Int → Int → Option (List Bool)
  | 0, _, _ => none
  | k + 1, a0, a1 => if a1 < 2 then (some ([] : List Bool)) else ((wigeonref09_split.f k a1).bind fun t246 => (if a0 < t246 then ((wigeonref09_sides.f k a0 t246).bind fun t247 => (if t247.length < 140737488355328 then (some (t247 ++ [false])) else (none))) else ((wigeonref09_sides.f k (wrap64 (a0 - t246)) (wrap64 (a1 - t246))).bind fun t253 => (if t253.length < 140737488355328 then (some (t253 ++ [true])) else (none)))))
theorem wigeonref09_sides.mono_l : ∀ k, (∀ y0 y1, LeO (wigeonref09_sides.f k y0 y1) (wigeonref09_sides.f (k + 1) y0 y1))
  | 0 => fun _ _ r h => by simp [wigeonref09_sides.f] at h
  | k + 1 => by
    have ih0 := wigeonref09_sides.mono_l k
    · intro y0 y1
      unfold wigeonref09_sides.f
      repeat' first
      | (with_reducible exact ih0 _ _)
      | (with_reducible exact wigeonref09_split.mono _ _)
      | (with_reducible exact LeO.refl _)
      | (with_reducible exact LeO.none _)
      | (with_reducible refine LeO.ite ?_ ?_)
      | (with_reducible refine LeO.bind ?_ (fun _ => ?_))
      | exact ih0 _ _
      | exact wigeonref09_split.mono _ _
      | exact LeO.none _
      | refine LeO.ite ?_ ?_
      | refine LeO.bind ?_ (fun _ => ?_)
theorem wigeonref09_sides.mono : ∀ a0 a1 k, LeO (wigeonref09_sides.f k a0 a1) (wigeonref09_sides.f (k + 1) a0 a1) := by
  intro a0 a1 k
  have ih0 := wigeonref09_sides.mono_l k
  exact ih0 a0 a1
set_option maxHeartbeats 8000000 in
set_option maxRecDepth 100000 in
theorem wigeonref09_sides.calls (k : Nat) : ∀ (a0 : Int) (a1 : Int) (r : List Bool) (w : World) (h : wigeonref09_sides.f k a0 a1 = some r),
    Calls Try.prog 64 #[.int .i64 a0, .int .i64 a1] w fun e w' => ∃ v0_ : Value, e = .returned (v0_) ∧ Kd.R Kd.bool 4 w' w.heap.size (fun _ => True) v0_ r ∧ Below w.heap.size w w' := by
  induction k using Nat.strongRecOn with
  | _ k ih =>
  intro a0 a1 r w h
  cases k with
  | zero => exact absurd h (by simp [wigeonref09_sides.f])
  | succ k =>
  simp only [wigeonref09_sides.f] at h
  have HB := Aside0.mk (Below.refl w.heap.size w)
  have H : (if a1 < 2 then (some ([] : List Bool)) else ((wigeonref09_split.f k a1).bind fun t246 => (if a0 < t246 then ((wigeonref09_sides.f k a0 t246).bind fun t247 => (if t247.length < 140737488355328 then (some (t247 ++ [false])) else (none))) else ((wigeonref09_sides.f k (wrap64 (a0 - t246)) (wrap64 (a1 - t246))).bind fun t253 => (if t253.length < 140737488355328 then (some (t253 ++ [true])) else (none)))))) = some r := h
  clear h
  by_cases c3 : a1 < 2
  · rw [if_pos c3] at H
    have c3b0 : decide (a1 < 2) = true := decide_eq_true c3
    clear c3
    obtain rfl := Option.some.inj H
    go_enter Try.func64, Try.ntmps64
    go_wp2
    go_ret
    exact ⟨_, by first | rfl | (simp [errW_none, errW_some] <;> rfl) | (simp [*, errW_none, errW_some] <;> rfl), by first | exact Kd.R_nil _ _ _ _ _ | exact Kd.N_nil _ _ _ _ _ | exact Kd.V_nil _ _ _ _ _ | exact Kd.Q_nil _ _ _ _ _ | exact Kd.S_nil _ _ _ _ _, by repeat (first | (with_reducible first | exact HB.out | apply below_alloc | apply pw_below_drewN | apply below_drew1) | exact HB.out)⟩
  · rw [if_neg c3] at H
    have c3b0 : decide (a1 < 2) = false := decide_eq_false c3
    clear c3
    replace H := Option.bind_eq_some_iff.mp H
    obtain ⟨t246, A40, H⟩ := H
    replace H : (if a0 < t246 then ((wigeonref09_sides.f k a0 t246).bind fun t247 => (if t247.length < 140737488355328 then (some (t247 ++ [false])) else (none))) else ((wigeonref09_sides.f k (wrap64 (a0 - t246)) (wrap64 (a1 - t246))).bind fun t253 => (if t253.length < 140737488355328 then (some (t253 ++ [true])) else (none)))) = some r := H
    have A4 := Aside0.mk A40
    clear A40
    by_cases c5 : a0 < t246
    · rw [if_pos c5] at H
      have c5b0 : decide (a0 < t246) = true := decide_eq_true c5
      clear c5
      replace H := Option.bind_eq_some_iff.mp H
      obtain ⟨t247, A60, H⟩ := H
      replace H : (if t247.length < 140737488355328 then (some (t247 ++ [false])) else (none)) = some r := H
      have A6 := Aside0.mk A60
      clear A60
      by_cases c7 : t247.length < 140737488355328
      · rw [if_pos c7] at H
        have LMc7 := Aside0.mk c7
        clear c7
        obtain ⟨y250, hy250⟩ : ∃ y_ : List Bool, y_ = (t247 ++ [false]) := ⟨_, rfl⟩
        replace H : (some y250) = some r := by first | (rw [hy250]; with_reducible exact H) | (have H2_ := (Option.bind_some _ _).symm.trans H; rw [hy250]; with_reducible exact H2_) | (have H2_ := (Option.bind_some _ _).symm.trans H; with_reducible exact H2_) | with_reducible exact H | (rw [hy250]; exact H) | exact H
        have Ny250 := Aside0.mk hy250
        clear hy250
        obtain rfl := Option.some.inj H
        go_enter Try.func64, Try.ntmps64
        go_wp2_with (first | ((with_reducible refine gate_callee (f := 53) rfl ?_); refine goesL_ (some 9) rfl rfl Try.func53 (by kernel_rfl) rfl #[.int .i64 a1] rfl (by (try simp only [List.map_toArray, List.map_cons, List.map_nil]); first | done | rfl | (simp only [List.length_drop, List.length_take]; rfl)) ?_; (with_reducible refine (wigeonref09_split.calls k a1 t246 _ A4.out).mono ?_); rintro e w' ⟨rfl, ⟨nd, rfl⟩⟩; refine ⟨_, rfl, ?_⟩) | ((with_reducible refine gate_callee (f := 64) rfl ?_); refine goesL_ (some 15) rfl rfl Try.func64 (by kernel_rfl) rfl #[.int .i64 a0, .int .i64 t246] rfl (by (try simp only [List.map_toArray, List.map_cons, List.map_nil]); first | done | rfl | (simp only [List.length_drop, List.length_take]; rfl)) ?_; (with_reducible refine (ih k (by omega) a0 t246 t247 _ A6.out).mono ?_); rintro e w8 ⟨v248, rfl, ho0, hb⟩; refine ⟨_, rfl, ?_⟩; have n0_ := Aside0.mk (Kd.R_lower ho0 (below_size (by repeat (first | (with_reducible first | exact HB.out | apply below_alloc | apply pw_below_drewN | apply below_drew1) | exact HB.out)))); have n1_ := Aside0.mk (below_step (by repeat (first | (with_reducible first | exact HB.out | apply below_alloc | apply pw_below_drewN | apply below_drew1) | exact HB.out)) hb); clear HB; have HO249 := n0_; have HB := n1_; clear n0_ n1_; (try clear hb); (try clear hb2); (try clear hk); (try clear hi); (try clear ho0)) | ((with_reducible refine gate_builtin (b := .append) (xs := #[.tmp 15, .tmp 16]) rfl ?_); at_builtin; refine Kd.R_append Kd.bool (w0 := w) w.heap.size rfl (.tmp 15) (.tmp 16) 66 4 (.bool false) 1 rfl Try.underlying66 info4 rfl (by decide) (by omega) v248 t247 false [.bool false] (fun _ => True) (fun _ => False) rfl rfl ?aP (fun _ hk => hk.elim) ?aF ?aO ?aB ?aS ?aL ?_; (case aP => exact rfl); (case aB => exact (by repeat (first | (with_reducible first | exact HB.out | apply below_alloc | apply pw_below_drewN | apply below_drew1) | exact HB.out))); (case aF => exact (fun _ _ => trivial)); (case aO => exact (by (with_reducible repeat (first | apply Kd.R_alloc | apply Kd.R_drewN | apply Kd.R_drew)); exact HO249.out)); (case aS => exact (below_size (by repeat (first | (with_reducible first | exact HB.out | apply below_alloc | apply pw_below_drewN | apply below_drew1) | exact HB.out)))); (case aL => have := LMc7.out; omega); intro v251 w9 ho hb hg hat; rw [← Ny250.out] at ho; have n0_ := Aside0.mk (hb); have n1_ := Aside0.mk (ho); clear HB; clear HO249; have HB := n0_; have HO252 := n1_; clear n0_ n1_; clear ho hb hg hat))
        go_ret
        exact ⟨_, by first | rfl | (simp [errW_none, errW_some] <;> rfl) | (simp [*, errW_none, errW_some] <;> rfl), by (with_reducible repeat (first | apply Kd.R_alloc | apply Kd.R_drewN | apply Kd.R_drew)); exact HO252.out, by repeat (first | (with_reducible first | exact HB.out | apply below_alloc | apply pw_below_drewN | apply below_drew1) | exact HB.out)⟩
      · rw [if_neg c7] at H
        exact absurd H (by simp)
    · rw [if_neg c5] at H
      have c5b0 : decide (a0 < t246) = false := decide_eq_false c5
      clear c5
      replace H := Option.bind_eq_some_iff.mp H
      obtain ⟨t253, A100, H⟩ := H
      replace H : (if t253.length < 140737488355328 then (some (t253 ++ [true])) else (none)) = some r := H
      have A10 := Aside0.mk A100
      clear A100
      by_cases c11 : t253.length < 140737488355328
      · rw [if_pos c11] at H
        have LMc11 := Aside0.mk c11
        clear c11
        obtain ⟨y256, hy256⟩ : ∃ y_ : List Bool, y_ = (t253 ++ [true]) := ⟨_, rfl⟩
        replace H : (some y256) = some r := by first | (rw [hy256]; with_reducible exact H) | (have H2_ := (Option.bind_some _ _).symm.trans H; rw [hy256]; with_reducible exact H2_) | (have H2_ := (Option.bind_some _ _).symm.trans H; with_reducible exact H2_) | with_reducible exact H | (rw [hy256]; exact H) | exact H
        have Ny256 := Aside0.mk hy256
        clear hy256
        obtain rfl := Option.some.inj H
        go_enter Try.func64, Try.ntmps64
        go_wp2_with (first | ((with_reducible refine gate_callee (f := 53) rfl ?_); refine goesL_ (some 9) rfl rfl Try.func53 (by kernel_rfl) rfl #[.int .i64 a1] rfl (by (try simp only [List.map_toArray, List.map_cons, List.map_nil]); first | done | rfl | (simp only [List.length_drop, List.length_take]; rfl)) ?_; (with_reducible refine (wigeonref09_split.calls k a1 t246 _ A4.out).mono ?_); rintro e w' ⟨rfl, ⟨nd, rfl⟩⟩; refine ⟨_, rfl, ?_⟩) | ((with_reducible refine gate_callee (f := 64) rfl ?_); refine goesL_ (some 24) rfl rfl Try.func64 (by kernel_rfl) rfl #[.int .i64 (wrap64 (a0 - t246)), .int .i64 (wrap64 (a1 - t246))] rfl (by (try simp only [List.map_toArray, List.map_cons, List.map_nil]); first | done | rfl | (simp only [List.length_drop, List.length_take]; rfl)) ?_; (with_reducible refine (ih k (by omega) (wrap64 (a0 - t246)) (wrap64 (a1 - t246)) t253 _ A10.out).mono ?_); rintro e w12 ⟨v254, rfl, ho0, hb⟩; refine ⟨_, rfl, ?_⟩; have n0_ := Aside0.mk (Kd.R_lower ho0 (below_size (by repeat (first | (with_reducible first | exact HB.out | apply below_alloc | apply pw_below_drewN | apply below_drew1) | exact HB.out)))); have n1_ := Aside0.mk (below_step (by repeat (first | (with_reducible first | exact HB.out | apply below_alloc | apply pw_below_drewN | apply below_drew1) | exact HB.out)) hb); clear HB; have HO255 := n0_; have HB := n1_; clear n0_ n1_; (try clear hb); (try clear hb2); (try clear hk); (try clear hi); (try clear ho0)) | ((with_reducible refine gate_builtin (b := .append) (xs := #[.tmp 24, .tmp 25]) rfl ?_); at_builtin; refine Kd.R_append Kd.bool (w0 := w) w.heap.size rfl (.tmp 24) (.tmp 25) 66 4 (.bool false) 1 rfl Try.underlying66 info4 rfl (by decide) (by omega) v254 t253 true [.bool true] (fun _ => True) (fun _ => False) rfl rfl ?aP (fun _ hk => hk.elim) ?aF ?aO ?aB ?aS ?aL ?_; (case aP => exact rfl); (case aB => exact (by repeat (first | (with_reducible first | exact HB.out | apply below_alloc | apply pw_below_drewN | apply below_drew1) | exact HB.out))); (case aF => exact (fun _ _ => trivial)); (case aO => exact (by (with_reducible repeat (first | apply Kd.R_alloc | apply Kd.R_drewN | apply Kd.R_drew)); exact HO255.out)); (case aS => exact (below_size (by repeat (first | (with_reducible first | exact HB.out | apply below_alloc | apply pw_below_drewN | apply below_drew1) | exact HB.out)))); (case aL => have := LMc11.out; omega); intro v257 w13 ho hb hg hat; rw [← Ny256.out] at ho; have n0_ := Aside0.mk (hb); have n1_ := Aside0.mk (ho); clear HB; clear HO255; have HB := n0_; have HO258 := n1_; clear n0_ n1_; clear ho hb hg hat))
        go_ret
        exact ⟨_, by first | rfl | (simp [errW_none, errW_some] <;> rfl) | (simp [*, errW_none, errW_some] <;> rfl), by (with_reducible repeat (first | apply Kd.R_alloc | apply Kd.R_drewN | apply Kd.R_drew)); exact HO258.out, by repeat (first | (with_reducible first | exact HB.out | apply below_alloc | apply pw_below_drewN | apply below_drew1) | exact HB.out)⟩
      · rw [if_neg c11] at H
        exact absurd H (by simp)

/-! ### wigeonref09_Depth: function 43 -/
def wigeonref09_Depth.f (k : Nat) (a0 : Int) (a1 : Int) : Option (Int × Int) := (wigeonref09_place.f k a0 a1).bind fun t259 => (if t259 = 0 then ((wigeonref09_sides.f k a0 a1).bind fun t260 => (some ((t260.length : Int), 0))) else (some (0, t259)))
theorem wigeonref09_Depth.mono : ∀ a0 a1 k, LeO (wigeonref09_Depth.f k a0 a1) (wigeonref09_Depth.f (k + 1) a0 a1) := by
  intro a0 a1 k
  unfold wigeonref09_Depth.f
  repeat' first
      | (with_reducible exact wigeonref09_place.mono _ _ _)
      | (with_reducible exact wigeonref09_sides.mono _ _ _)
      | (with_reducible exact LeO.refl _)
      | (with_reducible exact LeO.none _)
      | (with_reducible refine LeO.ite ?_ ?_)
      | (with_reducible refine LeO.bind ?_ (fun _ => ?_))
      | exact wigeonref09_place.mono _ _ _
      | exact wigeonref09_sides.mono _ _ _
      | exact LeO.none _
      | refine LeO.ite ?_ ?_
      | refine LeO.bind ?_ (fun _ => ?_)
set_option maxHeartbeats 8000000 in
set_option maxRecDepth 100000 in
theorem wigeonref09_Depth.calls (k : Nat) (a0 : Int) (a1 : Int) (r1 : Int) (r2 : Int) (w : World) (h : wigeonref09_Depth.f k a0 a1 = some (r1, r2)) :
    Calls Try.prog 43 #[.int .i64 a0, .int .i64 a1] w fun e w' => e = .returned (.tuple #[.int .i64 r1, .int .i64 r2]) ∧ Below w.heap.size w w' := by
  have HB := Aside0.mk (Below.refl w.heap.size w)
  have H : ((wigeonref09_place.f k a0 a1).bind fun t259 => (if t259 = 0 then ((wigeonref09_sides.f k a0 a1).bind fun t260 => (some ((t260.length : Int), 0))) else (some (0, t259)))) = some (r1, r2) := h
  clear h
  replace H := Option.bind_eq_some_iff.mp H
  obtain ⟨t259, A30, H⟩ := H
  replace H : (if t259 = 0 then ((wigeonref09_sides.f k a0 a1).bind fun t260 => (some ((t260.length : Int), 0))) else (some (0, t259))) = some (r1, r2) := H
  have A3 := Aside0.mk A30
  clear A30
  by_cases c4 : t259 = 0
  · rw [if_pos c4] at H
    have c4b0 : (t259 == 0) = true := beq_iff_eq.mpr c4
    have c4b1 : (t259 != 0) = false := bne_eq_false_iff_eq.mpr c4
    clear c4
    replace H := Option.bind_eq_some_iff.mp H
    obtain ⟨t260, A50, H⟩ := H
    replace H : (some ((t260.length : Int), 0)) = some (r1, r2) := H
    have A5 := Aside0.mk A50
    clear A50
    simp only [Option.some.injEq, Prod.mk.injEq] at H
    obtain ⟨rfl, rfl⟩ := H
    go_enter Try.func43, Try.ntmps43
    go_wp2_with (first | ((with_reducible refine gate_callee (f := 62) rfl ?_); refine goesL_ (some 9) rfl rfl Try.func62 (by kernel_rfl) rfl #[.int .i64 a0, .int .i64 a1] rfl (by (try simp only [List.map_toArray, List.map_cons, List.map_nil]); first | done | rfl | (simp only [List.length_drop, List.length_take]; rfl)) ?_; (with_reducible refine (wigeonref09_place.calls k a0 a1 t259 _ A3.out).mono ?_); rintro e w' ⟨rfl, ⟨nd, rfl⟩⟩; refine ⟨_, rfl, ?_⟩) | ((with_reducible refine gate_callee (f := 64) rfl ?_); refine goesL_ (some 15) rfl rfl Try.func64 (by kernel_rfl) rfl #[.int .i64 a0, .int .i64 a1] rfl (by (try simp only [List.map_toArray, List.map_cons, List.map_nil]); first | done | rfl | (simp only [List.length_drop, List.length_take]; rfl)) ?_; (with_reducible refine (wigeonref09_sides.calls k a0 a1 t260 _ A5.out).mono ?_); rintro e w6 ⟨v261, rfl, ho0, hb⟩; refine ⟨_, rfl, ?_⟩; have n0_ := Aside0.mk (Kd.R_lower ho0 (below_size (by repeat (first | (with_reducible first | exact HB.out | apply below_alloc | apply pw_below_drewN | apply below_drew1) | exact HB.out)))); have n1_ := Aside0.mk (below_step (by repeat (first | (with_reducible first | exact HB.out | apply below_alloc | apply pw_below_drewN | apply below_drew1) | exact HB.out)) hb); clear HB; have HO262 := n0_; have HB := n1_; clear n0_ n1_; (try clear hb); (try clear hb2); (try clear hk); (try clear hi); (try clear ho0); obtain ⟨Ao7, co7, eo7⟩ := Kd.R_slice HO262.out; subst eo7))
    go_ret2
    exact ⟨by first | rfl | (simp [errW_none, errW_some] <;> rfl) | (simp [*, errW_none, errW_some] <;> rfl), by repeat (first | (with_reducible first | exact HB.out | apply below_alloc | apply pw_below_drewN | apply below_drew1) | exact HB.out)⟩
  · rw [if_neg c4] at H
    have c4b0 : (t259 == 0) = false := beq_eq_false_iff_ne.mpr c4
    have c4b1 : (t259 != 0) = true := bne_iff_ne.mpr c4
    simp only [Option.some.injEq, Prod.mk.injEq] at H
    obtain ⟨rfl, rfl⟩ := H
    go_enter Try.func43, Try.ntmps43
    go_wp2_with (first | ((with_reducible refine gate_callee (f := 62) rfl ?_); refine goesL_ (some 9) rfl rfl Try.func62 (by kernel_rfl) rfl #[.int .i64 a0, .int .i64 a1] rfl (by (try simp only [List.map_toArray, List.map_cons, List.map_nil]); first | done | rfl | (simp only [List.length_drop, List.length_take]; rfl)) ?_; (with_reducible refine (wigeonref09_place.calls k a0 a1 t259 _ A3.out).mono ?_); rintro e w' ⟨rfl, ⟨nd, rfl⟩⟩; refine ⟨_, rfl, ?_⟩))
    go_ret2
    exact ⟨by first | rfl | (simp [errW_none, errW_some] <;> rfl) | (simp [*, errW_none, errW_some] <;> rfl), by repeat (first | (with_reducible first | exact HB.out | apply below_alloc | apply pw_below_drewN | apply below_drew1) | exact HB.out)⟩

/-! ### wigeonlaw09_BookProofs: function 11 -/
def wigeonlaw09_BookProofs.j0 : Nat → List ByteArray → Int → List Int → Int → Int → Int → Bool → Option (Bool)
  | 0, _, _, _, _, _, _, _ => none
  | k + 1, x0, x1, x5, x6, x9, x10, x62 => if x62 = true then (some false) else (if x6 = 0 then ((book_Root.f k x0).bind fun bt278 => (if x10 = 0 then (if x9 = (x5.length : Int) then (if bt278.2 = 0 then (if 0 ≤ x1 then (if x1 < (x0.length : Int) then ((book_CheckPage.f k bt278.1 (rdOf ByteArray.empty x0 x1) x1 (x0.length : Int) x5).bind fun t281 => (if t281 = 0 then ((wigeonlaw09_known.f k).bind fun t282 => (some t282)) else (some false))) else (none)) else (none)) else (some false)) else (some false)) else (some false))) else ((wigeonlaw09_known.f k).bind fun t283 => (some t283)))
def wigeonlaw09_BookProofs.f (k : Nat) (l0 : List ByteArray) (a1 : Int) : Option (Bool) := (wigeonlaw09_Long.f k l0).bind fun t263 => (if t263 = true then ((wigeonlaw09_known.f k).bind fun t264 => (some t264)) else ((book_Proof.f k l0 a1).bind fun bt265 => ((wigeonref09_Proof.f k l0 a1).bind fun bt269 => ((book_Depth.f k a1 (l0.length : Int)).bind fun bt273 => ((wigeonref09_Depth.f k a1 (l0.length : Int)).bind fun bt275 => ((wigeonref01_SameInts.f k bt265.1 bt269.1).bind fun t277 => (if t277 = true then (if bt265.2 = bt269.2 then (if bt273.1 = bt275.1 then (wigeonlaw09_BookProofs.j0 k l0 a1 bt265.1 bt265.2 bt273.1 bt273.2 (bt273.2 != bt275.2)) else (wigeonlaw09_BookProofs.j0 k l0 a1 bt265.1 bt265.2 bt273.1 bt273.2 true)) else (wigeonlaw09_BookProofs.j0 k l0 a1 bt265.1 bt265.2 bt273.1 bt273.2 true)) else (wigeonlaw09_BookProofs.j0 k l0 a1 bt265.1 bt265.2 bt273.1 bt273.2 true))))))))
theorem wigeonlaw09_BookProofs.mono_l : ∀ k, (∀ y0 y1 y2 y3 y4 y5 y6, LeO (wigeonlaw09_BookProofs.j0 k y0 y1 y2 y3 y4 y5 y6) (wigeonlaw09_BookProofs.j0 (k + 1) y0 y1 y2 y3 y4 y5 y6))
  | 0 => fun _ _ _ _ _ _ _ r h => by simp [wigeonlaw09_BookProofs.j0] at h
  | k + 1 => by
    have ih0 := wigeonlaw09_BookProofs.mono_l k
    · intro y0 y1 y2 y3 y4 y5 y6
      unfold wigeonlaw09_BookProofs.j0
      repeat' first
      | (with_reducible exact ih0 _ _ _ _ _ _ _)
      | (with_reducible exact book_CheckPage.mono _ _ _ _ _ _)
      | (with_reducible exact book_Depth.mono _ _ _)
      | (with_reducible exact book_Proof.mono _ _ _)
      | (with_reducible exact book_Root.mono _ _)
      | (with_reducible exact wigeonlaw09_Long.mono _ _)
      | (with_reducible exact wigeonlaw09_known.mono _)
      | (with_reducible exact wigeonref01_SameInts.mono _ _ _)
      | (with_reducible exact wigeonref09_Depth.mono _ _ _)
      | (with_reducible exact wigeonref09_Proof.mono _ _ _)
      | (with_reducible exact LeO.refl _)
      | (with_reducible exact LeO.none _)
      | (with_reducible refine LeO.ite ?_ ?_)
      | (with_reducible refine LeO.bind ?_ (fun _ => ?_))
      | exact ih0 _ _ _ _ _ _ _
      | exact book_CheckPage.mono _ _ _ _ _ _
      | exact book_Depth.mono _ _ _
      | exact book_Proof.mono _ _ _
      | exact book_Root.mono _ _
      | exact wigeonlaw09_Long.mono _ _
      | exact wigeonlaw09_known.mono _
      | exact wigeonref01_SameInts.mono _ _ _
      | exact wigeonref09_Depth.mono _ _ _
      | exact wigeonref09_Proof.mono _ _ _
      | exact LeO.none _
      | refine LeO.ite ?_ ?_
      | refine LeO.bind ?_ (fun _ => ?_)
theorem wigeonlaw09_BookProofs.mono : ∀ a0 a1 k, LeO (wigeonlaw09_BookProofs.f k a0 a1) (wigeonlaw09_BookProofs.f (k + 1) a0 a1) := by
  intro a0 a1 k
  have ih0 := wigeonlaw09_BookProofs.mono_l k
  unfold wigeonlaw09_BookProofs.f
  repeat' first
      | (with_reducible exact ih0 _ _ _ _ _ _ _)
      | (with_reducible exact book_CheckPage.mono _ _ _ _ _ _)
      | (with_reducible exact book_Depth.mono _ _ _)
      | (with_reducible exact book_Proof.mono _ _ _)
      | (with_reducible exact book_Root.mono _ _)
      | (with_reducible exact wigeonlaw09_Long.mono _ _)
      | (with_reducible exact wigeonlaw09_known.mono _)
      | (with_reducible exact wigeonref01_SameInts.mono _ _ _)
      | (with_reducible exact wigeonref09_Depth.mono _ _ _)
      | (with_reducible exact wigeonref09_Proof.mono _ _ _)
      | (with_reducible exact LeO.refl _)
      | (with_reducible exact LeO.none _)
      | (with_reducible refine LeO.ite ?_ ?_)
      | (with_reducible refine LeO.bind ?_ (fun _ => ?_))
      | exact ih0 _ _ _ _ _ _ _
      | exact book_CheckPage.mono _ _ _ _ _ _
      | exact book_Depth.mono _ _ _
      | exact book_Proof.mono _ _ _
      | exact book_Root.mono _ _
      | exact wigeonlaw09_Long.mono _ _
      | exact wigeonlaw09_known.mono _
      | exact wigeonref01_SameInts.mono _ _ _
      | exact wigeonref09_Depth.mono _ _ _
      | exact wigeonref09_Proof.mono _ _ _
      | exact LeO.none _
      | refine LeO.ite ?_ ?_
      | refine LeO.bind ?_ (fun _ => ?_)
set_option maxHeartbeats 8000000 in
set_option maxRecDepth 100000 in
theorem wigeonlaw09_BookProofs.calls (k : Nat) (A0 : Option Addr) (c0 : Nat) (l0 : List ByteArray) (a1 : Int) (r : Bool) (w : World) (hr0 : Kd.C Kd.string w A0 l0.length l0) (hc0 : l0.length ≤ c0) (h : wigeonlaw09_BookProofs.f k l0 a1 = some r) :
    Calls Try.prog 11 #[.slice A0 l0.length c0, .int .i64 a1] w fun e w' => e = .returned (.bool r) ∧ Below w.heap.size w w' := by
  have HR0 := Aside0.mk hr0
  have HC0 := Aside0.mk hc0
  clear hr0 hc0
  have HB := Aside0.mk (Below.refl w.heap.size w)
  have H : ((wigeonlaw09_Long.f k l0).bind fun t263 => (if t263 = true then ((wigeonlaw09_known.f k).bind fun t264 => (some t264)) else ((book_Proof.f k l0 a1).bind fun bt265 => ((wigeonref09_Proof.f k l0 a1).bind fun bt269 => ((book_Depth.f k a1 (l0.length : Int)).bind fun bt273 => ((wigeonref09_Depth.f k a1 (l0.length : Int)).bind fun bt275 => ((wigeonref01_SameInts.f k bt265.1 bt269.1).bind fun t277 => (if t277 = true then (if bt265.2 = bt269.2 then (if bt273.1 = bt275.1 then (wigeonlaw09_BookProofs.j0 k l0 a1 bt265.1 bt265.2 bt273.1 bt273.2 (bt273.2 != bt275.2)) else (wigeonlaw09_BookProofs.j0 k l0 a1 bt265.1 bt265.2 bt273.1 bt273.2 true)) else (wigeonlaw09_BookProofs.j0 k l0 a1 bt265.1 bt265.2 bt273.1 bt273.2 true)) else (wigeonlaw09_BookProofs.j0 k l0 a1 bt265.1 bt265.2 bt273.1 bt273.2 true))))))))) = some r := h
  clear h
  replace H := Option.bind_eq_some_iff.mp H
  obtain ⟨t263, A30, H⟩ := H
  replace H : (if t263 = true then ((wigeonlaw09_known.f k).bind fun t264 => (some t264)) else ((book_Proof.f k l0 a1).bind fun bt265 => ((wigeonref09_Proof.f k l0 a1).bind fun bt269 => ((book_Depth.f k a1 (l0.length : Int)).bind fun bt273 => ((wigeonref09_Depth.f k a1 (l0.length : Int)).bind fun bt275 => ((wigeonref01_SameInts.f k bt265.1 bt269.1).bind fun t277 => (if t277 = true then (if bt265.2 = bt269.2 then (if bt273.1 = bt275.1 then (wigeonlaw09_BookProofs.j0 k l0 a1 bt265.1 bt265.2 bt273.1 bt273.2 (bt273.2 != bt275.2)) else (wigeonlaw09_BookProofs.j0 k l0 a1 bt265.1 bt265.2 bt273.1 bt273.2 true)) else (wigeonlaw09_BookProofs.j0 k l0 a1 bt265.1 bt265.2 bt273.1 bt273.2 true)) else (wigeonlaw09_BookProofs.j0 k l0 a1 bt265.1 bt265.2 bt273.1 bt273.2 true)))))))) = some r := H
  have A3 := Aside0.mk A30
  clear A30
  by_cases c4 : t263 = true
  · subst c4
    have H1 : ((wigeonlaw09_known.f k).bind fun t264 => (some t264)) = some r := by rw [if_pos rfl] at H; exact H
    clear H
    have H := H1
    clear H1
    replace H := Option.bind_eq_some_iff.mp H
    obtain ⟨t264, A50, H⟩ := H
    replace H : (some t264) = some r := H
    have A5 := Aside0.mk A50
    clear A50
    obtain rfl := Option.some.inj H
    go_enter Try.func11, Try.ntmps11
    go_wp2_with (first | ((with_reducible refine gate_callee (f := 19) rfl ?_); refine goesL_ (some 16) rfl rfl Try.func19 (by kernel_rfl) rfl #[.slice A0 l0.length c0] rfl (by (try simp only [List.map_toArray, List.map_cons, List.map_nil]); first | done | rfl | (simp only [List.length_drop, List.length_take]; rfl)) ?_; (with_reducible refine (wigeonlaw09_Long.calls k _ _ l0 true _ ?side1 ?side2 A3.out).mono ?_); (case side1 => repeat (first | exact HR0.out | (with_reducible refine Kd.C_alloc ?_ _) | (with_reducible refine Kd.C_drewN ?_ _) | (with_reducible refine Kd.C_drew ?_))); (case side2 => exact HC0.out); rintro e w' ⟨rfl, ⟨nd, rfl⟩⟩; refine ⟨_, rfl, ?_⟩) | ((with_reducible refine gate_callee (f := 12) rfl ?_); refine goesL_ (some 17) rfl rfl Try.func12 (by kernel_rfl) rfl #[] rfl (by (try simp only [List.map_toArray, List.map_cons, List.map_nil]); first | done | rfl | (simp only [List.length_drop, List.length_take]; rfl)) ?_; (with_reducible refine (wigeonlaw09_known.calls k  t264 _ A5.out).mono ?_); rintro e w6 ⟨rfl, hb⟩; refine ⟨_, rfl, ?_⟩; have n0_ := Aside0.mk (below_step (by repeat (first | (with_reducible first | exact HB.out | apply below_alloc | apply pw_below_drewN | apply below_drew1) | exact HB.out)) hb); clear HB; have HB := n0_; clear n0_; (try clear hb); (try clear hb2); (try clear hk); (try clear hi)))
    go_ret
    exact ⟨by first | rfl | (simp [errW_none, errW_some] <;> rfl) | (simp [*, errW_none, errW_some] <;> rfl), by repeat (first | (with_reducible first | exact HB.out | apply below_alloc | apply pw_below_drewN | apply below_drew1) | exact HB.out)⟩
  · replace c4 := Bool.eq_false_iff.mpr c4
    subst c4
    have H1 : ((book_Proof.f k l0 a1).bind fun bt265 => ((wigeonref09_Proof.f k l0 a1).bind fun bt269 => ((book_Depth.f k a1 (l0.length : Int)).bind fun bt273 => ((wigeonref09_Depth.f k a1 (l0.length : Int)).bind fun bt275 => ((wigeonref01_SameInts.f k bt265.1 bt269.1).bind fun t277 => (if t277 = true then (if bt265.2 = bt269.2 then (if bt273.1 = bt275.1 then (wigeonlaw09_BookProofs.j0 k l0 a1 bt265.1 bt265.2 bt273.1 bt273.2 (bt273.2 != bt275.2)) else (wigeonlaw09_BookProofs.j0 k l0 a1 bt265.1 bt265.2 bt273.1 bt273.2 true)) else (wigeonlaw09_BookProofs.j0 k l0 a1 bt265.1 bt265.2 bt273.1 bt273.2 true)) else (wigeonlaw09_BookProofs.j0 k l0 a1 bt265.1 bt265.2 bt273.1 bt273.2 true))))))) = some r := by rw [if_neg (show ¬ (false = true) by decide)] at H; exact H
    clear H
    have H := H1
    clear H1
    replace H := Option.bind_eq_some_iff.mp H
    obtain ⟨⟨t265, t266⟩, A70, H⟩ := H
    replace H : ((wigeonref09_Proof.f k l0 a1).bind fun bt269 => ((book_Depth.f k a1 (l0.length : Int)).bind fun bt273 => ((wigeonref09_Depth.f k a1 (l0.length : Int)).bind fun bt275 => ((wigeonref01_SameInts.f k t265 bt269.1).bind fun t277 => (if t277 = true then (if t266 = bt269.2 then (if bt273.1 = bt275.1 then (wigeonlaw09_BookProofs.j0 k l0 a1 t265 t266 bt273.1 bt273.2 (bt273.2 != bt275.2)) else (wigeonlaw09_BookProofs.j0 k l0 a1 t265 t266 bt273.1 bt273.2 true)) else (wigeonlaw09_BookProofs.j0 k l0 a1 t265 t266 bt273.1 bt273.2 true)) else (wigeonlaw09_BookProofs.j0 k l0 a1 t265 t266 bt273.1 bt273.2 true)))))) = some r := H
    have A7 := Aside0.mk A70
    clear A70
    replace H := Option.bind_eq_some_iff.mp H
    obtain ⟨⟨t269, t270⟩, A80, H⟩ := H
    replace H : ((book_Depth.f k a1 (l0.length : Int)).bind fun bt273 => ((wigeonref09_Depth.f k a1 (l0.length : Int)).bind fun bt275 => ((wigeonref01_SameInts.f k t265 t269).bind fun t277 => (if t277 = true then (if t266 = t270 then (if bt273.1 = bt275.1 then (wigeonlaw09_BookProofs.j0 k l0 a1 t265 t266 bt273.1 bt273.2 (bt273.2 != bt275.2)) else (wigeonlaw09_BookProofs.j0 k l0 a1 t265 t266 bt273.1 bt273.2 true)) else (wigeonlaw09_BookProofs.j0 k l0 a1 t265 t266 bt273.1 bt273.2 true)) else (wigeonlaw09_BookProofs.j0 k l0 a1 t265 t266 bt273.1 bt273.2 true))))) = some r := H
    have A8 := Aside0.mk A80
    clear A80
    replace H := Option.bind_eq_some_iff.mp H
    obtain ⟨⟨t273, t274⟩, A90, H⟩ := H
    replace H : ((wigeonref09_Depth.f k a1 (l0.length : Int)).bind fun bt275 => ((wigeonref01_SameInts.f k t265 t269).bind fun t277 => (if t277 = true then (if t266 = t270 then (if t273 = bt275.1 then (wigeonlaw09_BookProofs.j0 k l0 a1 t265 t266 t273 t274 (t274 != bt275.2)) else (wigeonlaw09_BookProofs.j0 k l0 a1 t265 t266 t273 t274 true)) else (wigeonlaw09_BookProofs.j0 k l0 a1 t265 t266 t273 t274 true)) else (wigeonlaw09_BookProofs.j0 k l0 a1 t265 t266 t273 t274 true)))) = some r := H
    have A9 := Aside0.mk A90
    clear A90
    replace H := Option.bind_eq_some_iff.mp H
    obtain ⟨⟨t275, t276⟩, A100, H⟩ := H
    replace H : ((wigeonref01_SameInts.f k t265 t269).bind fun t277 => (if t277 = true then (if t266 = t270 then (if t273 = t275 then (wigeonlaw09_BookProofs.j0 k l0 a1 t265 t266 t273 t274 (t274 != t276)) else (wigeonlaw09_BookProofs.j0 k l0 a1 t265 t266 t273 t274 true)) else (wigeonlaw09_BookProofs.j0 k l0 a1 t265 t266 t273 t274 true)) else (wigeonlaw09_BookProofs.j0 k l0 a1 t265 t266 t273 t274 true))) = some r := H
    have A10 := Aside0.mk A100
    clear A100
    have HC11 := Aside0.mk H
    clear H
    go_enter Try.func11, Try.ntmps11
    go_upto_region 7 with (first | ((with_reducible refine gate_callee (f := 19) rfl ?_); refine goesL_ (some 16) rfl rfl Try.func19 (by kernel_rfl) rfl #[.slice A0 l0.length c0] rfl (by (try simp only [List.map_toArray, List.map_cons, List.map_nil]); first | done | rfl | (simp only [List.length_drop, List.length_take]; rfl)) ?_; (with_reducible refine (wigeonlaw09_Long.calls k _ _ l0 false _ ?side1 ?side2 A3.out).mono ?_); (case side1 => repeat (first | exact HR0.out | (with_reducible refine Kd.C_alloc ?_ _) | (with_reducible refine Kd.C_drewN ?_ _) | (with_reducible refine Kd.C_drew ?_))); (case side2 => exact HC0.out); rintro e w' ⟨rfl, ⟨nd, rfl⟩⟩; refine ⟨_, rfl, ?_⟩) | ((with_reducible refine gate_callee (f := 40) rfl ?_); refine goesL_ (some 21) rfl rfl Try.func40 (by kernel_rfl) rfl #[.slice A0 l0.length c0, .int .i64 a1] rfl (by (try simp only [List.map_toArray, List.map_cons, List.map_nil]); first | done | rfl | (simp only [List.length_drop, List.length_take]; rfl)) ?_; (with_reducible refine (book_Proof.calls k _ _ l0 a1 t265 t266 _ ?side1 ?side2 A7.out).mono ?_); (case side1 => repeat (first | exact HR0.out | (with_reducible refine Kd.C_alloc ?_ _) | (with_reducible refine Kd.C_drewN ?_ _) | (with_reducible refine Kd.C_drew ?_))); (case side2 => exact HC0.out); rintro e w12 ⟨v267, rfl, ho0, hb⟩; refine ⟨_, rfl, ?_⟩; have n0_ := Aside0.mk (Kd.R_lower ho0 (below_size (by repeat (first | (with_reducible first | exact HB.out | apply below_alloc | apply pw_below_drewN | apply below_drew1) | exact HB.out)))); have n1_ := Aside0.mk (below_step (by repeat (first | (with_reducible first | exact HB.out | apply below_alloc | apply pw_below_drewN | apply below_drew1) | exact HB.out)) hb); clear HB; have HO268 := n0_; have HB := n1_; clear n0_ n1_; (try clear hb); (try clear hb2); (try clear hk); (try clear hi); (try clear ho0)) | ((with_reducible refine gate_callee (f := 41) rfl ?_); refine goesL_ (some 27) rfl rfl Try.func41 (by kernel_rfl) rfl #[.slice A0 l0.length c0, .int .i64 a1] rfl (by (try simp only [List.map_toArray, List.map_cons, List.map_nil]); first | done | rfl | (simp only [List.length_drop, List.length_take]; rfl)) ?_; (with_reducible refine (wigeonref09_Proof.calls k _ _ l0 a1 t269 t270 _ ?side1 ?side2 A8.out).mono ?_); (case side1 => repeat (first | exact (Kd.C_below HR0.out HB.out) | (with_reducible refine Kd.C_alloc ?_ _) | (with_reducible refine Kd.C_drewN ?_ _) | (with_reducible refine Kd.C_drew ?_))); (case side2 => exact HC0.out); rintro e w13 ⟨v271, rfl, ho0, hb⟩; refine ⟨_, rfl, ?_⟩; have n0_ := Aside0.mk (Kd.R_elder' (by (with_reducible repeat (first | apply Kd.R_alloc | apply Kd.R_drewN | apply Kd.R_drew)); exact HO268.out) (Kd.R_base ho0) hb); have n1_ := Aside0.mk (Kd.R_lower (Kd.R_new' ho0 (Kd.R_lt (by (with_reducible repeat (first | apply Kd.R_alloc | apply Kd.R_drewN | apply Kd.R_drew)); exact HO268.out))) (below_size (by repeat (first | (with_reducible first | exact HB.out | apply below_alloc | apply pw_below_drewN | apply below_drew1) | exact HB.out)))); have n2_ := Aside0.mk (below_step (by repeat (first | (with_reducible first | exact HB.out | apply below_alloc | apply pw_below_drewN | apply below_drew1) | exact HB.out)) hb); clear HO268; clear HB; have HO268 := n0_; have HO272 := n1_; have HB := n2_; clear n0_ n1_ n2_; (try clear hb); (try clear hb2); (try clear hk); (try clear hi); (try clear ho0)) | ((with_reducible refine gate_callee (f := 42) rfl ?_); refine goesL_ (some 34) rfl rfl Try.func42 (by kernel_rfl) rfl #[.int .i64 a1, .int .i64 (l0.length : Int)] rfl (by (try simp only [List.map_toArray, List.map_cons, List.map_nil]); first | done | rfl | (simp only [List.length_drop, List.length_take]; rfl)) ?_; (with_reducible refine (book_Depth.calls k a1 (l0.length : Int) t273 t274 _ A9.out).mono ?_); rintro e w14 ⟨rfl, hb⟩; refine ⟨_, rfl, ?_⟩; have n0_ := Aside0.mk (Kd.R_below (by (with_reducible repeat (first | apply Kd.R_alloc | apply Kd.R_drewN | apply Kd.R_drew)); exact HO268.out) hb); have n1_ := Aside0.mk (Kd.R_below (by (with_reducible repeat (first | apply Kd.R_alloc | apply Kd.R_drewN | apply Kd.R_drew)); exact HO272.out) hb); have n2_ := Aside0.mk (below_step (by repeat (first | (with_reducible first | exact HB.out | apply below_alloc | apply pw_below_drewN | apply below_drew1) | exact HB.out)) hb); clear HO268; clear HO272; clear HB; have HO268 := n0_; have HO272 := n1_; have HB := n2_; clear n0_ n1_ n2_; (try clear hb); (try clear hb2); (try clear hk); (try clear hi)) | ((with_reducible refine gate_callee (f := 43) rfl ?_); refine goesL_ (some 41) rfl rfl Try.func43 (by kernel_rfl) rfl #[.int .i64 a1, .int .i64 (l0.length : Int)] rfl (by (try simp only [List.map_toArray, List.map_cons, List.map_nil]); first | done | rfl | (simp only [List.length_drop, List.length_take]; rfl)) ?_; (with_reducible refine (wigeonref09_Depth.calls k a1 (l0.length : Int) t275 t276 _ A10.out).mono ?_); rintro e w15 ⟨rfl, hb⟩; refine ⟨_, rfl, ?_⟩; have n0_ := Aside0.mk (Kd.R_below (by (with_reducible repeat (first | apply Kd.R_alloc | apply Kd.R_drewN | apply Kd.R_drew)); exact HO268.out) hb); have n1_ := Aside0.mk (Kd.R_below (by (with_reducible repeat (first | apply Kd.R_alloc | apply Kd.R_drewN | apply Kd.R_drew)); exact HO272.out) hb); have n2_ := Aside0.mk (below_step (by repeat (first | (with_reducible first | exact HB.out | apply below_alloc | apply pw_below_drewN | apply below_drew1) | exact HB.out)) hb); clear HO268; clear HO272; clear HB; have HO268 := n0_; have HO272 := n1_; have HB := n2_; clear n0_ n1_ n2_; (try clear hb); (try clear hb2); (try clear hk); (try clear hi)))
    (try simp only [Act.put, List.setIfInBounds_toArray, List.set_cons_zero, List.set_cons_succ])
    go_cut [62] (fun v62 wc => ∃ (kq : Nat) (x62_10 : Bool), v62 = .bool x62_10 ∧ Aside0 (wigeonlaw09_BookProofs.j0 kq l0 a1 t265 t266 t273 t274 x62_10 = some r) ∧ Aside0 (kq ≤ k) ∧ Aside0 (Kd.R (Kd.int .i64) 3 wc w.heap.size (fun _ => True) v267 t265) ∧ Aside0 (Below w.heap.size w wc))
    case first =>
      have H := HC11.out
      clear HC11
      replace H := Option.bind_eq_some_iff.mp H
      obtain ⟨t277, A160, H⟩ := H
      replace H : (if t277 = true then (if t266 = t270 then (if t273 = t275 then (wigeonlaw09_BookProofs.j0 k l0 a1 t265 t266 t273 t274 (t274 != t276)) else (wigeonlaw09_BookProofs.j0 k l0 a1 t265 t266 t273 t274 true)) else (wigeonlaw09_BookProofs.j0 k l0 a1 t265 t266 t273 t274 true)) else (wigeonlaw09_BookProofs.j0 k l0 a1 t265 t266 t273 t274 true)) = some r := H
      have A16 := Aside0.mk A160
      clear A160
      by_cases c17 : t277 = true
      · subst c17
        have H1 : (if t266 = t270 then (if t273 = t275 then (wigeonlaw09_BookProofs.j0 k l0 a1 t265 t266 t273 t274 (t274 != t276)) else (wigeonlaw09_BookProofs.j0 k l0 a1 t265 t266 t273 t274 true)) else (wigeonlaw09_BookProofs.j0 k l0 a1 t265 t266 t273 t274 true)) = some r := by rw [if_pos rfl] at H; exact H
        clear H
        have H := H1
        clear H1
        by_cases c18 : t266 = t270
        · rw [if_pos c18] at H
          have c18b0 : (t266 == t270) = true := beq_iff_eq.mpr c18
          have c18b1 : (t266 != t270) = false := bne_eq_false_iff_eq.mpr c18
          clear c18
          (first | rw [c18b0] | (simp only [i64_w, i32_w]; rw [c18b0]) | skip)
          by_cases c19 : t273 = t275
          · rw [if_pos c19] at H
            have c19b0 : (t273 == t275) = true := beq_iff_eq.mpr c19
            have c19b1 : (t273 != t275) = false := bne_eq_false_iff_eq.mpr c19
            clear c19
            have H' := Aside0.mk H
            clear H
            obtain ⟨Ao20, co20, eo20⟩ := Kd.R_slice HO268.out
            subst eo20
            obtain ⟨Ao21, co21, eo21⟩ := Kd.R_slice HO272.out
            subst eo21
            go_wp2_with (first | ((with_reducible refine gate_callee (f := 39) rfl ?_); refine goesL_ (some 46) rfl rfl Try.func39 (by kernel_rfl) rfl #[.slice Ao20 t265.length co20, .slice Ao21 t269.length co21] rfl (by (try simp only [List.map_toArray, List.map_cons, List.map_nil]); first | done | rfl | (simp only [List.length_drop, List.length_take]; rfl)) ?_; (with_reducible refine (wigeonref01_SameInts.calls k _ _ t265 _ _ t269 true _ ?side1 ?side2 ?side3 ?side4 A16.out).mono ?_); (case side1 => repeat (first | exact (Kd.R_reads' HO268.out).2.2 | (with_reducible refine Kd.C_alloc ?_ _) | (with_reducible refine Kd.C_drewN ?_ _) | (with_reducible refine Kd.C_drew ?_))); (case side2 => exact (Kd.R_reads' HO268.out).2.1); (case side3 => repeat (first | exact (Kd.R_reads' HO272.out).2.2 | (with_reducible refine Kd.C_alloc ?_ _) | (with_reducible refine Kd.C_drewN ?_ _) | (with_reducible refine Kd.C_drew ?_))); (case side4 => exact (Kd.R_reads' HO272.out).2.1); rintro e w' ⟨rfl, ⟨nd, rfl⟩⟩; refine ⟨_, rfl, ?_⟩))
            go_meet
            case rel => exact ⟨_, ((t274 != t276)), (by first | rfl | (simp; done) | (simp [*]; done)), H', ⟨by first | omega | exact Nat.le_refl _⟩, ⟨by (with_reducible repeat (first | apply Kd.R_alloc | apply Kd.R_drewN | apply Kd.R_drew)); exact Kd.R_mono HO268.out (fun _ hk => trivial)⟩, ⟨by repeat (first | (with_reducible first | exact HB.out | apply below_alloc | apply pw_below_drewN | apply below_drew1) | exact HB.out)⟩⟩
          · rw [if_neg c19] at H
            have c19b0 : (t273 == t275) = false := beq_eq_false_iff_ne.mpr c19
            have c19b1 : (t273 != t275) = true := bne_iff_ne.mpr c19
            have H' := Aside0.mk H
            clear H
            obtain ⟨Ao22, co22, eo22⟩ := Kd.R_slice HO268.out
            subst eo22
            obtain ⟨Ao23, co23, eo23⟩ := Kd.R_slice HO272.out
            subst eo23
            go_wp2_with (first | ((with_reducible refine gate_callee (f := 39) rfl ?_); refine goesL_ (some 46) rfl rfl Try.func39 (by kernel_rfl) rfl #[.slice Ao22 t265.length co22, .slice Ao23 t269.length co23] rfl (by (try simp only [List.map_toArray, List.map_cons, List.map_nil]); first | done | rfl | (simp only [List.length_drop, List.length_take]; rfl)) ?_; (with_reducible refine (wigeonref01_SameInts.calls k _ _ t265 _ _ t269 true _ ?side1 ?side2 ?side3 ?side4 A16.out).mono ?_); (case side1 => repeat (first | exact (Kd.R_reads' HO268.out).2.2 | (with_reducible refine Kd.C_alloc ?_ _) | (with_reducible refine Kd.C_drewN ?_ _) | (with_reducible refine Kd.C_drew ?_))); (case side2 => exact (Kd.R_reads' HO268.out).2.1); (case side3 => repeat (first | exact (Kd.R_reads' HO272.out).2.2 | (with_reducible refine Kd.C_alloc ?_ _) | (with_reducible refine Kd.C_drewN ?_ _) | (with_reducible refine Kd.C_drew ?_))); (case side4 => exact (Kd.R_reads' HO272.out).2.1); rintro e w' ⟨rfl, ⟨nd, rfl⟩⟩; refine ⟨_, rfl, ?_⟩))
            go_meet
            case rel => exact ⟨_, (true), (by first | rfl | (simp; done) | (simp [*]; done)), H', ⟨by first | omega | exact Nat.le_refl _⟩, ⟨by (with_reducible repeat (first | apply Kd.R_alloc | apply Kd.R_drewN | apply Kd.R_drew)); exact Kd.R_mono HO268.out (fun _ hk => trivial)⟩, ⟨by repeat (first | (with_reducible first | exact HB.out | apply below_alloc | apply pw_below_drewN | apply below_drew1) | exact HB.out)⟩⟩
        · rw [if_neg c18] at H
          have c18b0 : (t266 == t270) = false := beq_eq_false_iff_ne.mpr c18
          have c18b1 : (t266 != t270) = true := bne_iff_ne.mpr c18
          (first | rw [c18b0] | (simp only [i64_w, i32_w]; rw [c18b0]) | skip)
          have H' := Aside0.mk H
          clear H
          obtain ⟨Ao24, co24, eo24⟩ := Kd.R_slice HO268.out
          subst eo24
          obtain ⟨Ao25, co25, eo25⟩ := Kd.R_slice HO272.out
          subst eo25
          go_wp2_with (first | ((with_reducible refine gate_callee (f := 39) rfl ?_); refine goesL_ (some 46) rfl rfl Try.func39 (by kernel_rfl) rfl #[.slice Ao24 t265.length co24, .slice Ao25 t269.length co25] rfl (by (try simp only [List.map_toArray, List.map_cons, List.map_nil]); first | done | rfl | (simp only [List.length_drop, List.length_take]; rfl)) ?_; (with_reducible refine (wigeonref01_SameInts.calls k _ _ t265 _ _ t269 true _ ?side1 ?side2 ?side3 ?side4 A16.out).mono ?_); (case side1 => repeat (first | exact (Kd.R_reads' HO268.out).2.2 | (with_reducible refine Kd.C_alloc ?_ _) | (with_reducible refine Kd.C_drewN ?_ _) | (with_reducible refine Kd.C_drew ?_))); (case side2 => exact (Kd.R_reads' HO268.out).2.1); (case side3 => repeat (first | exact (Kd.R_reads' HO272.out).2.2 | (with_reducible refine Kd.C_alloc ?_ _) | (with_reducible refine Kd.C_drewN ?_ _) | (with_reducible refine Kd.C_drew ?_))); (case side4 => exact (Kd.R_reads' HO272.out).2.1); rintro e w' ⟨rfl, ⟨nd, rfl⟩⟩; refine ⟨_, rfl, ?_⟩))
          go_meet
          case rel => exact ⟨_, (true), (by first | rfl | (simp; done) | (simp [*]; done)), H', ⟨by first | omega | exact Nat.le_refl _⟩, ⟨by (with_reducible repeat (first | apply Kd.R_alloc | apply Kd.R_drewN | apply Kd.R_drew)); exact Kd.R_mono HO268.out (fun _ hk => trivial)⟩, ⟨by repeat (first | (with_reducible first | exact HB.out | apply below_alloc | apply pw_below_drewN | apply below_drew1) | exact HB.out)⟩⟩
      · replace c17 := Bool.eq_false_iff.mpr c17
        subst c17
        have H1 : (wigeonlaw09_BookProofs.j0 k l0 a1 t265 t266 t273 t274 true) = some r := by rw [if_neg (show ¬ (false = true) by decide)] at H; exact H
        clear H
        have H := H1
        clear H1
        have H' := Aside0.mk H
        clear H
        obtain ⟨Ao26, co26, eo26⟩ := Kd.R_slice HO268.out
        subst eo26
        obtain ⟨Ao27, co27, eo27⟩ := Kd.R_slice HO272.out
        subst eo27
        go_wp2_with (first | ((with_reducible refine gate_callee (f := 39) rfl ?_); refine goesL_ (some 46) rfl rfl Try.func39 (by kernel_rfl) rfl #[.slice Ao26 t265.length co26, .slice Ao27 t269.length co27] rfl (by (try simp only [List.map_toArray, List.map_cons, List.map_nil]); first | done | rfl | (simp only [List.length_drop, List.length_take]; rfl)) ?_; (with_reducible refine (wigeonref01_SameInts.calls k _ _ t265 _ _ t269 false _ ?side1 ?side2 ?side3 ?side4 A16.out).mono ?_); (case side1 => repeat (first | exact (Kd.R_reads' HO268.out).2.2 | (with_reducible refine Kd.C_alloc ?_ _) | (with_reducible refine Kd.C_drewN ?_ _) | (with_reducible refine Kd.C_drew ?_))); (case side2 => exact (Kd.R_reads' HO268.out).2.1); (case side3 => repeat (first | exact (Kd.R_reads' HO272.out).2.2 | (with_reducible refine Kd.C_alloc ?_ _) | (with_reducible refine Kd.C_drewN ?_ _) | (with_reducible refine Kd.C_drew ?_))); (case side4 => exact (Kd.R_reads' HO272.out).2.1); rintro e w' ⟨rfl, ⟨nd, rfl⟩⟩; refine ⟨_, rfl, ?_⟩))
        go_meet
        case rel => exact ⟨_, (true), (by first | rfl | (simp; done) | (simp [*]; done)), H', ⟨by first | omega | exact Nat.le_refl _⟩, ⟨by (with_reducible repeat (first | apply Kd.R_alloc | apply Kd.R_drewN | apply Kd.R_drew)); exact Kd.R_mono HO268.out (fun _ hk => trivial)⟩, ⟨by repeat (first | (with_reducible first | exact HB.out | apply below_alloc | apply pw_below_drewN | apply below_drew1) | exact HB.out)⟩⟩
    case rest =>
      clear HC11
      try clear c1
      try clear p2
      try clear c3
      try clear c4
      try clear c11
      try clear c12
      try clear c17
      try clear c18
      try clear c18b0
      try clear c18b1
      try clear c19
      try clear c19b0
      try clear c19b1
      obtain ⟨kq, x62_10, rfl, HA, HJ10, HO_5, HB⟩ := hcut
      cases kq with
      | zero => exact absurd HA.out (by simp [wigeonlaw09_BookProofs.j0])
      | succ kj10 =>
        have H := HA.out
        clear HA
        simp only [wigeonlaw09_BookProofs.j0] at H
        by_cases c28 : x62_10 = true
        · subst c28
          have H1 : (some false) = some r := by rw [if_pos rfl] at H; exact H
          clear H
          have H := H1
          clear H1
          obtain rfl := Option.some.inj H
          go_wp2
          go_ret
          exact ⟨by first | rfl | (simp [errW_none, errW_some] <;> rfl) | (simp [*, errW_none, errW_some] <;> rfl), by repeat (first | (with_reducible first | exact HB.out | apply below_alloc | apply pw_below_drewN | apply below_drew1) | exact HB.out)⟩
        · replace c28 := Bool.eq_false_iff.mpr c28
          subst c28
          have H1 : (if t266 = 0 then ((book_Root.f kj10 l0).bind fun bt278 => (if t274 = 0 then (if t273 = (t265.length : Int) then (if bt278.2 = 0 then (if 0 ≤ a1 then (if a1 < (l0.length : Int) then ((book_CheckPage.f kj10 bt278.1 (rdOf ByteArray.empty l0 a1) a1 (l0.length : Int) t265).bind fun t281 => (if t281 = 0 then ((wigeonlaw09_known.f kj10).bind fun t282 => (some t282)) else (some false))) else (none)) else (none)) else (some false)) else (some false)) else (some false))) else ((wigeonlaw09_known.f kj10).bind fun t283 => (some t283))) = some r := by rw [if_neg (show ¬ (false = true) by decide)] at H; exact H
          clear H
          have H := H1
          clear H1
          by_cases c29 : t266 = 0
          · rw [if_pos c29] at H
            have c29b0 : (t266 == 0) = true := beq_iff_eq.mpr c29
            have c29b1 : (t266 != 0) = false := bne_eq_false_iff_eq.mpr c29
            clear c29
            replace H := Option.bind_eq_some_iff.mp H
            obtain ⟨⟨t278, t279⟩, A300, H⟩ := H
            replace H : (if t274 = 0 then (if t273 = (t265.length : Int) then (if t279 = 0 then (if 0 ≤ a1 then (if a1 < (l0.length : Int) then ((book_CheckPage.f kj10 t278 (rdOf ByteArray.empty l0 a1) a1 (l0.length : Int) t265).bind fun t281 => (if t281 = 0 then ((wigeonlaw09_known.f kj10).bind fun t282 => (some t282)) else (some false))) else (none)) else (none)) else (some false)) else (some false)) else (some false)) = some r := H
            have A30 := Aside0.mk A300
            clear A300
            by_cases c31 : t274 = 0
            · rw [if_pos c31] at H
              have c31b0 : (t274 == 0) = true := beq_iff_eq.mpr c31
              have c31b1 : (t274 != 0) = false := bne_eq_false_iff_eq.mpr c31
              clear c31
              by_cases c32 : t273 = (t265.length : Int)
              · rw [if_pos c32] at H
                have c32b0 : (t273 == (t265.length : Int)) = true := beq_iff_eq.mpr c32
                have c32b1 : (t273 != (t265.length : Int)) = false := bne_eq_false_iff_eq.mpr c32
                clear c32
                by_cases c33 : t279 = 0
                · rw [if_pos c33] at H
                  have c33b0 : (t279 == 0) = true := beq_iff_eq.mpr c33
                  have c33b1 : (t279 != 0) = false := bne_eq_false_iff_eq.mpr c33
                  clear c33
                  by_cases c34 : 0 ≤ a1
                  · rw [if_pos c34] at H
                    have c34b0 : decide (0 ≤ a1) = true := decide_eq_true c34
                    clear c34
                    by_cases c35 : a1 < (l0.length : Int)
                    · rw [if_pos c35] at H
                      have c35b0 : decide (a1 < (l0.length : Int)) = true := decide_eq_true c35
                      clear c35
                      replace H := Option.bind_eq_some_iff.mp H
                      obtain ⟨t281, A360, H⟩ := H
                      replace H : (if t281 = 0 then ((wigeonlaw09_known.f kj10).bind fun t282 => (some t282)) else (some false)) = some r := H
                      have A36 := Aside0.mk A360
                      clear A360
                      by_cases c37 : t281 = 0
                      · rw [if_pos c37] at H
                        have c37b0 : (t281 == 0) = true := beq_iff_eq.mpr c37
                        have c37b1 : (t281 != 0) = false := bne_eq_false_iff_eq.mpr c37
                        clear c37
                        replace H := Option.bind_eq_some_iff.mp H
                        obtain ⟨t282, A380, H⟩ := H
                        replace H : (some t282) = some r := H
                        have A38 := Aside0.mk A380
                        clear A380
                        obtain rfl := Option.some.inj H
                        go_wp2_with (first | ((with_reducible refine gate_callee (f := 22) rfl ?_); refine goesL_ (some 68) rfl rfl Try.func22 (by kernel_rfl) rfl #[.slice A0 l0.length c0] rfl (by (try simp only [List.map_toArray, List.map_cons, List.map_nil]); first | done | rfl | (simp only [List.length_drop, List.length_take]; rfl)) ?_; (with_reducible refine (book_Root.calls kj10 _ _ l0 t278 t279 _ ?side1 ?side2 A30.out).mono ?_); (case side1 => repeat (first | exact (Kd.C_below HR0.out HB.out) | (with_reducible refine Kd.C_alloc ?_ _) | (with_reducible refine Kd.C_drewN ?_ _) | (with_reducible refine Kd.C_drew ?_))); (case side2 => exact HC0.out); rintro e w39 ⟨rfl, hb⟩; refine ⟨_, rfl, ?_⟩; have n0_ := Aside0.mk (Kd.R_below (by (with_reducible repeat (first | apply Kd.R_alloc | apply Kd.R_drewN | apply Kd.R_drew)); exact HO_5.out) hb); have n1_ := Aside0.mk (below_step (by repeat (first | (with_reducible first | exact HB.out | apply below_alloc | apply pw_below_drewN | apply below_drew1) | exact HB.out)) hb); clear HO_5; clear HB; have HO_5 := n0_; have HB := n1_; clear n0_ n1_; (try clear hb); (try clear hb2); (try clear hk); (try clear hi); obtain ⟨Ao40, co40, eo40⟩ := Kd.R_slice HO_5.out; subst eo40; have p280 : 0 ≤ (a1 : Int) := of_decide_eq_true (by first | (with_reducible assumption) | assumption); have q280 : a1 < (l0.length : Int) := of_decide_eq_true (by first | (with_reducible assumption) | assumption); obtain ⟨ad280, e280, hx280_0⟩ := Kd.at_string HR0.out a1 p280 q280; cases e280; replace hx280_0 := (HB.out.cell (World.block_lt_of_cell? w _ hx280_0)).trans hx280_0; replace p280 := eq_true p280; replace q280 := eq_true q280) | (go_at_call 35; (with_reducible refine (book_CheckPage.calls kj10 t278 (rdOf ByteArray.empty l0 a1) a1 (l0.length : Int) _ _ t265 t281 _ ?side1 ?side2 A36.out).mono ?_); (case side1 => repeat (first | exact (Kd.R_reads' HO_5.out).2.2 | (with_reducible refine Kd.C_alloc ?_ _) | (with_reducible refine Kd.C_drewN ?_ _) | (with_reducible refine Kd.C_drew ?_))); (case side2 => exact (Kd.R_reads' HO_5.out).2.1); rintro e w41 ⟨rfl, hb⟩; have n0_ := Aside0.mk (Kd.R_below (by (with_reducible repeat (first | apply Kd.R_alloc | apply Kd.R_drewN | apply Kd.R_drew)); exact HO_5.out) hb); have n1_ := Aside0.mk (below_step (by repeat (first | (with_reducible first | exact HB.out | apply below_alloc | apply pw_below_drewN | apply below_drew1) | exact HB.out)) hb); clear HO_5; clear HB; have HO_5 := n0_; have HB := n1_; clear n0_ n1_; (try clear hb); (try clear hb2); (try clear hk); (try clear hi)) | (go_at_call 12; (with_reducible refine (wigeonlaw09_known.calls kj10  t282 _ A38.out).mono ?_); rintro e w42 ⟨rfl, hb⟩; have n0_ := Aside0.mk (Kd.R_below (by (with_reducible repeat (first | apply Kd.R_alloc | apply Kd.R_drewN | apply Kd.R_drew)); exact HO_5.out) hb); have n1_ := Aside0.mk (below_step (by repeat (first | (with_reducible first | exact HB.out | apply below_alloc | apply pw_below_drewN | apply below_drew1) | exact HB.out)) hb); clear HO_5; clear HB; have HO_5 := n0_; have HB := n1_; clear n0_ n1_; (try clear hb); (try clear hb2); (try clear hk); (try clear hi)))
                        go_ret
                        exact ⟨by first | rfl | (simp [errW_none, errW_some] <;> rfl) | (simp [*, errW_none, errW_some] <;> rfl), by repeat (first | (with_reducible first | exact HB.out | apply below_alloc | apply pw_below_drewN | apply below_drew1) | exact HB.out)⟩
                      · rw [if_neg c37] at H
                        have c37b0 : (t281 == 0) = false := beq_eq_false_iff_ne.mpr c37
                        have c37b1 : (t281 != 0) = true := bne_iff_ne.mpr c37
                        obtain rfl := Option.some.inj H
                        go_wp2_with (first | ((with_reducible refine gate_callee (f := 22) rfl ?_); refine goesL_ (some 68) rfl rfl Try.func22 (by kernel_rfl) rfl #[.slice A0 l0.length c0] rfl (by (try simp only [List.map_toArray, List.map_cons, List.map_nil]); first | done | rfl | (simp only [List.length_drop, List.length_take]; rfl)) ?_; (with_reducible refine (book_Root.calls kj10 _ _ l0 t278 t279 _ ?side1 ?side2 A30.out).mono ?_); (case side1 => repeat (first | exact (Kd.C_below HR0.out HB.out) | (with_reducible refine Kd.C_alloc ?_ _) | (with_reducible refine Kd.C_drewN ?_ _) | (with_reducible refine Kd.C_drew ?_))); (case side2 => exact HC0.out); rintro e w43 ⟨rfl, hb⟩; refine ⟨_, rfl, ?_⟩; have n0_ := Aside0.mk (Kd.R_below (by (with_reducible repeat (first | apply Kd.R_alloc | apply Kd.R_drewN | apply Kd.R_drew)); exact HO_5.out) hb); have n1_ := Aside0.mk (below_step (by repeat (first | (with_reducible first | exact HB.out | apply below_alloc | apply pw_below_drewN | apply below_drew1) | exact HB.out)) hb); clear HO_5; clear HB; have HO_5 := n0_; have HB := n1_; clear n0_ n1_; (try clear hb); (try clear hb2); (try clear hk); (try clear hi); obtain ⟨Ao44, co44, eo44⟩ := Kd.R_slice HO_5.out; subst eo44; have p280 : 0 ≤ (a1 : Int) := of_decide_eq_true (by first | (with_reducible assumption) | assumption); have q280 : a1 < (l0.length : Int) := of_decide_eq_true (by first | (with_reducible assumption) | assumption); obtain ⟨ad280, e280, hx280_0⟩ := Kd.at_string HR0.out a1 p280 q280; cases e280; replace hx280_0 := (HB.out.cell (World.block_lt_of_cell? w _ hx280_0)).trans hx280_0; replace p280 := eq_true p280; replace q280 := eq_true q280) | (go_at_call 35; (with_reducible refine (book_CheckPage.calls kj10 t278 (rdOf ByteArray.empty l0 a1) a1 (l0.length : Int) _ _ t265 t281 _ ?side1 ?side2 A36.out).mono ?_); (case side1 => repeat (first | exact (Kd.R_reads' HO_5.out).2.2 | (with_reducible refine Kd.C_alloc ?_ _) | (with_reducible refine Kd.C_drewN ?_ _) | (with_reducible refine Kd.C_drew ?_))); (case side2 => exact (Kd.R_reads' HO_5.out).2.1); rintro e w45 ⟨rfl, hb⟩; have n0_ := Aside0.mk (Kd.R_below (by (with_reducible repeat (first | apply Kd.R_alloc | apply Kd.R_drewN | apply Kd.R_drew)); exact HO_5.out) hb); have n1_ := Aside0.mk (below_step (by repeat (first | (with_reducible first | exact HB.out | apply below_alloc | apply pw_below_drewN | apply below_drew1) | exact HB.out)) hb); clear HO_5; clear HB; have HO_5 := n0_; have HB := n1_; clear n0_ n1_; (try clear hb); (try clear hb2); (try clear hk); (try clear hi)))
                        go_ret
                        exact ⟨by first | rfl | (simp [errW_none, errW_some] <;> rfl) | (simp [*, errW_none, errW_some] <;> rfl), by repeat (first | (with_reducible first | exact HB.out | apply below_alloc | apply pw_below_drewN | apply below_drew1) | exact HB.out)⟩
                    · rw [if_neg c35] at H
                      exact absurd H (by simp)
                  · rw [if_neg c34] at H
                    exact absurd H (by simp)
                · rw [if_neg c33] at H
                  have c33b0 : (t279 == 0) = false := beq_eq_false_iff_ne.mpr c33
                  have c33b1 : (t279 != 0) = true := bne_iff_ne.mpr c33
                  obtain rfl := Option.some.inj H
                  go_wp2_with (first | ((with_reducible refine gate_callee (f := 22) rfl ?_); refine goesL_ (some 68) rfl rfl Try.func22 (by kernel_rfl) rfl #[.slice A0 l0.length c0] rfl (by (try simp only [List.map_toArray, List.map_cons, List.map_nil]); first | done | rfl | (simp only [List.length_drop, List.length_take]; rfl)) ?_; (with_reducible refine (book_Root.calls kj10 _ _ l0 t278 t279 _ ?side1 ?side2 A30.out).mono ?_); (case side1 => repeat (first | exact (Kd.C_below HR0.out HB.out) | (with_reducible refine Kd.C_alloc ?_ _) | (with_reducible refine Kd.C_drewN ?_ _) | (with_reducible refine Kd.C_drew ?_))); (case side2 => exact HC0.out); rintro e w46 ⟨rfl, hb⟩; refine ⟨_, rfl, ?_⟩; have n0_ := Aside0.mk (Kd.R_below (by (with_reducible repeat (first | apply Kd.R_alloc | apply Kd.R_drewN | apply Kd.R_drew)); exact HO_5.out) hb); have n1_ := Aside0.mk (below_step (by repeat (first | (with_reducible first | exact HB.out | apply below_alloc | apply pw_below_drewN | apply below_drew1) | exact HB.out)) hb); clear HO_5; clear HB; have HO_5 := n0_; have HB := n1_; clear n0_ n1_; (try clear hb); (try clear hb2); (try clear hk); (try clear hi); obtain ⟨Ao47, co47, eo47⟩ := Kd.R_slice HO_5.out; subst eo47))
                  go_ret
                  exact ⟨by first | rfl | (simp [errW_none, errW_some] <;> rfl) | (simp [*, errW_none, errW_some] <;> rfl), by repeat (first | (with_reducible first | exact HB.out | apply below_alloc | apply pw_below_drewN | apply below_drew1) | exact HB.out)⟩
              · rw [if_neg c32] at H
                have c32b0 : (t273 == (t265.length : Int)) = false := beq_eq_false_iff_ne.mpr c32
                have c32b1 : (t273 != (t265.length : Int)) = true := bne_iff_ne.mpr c32
                obtain rfl := Option.some.inj H
                go_wp2_with (first | ((with_reducible refine gate_callee (f := 22) rfl ?_); refine goesL_ (some 68) rfl rfl Try.func22 (by kernel_rfl) rfl #[.slice A0 l0.length c0] rfl (by (try simp only [List.map_toArray, List.map_cons, List.map_nil]); first | done | rfl | (simp only [List.length_drop, List.length_take]; rfl)) ?_; (with_reducible refine (book_Root.calls kj10 _ _ l0 t278 t279 _ ?side1 ?side2 A30.out).mono ?_); (case side1 => repeat (first | exact (Kd.C_below HR0.out HB.out) | (with_reducible refine Kd.C_alloc ?_ _) | (with_reducible refine Kd.C_drewN ?_ _) | (with_reducible refine Kd.C_drew ?_))); (case side2 => exact HC0.out); rintro e w48 ⟨rfl, hb⟩; refine ⟨_, rfl, ?_⟩; have n0_ := Aside0.mk (Kd.R_below (by (with_reducible repeat (first | apply Kd.R_alloc | apply Kd.R_drewN | apply Kd.R_drew)); exact HO_5.out) hb); have n1_ := Aside0.mk (below_step (by repeat (first | (with_reducible first | exact HB.out | apply below_alloc | apply pw_below_drewN | apply below_drew1) | exact HB.out)) hb); clear HO_5; clear HB; have HO_5 := n0_; have HB := n1_; clear n0_ n1_; (try clear hb); (try clear hb2); (try clear hk); (try clear hi); obtain ⟨Ao49, co49, eo49⟩ := Kd.R_slice HO_5.out; subst eo49))
                go_ret
                exact ⟨by first | rfl | (simp [errW_none, errW_some] <;> rfl) | (simp [*, errW_none, errW_some] <;> rfl), by repeat (first | (with_reducible first | exact HB.out | apply below_alloc | apply pw_below_drewN | apply below_drew1) | exact HB.out)⟩
            · rw [if_neg c31] at H
              have c31b0 : (t274 == 0) = false := beq_eq_false_iff_ne.mpr c31
              have c31b1 : (t274 != 0) = true := bne_iff_ne.mpr c31
              obtain rfl := Option.some.inj H
              go_wp2_with (first | ((with_reducible refine gate_callee (f := 22) rfl ?_); refine goesL_ (some 68) rfl rfl Try.func22 (by kernel_rfl) rfl #[.slice A0 l0.length c0] rfl (by (try simp only [List.map_toArray, List.map_cons, List.map_nil]); first | done | rfl | (simp only [List.length_drop, List.length_take]; rfl)) ?_; (with_reducible refine (book_Root.calls kj10 _ _ l0 t278 t279 _ ?side1 ?side2 A30.out).mono ?_); (case side1 => repeat (first | exact (Kd.C_below HR0.out HB.out) | (with_reducible refine Kd.C_alloc ?_ _) | (with_reducible refine Kd.C_drewN ?_ _) | (with_reducible refine Kd.C_drew ?_))); (case side2 => exact HC0.out); rintro e w50 ⟨rfl, hb⟩; refine ⟨_, rfl, ?_⟩; have n0_ := Aside0.mk (Kd.R_below (by (with_reducible repeat (first | apply Kd.R_alloc | apply Kd.R_drewN | apply Kd.R_drew)); exact HO_5.out) hb); have n1_ := Aside0.mk (below_step (by repeat (first | (with_reducible first | exact HB.out | apply below_alloc | apply pw_below_drewN | apply below_drew1) | exact HB.out)) hb); clear HO_5; clear HB; have HO_5 := n0_; have HB := n1_; clear n0_ n1_; (try clear hb); (try clear hb2); (try clear hk); (try clear hi)))
              go_ret
              exact ⟨by first | rfl | (simp [errW_none, errW_some] <;> rfl) | (simp [*, errW_none, errW_some] <;> rfl), by repeat (first | (with_reducible first | exact HB.out | apply below_alloc | apply pw_below_drewN | apply below_drew1) | exact HB.out)⟩
          · rw [if_neg c29] at H
            have c29b0 : (t266 == 0) = false := beq_eq_false_iff_ne.mpr c29
            have c29b1 : (t266 != 0) = true := bne_iff_ne.mpr c29
            replace H := Option.bind_eq_some_iff.mp H
            obtain ⟨t283, A510, H⟩ := H
            replace H : (some t283) = some r := H
            have A51 := Aside0.mk A510
            clear A510
            obtain rfl := Option.some.inj H
            go_wp2_with (first | ((with_reducible refine gate_callee (f := 12) rfl ?_); refine goesL_ (some 65) rfl rfl Try.func12 (by kernel_rfl) rfl #[] rfl (by (try simp only [List.map_toArray, List.map_cons, List.map_nil]); first | done | rfl | (simp only [List.length_drop, List.length_take]; rfl)) ?_; (with_reducible refine (wigeonlaw09_known.calls kj10  t283 _ A51.out).mono ?_); rintro e w52 ⟨rfl, hb⟩; refine ⟨_, rfl, ?_⟩; have n0_ := Aside0.mk (Kd.R_below (by (with_reducible repeat (first | apply Kd.R_alloc | apply Kd.R_drewN | apply Kd.R_drew)); exact HO_5.out) hb); have n1_ := Aside0.mk (below_step (by repeat (first | (with_reducible first | exact HB.out | apply below_alloc | apply pw_below_drewN | apply below_drew1) | exact HB.out)) hb); clear HO_5; clear HB; have HO_5 := n0_; have HB := n1_; clear n0_ n1_; (try clear hb); (try clear hb2); (try clear hk); (try clear hi)))
            go_ret
            exact ⟨by first | rfl | (simp [errW_none, errW_some] <;> rfl) | (simp [*, errW_none, errW_some] <;> rfl), by repeat (first | (with_reducible first | exact HB.out | apply below_alloc | apply pw_below_drewN | apply below_drew1) | exact HB.out)⟩

end Go.Proofs.Ythjdocddohijnaa.BP
