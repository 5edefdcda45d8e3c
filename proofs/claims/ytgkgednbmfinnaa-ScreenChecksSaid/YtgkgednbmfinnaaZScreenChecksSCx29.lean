/- Of the text SCx29, what the row of ScreenChecks reaches. -/
import Derived.Test.YtgkgednbmfinnaaZScreenChecksSCx0
import Derived.Test.YtgkgednbmfinnaaZScreenChecksSCx17
import Derived.Test.YtgkgednbmfinnaaZScreenChecksSCx23
import Derived.Test.YtgkgednbmfinnaaZScreenChecksSCx28
namespace Go.Proofs.Ytgkgednbmfinnaa.SC
open Go.RowKit Go.Proofs.YtgkgednbmfinnaaW.PrintWords Go.Proofs.YtgkgednbmfinnaaW.PrintLast Go.Proofs.YtgkgednbmfinnaaW.PrintMore
attribute [local go_sem] max2_int min2_int max_two min_two max_three min_three max_four min_four   -- for this text's walks alone
set_option linter.unusedVariables false
set_option linter.unusedSimpArgs false

mutual
def wigeonref02_CheckWay.l0 : Nat → List (S55) → List (S23) → List (S23) → Int → Int → Int → Int → Int → Option (Int × Int)
  | 0, _, _, _, _, _, _, _, _ => none
  | k + 1, x0, x1, x3, x11, x481000, x481001, x481002, x481003 => if x11 < (x3.length : Int) then (if 0 ≤ x11 then ((wigeonref02_in.f x481000 x481001 x481002 x481003 ((rd_T23 x3 x11).f0) ((rd_T23 x3 x11).f1)).bind fun t483 => (if t483 = true then ((wigeonref02_seers.f k x0 x1 ((rd_T23 x3 x11).f0) ((rd_T23 x3 x11).f1)).bind fun t485 => (if (t485.length : Int) > 0 then (some (x11, 11)) else (if x11 > 0 then (if 0 ≤ (wrap64 (x11 - 1)) then (if (wrap64 (x11 - 1)) < (x3.length : Int) then ((wigeonref02_apart.f ((rd_T23 x3 (wrap64 (x11 - 1))).f0) ((rd_T23 x3 (wrap64 (x11 - 1))).f1) ((rd_T23 x3 x11).f0) ((rd_T23 x3 x11).f1)).bind fun t490 => (wigeonref02_CheckWay.j1 k x0 x1 x3 x11 (t490 != 1) x481000 x481001 x481002 x481003)) else (none)) else (none)) else (wigeonref02_CheckWay.j1 k x0 x1 x3 x11 false x481000 x481001 x481002 x481003)))) else (some (x11, 1)))) else (none)) else (some (wrap64 ((x3.length : Int) - 1), 0))
def wigeonref02_CheckWay.j1 : Nat → List (S55) → List (S23) → List (S23) → Int → Bool → Int → Int → Int → Int → Option (Int × Int)
  | 0, _, _, _, _, _, _, _, _, _ => none
  | k + 1, x0, x1, x3, x11, x60, x481000, x481001, x481002, x481003 => if x60 = true then (some (x11, 13)) else (if x11 > 0 then (if 0 ≤ (wrap64 (x11 - 1)) then (if (wrap64 (x11 - 1)) < (x3.length : Int) then (if 0 ≤ x11 then (if x11 < (x3.length : Int) then ((wigeonref02_sees.f k x0 ((rd_T23 x3 (wrap64 (x11 - 1))).f0) ((rd_T23 x3 (wrap64 (x11 - 1))).f1) ((rd_T23 x3 x11).f0) ((rd_T23 x3 x11).f1)).bind fun t493 => (if t493 = true then (wigeonref02_CheckWay.l0 k x0 x1 x3 (wrap64 (x11 + 1)) x481000 x481001 x481002 x481003) else (some (x11, 12)))) else (none)) else (none)) else (none)) else (none)) else (wigeonref02_CheckWay.l0 k x0 x1 x3 (wrap64 (x11 + 1)) x481000 x481001 x481002 x481003))
end
def wigeonref02_CheckWay.f (k : Nat) (l0 : List (S55)) (l1 : List (S23)) (a2_0 : Int) (a2_1 : Int) (a2_2 : Int) (a2_3 : Int) (l3 : List (S23)) : Option (Int × Int) := (wigeonref02_boxed.f k l0 l1 ([] : List (S23)) a2_0 a2_1 a2_2 a2_3).bind fun t481 => (if t481 = 0 then (if (l3.length : Int) = 0 then (some (0, 13)) else (wigeonref02_CheckWay.l0 k l0 l1 l3 0 a2_0 a2_1 a2_2 a2_3)) else (some (0, t481)))
def wigeonref02_CheckWay.T13 : Bool × List (List Nat × List Nat) := (true, [([], []), ([0], [0]), ([1], [1]), ([2], [2]), ([2], [2]), ([4, 2], [2, 4]), ([3, 5, 2], [2, 3, 5]), ([6, 2], [2, 6]), ([2], [2]), ([2], [2]), ([8, 9, 2], [2, 8, 9]), ([10, 2], [2, 10]), ([7, 11, 2, 2], [2, 7, 11]), ([12, 2], [2, 12]), ([2, 13], [2, 13])])
def wigeonref02_CheckWay.B13 : List Nat := [0, 1, 3, 7, 7, 23, 63, 127, 7, 7, 775, 1799, 4095, 8191, 16383]
theorem wigeonref02_CheckWay.tab13 : rtab .any (opsOf Try.f41 13) = wigeonref02_CheckWay.T13 := by kernel_rfl
theorem wigeonref02_CheckWay.bits13 : waitsOk wigeonref02_CheckWay.T13.2 wigeonref02_CheckWay.B13 = true := by kernel_rfl
def wigeonref02_CheckWay.T15 : Bool × List (List Nat × List Nat) := (true, [([], []), ([0], [0]), ([1], [1]), ([2], [2]), ([2], [2]), ([2], [2]), ([5, 2], [2, 5]), ([4, 6, 2], [2, 4, 6]), ([7, 2], [2, 7]), ([2], [2]), ([2], [2]), ([9, 10, 2], [2, 9, 10]), ([11, 2], [2, 11]), ([3, 8, 12, 2, 2], [2, 3, 8, 12]), ([13, 2], [2, 13]), ([2, 14], [2, 14])])
def wigeonref02_CheckWay.B15 : List Nat := [0, 1, 3, 7, 7, 7, 39, 119, 247, 7, 7, 1543, 3591, 8191, 16383, 32767]
theorem wigeonref02_CheckWay.tab15 : rtab .any (opsOf Try.f41 15) = wigeonref02_CheckWay.T15 := by kernel_rfl
theorem wigeonref02_CheckWay.bits15 : waitsOk wigeonref02_CheckWay.T15.2 wigeonref02_CheckWay.B15 = true := by kernel_rfl
set_option maxHeartbeats 8000000 in
set_option maxRecDepth 100000 in
theorem wigeonref02_CheckWay.calls (k : Nat) (A0 : Option Addr) (c0 : Nat) (l0 : List (S55)) (A1 : Option Addr) (c1 : Nat) (l1 : List (S23)) (a2_0 : Int) (a2_1 : Int) (a2_2 : Int) (a2_3 : Int) (A3 : Option Addr) (c3 : Nat) (l3 : List (S23)) (r1 : Int) (r2 : Int) (w : World) (hr0 : Kd.C k55 w A0 l0.length l0) (hc0 : l0.length ≤ c0) (hr1 : Kd.C k23 w A1 l1.length l1) (hc1 : l1.length ≤ c1) (hr3 : Kd.C k23 w A3 l3.length l3) (hc3 : l3.length ≤ c3) (h : wigeonref02_CheckWay.f k l0 l1 a2_0 a2_1 a2_2 a2_3 l3 = some (r1, r2)) :
    Calls Try.prog 41 #[.slice A0 l0.length c0, .slice A1 l1.length c1, .agg #[.int .i64 a2_0, .int .i64 a2_1, .int .i64 a2_2, .int .i64 a2_3], .slice A3 l3.length c3] w fun e w' => e = .returned (.tuple #[.int .i64 r1, .int .i64 r2]) ∧ Below w.heap.size w w' := by
  have hu44 := Try.underlying44
  have hu23 := Try.underlying23
  have HR0 := Aside0.mk hr0
  have HC0 := Aside0.mk hc0
  clear hr0 hc0
  have HR1 := Aside0.mk hr1
  have HC1 := Aside0.mk hc1
  clear hr1 hc1
  have HR3 := Aside0.mk hr3
  have HC3 := Aside0.mk hc3
  clear hr3 hc3
  have HB := Aside0.mk (Below.refl w.heap.size w)
  have H : ((wigeonref02_boxed.f k l0 l1 ([] : List (S23)) a2_0 a2_1 a2_2 a2_3).bind fun t481 => (if t481 = 0 then (if (l3.length : Int) = 0 then (some (0, 13)) else (wigeonref02_CheckWay.l0 k l0 l1 l3 0 a2_0 a2_1 a2_2 a2_3)) else (some (0, t481)))) = some (r1, r2) := h
  clear h
  replace H := Option.bind_eq_some_iff.mp H
  obtain ⟨t481, A50, H⟩ := H
  replace H : (if t481 = 0 then (if (l3.length : Int) = 0 then (some (0, 13)) else (wigeonref02_CheckWay.l0 k l0 l1 l3 0 a2_0 a2_1 a2_2 a2_3)) else (some (0, t481))) = some (r1, r2) := H
  have A5 := Aside0.mk A50
  clear A50
  by_cases c6 : t481 = 0
  · rw [if_pos c6] at H
    have c6b0 : (t481 == 0) = true := beq_iff_eq.mpr c6
    have c6b1 : (t481 != 0) = false := bne_eq_false_iff_eq.mpr c6
    clear c6
    by_cases c7 : (l3.length : Int) = 0
    · rw [if_pos c7] at H
      have c7b0 : ((l3.length : Int) == 0) = true := beq_iff_eq.mpr c7
      have c7b1 : ((l3.length : Int) != 0) = false := bne_eq_false_iff_eq.mpr c7
      clear c7
      simp only [Option.some.injEq, Prod.mk.injEq] at H
      obtain ⟨rfl, rfl⟩ := H
      go_enter Try.func41, Try.ntmps41
      go_wp2_with (first | ((with_reducible refine gate_dst (N := 6) rfl ?_); refine box_event ?hg (N := 6) ?hd (cs := #[.int .i64 a2_0, .int .i64 a2_1, .int .i64 a2_2, .int .i64 a2_3]) (t := 44) ?hr ?_; (case hd => rfl); (case hg => rfl); (case hr => first | (go_simp; done) | (go_simp; rfl)); intro gb480 hg w8 hbox hb; have n0_ := Aside0.mk (below_step (by repeat (first | (with_reducible first | exact HB.out | apply below_alloc | apply pw_below_drewN | apply below_drew1) | exact HB.out)) hb); have n1_ := Aside0.mk (hbox); have n2_ := Aside0.mk ((by rw [hg]; exact (below_size (by repeat (first | (with_reducible first | exact HB.out | apply below_alloc | apply pw_below_drewN | apply below_drew1) | exact HB.out))) : w.heap.size ≤ gb480)); have n3_ := Aside0.mk ((by rw [hg]; exact (below_size (by repeat (first | (with_reducible first | exact HB.out | apply below_alloc | apply pw_below_drewN | apply below_drew1) | exact HB.out))) : w.heap.size ≤ gb480)); clear HB; have HB := n0_; have BK480 := n1_; have GW480 := n2_; have GE480 := n3_; clear n0_ n1_ n2_ n3_; clear hb hbox hg; have hcz9_0 : w8.cell? ⟨gb480, 0, none⟩ = some (.int .i64 a2_0) := (blk_cell BK480.out 0).trans rfl; have hcz9_1 : w8.cell? ⟨gb480, 1, none⟩ = some (.int .i64 a2_1) := (blk_cell BK480.out 1).trans rfl; have hcz9_2 : w8.cell? ⟨gb480, 2, none⟩ = some (.int .i64 a2_2) := (blk_cell BK480.out 2).trans rfl; have hcz9_3 : w8.cell? ⟨gb480, 3, none⟩ = some (.int .i64 a2_3) := (blk_cell BK480.out 3).trans rfl; have hfz9_0 := blk_frozen BK480.out 0; have hfz9_1 := blk_frozen BK480.out 1; have hfz9_2 := blk_frozen BK480.out 2; have hfz9_3 := blk_frozen BK480.out 3) | ((with_reducible refine gate_callee (f := 62) rfl ?_); refine goesL_ (some 15) rfl rfl Try.func62 (by kernel_rfl) rfl #[.slice A0 l0.length c0, .slice A1 l1.length c1, .slice none 0 0, .agg #[.int .i64 a2_0, .int .i64 a2_1, .int .i64 a2_2, .int .i64 a2_3]] rfl (by (try simp only [List.map_toArray, List.map_cons, List.map_nil]); first | done | rfl | (simp only [List.length_drop, List.length_take]; rfl)) ?_; (refine (wigeonref02_boxed.calls k _ _ l0 _ _ l1 _ _ ([] : List (S23)) a2_0 a2_1 a2_2 a2_3 t481 _ ?side1 ?side2 ?side3 ?side4 ?side5 ?side6 A5.out).mono ?_); (case side1 => repeat (first | exact (Kd.C_below HR0.out HB.out) | (with_reducible refine Kd.C_alloc ?_ _) | (with_reducible refine Kd.C_drewN ?_ _) | (with_reducible refine Kd.C_drew ?_))); (case side2 => exact HC0.out); (case side3 => repeat (first | exact (Kd.C_below HR1.out HB.out) | (with_reducible refine Kd.C_alloc ?_ _) | (with_reducible refine Kd.C_drewN ?_ _) | (with_reducible refine Kd.C_drew ?_))); (case side4 => exact HC1.out); (case side5 => exact Kd.C_nil _ _); (case side6 => exact Nat.le_refl _); rintro e w10 ⟨rfl, hb⟩; refine ⟨_, rfl, ?_⟩; have n0_ := Aside0.mk (blk_below (g := gb480) (o := .cells #[.int .i64 a2_0, .int .i64 a2_1, .int .i64 a2_2, .int .i64 a2_3] 44 (0, 0)) (by (with_reducible repeat (first | refine blk_drewN ?_ _ | refine blk_drew ?_ | refine blk_alloc ?_ _)); exact BK480.out) hb); have n1_ := Aside0.mk (below_step (by repeat (first | (with_reducible first | exact HB.out | apply below_alloc | apply pw_below_drewN | apply below_drew1 | refine below_set ?_ GE480.out) | exact HB.out)) hb); clear BK480; clear HB; have BK480 := n0_; have HB := n1_; clear n0_ n1_; (try clear hb); (try clear hb2); (try clear hk); (try clear hi)))
      go_ret2
      exact ⟨by first | rfl | (simp [errW_none, errW_some] <;> rfl) | (simp [*, errW_none, errW_some] <;> rfl), by repeat (first | (with_reducible first | exact HB.out | apply below_alloc | apply pw_below_drewN | apply below_drew1 | refine below_set ?_ GE480.out) | exact HB.out)⟩
    · rw [if_neg c7] at H
      have c7b0 : ((l3.length : Int) == 0) = false := beq_eq_false_iff_ne.mpr c7
      have c7b1 : ((l3.length : Int) != 0) = true := bne_iff_ne.mpr c7
      have c7b2 : ¬ (l3 = []) := fun h_ => c7 (by rw [h_]; rfl)
      have H' := Aside0.mk H
      clear H
      go_enter Try.func41, Try.ntmps41
      go_wp2_with (first | ((with_reducible refine gate_dst (N := 6) rfl ?_); refine box_event ?hg (N := 6) ?hd (cs := #[.int .i64 a2_0, .int .i64 a2_1, .int .i64 a2_2, .int .i64 a2_3]) (t := 44) ?hr ?_; (case hd => rfl); (case hg => rfl); (case hr => first | (go_simp; done) | (go_simp; rfl)); intro gb480 hg w11 hbox hb; have n0_ := Aside0.mk (below_step (by repeat (first | (with_reducible first | exact HB.out | apply below_alloc | apply pw_below_drewN | apply below_drew1) | exact HB.out)) hb); have n1_ := Aside0.mk (hbox); have n2_ := Aside0.mk ((by rw [hg]; exact (below_size (by repeat (first | (with_reducible first | exact HB.out | apply below_alloc | apply pw_below_drewN | apply below_drew1) | exact HB.out))) : w.heap.size ≤ gb480)); have n3_ := Aside0.mk ((by rw [hg]; exact (below_size (by repeat (first | (with_reducible first | exact HB.out | apply below_alloc | apply pw_below_drewN | apply below_drew1) | exact HB.out))) : w.heap.size ≤ gb480)); clear HB; have HB := n0_; have BK480 := n1_; have GW480 := n2_; have GE480 := n3_; clear n0_ n1_ n2_ n3_; clear hb hbox hg; have hcz12_0 : w11.cell? ⟨gb480, 0, none⟩ = some (.int .i64 a2_0) := (blk_cell BK480.out 0).trans rfl; have hcz12_1 : w11.cell? ⟨gb480, 1, none⟩ = some (.int .i64 a2_1) := (blk_cell BK480.out 1).trans rfl; have hcz12_2 : w11.cell? ⟨gb480, 2, none⟩ = some (.int .i64 a2_2) := (blk_cell BK480.out 2).trans rfl; have hcz12_3 : w11.cell? ⟨gb480, 3, none⟩ = some (.int .i64 a2_3) := (blk_cell BK480.out 3).trans rfl; have hfz12_0 := blk_frozen BK480.out 0; have hfz12_1 := blk_frozen BK480.out 1; have hfz12_2 := blk_frozen BK480.out 2; have hfz12_3 := blk_frozen BK480.out 3) | ((with_reducible refine gate_callee (f := 62) rfl ?_); refine goesL_ (some 15) rfl rfl Try.func62 (by kernel_rfl) rfl #[.slice A0 l0.length c0, .slice A1 l1.length c1, .slice none 0 0, .agg #[.int .i64 a2_0, .int .i64 a2_1, .int .i64 a2_2, .int .i64 a2_3]] rfl (by (try simp only [List.map_toArray, List.map_cons, List.map_nil]); first | done | rfl | (simp only [List.length_drop, List.length_take]; rfl)) ?_; (refine (wigeonref02_boxed.calls k _ _ l0 _ _ l1 _ _ ([] : List (S23)) a2_0 a2_1 a2_2 a2_3 t481 _ ?side1 ?side2 ?side3 ?side4 ?side5 ?side6 A5.out).mono ?_); (case side1 => repeat (first | exact (Kd.C_below HR0.out HB.out) | (with_reducible refine Kd.C_alloc ?_ _) | (with_reducible refine Kd.C_drewN ?_ _) | (with_reducible refine Kd.C_drew ?_))); (case side2 => exact HC0.out); (case side3 => repeat (first | exact (Kd.C_below HR1.out HB.out) | (with_reducible refine Kd.C_alloc ?_ _) | (with_reducible refine Kd.C_drewN ?_ _) | (with_reducible refine Kd.C_drew ?_))); (case side4 => exact HC1.out); (case side5 => exact Kd.C_nil _ _); (case side6 => exact Nat.le_refl _); rintro e w13 ⟨rfl, hb⟩; refine ⟨_, rfl, ?_⟩; have n0_ := Aside0.mk (blk_below (g := gb480) (o := .cells #[.int .i64 a2_0, .int .i64 a2_1, .int .i64 a2_2, .int .i64 a2_3] 44 (0, 0)) (by (with_reducible repeat (first | refine blk_drewN ?_ _ | refine blk_drew ?_ | refine blk_alloc ?_ _)); exact BK480.out) hb); have n1_ := Aside0.mk (below_step (by repeat (first | (with_reducible first | exact HB.out | apply below_alloc | apply pw_below_drewN | apply below_drew1 | refine below_set ?_ GE480.out) | exact HB.out)) hb); clear BK480; clear HB; have BK480 := n0_; have HB := n1_; clear n0_ n1_; (try clear hb); (try clear hb2); (try clear hk); (try clear hi)))
      go_loopg [11] k (fun kq v11 w' => ∃ (x11_1 : Int), v11 = .int .i64 x11_1 ∧ Aside0 (wigeonref02_CheckWay.l0 kq l0 l1 l3 x11_1 a2_0 a2_1 a2_2 a2_3 = some (r1, r2)) ∧ Aside0 (kq ≤ k) ∧ Aside0 (w'.heap[gb480]? = some (.cells #[.int .i64 a2_0, .int .i64 a2_1, .int .i64 a2_2, .int .i64 a2_3] 44 (0, 0))) ∧ Aside0 (Below w.heap.size w w'))
      case atStart => exact ⟨(0), (by first | rfl | (simp; done) | (simp [*]; done)), H', ⟨Nat.le_refl _⟩, ⟨by (with_reducible repeat (first | refine blk_drewN ?_ _ | refine blk_drew ?_ | refine blk_alloc ?_ _)); exact BK480.out⟩, ⟨by repeat (first | (with_reducible first | exact HB.out | apply below_alloc | apply pw_below_drewN | apply below_drew1 | refine below_set ?_ GE480.out) | exact HB.out)⟩⟩
      case round =>
        clear H'
        try clear c1
        try clear p2
        try clear c3
        try clear c4
        try clear c6
        try clear c6b0
        try clear c6b1
        try clear c7
        try clear c7b0
        try clear c7b1
        try clear c7b2
        try clear hcz12_0
        try clear hcz12_1
        try clear hcz12_2
        try clear hcz12_3
        try clear hcz9_0
        try clear hcz9_1
        try clear hcz9_2
        try clear hcz9_3
        try clear hfz12_0
        try clear hfz12_1
        try clear hfz12_2
        try clear hfz12_3
        try clear hfz9_0
        try clear hfz9_1
        try clear hfz9_2
        try clear hfz9_3
        obtain ⟨x11_1, rfl, HA, HK1, BK480, HB⟩ := hrel
        cases gk with
        | zero => exact absurd HA.out (by simp [wigeonref02_CheckWay.l0])
        | succ k1 =>
          have H := HA.out
          clear HA
          simp only [wigeonref02_CheckWay.l0] at H
          by_cases c14 : x11_1 < (l3.length : Int)
          · rw [if_pos c14] at H
            have c14b0 : decide (x11_1 < (l3.length : Int)) = true := decide_eq_true c14
            clear c14
            by_cases c15 : 0 ≤ x11_1
            · rw [if_pos c15] at H
              have c15b0 : decide (0 ≤ x11_1) = true := decide_eq_true c15
              clear c15
              replace H := Option.bind_eq_some_iff.mp H
              obtain ⟨t483, A160, H⟩ := H
              replace H : (if t483 = true then ((wigeonref02_seers.f k1 l0 l1 ((rd_T23 l3 x11_1).f0) ((rd_T23 l3 x11_1).f1)).bind fun t485 => (if (t485.length : Int) > 0 then (some (x11_1, 11)) else (if x11_1 > 0 then (if 0 ≤ (wrap64 (x11_1 - 1)) then (if (wrap64 (x11_1 - 1)) < (l3.length : Int) then ((wigeonref02_apart.f ((rd_T23 l3 (wrap64 (x11_1 - 1))).f0) ((rd_T23 l3 (wrap64 (x11_1 - 1))).f1) ((rd_T23 l3 x11_1).f0) ((rd_T23 l3 x11_1).f1)).bind fun t490 => (wigeonref02_CheckWay.j1 k1 l0 l1 l3 x11_1 (t490 != 1) a2_0 a2_1 a2_2 a2_3)) else (none)) else (none)) else (wigeonref02_CheckWay.j1 k1 l0 l1 l3 x11_1 false a2_0 a2_1 a2_2 a2_3)))) else (some (x11_1, 1))) = some (r1, r2) := H
              have A16 := Aside0.mk A160
              clear A160
              by_cases c17 : t483 = true
              · subst c17
                have H1 : ((wigeonref02_seers.f k1 l0 l1 ((rd_T23 l3 x11_1).f0) ((rd_T23 l3 x11_1).f1)).bind fun t485 => (if (t485.length : Int) > 0 then (some (x11_1, 11)) else (if x11_1 > 0 then (if 0 ≤ (wrap64 (x11_1 - 1)) then (if (wrap64 (x11_1 - 1)) < (l3.length : Int) then ((wigeonref02_apart.f ((rd_T23 l3 (wrap64 (x11_1 - 1))).f0) ((rd_T23 l3 (wrap64 (x11_1 - 1))).f1) ((rd_T23 l3 x11_1).f0) ((rd_T23 l3 x11_1).f1)).bind fun t490 => (wigeonref02_CheckWay.j1 k1 l0 l1 l3 x11_1 (t490 != 1) a2_0 a2_1 a2_2 a2_3)) else (none)) else (none)) else (wigeonref02_CheckWay.j1 k1 l0 l1 l3 x11_1 false a2_0 a2_1 a2_2 a2_3)))) = some (r1, r2) := by rw [if_pos rfl] at H; exact H
                clear H
                have H := H1
                clear H1
                replace H := Option.bind_eq_some_iff.mp H
                obtain ⟨t485, A180, H⟩ := H
                replace H : (if (t485.length : Int) > 0 then (some (x11_1, 11)) else (if x11_1 > 0 then (if 0 ≤ (wrap64 (x11_1 - 1)) then (if (wrap64 (x11_1 - 1)) < (l3.length : Int) then ((wigeonref02_apart.f ((rd_T23 l3 (wrap64 (x11_1 - 1))).f0) ((rd_T23 l3 (wrap64 (x11_1 - 1))).f1) ((rd_T23 l3 x11_1).f0) ((rd_T23 l3 x11_1).f1)).bind fun t490 => (wigeonref02_CheckWay.j1 k1 l0 l1 l3 x11_1 (t490 != 1) a2_0 a2_1 a2_2 a2_3)) else (none)) else (none)) else (wigeonref02_CheckWay.j1 k1 l0 l1 l3 x11_1 false a2_0 a2_1 a2_2 a2_3))) = some (r1, r2) := H
                have A18 := Aside0.mk A180
                clear A180
                by_cases c19 : (t485.length : Int) > 0
                · rw [if_pos c19] at H
                  have c19b0 : decide (0 < (t485.length : Int)) = true := decide_eq_true c19
                  have c19b1 : decide (0 < t485.length) = true := decide_eq_true (by omega)
                  clear c19
                  simp only [Option.some.injEq, Prod.mk.injEq] at H
                  obtain ⟨rfl, rfl⟩ := H
                  try go_wp2
                  have n0_ := Aside0.mk (blk_drew BK480.out)
                  have n1_ := Aside0.mk (below_drew1 HB.out)
                  clear BK480
                  clear HB
                  have BK480 := n0_
                  have HB := n1_
                  clear n0_ n1_
                  have p482 : 0 ≤ (x11_1 : Int) := of_decide_eq_true (by first | (with_reducible assumption) | assumption)
                  have q482 : x11_1 < (l3.length : Int) := of_decide_eq_true (by first | (with_reducible assumption) | assumption)
                  obtain ⟨ad482, e482, hx482_0, hx482_1⟩ := at_T23 HR3.out x11_1 p482 q482
                  have hw482_1 := hx482_1
                  have hw482_0 := hx482_0
                  cases e482
                  replace hx482_0 := (HB.out.cell (World.block_lt_of_cell? w _ hx482_0)).trans hx482_0
                  replace hx482_1 := (HB.out.cell (World.block_lt_of_cell? w _ hx482_1)).trans hx482_1
                  replace p482 := eq_true p482
                  replace q482 := eq_true q482
                  refine start_ (n := 7) (S := fun w' => w'.cell? ⟨gb480, 0, none⟩ = some (.int .i64 a2_0) ∧ w'.cell? ⟨gb480, 1, none⟩ = some (.int .i64 a2_1) ∧ w'.cell? ⟨gb480, 2, none⟩ = some (.int .i64 a2_2) ∧ w'.cell? ⟨gb480, 3, none⟩ = some (.int .i64 a2_3) ∧ w'.cell? (ad482.add ((x11_1).toNat * 2)) = some (.int .i64 ((rd_T23 l3 x11_1).f0)) ∧ w'.cell? ⟨(ad482.add ((x11_1).toNat * 2)).block, (ad482.add ((x11_1).toNat * 2)).off + 1, none⟩ = some (.int .i64 ((rd_T23 l3 x11_1).f1))) (ds := []) #[false, false, false, false, false, false, false] (by kernel_rfl) rfl rfl ⟨(blk_cell BK480.out 0).trans rfl, (blk_cell BK480.out 1).trans rfl, (blk_cell BK480.out 2).trans rfl, (blk_cell BK480.out 3).trans rfl, ((HB.out.cell (World.block_lt_of_cell? w _ hw482_0)).trans hw482_0), ((HB.out.cell (World.block_lt_of_cell? w _ hw482_1)).trans hw482_1)⟩ (fun hHeld => ?_)
                  generalize wr.drew = w20 at BK480 HB hx482_0 hx482_1 hHeld ⊢
                  refine pure_ (i := 1) (N := some 29) (v := ?_) (a' := ?_) #[false, true, false, false, false, false, false] rfl rfl (by kernel_rfl) (fun _ _ _ h => h) (Or.inl ⟨by rfl, ?_⟩) ?_ ?_
                  rotate_left
                  · intro w'
                    go_simp
                    with_reducible rfl
                  rotate_left
                  · simp only [Act.put, List.setIfInBounds_toArray, List.set_cons_zero, List.set_cons_succ, i64_w, i32_w]
                    rfl
                  refine pure_ (i := 2) (N := some 30) (v := ?_) (a' := ?_) #[false, true, true, false, false, false, false] rfl rfl (by kernel_rfl) (fun _ _ _ h => h) (Or.inl ⟨by rfl, ?_⟩) ?_ ?_
                  rotate_left
                  · intro w'
                    go_simp
                    with_reducible rfl
                  rotate_left
                  · simp only [Act.put, List.setIfInBounds_toArray, List.set_cons_zero, List.set_cons_succ, i64_w, i32_w]
                    rfl
                  refine pure_ (i := 3) (N := some 31) (v := ?_) (a' := ?_) #[false, true, true, true, false, false, false] rfl rfl (by kernel_rfl) (fun _ _ _ h => h) (Or.inl ⟨by rfl, ?_⟩) ?_ ?_
                  rotate_left
                  · intro w'
                    go_simp
                    with_reducible rfl
                  rotate_left
                  · simp only [Act.put, List.setIfInBounds_toArray, List.set_cons_zero, List.set_cons_succ, i64_w, i32_w]
                    rfl
                  refine take_ (i := 0) (N := some 28) (v := ?_) (a' := ?_) #[true, true, true, true, false, false, false] rfl rfl (by kernel_rfl) (fun _ _ _ h => h) (Or.inl ⟨by rfl, ?_⟩) hHeld ?_ ?_
                  rotate_left
                  · rintro w' ⟨s0, s1, s2, s3, s4, s5⟩
                    go_simp
                    with_reducible rfl
                  rotate_left
                  · simp only [Act.put, List.setIfInBounds_toArray, List.set_cons_zero, List.set_cons_succ, i64_w, i32_w]
                    rfl
                  refine take_ (i := 4) (N := some 32) (v := ?_) (a' := ?_) #[true, true, true, true, true, false, false] rfl rfl (by kernel_rfl) (fun _ _ _ h => h) (Or.inl ⟨by rfl, ?_⟩) hHeld ?_ ?_
                  rotate_left
                  · rintro w' ⟨s0, s1, s2, s3, s4, s5⟩
                    go_simp
                    with_reducible rfl
                  rotate_left
                  · simp only [Act.put, List.setIfInBounds_toArray, List.set_cons_zero, List.set_cons_succ, i64_w, i32_w]
                    rfl
                  refine one_ (i := 5) (N := some 33) #[true, true, true, true, true, true, false] rfl rfl (by kernel_rfl) (by decide) (fun K hK => ?_)
                  refine goes_ Try.func73 (by kernel_rfl) rfl #[.agg #[.int .i64 a2_0, .int .i64 a2_1, .int .i64 a2_2, .int .i64 a2_3], .agg #[.int .i64 ((rd_T23 l3 x11_1).f0), .int .i64 ((rd_T23 l3 x11_1).f1)]] (by rfl) rfl rfl (by (try simp only [List.map_toArray, List.map_cons, List.map_nil]); first | done | rfl | (simp only [List.length_drop, List.length_take]; rfl)) ?_
                  with_reducible refine (wigeonref02_in.calls a2_0 a2_1 a2_2 a2_3 ((rd_T23 l3 x11_1).f0) ((rd_T23 l3 x11_1).f1) true _ A16.out).mono ?_
                  rintro e w21 ⟨rfl, hb⟩
                  refine ⟨_, rfl, ?_⟩
                  have n0_ := Aside0.mk (blk_below (g := gb480) (o := .cells #[.int .i64 a2_0, .int .i64 a2_1, .int .i64 a2_2, .int .i64 a2_3] 44 (0, 0)) (by (with_reducible repeat (first | refine blk_drewN ?_ _ | refine blk_drew ?_ | refine blk_alloc ?_ _)); exact BK480.out) hb)
                  have n1_ := Aside0.mk (below_step (by repeat (first | (with_reducible first | exact HB.out | apply below_alloc | apply pw_below_drewN | apply below_drew1 | refine below_set ?_ GE480.out) | exact HB.out)) hb)
                  clear BK480
                  clear HB
                  have BK480 := n0_
                  have HB := n1_
                  clear n0_ n1_
                  (try clear hb)
                  (try clear hb2)
                  (try clear hk)
                  (try clear hi)
                  refine hK.out _ _ ⟨(blk_cell BK480.out 0).trans rfl, (blk_cell BK480.out 1).trans rfl, (blk_cell BK480.out 2).trans rfl, (blk_cell BK480.out 3).trans rfl, ((HB.out.cell (World.block_lt_of_cell? w _ hw482_0)).trans hw482_0), ((HB.out.cell (World.block_lt_of_cell? w _ hw482_1)).trans hw482_1)⟩ (fun hHeld => ?_)
                  clear hK K
                  refine norm_ (a' := ?_) ?_ ?_
                  rotate_left
                  · show Act.put _ (some 33) _ = _
                    simp only [Act.put, List.setIfInBounds_toArray, List.set_cons_zero, List.set_cons_succ, i64_w, i32_w]
                    rfl
                  refine pure_ (i := 6) (N := some 34) (v := ?_) (a' := ?_) #[true, true, true, true, true, true, true] rfl rfl (by kernel_rfl) (fun _ _ _ h => h) (Or.inl ⟨by rfl, ?_⟩) ?_ ?_
                  rotate_left
                  · intro w'
                    go_simp
                    with_reducible rfl
                  rotate_left
                  · simp only [Act.put, List.setIfInBounds_toArray, List.set_cons_zero, List.set_cons_succ, i64_w, i32_w]
                    rfl
                  refine done_ (by kernel_rfl) ?_
                  have p484 : 0 ≤ (x11_1 : Int) := of_decide_eq_true (by first | (with_reducible assumption) | assumption)
                  have q484 : x11_1 < (l3.length : Int) := of_decide_eq_true (by first | (with_reducible assumption) | assumption)
                  obtain ⟨ad484, e484, hx484_0, hx484_1⟩ := at_T23 HR3.out x11_1 p484 q484
                  obtain rfl : ad482 = ad484 := (by injection e484)
                  replace hx484_0 := (HB.out.cell (World.block_lt_of_cell? w _ hx484_0)).trans hx484_0
                  replace hx484_1 := (HB.out.cell (World.block_lt_of_cell? w _ hx484_1)).trans hx484_1
                  replace p484 := eq_true p484
                  replace q484 := eq_true q484
                  try go_wp2_with (first | ((with_reducible refine gate_callee (f := 64) rfl ?_); refine goesL_ (some 42) rfl rfl Try.func64 (by kernel_rfl) rfl #[.slice A0 l0.length c0, .slice A1 l1.length c1, .agg #[.int .i64 ((rd_T23 l3 x11_1).f0), .int .i64 ((rd_T23 l3 x11_1).f1)]] rfl (by (try simp only [List.map_toArray, List.map_cons, List.map_nil]); first | done | rfl | (simp only [List.length_drop, List.length_take]; rfl)) ?_; (with_reducible refine (wigeonref02_seers.calls k1 _ _ l0 _ _ l1 ((rd_T23 l3 x11_1).f0) ((rd_T23 l3 x11_1).f1) t485 _ ?side1 ?side2 ?side3 ?side4 A18.out).mono ?_); (case side1 => repeat (first | exact (Kd.C_below HR0.out HB.out) | (with_reducible refine Kd.C_alloc ?_ _) | (with_reducible refine Kd.C_drewN ?_ _) | (with_reducible refine Kd.C_drew ?_))); (case side2 => exact HC0.out); (case side3 => repeat (first | exact (Kd.C_below HR1.out HB.out) | (with_reducible refine Kd.C_alloc ?_ _) | (with_reducible refine Kd.C_drewN ?_ _) | (with_reducible refine Kd.C_drew ?_))); (case side4 => exact HC1.out); rintro e w22 ⟨v486, rfl, ho0, hb⟩; refine ⟨_, rfl, ?_⟩; have n0_ := Aside0.mk (Kd.R_lower ho0 (below_size (by repeat (first | (with_reducible first | exact HB.out | apply below_alloc | apply pw_below_drewN | apply below_drew1 | refine below_set ?_ GE480.out) | exact HB.out)))); have n1_ := Aside0.mk (blk_below (g := gb480) (o := .cells #[.int .i64 a2_0, .int .i64 a2_1, .int .i64 a2_2, .int .i64 a2_3] 44 (0, 0)) (by (with_reducible repeat (first | refine blk_drewN ?_ _ | refine blk_drew ?_ | refine blk_alloc ?_ _)); exact BK480.out) hb); have n2_ := Aside0.mk (below_step (by repeat (first | (with_reducible first | exact HB.out | apply below_alloc | apply pw_below_drewN | apply below_drew1 | refine below_set ?_ GE480.out) | exact HB.out)) hb); clear BK480; clear HB; have HO487 := n0_; have BK480 := n1_; have HB := n2_; clear n0_ n1_ n2_; (try clear hb); (try clear hb2); (try clear hk); (try clear hi); (try clear ho0); obtain ⟨Ao23, co23, eo23⟩ := Kd.R_slice HO487.out; subst eo23))
                  go_ret2
                  exact ⟨by first | rfl | (simp [errW_none, errW_some] <;> rfl) | (simp [*, errW_none, errW_some] <;> rfl), by repeat (first | (with_reducible first | exact HB.out | apply below_alloc | apply pw_below_drewN | apply below_drew1 | refine below_set ?_ GE480.out) | exact HB.out)⟩
                · rw [if_neg c19] at H
                  have c19b0 : decide (0 < (t485.length : Int)) = false := decide_eq_false c19
                  have c19b1 : decide (0 < t485.length) = false := decide_eq_false (by omega)
                  clear c19
                  have HC24 := Aside0.mk H
                  clear H
                  try go_wp2
                  have n0_ := Aside0.mk (blk_drew BK480.out)
                  have n1_ := Aside0.mk (below_drew1 HB.out)
                  clear BK480
                  clear HB
                  have BK480 := n0_
                  have HB := n1_
                  clear n0_ n1_
                  have p482 : 0 ≤ (x11_1 : Int) := of_decide_eq_true (by first | (with_reducible assumption) | assumption)
                  have q482 : x11_1 < (l3.length : Int) := of_decide_eq_true (by first | (with_reducible assumption) | assumption)
                  obtain ⟨ad482, e482, hx482_0, hx482_1⟩ := at_T23 HR3.out x11_1 p482 q482
                  have hw482_1 := hx482_1
                  have hw482_0 := hx482_0
                  cases e482
                  replace hx482_0 := (HB.out.cell (World.block_lt_of_cell? w _ hx482_0)).trans hx482_0
                  replace hx482_1 := (HB.out.cell (World.block_lt_of_cell? w _ hx482_1)).trans hx482_1
                  replace p482 := eq_true p482
                  replace q482 := eq_true q482
                  refine start_ (n := 7) (S := fun w' => w'.cell? ⟨gb480, 0, none⟩ = some (.int .i64 a2_0) ∧ w'.cell? ⟨gb480, 1, none⟩ = some (.int .i64 a2_1) ∧ w'.cell? ⟨gb480, 2, none⟩ = some (.int .i64 a2_2) ∧ w'.cell? ⟨gb480, 3, none⟩ = some (.int .i64 a2_3) ∧ w'.cell? (ad482.add ((x11_1).toNat * 2)) = some (.int .i64 ((rd_T23 l3 x11_1).f0)) ∧ w'.cell? ⟨(ad482.add ((x11_1).toNat * 2)).block, (ad482.add ((x11_1).toNat * 2)).off + 1, none⟩ = some (.int .i64 ((rd_T23 l3 x11_1).f1))) (ds := []) #[false, false, false, false, false, false, false] (by kernel_rfl) rfl rfl ⟨(blk_cell BK480.out 0).trans rfl, (blk_cell BK480.out 1).trans rfl, (blk_cell BK480.out 2).trans rfl, (blk_cell BK480.out 3).trans rfl, ((HB.out.cell (World.block_lt_of_cell? w _ hw482_0)).trans hw482_0), ((HB.out.cell (World.block_lt_of_cell? w _ hw482_1)).trans hw482_1)⟩ (fun hHeld => ?_)
                  generalize wr.drew = w25 at BK480 HB hx482_0 hx482_1 hHeld ⊢
                  refine pure_ (i := 1) (N := some 29) (v := ?_) (a' := ?_) #[false, true, false, false, false, false, false] rfl rfl (by kernel_rfl) (fun _ _ _ h => h) (Or.inl ⟨by rfl, ?_⟩) ?_ ?_
                  rotate_left
                  · intro w'
                    go_simp
                    with_reducible rfl
                  rotate_left
                  · simp only [Act.put, List.setIfInBounds_toArray, List.set_cons_zero, List.set_cons_succ, i64_w, i32_w]
                    rfl
                  refine pure_ (i := 2) (N := some 30) (v := ?_) (a' := ?_) #[false, true, true, false, false, false, false] rfl rfl (by kernel_rfl) (fun _ _ _ h => h) (Or.inl ⟨by rfl, ?_⟩) ?_ ?_
                  rotate_left
                  · intro w'
                    go_simp
                    with_reducible rfl
                  rotate_left
                  · simp only [Act.put, List.setIfInBounds_toArray, List.set_cons_zero, List.set_cons_succ, i64_w, i32_w]
                    rfl
                  refine pure_ (i := 3) (N := some 31) (v := ?_) (a' := ?_) #[false, true, true, true, false, false, false] rfl rfl (by kernel_rfl) (fun _ _ _ h => h) (Or.inl ⟨by rfl, ?_⟩) ?_ ?_
                  rotate_left
                  · intro w'
                    go_simp
                    with_reducible rfl
                  rotate_left
                  · simp only [Act.put, List.setIfInBounds_toArray, List.set_cons_zero, List.set_cons_succ, i64_w, i32_w]
                    rfl
                  refine take_ (i := 0) (N := some 28) (v := ?_) (a' := ?_) #[true, true, true, true, false, false, false] rfl rfl (by kernel_rfl) (fun _ _ _ h => h) (Or.inl ⟨by rfl, ?_⟩) hHeld ?_ ?_
                  rotate_left
                  · rintro w' ⟨s0, s1, s2, s3, s4, s5⟩
                    go_simp
                    with_reducible rfl
                  rotate_left
                  · simp only [Act.put, List.setIfInBounds_toArray, List.set_cons_zero, List.set_cons_succ, i64_w, i32_w]
                    rfl
                  refine take_ (i := 4) (N := some 32) (v := ?_) (a' := ?_) #[true, true, true, true, true, false, false] rfl rfl (by kernel_rfl) (fun _ _ _ h => h) (Or.inl ⟨by rfl, ?_⟩) hHeld ?_ ?_
                  rotate_left
                  · rintro w' ⟨s0, s1, s2, s3, s4, s5⟩
                    go_simp
                    with_reducible rfl
                  rotate_left
                  · simp only [Act.put, List.setIfInBounds_toArray, List.set_cons_zero, List.set_cons_succ, i64_w, i32_w]
                    rfl
                  refine one_ (i := 5) (N := some 33) #[true, true, true, true, true, true, false] rfl rfl (by kernel_rfl) (by decide) (fun K hK => ?_)
                  refine goes_ Try.func73 (by kernel_rfl) rfl #[.agg #[.int .i64 a2_0, .int .i64 a2_1, .int .i64 a2_2, .int .i64 a2_3], .agg #[.int .i64 ((rd_T23 l3 x11_1).f0), .int .i64 ((rd_T23 l3 x11_1).f1)]] (by rfl) rfl rfl (by (try simp only [List.map_toArray, List.map_cons, List.map_nil]); first | done | rfl | (simp only [List.length_drop, List.length_take]; rfl)) ?_
                  with_reducible refine (wigeonref02_in.calls a2_0 a2_1 a2_2 a2_3 ((rd_T23 l3 x11_1).f0) ((rd_T23 l3 x11_1).f1) true _ A16.out).mono ?_
                  rintro e w26 ⟨rfl, hb⟩
                  refine ⟨_, rfl, ?_⟩
                  have n0_ := Aside0.mk (blk_below (g := gb480) (o := .cells #[.int .i64 a2_0, .int .i64 a2_1, .int .i64 a2_2, .int .i64 a2_3] 44 (0, 0)) (by (with_reducible repeat (first | refine blk_drewN ?_ _ | refine blk_drew ?_ | refine blk_alloc ?_ _)); exact BK480.out) hb)
                  have n1_ := Aside0.mk (below_step (by repeat (first | (with_reducible first | exact HB.out | apply below_alloc | apply pw_below_drewN | apply below_drew1 | refine below_set ?_ GE480.out) | exact HB.out)) hb)
                  clear BK480
                  clear HB
                  have BK480 := n0_
                  have HB := n1_
                  clear n0_ n1_
                  (try clear hb)
                  (try clear hb2)
                  (try clear hk)
                  (try clear hi)
                  refine hK.out _ _ ⟨(blk_cell BK480.out 0).trans rfl, (blk_cell BK480.out 1).trans rfl, (blk_cell BK480.out 2).trans rfl, (blk_cell BK480.out 3).trans rfl, ((HB.out.cell (World.block_lt_of_cell? w _ hw482_0)).trans hw482_0), ((HB.out.cell (World.block_lt_of_cell? w _ hw482_1)).trans hw482_1)⟩ (fun hHeld => ?_)
                  clear hK K
                  refine norm_ (a' := ?_) ?_ ?_
                  rotate_left
                  · show Act.put _ (some 33) _ = _
                    simp only [Act.put, List.setIfInBounds_toArray, List.set_cons_zero, List.set_cons_succ, i64_w, i32_w]
                    rfl
                  refine pure_ (i := 6) (N := some 34) (v := ?_) (a' := ?_) #[true, true, true, true, true, true, true] rfl rfl (by kernel_rfl) (fun _ _ _ h => h) (Or.inl ⟨by rfl, ?_⟩) ?_ ?_
                  rotate_left
                  · intro w'
                    go_simp
                    with_reducible rfl
                  rotate_left
                  · simp only [Act.put, List.setIfInBounds_toArray, List.set_cons_zero, List.set_cons_succ, i64_w, i32_w]
                    rfl
                  refine done_ (by kernel_rfl) ?_
                  have p484 : 0 ≤ (x11_1 : Int) := of_decide_eq_true (by first | (with_reducible assumption) | assumption)
                  have q484 : x11_1 < (l3.length : Int) := of_decide_eq_true (by first | (with_reducible assumption) | assumption)
                  obtain ⟨ad484, e484, hx484_0, hx484_1⟩ := at_T23 HR3.out x11_1 p484 q484
                  obtain rfl : ad482 = ad484 := (by injection e484)
                  replace hx484_0 := (HB.out.cell (World.block_lt_of_cell? w _ hx484_0)).trans hx484_0
                  replace hx484_1 := (HB.out.cell (World.block_lt_of_cell? w _ hx484_1)).trans hx484_1
                  replace p484 := eq_true p484
                  replace q484 := eq_true q484
                  go_upto_region 13 with (first | ((with_reducible refine gate_callee (f := 64) rfl ?_); refine goesL_ (some 42) rfl rfl Try.func64 (by kernel_rfl) rfl #[.slice A0 l0.length c0, .slice A1 l1.length c1, .agg #[.int .i64 ((rd_T23 l3 x11_1).f0), .int .i64 ((rd_T23 l3 x11_1).f1)]] rfl (by (try simp only [List.map_toArray, List.map_cons, List.map_nil]); first | done | rfl | (simp only [List.length_drop, List.length_take]; rfl)) ?_; (with_reducible refine (wigeonref02_seers.calls k1 _ _ l0 _ _ l1 ((rd_T23 l3 x11_1).f0) ((rd_T23 l3 x11_1).f1) t485 _ ?side1 ?side2 ?side3 ?side4 A18.out).mono ?_); (case side1 => repeat (first | exact (Kd.C_below HR0.out HB.out) | (with_reducible refine Kd.C_alloc ?_ _) | (with_reducible refine Kd.C_drewN ?_ _) | (with_reducible refine Kd.C_drew ?_))); (case side2 => exact HC0.out); (case side3 => repeat (first | exact (Kd.C_below HR1.out HB.out) | (with_reducible refine Kd.C_alloc ?_ _) | (with_reducible refine Kd.C_drewN ?_ _) | (with_reducible refine Kd.C_drew ?_))); (case side4 => exact HC1.out); rintro e w27 ⟨v486, rfl, ho0, hb⟩; refine ⟨_, rfl, ?_⟩; have n0_ := Aside0.mk (Kd.R_lower ho0 (below_size (by repeat (first | (with_reducible first | exact HB.out | apply below_alloc | apply pw_below_drewN | apply below_drew1 | refine below_set ?_ GE480.out) | exact HB.out)))); have n1_ := Aside0.mk (blk_below (g := gb480) (o := .cells #[.int .i64 a2_0, .int .i64 a2_1, .int .i64 a2_2, .int .i64 a2_3] 44 (0, 0)) (by (with_reducible repeat (first | refine blk_drewN ?_ _ | refine blk_drew ?_ | refine blk_alloc ?_ _)); exact BK480.out) hb); have n2_ := Aside0.mk (below_step (by repeat (first | (with_reducible first | exact HB.out | apply below_alloc | apply pw_below_drewN | apply below_drew1 | refine below_set ?_ GE480.out) | exact HB.out)) hb); clear BK480; clear HB; have HO487 := n0_; have BK480 := n1_; have HB := n2_; clear n0_ n1_ n2_; (try clear hb); (try clear hb2); (try clear hk); (try clear hi); (try clear ho0); obtain ⟨Ao28, co28, eo28⟩ := Kd.R_slice HO487.out; subst eo28))
                  (try simp only [Act.put, List.setIfInBounds_toArray, List.set_cons_zero, List.set_cons_succ])
                  go_cut [60] (fun v60 wc => ∃ (kq : Nat) (x60_23 : Bool), v60 = .bool x60_23 ∧ Aside0 (wigeonref02_CheckWay.j1 kq l0 l1 l3 x11_1 x60_23 a2_0 a2_1 a2_2 a2_3 = some (r1, r2)) ∧ Aside0 (kq ≤ k1) ∧ Aside0 (wc.heap[gb480]? = some (.cells #[.int .i64 a2_0, .int .i64 a2_1, .int .i64 a2_2, .int .i64 a2_3] 44 (0, 0))) ∧ Aside0 (Below w.heap.size w wc))
                  case first =>
                    have H := HC24.out
                    clear HC24
                    by_cases c29 : x11_1 > 0
                    · rw [if_pos c29] at H
                      have c29b0 : decide (0 < x11_1) = true := decide_eq_true c29
                      clear c29
                      (first | rw [c29b0] | (simp only [i64_w, i32_w]; rw [c29b0]) | skip)
                      obtain ⟨ji30, hji30⟩ : ∃ j_ : Int, (wrap64 (x11_1 - 1)) = j_ := ⟨_, rfl⟩
                      replace H : (if 0 ≤ (ji30) then (if (ji30) < (l3.length : Int) then ((wigeonref02_apart.f ((rd_T23 l3 (ji30)).f0) ((rd_T23 l3 (ji30)).f1) ((rd_T23 l3 x11_1).f0) ((rd_T23 l3 x11_1).f1)).bind fun t490 => (wigeonref02_CheckWay.j1 k1 l0 l1 l3 x11_1 (t490 != 1) a2_0 a2_1 a2_2 a2_3)) else (none)) else (none)) = some (r1, r2) := by first | (rw [hji30] at H; exact H) | (simp only [hji30] at H ⊢; exact H)
                      have hji30w : (IntKind.i64.wrap (x11_1 - 1)) = ji30 := (i64_w _).trans hji30
                      by_cases c31 : 0 ≤ (ji30)
                      · rw [if_pos c31] at H
                        have c31b0 : decide (0 ≤ (ji30)) = true := decide_eq_true c31
                        clear c31
                        by_cases c32 : (ji30) < (l3.length : Int)
                        · rw [if_pos c32] at H
                          have c32b0 : decide ((ji30) < (l3.length : Int)) = true := decide_eq_true c32
                          clear c32
                          replace H := Option.bind_eq_some_iff.mp H
                          obtain ⟨t490, A330, H⟩ := H
                          replace H : (wigeonref02_CheckWay.j1 k1 l0 l1 l3 x11_1 (t490 != 1) a2_0 a2_1 a2_2 a2_3) = some (r1, r2) := H
                          have A33 := Aside0.mk A330
                          clear A330
                          have H' := Aside0.mk H
                          clear H
                          try go_wp2
                          have n0_ := Aside0.mk (Kd.R_drew HO487.out)
                          have n1_ := Aside0.mk (blk_drew BK480.out)
                          have n2_ := Aside0.mk (below_drew1 HB.out)
                          clear HO487
                          clear BK480
                          clear HB
                          have HO487 := n0_
                          have BK480 := n1_
                          have HB := n2_
                          clear n0_ n1_ n2_
                          have p488 : 0 ≤ ((ji30) : Int) := of_decide_eq_true (by first | (with_reducible assumption) | assumption)
                          have q488 : (ji30) < (l3.length : Int) := of_decide_eq_true (by first | (with_reducible assumption) | assumption)
                          obtain ⟨ad488, e488, hx488_0, hx488_1⟩ := at_T23 HR3.out (ji30) p488 q488
                          have hw488_1 := hx488_1
                          have hw488_0 := hx488_0
                          obtain rfl : ad482 = ad488 := (by injection e488)
                          replace hx488_0 := (HB.out.cell (World.block_lt_of_cell? w _ hx488_0)).trans hx488_0
                          replace hx488_1 := (HB.out.cell (World.block_lt_of_cell? w _ hx488_1)).trans hx488_1
                          replace p488 := eq_true p488
                          replace q488 := eq_true q488
                          have p489 : 0 ≤ (x11_1 : Int) := of_decide_eq_true (by first | (with_reducible assumption) | assumption)
                          have q489 : x11_1 < (l3.length : Int) := of_decide_eq_true (by first | (with_reducible assumption) | assumption)
                          obtain ⟨ad489, e489, hx489_0, hx489_1⟩ := at_T23 HR3.out x11_1 p489 q489
                          have hw489_1 := hx489_1
                          have hw489_0 := hx489_0
                          obtain rfl : ad482 = ad489 := (by injection e489)
                          replace hx489_0 := (HB.out.cell (World.block_lt_of_cell? w _ hx489_0)).trans hx489_0
                          replace hx489_1 := (HB.out.cell (World.block_lt_of_cell? w _ hx489_1)).trans hx489_1
                          replace p489 := eq_true p489
                          replace q489 := eq_true q489
                          refine start_ (n := 15) (S := fun w' => w'.cell? (ad482.add (((ji30)).toNat * 2)) = some (.int .i64 ((rd_T23 l3 (ji30)).f0)) ∧ w'.cell? ⟨(ad482.add (((ji30)).toNat * 2)).block, (ad482.add (((ji30)).toNat * 2)).off + 1, none⟩ = some (.int .i64 ((rd_T23 l3 (ji30)).f1)) ∧ w'.cell? (ad482.add ((x11_1).toNat * 2)) = some (.int .i64 ((rd_T23 l3 x11_1).f0)) ∧ w'.cell? ⟨(ad482.add ((x11_1).toNat * 2)).block, (ad482.add ((x11_1).toNat * 2)).off + 1, none⟩ = some (.int .i64 ((rd_T23 l3 x11_1).f1))) (ds := []) #[false, false, false, false, false, false, false, false, false, false, false, false, false, false, false] (by kernel_rfl) rfl rfl ⟨((HB.out.cell (World.block_lt_of_cell? w _ hw488_0)).trans hw488_0), ((HB.out.cell (World.block_lt_of_cell? w _ hw488_1)).trans hw488_1), ((HB.out.cell (World.block_lt_of_cell? w _ hw489_0)).trans hw489_0), ((HB.out.cell (World.block_lt_of_cell? w _ hw489_1)).trans hw489_1)⟩ (fun hHeld => ?_); refine with_tabW wigeonref02_CheckWay.tab13 wigeonref02_CheckWay.bits13 (fun HT_ HW_ => ?_)
                          generalize w27.drew = w34 at HO487 BK480 HB hx488_0 hx488_1 hx489_0 hx489_1 hHeld ⊢
                          refine pure_ (i := 0) (N := some 46) (v := ?_) (a' := ?_) #[true, false, false, false, false, false, false, false, false, false, false, false, false, false, false] rfl rfl (any_of HT_.out (by kernel_rfl)) (fun _ _ _ h => h) (Or.inl ⟨by rfl, ?_⟩) ?_ ?_
                          rotate_left
                          · intro w'
                            go_simp
                            with_reducible rfl
                          rotate_left
                          · simp only [Act.put, List.setIfInBounds_toArray, List.set_cons_zero, List.set_cons_succ, i64_w, i32_w]
                            rfl
                          refine pure_ (i := 1) (N := some 47) (v := ?_) (a' := ?_) #[true, true, false, false, false, false, false, false, false, false, false, false, false, false, false] rfl rfl (any_of HT_.out (by kernel_rfl)) (fun _ _ _ h => h) (Or.inl ⟨by rfl, ?_⟩) ?_ ?_
                          rotate_left
                          · intro w'
                            go_simp
                            with_reducible rfl
                          rotate_left
                          · simp only [Act.put, List.setIfInBounds_toArray, List.set_cons_zero, List.set_cons_succ, i64_w, i32_w]
                            rfl
                          refine pure_ (i := 2) (N := some 48) (v := ?_) (a' := ?_) #[true, true, true, false, false, false, false, false, false, false, false, false, false, false, false] rfl rfl (any_of HT_.out (by kernel_rfl)) (fun _ _ _ h => h) (Or.inl ⟨by rfl, ?_⟩) ?_ ?_
                          rotate_left
                          · intro w'
                            go_simp
                            with_reducible rfl
                          rotate_left
                          · simp only [Act.put, List.setIfInBounds_toArray, List.set_cons_zero, List.set_cons_succ, i64_w, i32_w]
                            rfl
                          refine pure_ (i := 3) (N := some 49) (v := ?_) (a' := ?_) #[true, true, true, true, false, false, false, false, false, false, false, false, false, false, false] rfl rfl (any_of HT_.out (by kernel_rfl)) (fun _ _ _ h => h) (Or.inl ⟨by rfl, ?_⟩) ?_ ?_
                          rotate_left
                          · intro w'
                            go_simp
                            with_reducible rfl
                          rotate_left
                          · simp only [Act.put, List.setIfInBounds_toArray, List.set_cons_zero, List.set_cons_succ, i64_w, i32_w]
                            rfl
                          refine pure_ (i := 4) (N := some 50) (v := ?_) (a' := ?_) #[true, true, true, true, true, false, false, false, false, false, false, false, false, false, false] rfl rfl (any_of HT_.out (by kernel_rfl)) (fun _ _ _ h => h) (Or.inl ⟨by rfl, ?_⟩) ?_ ?_
                          rotate_left
                          · intro w'
                            go_simp
                            with_reducible rfl
                          rotate_left
                          · simp only [Act.put, List.setIfInBounds_toArray, List.set_cons_zero, List.set_cons_succ, i64_w, i32_w]
                            rfl
                          refine pure_ (i := 5) (N := some 51) (v := ?_) (a' := ?_) #[true, true, true, true, true, true, false, false, false, false, false, false, false, false, false] rfl rfl (any_of HT_.out (by kernel_rfl)) (fun _ _ _ h => h) (Or.inl ⟨by rfl, ?_⟩) ?_ ?_
                          rotate_left
                          · intro w'
                            go_simp
                            with_reducible rfl
                          rotate_left
                          · simp only [Act.put, List.setIfInBounds_toArray, List.set_cons_zero, List.set_cons_succ, i64_w, i32_w]
                            rfl
                          refine pure_ (i := 6) (N := some 52) (v := ?_) (a' := ?_) #[true, true, true, true, true, true, true, false, false, false, false, false, false, false, false] rfl rfl (any_of HT_.out (by kernel_rfl)) (fun _ _ _ h => h) (Or.inl ⟨by rfl, ?_⟩) ?_ ?_
                          rotate_left
                          · intro w'
                            go_simp
                            with_reducible rfl
                          rotate_left
                          · simp only [Act.put, List.setIfInBounds_toArray, List.set_cons_zero, List.set_cons_succ, i64_w, i32_w]
                            rfl
                          refine pure_ (i := 8) (N := some 54) (v := ?_) (a' := ?_) #[true, true, true, true, true, true, true, false, true, false, false, false, false, false, false] rfl rfl (any_of HT_.out (by kernel_rfl)) (fun _ _ _ h => h) (Or.inl ⟨by rfl, ?_⟩) ?_ ?_
                          rotate_left
                          · intro w'
                            go_simp
                            with_reducible rfl
                          rotate_left
                          · simp only [Act.put, List.setIfInBounds_toArray, List.set_cons_zero, List.set_cons_succ, i64_w, i32_w]
                            rfl
                          refine pure_ (i := 9) (N := some 55) (v := ?_) (a' := ?_) #[true, true, true, true, true, true, true, false, true, true, false, false, false, false, false] rfl rfl (any_of HT_.out (by kernel_rfl)) (fun _ _ _ h => h) (Or.inl ⟨by rfl, ?_⟩) ?_ ?_
                          rotate_left
                          · intro w'
                            go_simp
                            with_reducible rfl
                          rotate_left
                          · simp only [Act.put, List.setIfInBounds_toArray, List.set_cons_zero, List.set_cons_succ, i64_w, i32_w]
                            rfl
                          refine pure_ (i := 10) (N := some 56) (v := ?_) (a' := ?_) #[true, true, true, true, true, true, true, false, true, true, true, false, false, false, false] rfl rfl (any_of HT_.out (by kernel_rfl)) (fun _ _ _ h => h) (Or.inl ⟨by rfl, ?_⟩) ?_ ?_
                          rotate_left
                          · intro w'
                            go_simp
                            with_reducible rfl
                          rotate_left
                          · simp only [Act.put, List.setIfInBounds_toArray, List.set_cons_zero, List.set_cons_succ, i64_w, i32_w]
                            rfl
                          refine take_ (i := 7) (N := some 53) (v := ?_) (a' := ?_) #[true, true, true, true, true, true, true, true, true, true, true, false, false, false, false] rfl rfl (take_ofW HT_.out HW_.out (by kernel_rfl)) (fun _ _ _ h => h) (Or.inl ⟨by rfl, ?_⟩) hHeld ?_ ?_
                          rotate_left
                          · rintro w' ⟨s0, s1, s2, s3⟩
                            go_simp
                            with_reducible rfl
                          rotate_left
                          · simp only [Act.put, List.setIfInBounds_toArray, List.set_cons_zero, List.set_cons_succ, i64_w, i32_w]
                            rfl
                          refine take_ (i := 11) (N := some 57) (v := ?_) (a' := ?_) #[true, true, true, true, true, true, true, true, true, true, true, true, false, false, false] rfl rfl (take_ofW HT_.out HW_.out (by kernel_rfl)) (fun _ _ _ h => h) (Or.inl ⟨by rfl, ?_⟩) hHeld ?_ ?_
                          rotate_left
                          · rintro w' ⟨s0, s1, s2, s3⟩
                            go_simp
                            with_reducible rfl
                          rotate_left
                          · simp only [Act.put, List.setIfInBounds_toArray, List.set_cons_zero, List.set_cons_succ, i64_w, i32_w]
                            rfl
                          refine one_ (i := 12) (N := some 58) #[true, true, true, true, true, true, true, true, true, true, true, true, true, false, false] rfl rfl (one_of HT_.out (by kernel_rfl)) (by decide) (fun K hK => ?_)
                          refine goes_ Try.func74 (by kernel_rfl) rfl #[.agg #[.int .i64 ((rd_T23 l3 (ji30)).f0), .int .i64 ((rd_T23 l3 (ji30)).f1)], .agg #[.int .i64 ((rd_T23 l3 x11_1).f0), .int .i64 ((rd_T23 l3 x11_1).f1)]] (by rfl) rfl rfl (by (try simp only [List.map_toArray, List.map_cons, List.map_nil]); first | done | (simp only [hji30]; rfl) | rfl | (simp only [List.length_drop, List.length_take]; rfl)) ?_
                          with_reducible refine (wigeonref02_apart.calls ((rd_T23 l3 (ji30)).f0) ((rd_T23 l3 (ji30)).f1) ((rd_T23 l3 x11_1).f0) ((rd_T23 l3 x11_1).f1) t490 _ A33.out).mono ?_
                          rintro e w35 ⟨rfl, hb⟩
                          refine ⟨_, rfl, ?_⟩
                          have n0_ := Aside0.mk (Kd.R_below (by (with_reducible repeat (first | apply Kd.R_alloc | apply Kd.R_drewN | apply Kd.R_drew)); exact HO487.out) hb)
                          have n1_ := Aside0.mk (blk_below (g := gb480) (o := .cells #[.int .i64 a2_0, .int .i64 a2_1, .int .i64 a2_2, .int .i64 a2_3] 44 (0, 0)) (by (with_reducible repeat (first | refine blk_drewN ?_ _ | refine blk_drew ?_ | refine blk_alloc ?_ _)); exact BK480.out) hb)
                          have n2_ := Aside0.mk (below_step (by repeat (first | (with_reducible first | exact HB.out | apply below_alloc | apply pw_below_drewN | apply below_drew1 | refine below_set ?_ GE480.out) | exact HB.out)) hb)
                          clear HO487
                          clear BK480
                          clear HB
                          have HO487 := n0_
                          have BK480 := n1_
                          have HB := n2_
                          clear n0_ n1_ n2_
                          (try clear hb)
                          (try clear hb2)
                          (try clear hk)
                          (try clear hi)
                          refine hK.out _ _ ⟨((HB.out.cell (World.block_lt_of_cell? w _ hw488_0)).trans hw488_0), ((HB.out.cell (World.block_lt_of_cell? w _ hw488_1)).trans hw488_1), ((HB.out.cell (World.block_lt_of_cell? w _ hw489_0)).trans hw489_0), ((HB.out.cell (World.block_lt_of_cell? w _ hw489_1)).trans hw489_1)⟩ (fun hHeld => ?_)
                          clear hK K
                          refine norm_ (a' := ?_) ?_ ?_
                          rotate_left
                          · show Act.put _ (some 58) _ = _
                            simp only [Act.put, List.setIfInBounds_toArray, List.set_cons_zero, List.set_cons_succ, i64_w, i32_w]
                            rfl
                          refine pure_ (i := 13) (N := some 59) (v := ?_) (a' := ?_) #[true, true, true, true, true, true, true, true, true, true, true, true, true, true, false] rfl rfl (any_of HT_.out (by kernel_rfl)) (fun _ _ _ h => h) (Or.inl ⟨by rfl, ?_⟩) ?_ ?_
                          rotate_left
                          · intro w'
                            go_simp
                            with_reducible rfl
                          rotate_left
                          · simp only [Act.put, List.setIfInBounds_toArray, List.set_cons_zero, List.set_cons_succ, i64_w, i32_w]
                            rfl
                          refine pure_ (i := 14) (N := some 60) (v := ?_) (a' := ?_) #[true, true, true, true, true, true, true, true, true, true, true, true, true, true, true] rfl rfl (any_of HT_.out (by kernel_rfl)) (fun _ _ _ h => h) (Or.inl ⟨by rfl, ?_⟩) ?_ ?_
                          rotate_left
                          · intro w'
                            go_simp
                            with_reducible rfl
                          rotate_left
                          · simp only [Act.put, List.setIfInBounds_toArray, List.set_cons_zero, List.set_cons_succ, i64_w, i32_w]
                            rfl
                          refine done_ (done_of HT_.out (by kernel_rfl)) ?_
                          try go_wp2
                          go_meet
                          case rel => exact ⟨_, ((t490 != 1)), (by first | rfl | (simp; done) | (simp [*]; done)), H', ⟨by have := HK1.out; first | omega | exact Nat.le_refl _⟩, ⟨by (with_reducible repeat (first | refine blk_drewN ?_ _ | refine blk_drew ?_ | refine blk_alloc ?_ _)); exact BK480.out⟩, ⟨by repeat (first | (with_reducible first | exact HB.out | apply below_alloc | apply pw_below_drewN | apply below_drew1 | refine below_set ?_ GE480.out) | exact HB.out)⟩⟩
                        · rw [if_neg c32] at H
                          exact absurd H (by simp)
                      · rw [if_neg c31] at H
                        exact absurd H (by simp)
                    · rw [if_neg c29] at H
                      have c29b0 : decide (0 < x11_1) = false := decide_eq_false c29
                      clear c29
                      (first | rw [c29b0] | (simp only [i64_w, i32_w]; rw [c29b0]) | skip)
                      have H' := Aside0.mk H
                      clear H
                      try go_wp2
                      have n0_ := Aside0.mk (Kd.R_drew HO487.out)
                      have n1_ := Aside0.mk (blk_drew BK480.out)
                      have n2_ := Aside0.mk (below_drew1 HB.out)
                      clear HO487
                      clear BK480
                      clear HB
                      have HO487 := n0_
                      have BK480 := n1_
                      have HB := n2_
                      clear n0_ n1_ n2_
                      refine start_ (n := 15) (S := fun w' => True) (ds := []) #[false, false, false, false, false, false, false, false, false, false, false, false, false, false, false] (by kernel_rfl) rfl rfl trivial (fun hHeld => ?_); refine with_tabW wigeonref02_CheckWay.tab13 wigeonref02_CheckWay.bits13 (fun HT_ HW_ => ?_)
                      generalize w27.drew = w36 at HO487 BK480 HB hHeld ⊢
                      refine pure_ (i := 0) (N := some 46) (v := ?_) (a' := ?_) #[true, false, false, false, false, false, false, false, false, false, false, false, false, false, false] rfl rfl (any_of HT_.out (by kernel_rfl)) (fun _ _ _ h => h) (Or.inl ⟨by rfl, ?_⟩) ?_ ?_
                      rotate_left
                      · intro w'
                        go_simp
                        with_reducible rfl
                      rotate_left
                      · simp only [Act.put, List.setIfInBounds_toArray, List.set_cons_zero, List.set_cons_succ, i64_w, i32_w]
                        rfl
                      refine pure_ (i := 1) (N := some 47) (v := ?_) (a' := ?_) #[true, true, false, false, false, false, false, false, false, false, false, false, false, false, false] rfl rfl (any_of HT_.out (by kernel_rfl)) (fun _ _ _ h => h) (Or.inl ⟨by rfl, ?_⟩) ?_ ?_
                      rotate_left
                      · intro w'
                        go_simp
                        with_reducible rfl
                      rotate_left
                      · simp only [Act.put, List.setIfInBounds_toArray, List.set_cons_zero, List.set_cons_succ, i64_w, i32_w]
                        rfl
                      refine pure_ (i := 2) (N := some 48) (v := ?_) (a' := ?_) #[true, true, true, false, false, false, false, false, false, false, false, false, false, false, false] rfl rfl (any_of HT_.out (by kernel_rfl)) (fun _ _ _ h => h) (Or.inl ⟨by rfl, ?_⟩) ?_ ?_
                      rotate_left
                      · intro w'
                        go_simp
                        with_reducible rfl
                      rotate_left
                      · simp only [Act.put, List.setIfInBounds_toArray, List.set_cons_zero, List.set_cons_succ, i64_w, i32_w]
                        rfl
                      refine pure_ (i := 3) (N := some 49) (v := undef) (a' := ?_) #[true, true, true, true, false, false, false, false, false, false, false, false, false, false, false] rfl rfl (any_of HT_.out (by kernel_rfl)) (fun _ _ _ h => h) (Or.inr ⟨by rfl, rfl⟩) ?_ ?_
                      rotate_left
                      · simp only [Act.put, List.setIfInBounds_toArray, List.set_cons_zero, List.set_cons_succ, i64_w, i32_w]
                        rfl
                      refine pure_ (i := 4) (N := some 50) (v := undef) (a' := ?_) #[true, true, true, true, true, false, false, false, false, false, false, false, false, false, false] rfl rfl (any_of HT_.out (by kernel_rfl)) (fun _ _ _ h => h) (Or.inr ⟨by rfl, rfl⟩) ?_ ?_
                      rotate_left
                      · simp only [Act.put, List.setIfInBounds_toArray, List.set_cons_zero, List.set_cons_succ, i64_w, i32_w]
                        rfl
                      refine pure_ (i := 5) (N := some 51) (v := undef) (a' := ?_) #[true, true, true, true, true, true, false, false, false, false, false, false, false, false, false] rfl rfl (any_of HT_.out (by kernel_rfl)) (fun _ _ _ h => h) (Or.inr ⟨by rfl, rfl⟩) ?_ ?_
                      rotate_left
                      · simp only [Act.put, List.setIfInBounds_toArray, List.set_cons_zero, List.set_cons_succ, i64_w, i32_w]
                        rfl
                      refine pure_ (i := 6) (N := some 52) (v := undef) (a' := ?_) #[true, true, true, true, true, true, true, false, false, false, false, false, false, false, false] rfl rfl (any_of HT_.out (by kernel_rfl)) (fun _ _ _ h => h) (Or.inr ⟨by rfl, rfl⟩) ?_ ?_
                      rotate_left
                      · simp only [Act.put, List.setIfInBounds_toArray, List.set_cons_zero, List.set_cons_succ, i64_w, i32_w]
                        rfl
                      refine pure_ (i := 7) (N := some 53) (v := undef) (a' := ?_) #[true, true, true, true, true, true, true, true, false, false, false, false, false, false, false] rfl rfl (any_of HT_.out (by kernel_rfl)) (fun _ _ _ h => h) (Or.inr ⟨by rfl, rfl⟩) ?_ ?_
                      rotate_left
                      · simp only [Act.put, List.setIfInBounds_toArray, List.set_cons_zero, List.set_cons_succ, i64_w, i32_w]
                        rfl
                      refine pure_ (i := 8) (N := some 54) (v := undef) (a' := ?_) #[true, true, true, true, true, true, true, true, true, false, false, false, false, false, false] rfl rfl (any_of HT_.out (by kernel_rfl)) (fun _ _ _ h => h) (Or.inr ⟨by rfl, rfl⟩) ?_ ?_
                      rotate_left
                      · simp only [Act.put, List.setIfInBounds_toArray, List.set_cons_zero, List.set_cons_succ, i64_w, i32_w]
                        rfl
                      refine pure_ (i := 9) (N := some 55) (v := undef) (a' := ?_) #[true, true, true, true, true, true, true, true, true, true, false, false, false, false, false] rfl rfl (any_of HT_.out (by kernel_rfl)) (fun _ _ _ h => h) (Or.inr ⟨by rfl, rfl⟩) ?_ ?_
                      rotate_left
                      · simp only [Act.put, List.setIfInBounds_toArray, List.set_cons_zero, List.set_cons_succ, i64_w, i32_w]
                        rfl
                      refine pure_ (i := 10) (N := some 56) (v := undef) (a' := ?_) #[true, true, true, true, true, true, true, true, true, true, true, false, false, false, false] rfl rfl (any_of HT_.out (by kernel_rfl)) (fun _ _ _ h => h) (Or.inr ⟨by rfl, rfl⟩) ?_ ?_
                      rotate_left
                      · simp only [Act.put, List.setIfInBounds_toArray, List.set_cons_zero, List.set_cons_succ, i64_w, i32_w]
                        rfl
                      refine pure_ (i := 11) (N := some 57) (v := undef) (a' := ?_) #[true, true, true, true, true, true, true, true, true, true, true, true, false, false, false] rfl rfl (any_of HT_.out (by kernel_rfl)) (fun _ _ _ h => h) (Or.inr ⟨by rfl, rfl⟩) ?_ ?_
                      rotate_left
                      · simp only [Act.put, List.setIfInBounds_toArray, List.set_cons_zero, List.set_cons_succ, i64_w, i32_w]
                        rfl
                      refine pure_ (i := 12) (N := some 58) (v := undef) (a' := ?_) #[true, true, true, true, true, true, true, true, true, true, true, true, true, false, false] rfl rfl (any_of HT_.out (by kernel_rfl)) (fun _ _ _ h => h) (Or.inr ⟨by rfl, rfl⟩) ?_ ?_
                      rotate_left
                      · simp only [Act.put, List.setIfInBounds_toArray, List.set_cons_zero, List.set_cons_succ, i64_w, i32_w]
                        rfl
                      refine pure_ (i := 13) (N := some 59) (v := undef) (a' := ?_) #[true, true, true, true, true, true, true, true, true, true, true, true, true, true, false] rfl rfl (any_of HT_.out (by kernel_rfl)) (fun _ _ _ h => h) (Or.inr ⟨by rfl, rfl⟩) ?_ ?_
                      rotate_left
                      · simp only [Act.put, List.setIfInBounds_toArray, List.set_cons_zero, List.set_cons_succ, i64_w, i32_w]
                        rfl
                      refine pure_ (i := 14) (N := some 60) (v := ?_) (a' := ?_) #[true, true, true, true, true, true, true, true, true, true, true, true, true, true, true] rfl rfl (any_of HT_.out (by kernel_rfl)) (fun _ _ _ h => h) (Or.inl ⟨by rfl, ?_⟩) ?_ ?_
                      rotate_left
                      · intro w'
                        go_simp
                        with_reducible rfl
                      rotate_left
                      · simp only [Act.put, List.setIfInBounds_toArray, List.set_cons_zero, List.set_cons_succ, i64_w, i32_w]
                        rfl
                      refine done_ (done_of HT_.out (by kernel_rfl)) ?_
                      try go_wp2
                      go_meet
                      case rel => exact ⟨_, (false), (by first | rfl | (simp; done) | (simp [*]; done)), H', ⟨by have := HK1.out; first | omega | exact Nat.le_refl _⟩, ⟨by (with_reducible repeat (first | refine blk_drewN ?_ _ | refine blk_drew ?_ | refine blk_alloc ?_ _)); exact BK480.out⟩, ⟨by repeat (first | (with_reducible first | exact HB.out | apply below_alloc | apply pw_below_drewN | apply below_drew1 | refine below_set ?_ GE480.out) | exact HB.out)⟩⟩
                  case rest =>
                    clear HC24
                    try clear c1
                    try clear c2
                    try clear p2
                    try clear c3
                    try clear c4
                    try clear p4
                    try clear q4
                    try clear hx4
                    try clear c6
                    try clear c6b0
                    try clear c6b1
                    try clear p6
                    try clear c7
                    try clear c7b0
                    try clear c7b1
                    try clear c7b2
                    try clear c14
                    try clear c14b0
                    try clear c15
                    try clear c15b0
                    try clear c17
                    try clear c19
                    try clear c19b0
                    try clear c19b1
                    try clear c29
                    try clear c29b0
                    try clear c31
                    try clear c31b0
                    try clear c32
                    try clear c32b0
                    try clear hcz12_0
                    try clear hcz12_1
                    try clear hcz12_2
                    try clear hcz12_3
                    try clear hcz9_0
                    try clear hcz9_1
                    try clear hcz9_2
                    try clear hcz9_3
                    try clear hfz12_0
                    try clear hfz12_1
                    try clear hfz12_2
                    try clear hfz12_3
                    try clear hfz9_0
                    try clear hfz9_1
                    try clear hfz9_2
                    try clear hfz9_3
                    try clear hx482_0
                    try clear hx482_1
                    try clear hx484_0
                    try clear hx484_1
                    try clear hx488_0
                    try clear hx488_1
                    try clear hx489_0
                    try clear hx489_1
                    try clear p2
                    try clear p482
                    try clear p484
                    try clear p488
                    try clear p489
                    try clear q482
                    try clear q484
                    try clear q488
                    try clear q489
                    obtain ⟨kq, x60_23, rfl, HA, HJ23, BK480, HB⟩ := hcut
                    cases kq with
                    | zero => exact absurd HA.out (by simp [wigeonref02_CheckWay.j1])
                    | succ kj23 =>
                      have H := HA.out
                      clear HA
                      simp only [wigeonref02_CheckWay.j1] at H
                      by_cases c37 : x60_23 = true
                      · subst c37
                        have H1 : (some (x11_1, 13)) = some (r1, r2) := by rw [if_pos rfl] at H; exact H
                        clear H
                        have H := H1
                        clear H1
                        simp only [Option.some.injEq, Prod.mk.injEq] at H
                        obtain ⟨rfl, rfl⟩ := H
                        go_wp2
                        go_ret2
                        exact ⟨by first | rfl | (simp [errW_none, errW_some] <;> rfl) | (simp [*, errW_none, errW_some] <;> rfl), by repeat (first | (with_reducible first | exact HB.out | apply below_alloc | apply pw_below_drewN | apply below_drew1 | refine below_set ?_ GE480.out) | exact HB.out)⟩
                      · replace c37 := Bool.eq_false_iff.mpr c37
                        subst c37
                        have H1 : (if x11_1 > 0 then (if 0 ≤ (wrap64 (x11_1 - 1)) then (if (wrap64 (x11_1 - 1)) < (l3.length : Int) then (if 0 ≤ x11_1 then (if x11_1 < (l3.length : Int) then ((wigeonref02_sees.f kj23 l0 ((rd_T23 l3 (wrap64 (x11_1 - 1))).f0) ((rd_T23 l3 (wrap64 (x11_1 - 1))).f1) ((rd_T23 l3 x11_1).f0) ((rd_T23 l3 x11_1).f1)).bind fun t493 => (if t493 = true then (wigeonref02_CheckWay.l0 kj23 l0 l1 l3 (wrap64 (x11_1 + 1)) a2_0 a2_1 a2_2 a2_3) else (some (x11_1, 12)))) else (none)) else (none)) else (none)) else (none)) else (wigeonref02_CheckWay.l0 kj23 l0 l1 l3 (wrap64 (x11_1 + 1)) a2_0 a2_1 a2_2 a2_3)) = some (r1, r2) := by rw [if_neg (show ¬ (false = true) by decide)] at H; exact H
                        clear H
                        have H := H1
                        clear H1
                        by_cases c38 : x11_1 > 0
                        · rw [if_pos c38] at H
                          have c38b0 : decide (0 < x11_1) = true := decide_eq_true c38
                          clear c38
                          obtain ⟨ji39, hji39⟩ : ∃ j_ : Int, (wrap64 (x11_1 - 1)) = j_ := ⟨_, rfl⟩
                          replace H : (if 0 ≤ (ji39) then (if (ji39) < (l3.length : Int) then (if 0 ≤ x11_1 then (if x11_1 < (l3.length : Int) then ((wigeonref02_sees.f kj23 l0 ((rd_T23 l3 (ji39)).f0) ((rd_T23 l3 (ji39)).f1) ((rd_T23 l3 x11_1).f0) ((rd_T23 l3 x11_1).f1)).bind fun t493 => (if t493 = true then (wigeonref02_CheckWay.l0 kj23 l0 l1 l3 (wrap64 (x11_1 + 1)) a2_0 a2_1 a2_2 a2_3) else (some (x11_1, 12)))) else (none)) else (none)) else (none)) else (none)) = some (r1, r2) := by first | (rw [hji39] at H; exact H) | (simp only [hji39] at H ⊢; exact H)
                          have hji39w : (IntKind.i64.wrap (x11_1 - 1)) = ji39 := (i64_w _).trans hji39
                          by_cases c40 : 0 ≤ (ji39)
                          · rw [if_pos c40] at H
                            have c40b0 : decide (0 ≤ (ji39)) = true := decide_eq_true c40
                            clear c40
                            by_cases c41 : (ji39) < (l3.length : Int)
                            · rw [if_pos c41] at H
                              have c41b0 : decide ((ji39) < (l3.length : Int)) = true := decide_eq_true c41
                              clear c41
                              by_cases c42 : 0 ≤ x11_1
                              · rw [if_pos c42] at H
                                have c42b0 : decide (0 ≤ x11_1) = true := decide_eq_true c42
                                clear c42
                                by_cases c43 : x11_1 < (l3.length : Int)
                                · rw [if_pos c43] at H
                                  have c43b0 : decide (x11_1 < (l3.length : Int)) = true := decide_eq_true c43
                                  clear c43
                                  replace H := Option.bind_eq_some_iff.mp H
                                  obtain ⟨t493, A440, H⟩ := H
                                  replace H : (if t493 = true then (wigeonref02_CheckWay.l0 kj23 l0 l1 l3 (wrap64 (x11_1 + 1)) a2_0 a2_1 a2_2 a2_3) else (some (x11_1, 12))) = some (r1, r2) := H
                                  have A44 := Aside0.mk A440
                                  clear A440
                                  by_cases c45 : t493 = true
                                  · subst c45
                                    have H1 : (wigeonref02_CheckWay.l0 kj23 l0 l1 l3 (wrap64 (x11_1 + 1)) a2_0 a2_1 a2_2 a2_3) = some (r1, r2) := by rw [if_pos rfl] at H; exact H
                                    clear H
                                    have H := H1
                                    clear H1
                                    have H' := Aside0.mk H
                                    clear H
                                    try go_wp2
                                    have n0_ := Aside0.mk (blk_drew BK480.out)
                                    have n1_ := Aside0.mk (below_drew1 HB.out)
                                    clear BK480
                                    clear HB
                                    have BK480 := n0_
                                    have HB := n1_
                                    clear n0_ n1_
                                    have p491 : 0 ≤ ((ji39) : Int) := of_decide_eq_true (by first | (with_reducible assumption) | assumption)
                                    have q491 : (ji39) < (l3.length : Int) := of_decide_eq_true (by first | (with_reducible assumption) | assumption)
                                    obtain ⟨ad491, e491, hx491_0, hx491_1⟩ := at_T23 HR3.out (ji39) p491 q491
                                    have hw491_1 := hx491_1
                                    have hw491_0 := hx491_0
                                    obtain rfl : ad482 = ad491 := (by injection e491)
                                    replace hx491_0 := (HB.out.cell (World.block_lt_of_cell? w _ hx491_0)).trans hx491_0
                                    replace hx491_1 := (HB.out.cell (World.block_lt_of_cell? w _ hx491_1)).trans hx491_1
                                    replace p491 := eq_true p491
                                    replace q491 := eq_true q491
                                    have p492 : 0 ≤ (x11_1 : Int) := of_decide_eq_true (by first | (with_reducible assumption) | assumption)
                                    have q492 : x11_1 < (l3.length : Int) := of_decide_eq_true (by first | (with_reducible assumption) | assumption)
                                    obtain ⟨ad492, e492, hx492_0, hx492_1⟩ := at_T23 HR3.out x11_1 p492 q492
                                    have hw492_1 := hx492_1
                                    have hw492_0 := hx492_0
                                    obtain rfl : ad482 = ad492 := (by injection e492)
                                    replace hx492_0 := (HB.out.cell (World.block_lt_of_cell? w _ hx492_0)).trans hx492_0
                                    replace hx492_1 := (HB.out.cell (World.block_lt_of_cell? w _ hx492_1)).trans hx492_1
                                    replace p492 := eq_true p492
                                    replace q492 := eq_true q492
                                    refine start_ (n := 16) (S := fun w' => w'.cell? (ad482.add (((ji39)).toNat * 2)) = some (.int .i64 ((rd_T23 l3 (ji39)).f0)) ∧ w'.cell? ⟨(ad482.add (((ji39)).toNat * 2)).block, (ad482.add (((ji39)).toNat * 2)).off + 1, none⟩ = some (.int .i64 ((rd_T23 l3 (ji39)).f1)) ∧ w'.cell? (ad482.add ((x11_1).toNat * 2)) = some (.int .i64 ((rd_T23 l3 x11_1).f0)) ∧ w'.cell? ⟨(ad482.add ((x11_1).toNat * 2)).block, (ad482.add ((x11_1).toNat * 2)).off + 1, none⟩ = some (.int .i64 ((rd_T23 l3 x11_1).f1))) (ds := []) #[false, false, false, false, false, false, false, false, false, false, false, false, false, false, false, false] (by kernel_rfl) rfl rfl ⟨((HB.out.cell (World.block_lt_of_cell? w _ hw491_0)).trans hw491_0), ((HB.out.cell (World.block_lt_of_cell? w _ hw491_1)).trans hw491_1), ((HB.out.cell (World.block_lt_of_cell? w _ hw492_0)).trans hw492_0), ((HB.out.cell (World.block_lt_of_cell? w _ hw492_1)).trans hw492_1)⟩ (fun hHeld => ?_); refine with_tabW wigeonref02_CheckWay.tab15 wigeonref02_CheckWay.bits15 (fun HT_ HW_ => ?_)
                                    generalize wc.drew = w46 at BK480 HB hx491_0 hx491_1 hx492_0 hx492_1 hHeld ⊢
                                    refine pure_ (i := 0) (N := some 62) (v := ?_) (a' := ?_) #[true, false, false, false, false, false, false, false, false, false, false, false, false, false, false, false] rfl rfl (any_of HT_.out (by kernel_rfl)) (fun _ _ _ h => h) (Or.inl ⟨by rfl, ?_⟩) ?_ ?_
                                    rotate_left
                                    · intro w'
                                      go_simp
                                      with_reducible rfl
                                    rotate_left
                                    · simp only [Act.put, List.setIfInBounds_toArray, List.set_cons_zero, List.set_cons_succ, i64_w, i32_w]
                                      rfl
                                    refine pure_ (i := 1) (N := some 63) (v := ?_) (a' := ?_) #[true, true, false, false, false, false, false, false, false, false, false, false, false, false, false, false] rfl rfl (any_of HT_.out (by kernel_rfl)) (fun _ _ _ h => h) (Or.inl ⟨by rfl, ?_⟩) ?_ ?_
                                    rotate_left
                                    · intro w'
                                      go_simp
                                      with_reducible rfl
                                    rotate_left
                                    · simp only [Act.put, List.setIfInBounds_toArray, List.set_cons_zero, List.set_cons_succ, i64_w, i32_w]
                                      rfl
                                    refine pure_ (i := 2) (N := some 64) (v := ?_) (a' := ?_) #[true, true, true, false, false, false, false, false, false, false, false, false, false, false, false, false] rfl rfl (any_of HT_.out (by kernel_rfl)) (fun _ _ _ h => h) (Or.inl ⟨by rfl, ?_⟩) ?_ ?_
                                    rotate_left
                                    · intro w'
                                      go_simp
                                      with_reducible rfl
                                    rotate_left
                                    · simp only [Act.put, List.setIfInBounds_toArray, List.set_cons_zero, List.set_cons_succ, i64_w, i32_w]
                                      rfl
                                    refine pure_ (i := 3) (N := some 65) (v := ?_) (a' := ?_) #[true, true, true, true, false, false, false, false, false, false, false, false, false, false, false, false] rfl rfl (any_of HT_.out (by kernel_rfl)) (fun _ _ _ h => h) (Or.inl ⟨by rfl, ?_⟩) ?_ ?_
                                    rotate_left
                                    · intro w'
                                      go_simp
                                      with_reducible rfl
                                    rotate_left
                                    · simp only [Act.put, List.setIfInBounds_toArray, List.set_cons_zero, List.set_cons_succ, i64_w, i32_w]
                                      rfl
                                    refine pure_ (i := 4) (N := some 66) (v := ?_) (a' := ?_) #[true, true, true, true, true, false, false, false, false, false, false, false, false, false, false, false] rfl rfl (any_of HT_.out (by kernel_rfl)) (fun _ _ _ h => h) (Or.inl ⟨by rfl, ?_⟩) ?_ ?_
                                    rotate_left
                                    · intro w'
                                      go_simp
                                      with_reducible rfl
                                    rotate_left
                                    · simp only [Act.put, List.setIfInBounds_toArray, List.set_cons_zero, List.set_cons_succ, i64_w, i32_w]
                                      rfl
                                    refine pure_ (i := 5) (N := some 67) (v := ?_) (a' := ?_) #[true, true, true, true, true, true, false, false, false, false, false, false, false, false, false, false] rfl rfl (any_of HT_.out (by kernel_rfl)) (fun _ _ _ h => h) (Or.inl ⟨by rfl, ?_⟩) ?_ ?_
                                    rotate_left
                                    · intro w'
                                      go_simp
                                      with_reducible rfl
                                    rotate_left
                                    · simp only [Act.put, List.setIfInBounds_toArray, List.set_cons_zero, List.set_cons_succ, i64_w, i32_w]
                                      rfl
                                    refine pure_ (i := 6) (N := some 68) (v := ?_) (a' := ?_) #[true, true, true, true, true, true, true, false, false, false, false, false, false, false, false, false] rfl rfl (any_of HT_.out (by kernel_rfl)) (fun _ _ _ h => h) (Or.inl ⟨by rfl, ?_⟩) ?_ ?_
                                    rotate_left
                                    · intro w'
                                      go_simp
                                      with_reducible rfl
                                    rotate_left
                                    · simp only [Act.put, List.setIfInBounds_toArray, List.set_cons_zero, List.set_cons_succ, i64_w, i32_w]
                                      rfl
                                    refine pure_ (i := 7) (N := some 69) (v := ?_) (a' := ?_) #[true, true, true, true, true, true, true, true, false, false, false, false, false, false, false, false] rfl rfl (any_of HT_.out (by kernel_rfl)) (fun _ _ _ h => h) (Or.inl ⟨by rfl, ?_⟩) ?_ ?_
                                    rotate_left
                                    · intro w'
                                      go_simp
                                      with_reducible rfl
                                    rotate_left
                                    · simp only [Act.put, List.setIfInBounds_toArray, List.set_cons_zero, List.set_cons_succ, i64_w, i32_w]
                                      rfl
                                    refine pure_ (i := 9) (N := some 71) (v := ?_) (a' := ?_) #[true, true, true, true, true, true, true, true, false, true, false, false, false, false, false, false] rfl rfl (any_of HT_.out (by kernel_rfl)) (fun _ _ _ h => h) (Or.inl ⟨by rfl, ?_⟩) ?_ ?_
                                    rotate_left
                                    · intro w'
                                      go_simp
                                      with_reducible rfl
                                    rotate_left
                                    · simp only [Act.put, List.setIfInBounds_toArray, List.set_cons_zero, List.set_cons_succ, i64_w, i32_w]
                                      rfl
                                    refine pure_ (i := 10) (N := some 72) (v := ?_) (a' := ?_) #[true, true, true, true, true, true, true, true, false, true, true, false, false, false, false, false] rfl rfl (any_of HT_.out (by kernel_rfl)) (fun _ _ _ h => h) (Or.inl ⟨by rfl, ?_⟩) ?_ ?_
                                    rotate_left
                                    · intro w'
                                      go_simp
                                      with_reducible rfl
                                    rotate_left
                                    · simp only [Act.put, List.setIfInBounds_toArray, List.set_cons_zero, List.set_cons_succ, i64_w, i32_w]
                                      rfl
                                    refine pure_ (i := 11) (N := some 73) (v := ?_) (a' := ?_) #[true, true, true, true, true, true, true, true, false, true, true, true, false, false, false, false] rfl rfl (any_of HT_.out (by kernel_rfl)) (fun _ _ _ h => h) (Or.inl ⟨by rfl, ?_⟩) ?_ ?_
                                    rotate_left
                                    · intro w'
                                      go_simp
                                      with_reducible rfl
                                    rotate_left
                                    · simp only [Act.put, List.setIfInBounds_toArray, List.set_cons_zero, List.set_cons_succ, i64_w, i32_w]
                                      rfl
                                    refine take_ (i := 8) (N := some 70) (v := ?_) (a' := ?_) #[true, true, true, true, true, true, true, true, true, true, true, true, false, false, false, false] rfl rfl (take_ofW HT_.out HW_.out (by kernel_rfl)) (fun _ _ _ h => h) (Or.inl ⟨by rfl, ?_⟩) hHeld ?_ ?_
                                    rotate_left
                                    · rintro w' ⟨s0, s1, s2, s3⟩
                                      go_simp
                                      with_reducible rfl
                                    rotate_left
                                    · simp only [Act.put, List.setIfInBounds_toArray, List.set_cons_zero, List.set_cons_succ, i64_w, i32_w]
                                      rfl
                                    refine take_ (i := 12) (N := some 74) (v := ?_) (a' := ?_) #[true, true, true, true, true, true, true, true, true, true, true, true, true, false, false, false] rfl rfl (take_ofW HT_.out HW_.out (by kernel_rfl)) (fun _ _ _ h => h) (Or.inl ⟨by rfl, ?_⟩) hHeld ?_ ?_
                                    rotate_left
                                    · rintro w' ⟨s0, s1, s2, s3⟩
                                      go_simp
                                      with_reducible rfl
                                    rotate_left
                                    · simp only [Act.put, List.setIfInBounds_toArray, List.set_cons_zero, List.set_cons_succ, i64_w, i32_w]
                                      rfl
                                    refine one_ (i := 13) (N := some 75) #[true, true, true, true, true, true, true, true, true, true, true, true, true, true, false, false] rfl rfl (one_of HT_.out (by kernel_rfl)) (by decide) (fun K hK => ?_)
                                    refine goes_ Try.func57 (by kernel_rfl) rfl #[.slice A0 l0.length c0, .agg #[.int .i64 ((rd_T23 l3 (ji39)).f0), .int .i64 ((rd_T23 l3 (ji39)).f1)], .agg #[.int .i64 ((rd_T23 l3 x11_1).f0), .int .i64 ((rd_T23 l3 x11_1).f1)]] (by rfl) rfl rfl (by (try simp only [List.map_toArray, List.map_cons, List.map_nil]); first | done | (simp only [hji39]; rfl) | rfl | (simp only [List.length_drop, List.length_take]; rfl)) ?_
                                    with_reducible refine (wigeonref02_sees.calls kj23 _ _ l0 ((rd_T23 l3 (ji39)).f0) ((rd_T23 l3 (ji39)).f1) ((rd_T23 l3 x11_1).f0) ((rd_T23 l3 x11_1).f1) true _ ?side1 ?side2 A44.out).mono ?_
                                    (case side1 => repeat (first | exact (Kd.C_below HR0.out HB.out) | (with_reducible refine Kd.C_alloc ?_ _) | (with_reducible refine Kd.C_drewN ?_ _) | (with_reducible refine Kd.C_drew ?_)))
                                    (case side2 => exact HC0.out)
                                    rintro e w47 ⟨rfl, hb⟩
                                    refine ⟨_, rfl, ?_⟩
                                    have n0_ := Aside0.mk (blk_below (g := gb480) (o := .cells #[.int .i64 a2_0, .int .i64 a2_1, .int .i64 a2_2, .int .i64 a2_3] 44 (0, 0)) (by (with_reducible repeat (first | refine blk_drewN ?_ _ | refine blk_drew ?_ | refine blk_alloc ?_ _)); exact BK480.out) hb)
                                    have n1_ := Aside0.mk (below_step (by repeat (first | (with_reducible first | exact HB.out | apply below_alloc | apply pw_below_drewN | apply below_drew1 | refine below_set ?_ GE480.out) | exact HB.out)) hb)
                                    clear BK480
                                    clear HB
                                    have BK480 := n0_
                                    have HB := n1_
                                    clear n0_ n1_
                                    (try clear hb)
                                    (try clear hb2)
                                    (try clear hk)
                                    (try clear hi)
                                    refine hK.out _ _ ⟨((HB.out.cell (World.block_lt_of_cell? w _ hw491_0)).trans hw491_0), ((HB.out.cell (World.block_lt_of_cell? w _ hw491_1)).trans hw491_1), ((HB.out.cell (World.block_lt_of_cell? w _ hw492_0)).trans hw492_0), ((HB.out.cell (World.block_lt_of_cell? w _ hw492_1)).trans hw492_1)⟩ (fun hHeld => ?_)
                                    clear hK K
                                    refine norm_ (a' := ?_) ?_ ?_
                                    rotate_left
                                    · show Act.put _ (some 75) _ = _
                                      simp only [Act.put, List.setIfInBounds_toArray, List.set_cons_zero, List.set_cons_succ, i64_w, i32_w]
                                      rfl
                                    refine pure_ (i := 14) (N := some 76) (v := ?_) (a' := ?_) #[true, true, true, true, true, true, true, true, true, true, true, true, true, true, true, false] rfl rfl (any_of HT_.out (by kernel_rfl)) (fun _ _ _ h => h) (Or.inl ⟨by rfl, ?_⟩) ?_ ?_
                                    rotate_left
                                    · intro w'
                                      go_simp
                                      with_reducible rfl
                                    rotate_left
                                    · simp only [Act.put, List.setIfInBounds_toArray, List.set_cons_zero, List.set_cons_succ, i64_w, i32_w]
                                      rfl
                                    refine pure_ (i := 15) (N := some 77) (v := ?_) (a' := ?_) #[true, true, true, true, true, true, true, true, true, true, true, true, true, true, true, true] rfl rfl (any_of HT_.out (by kernel_rfl)) (fun _ _ _ h => h) (Or.inl ⟨by rfl, ?_⟩) ?_ ?_
                                    rotate_left
                                    · intro w'
                                      go_simp
                                      with_reducible rfl
                                    rotate_left
                                    · simp only [Act.put, List.setIfInBounds_toArray, List.set_cons_zero, List.set_cons_succ, i64_w, i32_w]
                                      rfl
                                    refine done_ (done_of HT_.out (by kernel_rfl)) ?_
                                    try go_wp2
                                    go_roundg kj23
                                    case measure => have := HK1.out; have := HJ23.out; omega
                                    case rel => exact ⟨(wrap64 (x11_1 + 1)), (by first | rfl | (simp; done) | (simp [*]; done)), H', ⟨by have := HK1.out; have := HJ23.out; omega⟩, ⟨by (with_reducible repeat (first | refine blk_drewN ?_ _ | refine blk_drew ?_ | refine blk_alloc ?_ _)); exact BK480.out⟩, ⟨by repeat (first | (with_reducible first | exact HB.out | apply below_alloc | apply pw_below_drewN | apply below_drew1 | refine below_set ?_ GE480.out) | exact HB.out)⟩⟩
                                  · replace c45 := Bool.eq_false_iff.mpr c45
                                    subst c45
                                    have H1 : (some (x11_1, 12)) = some (r1, r2) := by rw [if_neg (show ¬ (false = true) by decide)] at H; exact H
                                    clear H
                                    have H := H1
                                    clear H1
                                    simp only [Option.some.injEq, Prod.mk.injEq] at H
                                    obtain ⟨rfl, rfl⟩ := H
                                    try go_wp2
                                    have n0_ := Aside0.mk (blk_drew BK480.out)
                                    have n1_ := Aside0.mk (below_drew1 HB.out)
                                    clear BK480
                                    clear HB
                                    have BK480 := n0_
                                    have HB := n1_
                                    clear n0_ n1_
                                    have p491 : 0 ≤ ((ji39) : Int) := of_decide_eq_true (by first | (with_reducible assumption) | assumption)
                                    have q491 : (ji39) < (l3.length : Int) := of_decide_eq_true (by first | (with_reducible assumption) | assumption)
                                    obtain ⟨ad491, e491, hx491_0, hx491_1⟩ := at_T23 HR3.out (ji39) p491 q491
                                    have hw491_1 := hx491_1
                                    have hw491_0 := hx491_0
                                    obtain rfl : ad482 = ad491 := (by injection e491)
                                    replace hx491_0 := (HB.out.cell (World.block_lt_of_cell? w _ hx491_0)).trans hx491_0
                                    replace hx491_1 := (HB.out.cell (World.block_lt_of_cell? w _ hx491_1)).trans hx491_1
                                    replace p491 := eq_true p491
                                    replace q491 := eq_true q491
                                    have p492 : 0 ≤ (x11_1 : Int) := of_decide_eq_true (by first | (with_reducible assumption) | assumption)
                                    have q492 : x11_1 < (l3.length : Int) := of_decide_eq_true (by first | (with_reducible assumption) | assumption)
                                    obtain ⟨ad492, e492, hx492_0, hx492_1⟩ := at_T23 HR3.out x11_1 p492 q492
                                    have hw492_1 := hx492_1
                                    have hw492_0 := hx492_0
                                    obtain rfl : ad482 = ad492 := (by injection e492)
                                    replace hx492_0 := (HB.out.cell (World.block_lt_of_cell? w _ hx492_0)).trans hx492_0
                                    replace hx492_1 := (HB.out.cell (World.block_lt_of_cell? w _ hx492_1)).trans hx492_1
                                    replace p492 := eq_true p492
                                    replace q492 := eq_true q492
                                    refine start_ (n := 16) (S := fun w' => w'.cell? (ad482.add (((ji39)).toNat * 2)) = some (.int .i64 ((rd_T23 l3 (ji39)).f0)) ∧ w'.cell? ⟨(ad482.add (((ji39)).toNat * 2)).block, (ad482.add (((ji39)).toNat * 2)).off + 1, none⟩ = some (.int .i64 ((rd_T23 l3 (ji39)).f1)) ∧ w'.cell? (ad482.add ((x11_1).toNat * 2)) = some (.int .i64 ((rd_T23 l3 x11_1).f0)) ∧ w'.cell? ⟨(ad482.add ((x11_1).toNat * 2)).block, (ad482.add ((x11_1).toNat * 2)).off + 1, none⟩ = some (.int .i64 ((rd_T23 l3 x11_1).f1))) (ds := []) #[false, false, false, false, false, false, false, false, false, false, false, false, false, false, false, false] (by kernel_rfl) rfl rfl ⟨((HB.out.cell (World.block_lt_of_cell? w _ hw491_0)).trans hw491_0), ((HB.out.cell (World.block_lt_of_cell? w _ hw491_1)).trans hw491_1), ((HB.out.cell (World.block_lt_of_cell? w _ hw492_0)).trans hw492_0), ((HB.out.cell (World.block_lt_of_cell? w _ hw492_1)).trans hw492_1)⟩ (fun hHeld => ?_); refine with_tabW wigeonref02_CheckWay.tab15 wigeonref02_CheckWay.bits15 (fun HT_ HW_ => ?_)
                                    generalize wc.drew = w48 at BK480 HB hx491_0 hx491_1 hx492_0 hx492_1 hHeld ⊢
                                    refine pure_ (i := 0) (N := some 62) (v := ?_) (a' := ?_) #[true, false, false, false, false, false, false, false, false, false, false, false, false, false, false, false] rfl rfl (any_of HT_.out (by kernel_rfl)) (fun _ _ _ h => h) (Or.inl ⟨by rfl, ?_⟩) ?_ ?_
                                    rotate_left
                                    · intro w'
                                      go_simp
                                      with_reducible rfl
                                    rotate_left
                                    · simp only [Act.put, List.setIfInBounds_toArray, List.set_cons_zero, List.set_cons_succ, i64_w, i32_w]
                                      rfl
                                    refine pure_ (i := 1) (N := some 63) (v := ?_) (a' := ?_) #[true, true, false, false, false, false, false, false, false, false, false, false, false, false, false, false] rfl rfl (any_of HT_.out (by kernel_rfl)) (fun _ _ _ h => h) (Or.inl ⟨by rfl, ?_⟩) ?_ ?_
                                    rotate_left
                                    · intro w'
                                      go_simp
                                      with_reducible rfl
                                    rotate_left
                                    · simp only [Act.put, List.setIfInBounds_toArray, List.set_cons_zero, List.set_cons_succ, i64_w, i32_w]
                                      rfl
                                    refine pure_ (i := 2) (N := some 64) (v := ?_) (a' := ?_) #[true, true, true, false, false, false, false, false, false, false, false, false, false, false, false, false] rfl rfl (any_of HT_.out (by kernel_rfl)) (fun _ _ _ h => h) (Or.inl ⟨by rfl, ?_⟩) ?_ ?_
                                    rotate_left
                                    · intro w'
                                      go_simp
                                      with_reducible rfl
                                    rotate_left
                                    · simp only [Act.put, List.setIfInBounds_toArray, List.set_cons_zero, List.set_cons_succ, i64_w, i32_w]
                                      rfl
                                    refine pure_ (i := 3) (N := some 65) (v := ?_) (a' := ?_) #[true, true, true, true, false, false, false, false, false, false, false, false, false, false, false, false] rfl rfl (any_of HT_.out (by kernel_rfl)) (fun _ _ _ h => h) (Or.inl ⟨by rfl, ?_⟩) ?_ ?_
                                    rotate_left
                                    · intro w'
                                      go_simp
                                      with_reducible rfl
                                    rotate_left
                                    · simp only [Act.put, List.setIfInBounds_toArray, List.set_cons_zero, List.set_cons_succ, i64_w, i32_w]
                                      rfl
                                    refine pure_ (i := 4) (N := some 66) (v := ?_) (a' := ?_) #[true, true, true, true, true, false, false, false, false, false, false, false, false, false, false, false] rfl rfl (any_of HT_.out (by kernel_rfl)) (fun _ _ _ h => h) (Or.inl ⟨by rfl, ?_⟩) ?_ ?_
                                    rotate_left
                                    · intro w'
                                      go_simp
                                      with_reducible rfl
                                    rotate_left
                                    · simp only [Act.put, List.setIfInBounds_toArray, List.set_cons_zero, List.set_cons_succ, i64_w, i32_w]
                                      rfl
                                    refine pure_ (i := 5) (N := some 67) (v := ?_) (a' := ?_) #[true, true, true, true, true, true, false, false, false, false, false, false, false, false, false, false] rfl rfl (any_of HT_.out (by kernel_rfl)) (fun _ _ _ h => h) (Or.inl ⟨by rfl, ?_⟩) ?_ ?_
                                    rotate_left
                                    · intro w'
                                      go_simp
                                      with_reducible rfl
                                    rotate_left
                                    · simp only [Act.put, List.setIfInBounds_toArray, List.set_cons_zero, List.set_cons_succ, i64_w, i32_w]
                                      rfl
                                    refine pure_ (i := 6) (N := some 68) (v := ?_) (a' := ?_) #[true, true, true, true, true, true, true, false, false, false, false, false, false, false, false, false] rfl rfl (any_of HT_.out (by kernel_rfl)) (fun _ _ _ h => h) (Or.inl ⟨by rfl, ?_⟩) ?_ ?_
                                    rotate_left
                                    · intro w'
                                      go_simp
                                      with_reducible rfl
                                    rotate_left
                                    · simp only [Act.put, List.setIfInBounds_toArray, List.set_cons_zero, List.set_cons_succ, i64_w, i32_w]
                                      rfl
                                    refine pure_ (i := 7) (N := some 69) (v := ?_) (a' := ?_) #[true, true, true, true, true, true, true, true, false, false, false, false, false, false, false, false] rfl rfl (any_of HT_.out (by kernel_rfl)) (fun _ _ _ h => h) (Or.inl ⟨by rfl, ?_⟩) ?_ ?_
                                    rotate_left
                                    · intro w'
                                      go_simp
                                      with_reducible rfl
                                    rotate_left
                                    · simp only [Act.put, List.setIfInBounds_toArray, List.set_cons_zero, List.set_cons_succ, i64_w, i32_w]
                                      rfl
                                    refine pure_ (i := 9) (N := some 71) (v := ?_) (a' := ?_) #[true, true, true, true, true, true, true, true, false, true, false, false, false, false, false, false] rfl rfl (any_of HT_.out (by kernel_rfl)) (fun _ _ _ h => h) (Or.inl ⟨by rfl, ?_⟩) ?_ ?_
                                    rotate_left
                                    · intro w'
                                      go_simp
                                      with_reducible rfl
                                    rotate_left
                                    · simp only [Act.put, List.setIfInBounds_toArray, List.set_cons_zero, List.set_cons_succ, i64_w, i32_w]
                                      rfl
                                    refine pure_ (i := 10) (N := some 72) (v := ?_) (a' := ?_) #[true, true, true, true, true, true, true, true, false, true, true, false, false, false, false, false] rfl rfl (any_of HT_.out (by kernel_rfl)) (fun _ _ _ h => h) (Or.inl ⟨by rfl, ?_⟩) ?_ ?_
                                    rotate_left
                                    · intro w'
                                      go_simp
                                      with_reducible rfl
                                    rotate_left
                                    · simp only [Act.put, List.setIfInBounds_toArray, List.set_cons_zero, List.set_cons_succ, i64_w, i32_w]
                                      rfl
                                    refine pure_ (i := 11) (N := some 73) (v := ?_) (a' := ?_) #[true, true, true, true, true, true, true, true, false, true, true, true, false, false, false, false] rfl rfl (any_of HT_.out (by kernel_rfl)) (fun _ _ _ h => h) (Or.inl ⟨by rfl, ?_⟩) ?_ ?_
                                    rotate_left
                                    · intro w'
                                      go_simp
                                      with_reducible rfl
                                    rotate_left
                                    · simp only [Act.put, List.setIfInBounds_toArray, List.set_cons_zero, List.set_cons_succ, i64_w, i32_w]
                                      rfl
                                    refine take_ (i := 8) (N := some 70) (v := ?_) (a' := ?_) #[true, true, true, true, true, true, true, true, true, true, true, true, false, false, false, false] rfl rfl (take_ofW HT_.out HW_.out (by kernel_rfl)) (fun _ _ _ h => h) (Or.inl ⟨by rfl, ?_⟩) hHeld ?_ ?_
                                    rotate_left
                                    · rintro w' ⟨s0, s1, s2, s3⟩
                                      go_simp
                                      with_reducible rfl
                                    rotate_left
                                    · simp only [Act.put, List.setIfInBounds_toArray, List.set_cons_zero, List.set_cons_succ, i64_w, i32_w]
                                      rfl
                                    refine take_ (i := 12) (N := some 74) (v := ?_) (a' := ?_) #[true, true, true, true, true, true, true, true, true, true, true, true, true, false, false, false] rfl rfl (take_ofW HT_.out HW_.out (by kernel_rfl)) (fun _ _ _ h => h) (Or.inl ⟨by rfl, ?_⟩) hHeld ?_ ?_
                                    rotate_left
                                    · rintro w' ⟨s0, s1, s2, s3⟩
                                      go_simp
                                      with_reducible rfl
                                    rotate_left
                                    · simp only [Act.put, List.setIfInBounds_toArray, List.set_cons_zero, List.set_cons_succ, i64_w, i32_w]
                                      rfl
                                    refine one_ (i := 13) (N := some 75) #[true, true, true, true, true, true, true, true, true, true, true, true, true, true, false, false] rfl rfl (one_of HT_.out (by kernel_rfl)) (by decide) (fun K hK => ?_)
                                    refine goes_ Try.func57 (by kernel_rfl) rfl #[.slice A0 l0.length c0, .agg #[.int .i64 ((rd_T23 l3 (ji39)).f0), .int .i64 ((rd_T23 l3 (ji39)).f1)], .agg #[.int .i64 ((rd_T23 l3 x11_1).f0), .int .i64 ((rd_T23 l3 x11_1).f1)]] (by rfl) rfl rfl (by (try simp only [List.map_toArray, List.map_cons, List.map_nil]); first | done | (simp only [hji39]; rfl) | rfl | (simp only [List.length_drop, List.length_take]; rfl)) ?_
                                    with_reducible refine (wigeonref02_sees.calls kj23 _ _ l0 ((rd_T23 l3 (ji39)).f0) ((rd_T23 l3 (ji39)).f1) ((rd_T23 l3 x11_1).f0) ((rd_T23 l3 x11_1).f1) false _ ?side1 ?side2 A44.out).mono ?_
                                    (case side1 => repeat (first | exact (Kd.C_below HR0.out HB.out) | (with_reducible refine Kd.C_alloc ?_ _) | (with_reducible refine Kd.C_drewN ?_ _) | (with_reducible refine Kd.C_drew ?_)))
                                    (case side2 => exact HC0.out)
                                    rintro e w49 ⟨rfl, hb⟩
                                    refine ⟨_, rfl, ?_⟩
                                    have n0_ := Aside0.mk (blk_below (g := gb480) (o := .cells #[.int .i64 a2_0, .int .i64 a2_1, .int .i64 a2_2, .int .i64 a2_3] 44 (0, 0)) (by (with_reducible repeat (first | refine blk_drewN ?_ _ | refine blk_drew ?_ | refine blk_alloc ?_ _)); exact BK480.out) hb)
                                    have n1_ := Aside0.mk (below_step (by repeat (first | (with_reducible first | exact HB.out | apply below_alloc | apply pw_below_drewN | apply below_drew1 | refine below_set ?_ GE480.out) | exact HB.out)) hb)
                                    clear BK480
                                    clear HB
                                    have BK480 := n0_
                                    have HB := n1_
                                    clear n0_ n1_
                                    (try clear hb)
                                    (try clear hb2)
                                    (try clear hk)
                                    (try clear hi)
                                    refine hK.out _ _ ⟨((HB.out.cell (World.block_lt_of_cell? w _ hw491_0)).trans hw491_0), ((HB.out.cell (World.block_lt_of_cell? w _ hw491_1)).trans hw491_1), ((HB.out.cell (World.block_lt_of_cell? w _ hw492_0)).trans hw492_0), ((HB.out.cell (World.block_lt_of_cell? w _ hw492_1)).trans hw492_1)⟩ (fun hHeld => ?_)
                                    clear hK K
                                    refine norm_ (a' := ?_) ?_ ?_
                                    rotate_left
                                    · show Act.put _ (some 75) _ = _
                                      simp only [Act.put, List.setIfInBounds_toArray, List.set_cons_zero, List.set_cons_succ, i64_w, i32_w]
                                      rfl
                                    refine pure_ (i := 14) (N := some 76) (v := ?_) (a' := ?_) #[true, true, true, true, true, true, true, true, true, true, true, true, true, true, true, false] rfl rfl (any_of HT_.out (by kernel_rfl)) (fun _ _ _ h => h) (Or.inl ⟨by rfl, ?_⟩) ?_ ?_
                                    rotate_left
                                    · intro w'
                                      go_simp
                                      with_reducible rfl
                                    rotate_left
                                    · simp only [Act.put, List.setIfInBounds_toArray, List.set_cons_zero, List.set_cons_succ, i64_w, i32_w]
                                      rfl
                                    refine pure_ (i := 15) (N := some 77) (v := ?_) (a' := ?_) #[true, true, true, true, true, true, true, true, true, true, true, true, true, true, true, true] rfl rfl (any_of HT_.out (by kernel_rfl)) (fun _ _ _ h => h) (Or.inl ⟨by rfl, ?_⟩) ?_ ?_
                                    rotate_left
                                    · intro w'
                                      go_simp
                                      with_reducible rfl
                                    rotate_left
                                    · simp only [Act.put, List.setIfInBounds_toArray, List.set_cons_zero, List.set_cons_succ, i64_w, i32_w]
                                      rfl
                                    refine done_ (done_of HT_.out (by kernel_rfl)) ?_
                                    try go_wp2
                                    go_ret2
                                    exact ⟨by first | rfl | (simp [errW_none, errW_some] <;> rfl) | (simp only [← hji39]; first | rfl | (simp [errW_none, errW_some] <;> rfl)) | (simp [*, errW_none, errW_some] <;> rfl), by repeat (first | (with_reducible first | exact HB.out | apply below_alloc | apply pw_below_drewN | apply below_drew1 | refine below_set ?_ GE480.out) | exact HB.out)⟩
                                · rw [if_neg c43] at H
                                  exact absurd H (by simp)
                              · rw [if_neg c42] at H
                                exact absurd H (by simp)
                            · rw [if_neg c41] at H
                              exact absurd H (by simp)
                          · rw [if_neg c40] at H
                            exact absurd H (by simp)
                        · rw [if_neg c38] at H
                          have c38b0 : decide (0 < x11_1) = false := decide_eq_false c38
                          clear c38
                          have H' := Aside0.mk H
                          clear H
                          try go_wp2
                          have n0_ := Aside0.mk (blk_drew BK480.out)
                          have n1_ := Aside0.mk (below_drew1 HB.out)
                          clear BK480
                          clear HB
                          have BK480 := n0_
                          have HB := n1_
                          clear n0_ n1_
                          refine start_ (n := 16) (S := fun w' => True) (ds := []) #[false, false, false, false, false, false, false, false, false, false, false, false, false, false, false, false] (by kernel_rfl) rfl rfl trivial (fun hHeld => ?_); refine with_tabW wigeonref02_CheckWay.tab15 wigeonref02_CheckWay.bits15 (fun HT_ HW_ => ?_)
                          generalize wc.drew = w50 at BK480 HB hHeld ⊢
                          refine pure_ (i := 0) (N := some 62) (v := ?_) (a' := ?_) #[true, false, false, false, false, false, false, false, false, false, false, false, false, false, false, false] rfl rfl (any_of HT_.out (by kernel_rfl)) (fun _ _ _ h => h) (Or.inl ⟨by rfl, ?_⟩) ?_ ?_
                          rotate_left
                          · intro w'
                            go_simp
                            with_reducible rfl
                          rotate_left
                          · simp only [Act.put, List.setIfInBounds_toArray, List.set_cons_zero, List.set_cons_succ, i64_w, i32_w]
                            rfl
                          refine pure_ (i := 1) (N := some 63) (v := ?_) (a' := ?_) #[true, true, false, false, false, false, false, false, false, false, false, false, false, false, false, false] rfl rfl (any_of HT_.out (by kernel_rfl)) (fun _ _ _ h => h) (Or.inl ⟨by rfl, ?_⟩) ?_ ?_
                          rotate_left
                          · intro w'
                            go_simp
                            with_reducible rfl
                          rotate_left
                          · simp only [Act.put, List.setIfInBounds_toArray, List.set_cons_zero, List.set_cons_succ, i64_w, i32_w]
                            rfl
                          refine pure_ (i := 2) (N := some 64) (v := ?_) (a' := ?_) #[true, true, true, false, false, false, false, false, false, false, false, false, false, false, false, false] rfl rfl (any_of HT_.out (by kernel_rfl)) (fun _ _ _ h => h) (Or.inl ⟨by rfl, ?_⟩) ?_ ?_
                          rotate_left
                          · intro w'
                            go_simp
                            with_reducible rfl
                          rotate_left
                          · simp only [Act.put, List.setIfInBounds_toArray, List.set_cons_zero, List.set_cons_succ, i64_w, i32_w]
                            rfl
                          refine pure_ (i := 3) (N := some 65) (v := undef) (a' := ?_) #[true, true, true, true, false, false, false, false, false, false, false, false, false, false, false, false] rfl rfl (any_of HT_.out (by kernel_rfl)) (fun _ _ _ h => h) (Or.inr ⟨by rfl, rfl⟩) ?_ ?_
                          rotate_left
                          · simp only [Act.put, List.setIfInBounds_toArray, List.set_cons_zero, List.set_cons_succ, i64_w, i32_w]
                            rfl
                          refine pure_ (i := 4) (N := some 66) (v := undef) (a' := ?_) #[true, true, true, true, true, false, false, false, false, false, false, false, false, false, false, false] rfl rfl (any_of HT_.out (by kernel_rfl)) (fun _ _ _ h => h) (Or.inr ⟨by rfl, rfl⟩) ?_ ?_
                          rotate_left
                          · simp only [Act.put, List.setIfInBounds_toArray, List.set_cons_zero, List.set_cons_succ, i64_w, i32_w]
                            rfl
                          refine pure_ (i := 5) (N := some 67) (v := undef) (a' := ?_) #[true, true, true, true, true, true, false, false, false, false, false, false, false, false, false, false] rfl rfl (any_of HT_.out (by kernel_rfl)) (fun _ _ _ h => h) (Or.inr ⟨by rfl, rfl⟩) ?_ ?_
                          rotate_left
                          · simp only [Act.put, List.setIfInBounds_toArray, List.set_cons_zero, List.set_cons_succ, i64_w, i32_w]
                            rfl
                          refine pure_ (i := 6) (N := some 68) (v := undef) (a' := ?_) #[true, true, true, true, true, true, true, false, false, false, false, false, false, false, false, false] rfl rfl (any_of HT_.out (by kernel_rfl)) (fun _ _ _ h => h) (Or.inr ⟨by rfl, rfl⟩) ?_ ?_
                          rotate_left
                          · simp only [Act.put, List.setIfInBounds_toArray, List.set_cons_zero, List.set_cons_succ, i64_w, i32_w]
                            rfl
                          refine pure_ (i := 7) (N := some 69) (v := undef) (a' := ?_) #[true, true, true, true, true, true, true, true, false, false, false, false, false, false, false, false] rfl rfl (any_of HT_.out (by kernel_rfl)) (fun _ _ _ h => h) (Or.inr ⟨by rfl, rfl⟩) ?_ ?_
                          rotate_left
                          · simp only [Act.put, List.setIfInBounds_toArray, List.set_cons_zero, List.set_cons_succ, i64_w, i32_w]
                            rfl
                          refine pure_ (i := 8) (N := some 70) (v := undef) (a' := ?_) #[true, true, true, true, true, true, true, true, true, false, false, false, false, false, false, false] rfl rfl (any_of HT_.out (by kernel_rfl)) (fun _ _ _ h => h) (Or.inr ⟨by rfl, rfl⟩) ?_ ?_
                          rotate_left
                          · simp only [Act.put, List.setIfInBounds_toArray, List.set_cons_zero, List.set_cons_succ, i64_w, i32_w]
                            rfl
                          refine pure_ (i := 9) (N := some 71) (v := undef) (a' := ?_) #[true, true, true, true, true, true, true, true, true, true, false, false, false, false, false, false] rfl rfl (any_of HT_.out (by kernel_rfl)) (fun _ _ _ h => h) (Or.inr ⟨by rfl, rfl⟩) ?_ ?_
                          rotate_left
                          · simp only [Act.put, List.setIfInBounds_toArray, List.set_cons_zero, List.set_cons_succ, i64_w, i32_w]
                            rfl
                          refine pure_ (i := 10) (N := some 72) (v := undef) (a' := ?_) #[true, true, true, true, true, true, true, true, true, true, true, false, false, false, false, false] rfl rfl (any_of HT_.out (by kernel_rfl)) (fun _ _ _ h => h) (Or.inr ⟨by rfl, rfl⟩) ?_ ?_
                          rotate_left
                          · simp only [Act.put, List.setIfInBounds_toArray, List.set_cons_zero, List.set_cons_succ, i64_w, i32_w]
                            rfl
                          refine pure_ (i := 11) (N := some 73) (v := undef) (a' := ?_) #[true, true, true, true, true, true, true, true, true, true, true, true, false, false, false, false] rfl rfl (any_of HT_.out (by kernel_rfl)) (fun _ _ _ h => h) (Or.inr ⟨by rfl, rfl⟩) ?_ ?_
                          rotate_left
                          · simp only [Act.put, List.setIfInBounds_toArray, List.set_cons_zero, List.set_cons_succ, i64_w, i32_w]
                            rfl
                          refine pure_ (i := 12) (N := some 74) (v := undef) (a' := ?_) #[true, true, true, true, true, true, true, true, true, true, true, true, true, false, false, false] rfl rfl (any_of HT_.out (by kernel_rfl)) (fun _ _ _ h => h) (Or.inr ⟨by rfl, rfl⟩) ?_ ?_
                          rotate_left
                          · simp only [Act.put, List.setIfInBounds_toArray, List.set_cons_zero, List.set_cons_succ, i64_w, i32_w]
                            rfl
                          refine pure_ (i := 13) (N := some 75) (v := undef) (a' := ?_) #[true, true, true, true, true, true, true, true, true, true, true, true, true, true, false, false] rfl rfl (any_of HT_.out (by kernel_rfl)) (fun _ _ _ h => h) (Or.inr ⟨by rfl, rfl⟩) ?_ ?_
                          rotate_left
                          · simp only [Act.put, List.setIfInBounds_toArray, List.set_cons_zero, List.set_cons_succ, i64_w, i32_w]
                            rfl
                          refine pure_ (i := 14) (N := some 76) (v := undef) (a' := ?_) #[true, true, true, true, true, true, true, true, true, true, true, true, true, true, true, false] rfl rfl (any_of HT_.out (by kernel_rfl)) (fun _ _ _ h => h) (Or.inr ⟨by rfl, rfl⟩) ?_ ?_
                          rotate_left
                          · simp only [Act.put, List.setIfInBounds_toArray, List.set_cons_zero, List.set_cons_succ, i64_w, i32_w]
                            rfl
                          refine pure_ (i := 15) (N := some 77) (v := ?_) (a' := ?_) #[true, true, true, true, true, true, true, true, true, true, true, true, true, true, true, true] rfl rfl (any_of HT_.out (by kernel_rfl)) (fun _ _ _ h => h) (Or.inl ⟨by rfl, ?_⟩) ?_ ?_
                          rotate_left
                          · intro w'
                            go_simp
                            with_reducible rfl
                          rotate_left
                          · simp only [Act.put, List.setIfInBounds_toArray, List.set_cons_zero, List.set_cons_succ, i64_w, i32_w]
                            rfl
                          refine done_ (done_of HT_.out (by kernel_rfl)) ?_
                          try go_wp2
                          go_roundg kj23
                          case measure => have := HK1.out; have := HJ23.out; omega
                          case rel => exact ⟨(wrap64 (x11_1 + 1)), (by first | rfl | (simp; done) | (simp [*]; done)), H', ⟨by have := HK1.out; have := HJ23.out; omega⟩, ⟨by (with_reducible repeat (first | refine blk_drewN ?_ _ | refine blk_drew ?_ | refine blk_alloc ?_ _)); exact BK480.out⟩, ⟨by repeat (first | (with_reducible first | exact HB.out | apply below_alloc | apply pw_below_drewN | apply below_drew1 | refine below_set ?_ GE480.out) | exact HB.out)⟩⟩
              · replace c17 := Bool.eq_false_iff.mpr c17
                subst c17
                have H1 : (some (x11_1, 1)) = some (r1, r2) := by rw [if_neg (show ¬ (false = true) by decide)] at H; exact H
                clear H
                have H := H1
                clear H1
                simp only [Option.some.injEq, Prod.mk.injEq] at H
                obtain ⟨rfl, rfl⟩ := H
                try go_wp2
                have n0_ := Aside0.mk (blk_drew BK480.out)
                have n1_ := Aside0.mk (below_drew1 HB.out)
                clear BK480
                clear HB
                have BK480 := n0_
                have HB := n1_
                clear n0_ n1_
                have p482 : 0 ≤ (x11_1 : Int) := of_decide_eq_true (by first | (with_reducible assumption) | assumption)
                have q482 : x11_1 < (l3.length : Int) := of_decide_eq_true (by first | (with_reducible assumption) | assumption)
                obtain ⟨ad482, e482, hx482_0, hx482_1⟩ := at_T23 HR3.out x11_1 p482 q482
                have hw482_1 := hx482_1
                have hw482_0 := hx482_0
                cases e482
                replace hx482_0 := (HB.out.cell (World.block_lt_of_cell? w _ hx482_0)).trans hx482_0
                replace hx482_1 := (HB.out.cell (World.block_lt_of_cell? w _ hx482_1)).trans hx482_1
                replace p482 := eq_true p482
                replace q482 := eq_true q482
                refine start_ (n := 7) (S := fun w' => w'.cell? ⟨gb480, 0, none⟩ = some (.int .i64 a2_0) ∧ w'.cell? ⟨gb480, 1, none⟩ = some (.int .i64 a2_1) ∧ w'.cell? ⟨gb480, 2, none⟩ = some (.int .i64 a2_2) ∧ w'.cell? ⟨gb480, 3, none⟩ = some (.int .i64 a2_3) ∧ w'.cell? (ad482.add ((x11_1).toNat * 2)) = some (.int .i64 ((rd_T23 l3 x11_1).f0)) ∧ w'.cell? ⟨(ad482.add ((x11_1).toNat * 2)).block, (ad482.add ((x11_1).toNat * 2)).off + 1, none⟩ = some (.int .i64 ((rd_T23 l3 x11_1).f1))) (ds := []) #[false, false, false, false, false, false, false] (by kernel_rfl) rfl rfl ⟨(blk_cell BK480.out 0).trans rfl, (blk_cell BK480.out 1).trans rfl, (blk_cell BK480.out 2).trans rfl, (blk_cell BK480.out 3).trans rfl, ((HB.out.cell (World.block_lt_of_cell? w _ hw482_0)).trans hw482_0), ((HB.out.cell (World.block_lt_of_cell? w _ hw482_1)).trans hw482_1)⟩ (fun hHeld => ?_)
                generalize wr.drew = w51 at BK480 HB hx482_0 hx482_1 hHeld ⊢
                refine pure_ (i := 1) (N := some 29) (v := ?_) (a' := ?_) #[false, true, false, false, false, false, false] rfl rfl (by kernel_rfl) (fun _ _ _ h => h) (Or.inl ⟨by rfl, ?_⟩) ?_ ?_
                rotate_left
                · intro w'
                  go_simp
                  with_reducible rfl
                rotate_left
                · simp only [Act.put, List.setIfInBounds_toArray, List.set_cons_zero, List.set_cons_succ, i64_w, i32_w]
                  rfl
                refine pure_ (i := 2) (N := some 30) (v := ?_) (a' := ?_) #[false, true, true, false, false, false, false] rfl rfl (by kernel_rfl) (fun _ _ _ h => h) (Or.inl ⟨by rfl, ?_⟩) ?_ ?_
                rotate_left
                · intro w'
                  go_simp
                  with_reducible rfl
                rotate_left
                · simp only [Act.put, List.setIfInBounds_toArray, List.set_cons_zero, List.set_cons_succ, i64_w, i32_w]
                  rfl
                refine pure_ (i := 3) (N := some 31) (v := ?_) (a' := ?_) #[false, true, true, true, false, false, false] rfl rfl (by kernel_rfl) (fun _ _ _ h => h) (Or.inl ⟨by rfl, ?_⟩) ?_ ?_
                rotate_left
                · intro w'
                  go_simp
                  with_reducible rfl
                rotate_left
                · simp only [Act.put, List.setIfInBounds_toArray, List.set_cons_zero, List.set_cons_succ, i64_w, i32_w]
                  rfl
                refine take_ (i := 0) (N := some 28) (v := ?_) (a' := ?_) #[true, true, true, true, false, false, false] rfl rfl (by kernel_rfl) (fun _ _ _ h => h) (Or.inl ⟨by rfl, ?_⟩) hHeld ?_ ?_
                rotate_left
                · rintro w' ⟨s0, s1, s2, s3, s4, s5⟩
                  go_simp
                  with_reducible rfl
                rotate_left
                · simp only [Act.put, List.setIfInBounds_toArray, List.set_cons_zero, List.set_cons_succ, i64_w, i32_w]
                  rfl
                refine take_ (i := 4) (N := some 32) (v := ?_) (a' := ?_) #[true, true, true, true, true, false, false] rfl rfl (by kernel_rfl) (fun _ _ _ h => h) (Or.inl ⟨by rfl, ?_⟩) hHeld ?_ ?_
                rotate_left
                · rintro w' ⟨s0, s1, s2, s3, s4, s5⟩
                  go_simp
                  with_reducible rfl
                rotate_left
                · simp only [Act.put, List.setIfInBounds_toArray, List.set_cons_zero, List.set_cons_succ, i64_w, i32_w]
                  rfl
                refine one_ (i := 5) (N := some 33) #[true, true, true, true, true, true, false] rfl rfl (by kernel_rfl) (by decide) (fun K hK => ?_)
                refine goes_ Try.func73 (by kernel_rfl) rfl #[.agg #[.int .i64 a2_0, .int .i64 a2_1, .int .i64 a2_2, .int .i64 a2_3], .agg #[.int .i64 ((rd_T23 l3 x11_1).f0), .int .i64 ((rd_T23 l3 x11_1).f1)]] (by rfl) rfl rfl (by (try simp only [List.map_toArray, List.map_cons, List.map_nil]); first | done | rfl | (simp only [List.length_drop, List.length_take]; rfl)) ?_
                with_reducible refine (wigeonref02_in.calls a2_0 a2_1 a2_2 a2_3 ((rd_T23 l3 x11_1).f0) ((rd_T23 l3 x11_1).f1) false _ A16.out).mono ?_
                rintro e w52 ⟨rfl, hb⟩
                refine ⟨_, rfl, ?_⟩
                have n0_ := Aside0.mk (blk_below (g := gb480) (o := .cells #[.int .i64 a2_0, .int .i64 a2_1, .int .i64 a2_2, .int .i64 a2_3] 44 (0, 0)) (by (with_reducible repeat (first | refine blk_drewN ?_ _ | refine blk_drew ?_ | refine blk_alloc ?_ _)); exact BK480.out) hb)
                have n1_ := Aside0.mk (below_step (by repeat (first | (with_reducible first | exact HB.out | apply below_alloc | apply pw_below_drewN | apply below_drew1 | refine below_set ?_ GE480.out) | exact HB.out)) hb)
                clear BK480
                clear HB
                have BK480 := n0_
                have HB := n1_
                clear n0_ n1_
                (try clear hb)
                (try clear hb2)
                (try clear hk)
                (try clear hi)
                refine hK.out _ _ ⟨(blk_cell BK480.out 0).trans rfl, (blk_cell BK480.out 1).trans rfl, (blk_cell BK480.out 2).trans rfl, (blk_cell BK480.out 3).trans rfl, ((HB.out.cell (World.block_lt_of_cell? w _ hw482_0)).trans hw482_0), ((HB.out.cell (World.block_lt_of_cell? w _ hw482_1)).trans hw482_1)⟩ (fun hHeld => ?_)
                clear hK K
                refine norm_ (a' := ?_) ?_ ?_
                rotate_left
                · show Act.put _ (some 33) _ = _
                  simp only [Act.put, List.setIfInBounds_toArray, List.set_cons_zero, List.set_cons_succ, i64_w, i32_w]
                  rfl
                refine pure_ (i := 6) (N := some 34) (v := ?_) (a' := ?_) #[true, true, true, true, true, true, true] rfl rfl (by kernel_rfl) (fun _ _ _ h => h) (Or.inl ⟨by rfl, ?_⟩) ?_ ?_
                rotate_left
                · intro w'
                  go_simp
                  with_reducible rfl
                rotate_left
                · simp only [Act.put, List.setIfInBounds_toArray, List.set_cons_zero, List.set_cons_succ, i64_w, i32_w]
                  rfl
                refine done_ (by kernel_rfl) ?_
                try go_wp2
                go_ret2
                exact ⟨by first | rfl | (simp [errW_none, errW_some] <;> rfl) | (simp [*, errW_none, errW_some] <;> rfl), by repeat (first | (with_reducible first | exact HB.out | apply below_alloc | apply pw_below_drewN | apply below_drew1 | refine below_set ?_ GE480.out) | exact HB.out)⟩
            · rw [if_neg c15] at H
              exact absurd H (by simp)
          · rw [if_neg c14] at H
            have c14b0 : decide (x11_1 < (l3.length : Int)) = false := decide_eq_false c14
            clear c14
            simp only [Option.some.injEq, Prod.mk.injEq] at H
            obtain ⟨rfl, rfl⟩ := H
            go_wp2
            go_ret2
            exact ⟨by first | rfl | (simp [errW_none, errW_some] <;> rfl) | (simp [*, errW_none, errW_some] <;> rfl), by repeat (first | (with_reducible first | exact HB.out | apply below_alloc | apply pw_below_drewN | apply below_drew1 | refine below_set ?_ GE480.out) | exact HB.out)⟩
  · rw [if_neg c6] at H
    have c6b0 : (t481 == 0) = false := beq_eq_false_iff_ne.mpr c6
    have c6b1 : (t481 != 0) = true := bne_iff_ne.mpr c6
    simp only [Option.some.injEq, Prod.mk.injEq] at H
    obtain ⟨rfl, rfl⟩ := H
    go_enter Try.func41, Try.ntmps41
    go_wp2_with (first | ((with_reducible refine gate_dst (N := 6) rfl ?_); refine box_event ?hg (N := 6) ?hd (cs := #[.int .i64 a2_0, .int .i64 a2_1, .int .i64 a2_2, .int .i64 a2_3]) (t := 44) ?hr ?_; (case hd => rfl); (case hg => rfl); (case hr => first | (go_simp; done) | (go_simp; rfl)); intro gb480 hg w53 hbox hb; have n0_ := Aside0.mk (below_step (by repeat (first | (with_reducible first | exact HB.out | apply below_alloc | apply pw_below_drewN | apply below_drew1) | exact HB.out)) hb); have n1_ := Aside0.mk (hbox); have n2_ := Aside0.mk ((by rw [hg]; exact (below_size (by repeat (first | (with_reducible first | exact HB.out | apply below_alloc | apply pw_below_drewN | apply below_drew1) | exact HB.out))) : w.heap.size ≤ gb480)); have n3_ := Aside0.mk ((by rw [hg]; exact (below_size (by repeat (first | (with_reducible first | exact HB.out | apply below_alloc | apply pw_below_drewN | apply below_drew1) | exact HB.out))) : w.heap.size ≤ gb480)); clear HB; have HB := n0_; have BK480 := n1_; have GW480 := n2_; have GE480 := n3_; clear n0_ n1_ n2_ n3_; clear hb hbox hg; have hcz54_0 : w53.cell? ⟨gb480, 0, none⟩ = some (.int .i64 a2_0) := (blk_cell BK480.out 0).trans rfl; have hcz54_1 : w53.cell? ⟨gb480, 1, none⟩ = some (.int .i64 a2_1) := (blk_cell BK480.out 1).trans rfl; have hcz54_2 : w53.cell? ⟨gb480, 2, none⟩ = some (.int .i64 a2_2) := (blk_cell BK480.out 2).trans rfl; have hcz54_3 : w53.cell? ⟨gb480, 3, none⟩ = some (.int .i64 a2_3) := (blk_cell BK480.out 3).trans rfl; have hfz54_0 := blk_frozen BK480.out 0; have hfz54_1 := blk_frozen BK480.out 1; have hfz54_2 := blk_frozen BK480.out 2; have hfz54_3 := blk_frozen BK480.out 3) | ((with_reducible refine gate_callee (f := 62) rfl ?_); refine goesL_ (some 15) rfl rfl Try.func62 (by kernel_rfl) rfl #[.slice A0 l0.length c0, .slice A1 l1.length c1, .slice none 0 0, .agg #[.int .i64 a2_0, .int .i64 a2_1, .int .i64 a2_2, .int .i64 a2_3]] rfl (by (try simp only [List.map_toArray, List.map_cons, List.map_nil]); first | done | rfl | (simp only [List.length_drop, List.length_take]; rfl)) ?_; (refine (wigeonref02_boxed.calls k _ _ l0 _ _ l1 _ _ ([] : List (S23)) a2_0 a2_1 a2_2 a2_3 t481 _ ?side1 ?side2 ?side3 ?side4 ?side5 ?side6 A5.out).mono ?_); (case side1 => repeat (first | exact (Kd.C_below HR0.out HB.out) | (with_reducible refine Kd.C_alloc ?_ _) | (with_reducible refine Kd.C_drewN ?_ _) | (with_reducible refine Kd.C_drew ?_))); (case side2 => exact HC0.out); (case side3 => repeat (first | exact (Kd.C_below HR1.out HB.out) | (with_reducible refine Kd.C_alloc ?_ _) | (with_reducible refine Kd.C_drewN ?_ _) | (with_reducible refine Kd.C_drew ?_))); (case side4 => exact HC1.out); (case side5 => exact Kd.C_nil _ _); (case side6 => exact Nat.le_refl _); rintro e w55 ⟨rfl, hb⟩; refine ⟨_, rfl, ?_⟩; have n0_ := Aside0.mk (blk_below (g := gb480) (o := .cells #[.int .i64 a2_0, .int .i64 a2_1, .int .i64 a2_2, .int .i64 a2_3] 44 (0, 0)) (by (with_reducible repeat (first | refine blk_drewN ?_ _ | refine blk_drew ?_ | refine blk_alloc ?_ _)); exact BK480.out) hb); have n1_ := Aside0.mk (below_step (by repeat (first | (with_reducible first | exact HB.out | apply below_alloc | apply pw_below_drewN | apply below_drew1 | refine below_set ?_ GE480.out) | exact HB.out)) hb); clear BK480; clear HB; have BK480 := n0_; have HB := n1_; clear n0_ n1_; (try clear hb); (try clear hb2); (try clear hk); (try clear hi)))
    go_ret2
    exact ⟨by first | rfl | (simp [errW_none, errW_some] <;> rfl) | (simp [*, errW_none, errW_some] <;> rfl), by repeat (first | (with_reducible first | exact HB.out | apply below_alloc | apply pw_below_drewN | apply below_drew1 | refine below_set ?_ GE480.out) | exact HB.out)⟩

end Go.Proofs.Ytgkgednbmfinnaa.SC

