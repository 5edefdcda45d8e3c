/- Of the text SWx25, what the row of ScreenWays reaches. -/
import Derived.Test.YtieffjkplaajdaaZScreenWaysSWx0
import Derived.Test.YtieffjkplaajdaaZScreenWaysSWx19
import Derived.Test.YtieffjkplaajdaaZScreenWaysSWx21
namespace Go.Proofs.Ytieffjkplaajdaa.SW
open Go.RowKit Go.Proofs.YtieffjkplaajdaaW.PrintWords Go.Proofs.YtieffjkplaajdaaW.PrintLast Go.Proofs.YtieffjkplaajdaaW.PrintMore
open Go.Proofs.YtieffjkplaajdaaW.PrintWords renaming blk_drewN → bN, blk_drew → bD, blk_alloc → bA, below_alloc → wA, pw_below_drewN → wN, below_drew1 → wD, below_set → wS
open List renaming setIfInBounds_toArray → sA, set_cons_zero → s0, set_cons_succ → s1
open Act renaming put → ap
open Aside0 renaming mk → am
attribute [local go_sem] max2_int min2_int max_two min_two max_three min_three max_four min_four   -- for this text's walks alone
set_option linter.unusedVariables false
set_option linter.unusedSimpArgs false

mutual
def wigeonref02_CheckWay.l0 : Nat → List (S48) → List (S25) → List (S25) → Int → Int → Int → Int → Int → Option (Int × Int)
  | 0, _, _, _, _, _, _, _, _ => none
  | k + 1, x0, x1, x3, x11, x277000, x277001, x277002, x277003 => if x11 < (x3.length : Int) then (if 0 ≤ x11 then ((wigeonref02_in.f x277000 x277001 x277002 x277003 ((rd_T25 x3 x11).f0) ((rd_T25 x3 x11).f1)).bind fun t279 => (if t279 = true then ((wigeonref02_seers.f k x0 x1 ((rd_T25 x3 x11).f0) ((rd_T25 x3 x11).f1)).bind fun t281 => (if (t281.length : Int) > 0 then (some (x11, 11)) else (if x11 > 0 then (if 0 ≤ (wrap64 (x11 - 1)) then (if (wrap64 (x11 - 1)) < (x3.length : Int) then ((wigeonref02_apart.f ((rd_T25 x3 (wrap64 (x11 - 1))).f0) ((rd_T25 x3 (wrap64 (x11 - 1))).f1) ((rd_T25 x3 x11).f0) ((rd_T25 x3 x11).f1)).bind fun t286 => (wigeonref02_CheckWay.j1 k x0 x1 x3 x11 (t286 != 1) x277000 x277001 x277002 x277003)) else (none)) else (none)) else (wigeonref02_CheckWay.j1 k x0 x1 x3 x11 false x277000 x277001 x277002 x277003)))) else (some (x11, 1)))) else (none)) else (some (wrap64 ((x3.length : Int) - 1), 0))
def wigeonref02_CheckWay.j1 : Nat → List (S48) → List (S25) → List (S25) → Int → Bool → Int → Int → Int → Int → Option (Int × Int)
  | 0, _, _, _, _, _, _, _, _, _ => none
  | k + 1, x0, x1, x3, x11, x60, x277000, x277001, x277002, x277003 => if x60 = true then (some (x11, 13)) else (if x11 > 0 then (if 0 ≤ (wrap64 (x11 - 1)) then (if (wrap64 (x11 - 1)) < (x3.length : Int) then (if 0 ≤ x11 then (if x11 < (x3.length : Int) then ((wigeonref02_sees.f k x0 ((rd_T25 x3 (wrap64 (x11 - 1))).f0) ((rd_T25 x3 (wrap64 (x11 - 1))).f1) ((rd_T25 x3 x11).f0) ((rd_T25 x3 x11).f1)).bind fun t289 => (if t289 = true then (wigeonref02_CheckWay.l0 k x0 x1 x3 (wrap64 (x11 + 1)) x277000 x277001 x277002 x277003) else (some (x11, 12)))) else (none)) else (none)) else (none)) else (none)) else (wigeonref02_CheckWay.l0 k x0 x1 x3 (wrap64 (x11 + 1)) x277000 x277001 x277002 x277003))
end
def wigeonref02_CheckWay.f (k : Nat) (l0 : List (S48)) (l1 : List (S25)) (a2_0 : Int) (a2_1 : Int) (a2_2 : Int) (a2_3 : Int) (l3 : List (S25)) : Option (Int × Int) := (wigeonref02_boxed.f k l0 l1 ([] : List (S25)) a2_0 a2_1 a2_2 a2_3).bind fun t277 => (if t277 = 0 then (if (l3.length : Int) = 0 then (some (0, 13)) else (wigeonref02_CheckWay.l0 k l0 l1 l3 0 a2_0 a2_1 a2_2 a2_3)) else (some (0, t277)))
def wigeonref02_CheckWay.T13 : Bool × List (List Nat × List Nat) := (true, [([], []), ([0], [0]), ([1], [1]), ([2], [2]), ([2], [2]), ([4, 2], [2, 4]), ([3, 5, 2], [2, 3, 5]), ([6, 2], [2, 6]), ([2], [2]), ([2], [2]), ([8, 9, 2], [2, 8, 9]), ([10, 2], [2, 10]), ([7, 11, 2, 2], [2, 7, 11]), ([12, 2], [2, 12]), ([2, 13], [2, 13])])
def wigeonref02_CheckWay.B13 : List Nat := [0, 1, 3, 7, 7, 23, 63, 127, 7, 7, 775, 1799, 4095, 8191, 16383]
theorem wigeonref02_CheckWay.tab13 : rtab .any (opsOf Try.f11 13) = wigeonref02_CheckWay.T13 := by kernel_rfl
theorem wigeonref02_CheckWay.bits13 : waitsOk wigeonref02_CheckWay.T13.2 wigeonref02_CheckWay.B13 = true := by kernel_rfl
def wigeonref02_CheckWay.T15 : Bool × List (List Nat × List Nat) := (true, [([], []), ([0], [0]), ([1], [1]), ([2], [2]), ([2], [2]), ([2], [2]), ([5, 2], [2, 5]), ([4, 6, 2], [2, 4, 6]), ([7, 2], [2, 7]), ([2], [2]), ([2], [2]), ([9, 10, 2], [2, 9, 10]), ([11, 2], [2, 11]), ([3, 8, 12, 2, 2], [2, 3, 8, 12]), ([13, 2], [2, 13]), ([2, 14], [2, 14])])
def wigeonref02_CheckWay.B15 : List Nat := [0, 1, 3, 7, 7, 7, 39, 119, 247, 7, 7, 1543, 3591, 8191, 16383, 32767]
theorem wigeonref02_CheckWay.tab15 : rtab .any (opsOf Try.f11 15) = wigeonref02_CheckWay.T15 := by kernel_rfl
theorem wigeonref02_CheckWay.bits15 : waitsOk wigeonref02_CheckWay.T15.2 wigeonref02_CheckWay.B15 = true := by kernel_rfl
open Bool renaming true → T, false → F
set_option maxHeartbeats 8000000 in
set_option maxRecDepth 100000 in
theorem wigeonref02_CheckWay.calls (k : Nat) (A0 : Option Addr) (c0 : Nat) (l0 : List (S48)) (A1 : Option Addr) (c1 : Nat) (l1 : List (S25)) (a2_0 : Int) (a2_1 : Int) (a2_2 : Int) (a2_3 : Int) (A3 : Option Addr) (c3 : Nat) (l3 : List (S25)) (r1 : Int) (r2 : Int) (w : World) (hr0 : Kd.C k48 w A0 l0.length l0) (hc0 : l0.length ≤ c0) (hr1 : Kd.C k25 w A1 l1.length l1) (hc1 : l1.length ≤ c1) (hr3 : Kd.C k25 w A3 l3.length l3) (hc3 : l3.length ≤ c3) (h : wigeonref02_CheckWay.f k l0 l1 a2_0 a2_1 a2_2 a2_3 l3 = some (r1, r2)) :
 Calls Try.prog 11 #[.slice A0 l0.length c0, .slice A1 l1.length c1, .agg #[.int .i64 a2_0, .int .i64 a2_1, .int .i64 a2_2, .int .i64 a2_3], .slice A3 l3.length c3] w fun e w' => e = .returned (.tuple #[.int .i64 r1, .int .i64 r2]) ∧ Below w.heap.size w w' := by
 have hu27 := Try.underlying27
 have hu25 := Try.underlying25
 have HR0 := am hr0
 have HC0 := am hc0
 clear hr0 hc0
 have HR1 := am hr1
 have HC1 := am hc1
 clear hr1 hc1
 have HR3 := am hr3
 have HC3 := am hc3
 clear hr3 hc3
 have HB := am (Below.refl w.heap.size w)
 have H : ((wigeonref02_boxed.f k l0 l1 ([] : List (S25)) a2_0 a2_1 a2_2 a2_3).bind fun t277 => (if t277 = 0 then (if (l3.length : Int) = 0 then (some (0, 13)) else (wigeonref02_CheckWay.l0 k l0 l1 l3 0 a2_0 a2_1 a2_2 a2_3)) else (some (0, t277)))) = some (r1, r2) := h
 clear h
 replace H := Option.bind_eq_some_iff.mp H
 obtain ⟨t277, A50, H⟩ := H
 replace H : (if t277 = 0 then (if (l3.length : Int) = 0 then (some (0, 13)) else (wigeonref02_CheckWay.l0 k l0 l1 l3 0 a2_0 a2_1 a2_2 a2_3)) else (some (0, t277))) = some (r1, r2) := H
 have A5 := am A50
 clear A50
 by_cases c6 : t277 = 0
 {
 rw [if_pos c6] at H
 have c6b0 : (t277 == 0) = true := beq_iff_eq.mpr c6
 have c6b1 : (t277 != 0) = false := bne_eq_false_iff_eq.mpr c6
 clear c6
 by_cases c7 : (l3.length : Int) = 0
 {
 rw [if_pos c7] at H
 have c7b0 : ((l3.length : Int) == 0) = true := beq_iff_eq.mpr c7
 have c7b1 : ((l3.length : Int) != 0) = false := bne_eq_false_iff_eq.mpr c7
 clear c7
 simp only [Option.some.injEq, Prod.mk.injEq] at H
 obtain ⟨rfl, rfl⟩ := H
 go_enter Try.func11, Try.ntmps11
 go_wp2_with (first | ((with_reducible refine gate_dst (N := 6) rfl ?_); refine box_event ?hg (N := 6) ?hd (cs := #[.int .i64 a2_0, .int .i64 a2_1, .int .i64 a2_2, .int .i64 a2_3]) (t := 27) ?hr ?_; (case hd => rfl); (case hg => rfl); (case hr => first | (go_simp; done) | (go_simp; rfl)); intro gb276 hg w8 hbox hb; have n0_ := am (below_step (by repeat first|(with_reducible first|exact HB.out|apply wA|apply wN|apply wD)|exact HB.out) hb); have n1_ := am (hbox); have n2_ := am ((by rw [hg]; exact (below_size (by repeat first|(with_reducible first|exact HB.out|apply wA|apply wN|apply wD)|exact HB.out)) : w.heap.size ≤ gb276)); have n3_ := am ((by rw [hg]; exact (below_size (by repeat first|(with_reducible first|exact HB.out|apply wA|apply wN|apply wD)|exact HB.out)) : w.heap.size ≤ gb276)); clear HB; have HB := n0_; have BK276 := n1_; have GW276 := n2_; have GE276 := n3_; clear n0_ n1_ n2_ n3_; clear hb hbox hg; have hcz9_0 : w8.cell? ⟨gb276, 0, none⟩ = some (.int .i64 a2_0) := (blk_cell BK276.out 0).trans rfl; have hcz9_1 : w8.cell? ⟨gb276, 1, none⟩ = some (.int .i64 a2_1) := (blk_cell BK276.out 1).trans rfl; have hcz9_2 : w8.cell? ⟨gb276, 2, none⟩ = some (.int .i64 a2_2) := (blk_cell BK276.out 2).trans rfl; have hcz9_3 : w8.cell? ⟨gb276, 3, none⟩ = some (.int .i64 a2_3) := (blk_cell BK276.out 3).trans rfl; have hfz9_0 := blk_frozen BK276.out 0; have hfz9_1 := blk_frozen BK276.out 1; have hfz9_2 := blk_frozen BK276.out 2; have hfz9_3 := blk_frozen BK276.out 3) | ((with_reducible refine gate_callee (f := 28) rfl ?_); refine goesL_ (some 15) rfl rfl Try.func28 (by kernel_rfl) rfl #[.slice A0 l0.length c0, .slice A1 l1.length c1, .slice none 0 0, .agg #[.int .i64 a2_0, .int .i64 a2_1, .int .i64 a2_2, .int .i64 a2_3]] rfl (by (try simp only [List.map_toArray, List.map_cons, List.map_nil]); first | done | rfl | (simp only [List.length_drop, List.length_take]; rfl)) ?_; (refine (wigeonref02_boxed.calls k _ _ l0 _ _ l1 _ _ ([] : List (S25)) a2_0 a2_1 a2_2 a2_3 t277 _ ?side1 ?side2 ?side3 ?side4 ?side5 ?side6 A5.out).mono ?_); (case side1 => repeat (first | exact (Kd.C_below HR0.out HB.out) | (with_reducible refine Kd.C_alloc ?_ _) | (with_reducible refine Kd.C_drewN ?_ _) | (with_reducible refine Kd.C_drew ?_))); (case side2 => exact HC0.out); (case side3 => repeat (first | exact (Kd.C_below HR1.out HB.out) | (with_reducible refine Kd.C_alloc ?_ _) | (with_reducible refine Kd.C_drewN ?_ _) | (with_reducible refine Kd.C_drew ?_))); (case side4 => exact HC1.out); (case side5 => exact Kd.C_nil _ _); (case side6 => exact Nat.le_refl _); rintro e w10 ⟨rfl, hb⟩; refine ⟨_, rfl, ?_⟩; have n0_ := am (blk_below (by (with_reducible repeat first|refine bN ?_ _|refine bD ?_|refine bA ?_ _);exact BK276.out) hb); have n1_ := am (below_step (by repeat first|(with_reducible first|exact HB.out|apply wA|apply wN|apply wD|refine wS ?_ GE276.out)|exact HB.out) hb); clear BK276; clear HB; have BK276 := n0_; have HB := n1_; clear n0_ n1_; (try clear hb); (try clear hb2); (try clear hk); (try clear hi)))
 go_ret2
 exact ⟨by first | rfl | (simp [errW_none, errW_some] <;> rfl) | (simp [*, errW_none, errW_some] <;> rfl), by repeat (first | (with_reducible first | exact HB.out | apply below_alloc | apply pw_below_drewN | apply below_drew1 | refine below_set ?_ GE276.out) | exact HB.out)⟩}
 rw [if_neg c7] at H
 have c7b0 : ((l3.length : Int) == 0) = false := beq_eq_false_iff_ne.mpr c7
 have c7b1 : ((l3.length : Int) != 0) = true := bne_iff_ne.mpr c7
 have c7b2 : ¬ (l3 = []) := fun h_ => c7 (by rw [h_]; rfl)
 have H' := am H
 clear H
 go_enter Try.func11, Try.ntmps11
 go_wp2_with (first | ((with_reducible refine gate_dst (N := 6) rfl ?_); refine box_event ?hg (N := 6) ?hd (cs := #[.int .i64 a2_0, .int .i64 a2_1, .int .i64 a2_2, .int .i64 a2_3]) (t := 27) ?hr ?_; (case hd => rfl); (case hg => rfl); (case hr => first | (go_simp; done) | (go_simp; rfl)); intro gb276 hg w11 hbox hb; have n0_ := am (below_step (by repeat first|(with_reducible first|exact HB.out|apply wA|apply wN|apply wD)|exact HB.out) hb); have n1_ := am (hbox); have n2_ := am ((by rw [hg]; exact (below_size (by repeat first|(with_reducible first|exact HB.out|apply wA|apply wN|apply wD)|exact HB.out)) : w.heap.size ≤ gb276)); have n3_ := am ((by rw [hg]; exact (below_size (by repeat first|(with_reducible first|exact HB.out|apply wA|apply wN|apply wD)|exact HB.out)) : w.heap.size ≤ gb276)); clear HB; have HB := n0_; have BK276 := n1_; have GW276 := n2_; have GE276 := n3_; clear n0_ n1_ n2_ n3_; clear hb hbox hg; have hcz12_0 : w11.cell? ⟨gb276, 0, none⟩ = some (.int .i64 a2_0) := (blk_cell BK276.out 0).trans rfl; have hcz12_1 : w11.cell? ⟨gb276, 1, none⟩ = some (.int .i64 a2_1) := (blk_cell BK276.out 1).trans rfl; have hcz12_2 : w11.cell? ⟨gb276, 2, none⟩ = some (.int .i64 a2_2) := (blk_cell BK276.out 2).trans rfl; have hcz12_3 : w11.cell? ⟨gb276, 3, none⟩ = some (.int .i64 a2_3) := (blk_cell BK276.out 3).trans rfl; have hfz12_0 := blk_frozen BK276.out 0; have hfz12_1 := blk_frozen BK276.out 1; have hfz12_2 := blk_frozen BK276.out 2; have hfz12_3 := blk_frozen BK276.out 3) | ((with_reducible refine gate_callee (f := 28) rfl ?_); refine goesL_ (some 15) rfl rfl Try.func28 (by kernel_rfl) rfl #[.slice A0 l0.length c0, .slice A1 l1.length c1, .slice none 0 0, .agg #[.int .i64 a2_0, .int .i64 a2_1, .int .i64 a2_2, .int .i64 a2_3]] rfl (by (try simp only [List.map_toArray, List.map_cons, List.map_nil]); first | done | rfl | (simp only [List.length_drop, List.length_take]; rfl)) ?_; (refine (wigeonref02_boxed.calls k _ _ l0 _ _ l1 _ _ ([] : List (S25)) a2_0 a2_1 a2_2 a2_3 t277 _ ?side1 ?side2 ?side3 ?side4 ?side5 ?side6 A5.out).mono ?_); (case side1 => repeat (first | exact (Kd.C_below HR0.out HB.out) | (with_reducible refine Kd.C_alloc ?_ _) | (with_reducible refine Kd.C_drewN ?_ _) | (with_reducible refine Kd.C_drew ?_))); (case side2 => exact HC0.out); (case side3 => repeat (first | exact (Kd.C_below HR1.out HB.out) | (with_reducible refine Kd.C_alloc ?_ _) | (with_reducible refine Kd.C_drewN ?_ _) | (with_reducible refine Kd.C_drew ?_))); (case side4 => exact HC1.out); (case side5 => exact Kd.C_nil _ _); (case side6 => exact Nat.le_refl _); rintro e w13 ⟨rfl, hb⟩; refine ⟨_, rfl, ?_⟩; have n0_ := am (blk_below (by (with_reducible repeat first|refine bN ?_ _|refine bD ?_|refine bA ?_ _);exact BK276.out) hb); have n1_ := am (below_step (by repeat first|(with_reducible first|exact HB.out|apply wA|apply wN|apply wD|refine wS ?_ GE276.out)|exact HB.out) hb); clear BK276; clear HB; have BK276 := n0_; have HB := n1_; clear n0_ n1_; (try clear hb); (try clear hb2); (try clear hk); (try clear hi)))
 go_loopg [11] k (fun kq v11 w' => ∃ (x11_1 : Int), v11 = .int .i64 x11_1 ∧ Aside0 (wigeonref02_CheckWay.l0 kq l0 l1 l3 x11_1 a2_0 a2_1 a2_2 a2_3 = some (r1, r2)) ∧ Aside0 (kq ≤ k) ∧ Aside0 (w'.heap[gb276]? = some (.cells #[.int .i64 a2_0, .int .i64 a2_1, .int .i64 a2_2, .int .i64 a2_3] 27 (0, 0))) ∧ Aside0 (Below w.heap.size w w'))
 case atStart => exact ⟨(0), (by first | rfl | (simp; done) | (simp [*]; done)), H', ⟨Nat.le_refl _⟩, ⟨by (with_reducible repeat first|refine bN ?_ _|refine bD ?_|refine bA ?_ _);exact BK276.out⟩, ⟨by repeat (first | (with_reducible first | exact HB.out | apply below_alloc | apply pw_below_drewN | apply below_drew1 | refine below_set ?_ GE276.out) | exact HB.out)⟩⟩
 case round =>(
 clear H'
 try clear c1; try clear c2; try clear p2; try clear c3; try clear c6; try clear c6b0; try clear c6b1; try clear c7; try clear c7b0; try clear c7b1; try clear c7b2; try clear c11; try clear hcz12_0; try clear hcz12_1; try clear hcz12_2; try clear hcz12_3; try clear hcz9_0; try clear hcz9_1; try clear hcz9_2; try clear hcz9_3; try clear hfz12_0; try clear hfz12_1; try clear hfz12_2; try clear hfz12_3; try clear hfz9_0; try clear hfz9_1; try clear hfz9_2; try clear hfz9_3
 obtain ⟨x11_1, rfl, HA, HK1, BK276, HB⟩ := hrel
 cases gk with
 | zero => exact absurd HA.out (by simp [wigeonref02_CheckWay.l0])
 | succ k1 =>
  have H := HA.out
  clear HA
  simp only [wigeonref02_CheckWay.l0] at H
  by_cases c14 : x11_1 < (l3.length : Int)
  {
 rw [if_pos c14] at H
 have c14b0 : decide (x11_1 < (l3.length : Int)) = true := decide_eq_true c14
 clear c14
 by_cases c15 : 0 ≤ x11_1
 {
 rw [if_pos c15] at H
 have c15b0 : decide (0 ≤ x11_1) = true := decide_eq_true c15
 clear c15
 replace H := Option.bind_eq_some_iff.mp H
 obtain ⟨t279, A160, H⟩ := H
 replace H : (if t279 = true then ((wigeonref02_seers.f k1 l0 l1 ((rd_T25 l3 x11_1).f0) ((rd_T25 l3 x11_1).f1)).bind fun t281 => (if (t281.length : Int) > 0 then (some (x11_1, 11)) else (if x11_1 > 0 then (if 0 ≤ (wrap64 (x11_1 - 1)) then (if (wrap64 (x11_1 - 1)) < (l3.length : Int) then ((wigeonref02_apart.f ((rd_T25 l3 (wrap64 (x11_1 - 1))).f0) ((rd_T25 l3 (wrap64 (x11_1 - 1))).f1) ((rd_T25 l3 x11_1).f0) ((rd_T25 l3 x11_1).f1)).bind fun t286 => (wigeonref02_CheckWay.j1 k1 l0 l1 l3 x11_1 (t286 != 1) a2_0 a2_1 a2_2 a2_3)) else (none)) else (none)) else (wigeonref02_CheckWay.j1 k1 l0 l1 l3 x11_1 false a2_0 a2_1 a2_2 a2_3)))) else (some (x11_1, 1))) = some (r1, r2) := H
 have A16 := am A160
 clear A160
 by_cases c17 : t279 = true
 {
 subst c17
 have H1 : ((wigeonref02_seers.f k1 l0 l1 ((rd_T25 l3 x11_1).f0) ((rd_T25 l3 x11_1).f1)).bind fun t281 => (if (t281.length : Int) > 0 then (some (x11_1, 11)) else (if x11_1 > 0 then (if 0 ≤ (wrap64 (x11_1 - 1)) then (if (wrap64 (x11_1 - 1)) < (l3.length : Int) then ((wigeonref02_apart.f ((rd_T25 l3 (wrap64 (x11_1 - 1))).f0) ((rd_T25 l3 (wrap64 (x11_1 - 1))).f1) ((rd_T25 l3 x11_1).f0) ((rd_T25 l3 x11_1).f1)).bind fun t286 => (wigeonref02_CheckWay.j1 k1 l0 l1 l3 x11_1 (t286 != 1) a2_0 a2_1 a2_2 a2_3)) else (none)) else (none)) else (wigeonref02_CheckWay.j1 k1 l0 l1 l3 x11_1 false a2_0 a2_1 a2_2 a2_3)))) = some (r1, r2) := by rw [if_pos rfl] at H; exact H
 clear H
 have H := H1
 clear H1
 replace H := Option.bind_eq_some_iff.mp H
 obtain ⟨t281, A180, H⟩ := H
 replace H : (if (t281.length : Int) > 0 then (some (x11_1, 11)) else (if x11_1 > 0 then (if 0 ≤ (wrap64 (x11_1 - 1)) then (if (wrap64 (x11_1 - 1)) < (l3.length : Int) then ((wigeonref02_apart.f ((rd_T25 l3 (wrap64 (x11_1 - 1))).f0) ((rd_T25 l3 (wrap64 (x11_1 - 1))).f1) ((rd_T25 l3 x11_1).f0) ((rd_T25 l3 x11_1).f1)).bind fun t286 => (wigeonref02_CheckWay.j1 k1 l0 l1 l3 x11_1 (t286 != 1) a2_0 a2_1 a2_2 a2_3)) else (none)) else (none)) else (wigeonref02_CheckWay.j1 k1 l0 l1 l3 x11_1 false a2_0 a2_1 a2_2 a2_3))) = some (r1, r2) := H
 have A18 := am A180
 clear A180
 by_cases c19 : (t281.length : Int) > 0
 {
 rw [if_pos c19] at H
 have c19b0 : decide (0 < (t281.length : Int)) = true := decide_eq_true c19
 have c19b1 : decide (0 < t281.length) = true := decide_eq_true (by omega)
 clear c19
 simp only [Option.some.injEq, Prod.mk.injEq] at H
 obtain ⟨rfl, rfl⟩ := H
 try go_wp2
 have n0_ := am (blk_drew BK276.out)
 have n1_ := am (below_drew1 HB.out)
 clear BK276
 clear HB
 have BK276 := n0_
 have HB := n1_
 clear n0_ n1_
 have p278 : 0 ≤ (x11_1 : Int) := of_decide_eq_true (by first | (with_reducible assumption) | assumption)
 have q278 : x11_1 < (l3.length : Int) := of_decide_eq_true (by first | (with_reducible assumption) | assumption)
 obtain ⟨ad278, e278, hx278_0, hx278_1⟩ := at_T25 HR3.out x11_1 p278 q278
 have hw278_1 := hx278_1
 have hw278_0 := hx278_0
 cases e278
 replace hx278_0 := (HB.out.cell (World.block_lt_of_cell? w _ hx278_0)).trans hx278_0
 replace hx278_1 := (HB.out.cell (World.block_lt_of_cell? w _ hx278_1)).trans hx278_1
 replace p278 := eq_true p278
 replace q278 := eq_true q278
 refine start_ (n := 7) (S := fun w' => w'.cell? ⟨gb276, 0, none⟩ = some (.int .i64 a2_0) ∧ w'.cell? ⟨gb276, 1, none⟩ = some (.int .i64 a2_1) ∧ w'.cell? ⟨gb276, 2, none⟩ = some (.int .i64 a2_2) ∧ w'.cell? ⟨gb276, 3, none⟩ = some (.int .i64 a2_3) ∧ w'.cell? (ad278.add ((x11_1).toNat * 2)) = some (.int .i64 ((rd_T25 l3 x11_1).f0)) ∧ w'.cell? ⟨(ad278.add ((x11_1).toNat * 2)).block, (ad278.add ((x11_1).toNat * 2)).off + 1, none⟩ = some (.int .i64 ((rd_T25 l3 x11_1).f1))) (ds := []) #[false, false, false, false, false, false, false] (by kernel_rfl) rfl rfl ⟨(blk_cell BK276.out 0).trans rfl, (blk_cell BK276.out 1).trans rfl, (blk_cell BK276.out 2).trans rfl, (blk_cell BK276.out 3).trans rfl, ((HB.out.cell (World.block_lt_of_cell? w _ hw278_0)).trans hw278_0), ((HB.out.cell (World.block_lt_of_cell? w _ hw278_1)).trans hw278_1)⟩ (fun hHeld => ?_)
 generalize wr.drew = w20 at BK276 HB hx278_0 hx278_1 hHeld ⊢
 refine pure_ (i := 1) (N := some 29) (v := ?_) (a' := ?_) #[false, true, false, false, false, false, false] rfl rfl (by kernel_rfl) (fun _ _ _ h => h) (Or.inl ⟨by rfl, ?_⟩) ?_ ?_
 rotate_left;{
 intro w'
 go_simp
 with_reducible rfl}
 rotate_left;{
 simp only [ap,sA,s0,s1,i64_w,i32_w]
 rfl}
 refine pure_ (i := 2) (N := some 30) (v := ?_) (a' := ?_) #[false, true, true, false, false, false, false] rfl rfl (by kernel_rfl) (fun _ _ _ h => h) (Or.inl ⟨by rfl, ?_⟩) ?_ ?_
 rotate_left;{
 intro w'
 go_simp
 with_reducible rfl}
 rotate_left;{
 simp only [ap,sA,s0,s1,i64_w,i32_w]
 rfl}
 refine pure_ (i := 3) (N := some 31) (v := ?_) (a' := ?_) #[false, true, true, true, false, false, false] rfl rfl (by kernel_rfl) (fun _ _ _ h => h) (Or.inl ⟨by rfl, ?_⟩) ?_ ?_
 rotate_left;{
 intro w'
 go_simp
 with_reducible rfl}
 rotate_left;{
 simp only [ap,sA,s0,s1,i64_w,i32_w]
 rfl}
 refine take_ (i := 0) (N := some 28) (v := ?_) (a' := ?_) #[true, true, true, true, false, false, false] rfl rfl (by kernel_rfl) (fun _ _ _ h => h) (Or.inl ⟨by rfl, ?_⟩) hHeld ?_ ?_
 rotate_left;{
 rintro w' ⟨s0, s1, s2, s3, s4, s5⟩
 go_simp
 with_reducible rfl}
 rotate_left;{
 simp only [ap,sA,s0,s1,i64_w,i32_w]
 rfl}
 refine take_ (i := 4) (N := some 32) (v := ?_) (a' := ?_) #[true, true, true, true, true, false, false] rfl rfl (by kernel_rfl) (fun _ _ _ h => h) (Or.inl ⟨by rfl, ?_⟩) hHeld ?_ ?_
 rotate_left;{
 rintro w' ⟨s0, s1, s2, s3, s4, s5⟩
 go_simp
 with_reducible rfl}
 rotate_left;{
 simp only [ap,sA,s0,s1,i64_w,i32_w]
 rfl}
 refine one_ (i := 5) (N := some 33) #[true, true, true, true, true, true, false] rfl rfl (by kernel_rfl) (by decide) (fun K hK => ?_)
 refine goes_ Try.func29 (by kernel_rfl) rfl #[.agg #[.int .i64 a2_0, .int .i64 a2_1, .int .i64 a2_2, .int .i64 a2_3], .agg #[.int .i64 ((rd_T25 l3 x11_1).f0), .int .i64 ((rd_T25 l3 x11_1).f1)]] (by rfl) rfl rfl (by (try simp only [List.map_toArray, List.map_cons, List.map_nil]); first | done | rfl | (simp only [List.length_drop, List.length_take]; rfl)) ?_
 with_reducible refine (wigeonref02_in.calls a2_0 a2_1 a2_2 a2_3 ((rd_T25 l3 x11_1).f0) ((rd_T25 l3 x11_1).f1) true _ A16.out).mono ?_
 rintro e w21 ⟨rfl, hb⟩
 refine ⟨_, rfl, ?_⟩
 have n0_ := am (blk_below (by (with_reducible repeat first|refine bN ?_ _|refine bD ?_|refine bA ?_ _);exact BK276.out) hb)
 have n1_ := am (below_step (by repeat first|(with_reducible first|exact HB.out|apply wA|apply wN|apply wD|refine wS ?_ GE276.out)|exact HB.out) hb)
 clear BK276
 clear HB
 have BK276 := n0_
 have HB := n1_
 clear n0_ n1_
 (try clear hb)
 (try clear hb2)
 (try clear hk)
 (try clear hi)
 refine hK.out _ _ ⟨(blk_cell BK276.out 0).trans rfl, (blk_cell BK276.out 1).trans rfl, (blk_cell BK276.out 2).trans rfl, (blk_cell BK276.out 3).trans rfl, ((HB.out.cell (World.block_lt_of_cell? w _ hw278_0)).trans hw278_0), ((HB.out.cell (World.block_lt_of_cell? w _ hw278_1)).trans hw278_1)⟩ (fun hHeld => ?_)
 clear hK K
 refine norm_ (a' := ?_) ?_ ?_
 rotate_left;{
 show Act.put _ (some 33) _ = _
 simp only [ap,sA,s0,s1,i64_w,i32_w]
 rfl}
 refine pure_ (i := 6) (N := some 34) (v := ?_) (a' := ?_) #[true, true, true, true, true, true, true] rfl rfl (by kernel_rfl) (fun _ _ _ h => h) (Or.inl ⟨by rfl, ?_⟩) ?_ ?_
 rotate_left;{
 intro w'
 go_simp
 with_reducible rfl}
 rotate_left;{
 simp only [ap,sA,s0,s1,i64_w,i32_w]
 rfl}
 refine done_ (by kernel_rfl) ?_
 have p280 : 0 ≤ (x11_1 : Int) := of_decide_eq_true (by first | (with_reducible assumption) | assumption)
 have q280 : x11_1 < (l3.length : Int) := of_decide_eq_true (by first | (with_reducible assumption) | assumption)
 obtain ⟨ad280, e280, hx280_0, hx280_1⟩ := at_T25 HR3.out x11_1 p280 q280
 obtain rfl : ad278 = ad280 := (by injection e280)
 replace hx280_0 := (HB.out.cell (World.block_lt_of_cell? w _ hx280_0)).trans hx280_0
 replace hx280_1 := (HB.out.cell (World.block_lt_of_cell? w _ hx280_1)).trans hx280_1
 replace p280 := eq_true p280
 replace q280 := eq_true q280
 try go_wp2_with (first | ((with_reducible refine gate_callee (f := 30) rfl ?_); refine goesL_ (some 42) rfl rfl Try.func30 (by kernel_rfl) rfl #[.slice A0 l0.length c0, .slice A1 l1.length c1, .agg #[.int .i64 ((rd_T25 l3 x11_1).f0), .int .i64 ((rd_T25 l3 x11_1).f1)]] rfl (by (try simp only [List.map_toArray, List.map_cons, List.map_nil]); first | done | rfl | (simp only [List.length_drop, List.length_take]; rfl)) ?_; (with_reducible refine (wigeonref02_seers.calls k1 _ _ l0 _ _ l1 ((rd_T25 l3 x11_1).f0) ((rd_T25 l3 x11_1).f1) t281 _ ?side1 ?side2 ?side3 ?side4 A18.out).mono ?_); (case side1 => repeat (first | exact (Kd.C_below HR0.out HB.out) | (with_reducible refine Kd.C_alloc ?_ _) | (with_reducible refine Kd.C_drewN ?_ _) | (with_reducible refine Kd.C_drew ?_))); (case side2 => exact HC0.out); (case side3 => repeat (first | exact (Kd.C_below HR1.out HB.out) | (with_reducible refine Kd.C_alloc ?_ _) | (with_reducible refine Kd.C_drewN ?_ _) | (with_reducible refine Kd.C_drew ?_))); (case side4 => exact HC1.out); rintro e w22 ⟨v282, rfl, ho0, hb⟩; refine ⟨_, rfl, ?_⟩; have n0_ := am (Kd.R_lower ho0 (below_size (by repeat first|(with_reducible first|exact HB.out|apply wA|apply wN|apply wD|refine wS ?_ GE276.out)|exact HB.out))); have n1_ := am (blk_below (by (with_reducible repeat first|refine bN ?_ _|refine bD ?_|refine bA ?_ _);exact BK276.out) hb); have n2_ := am (below_step (by repeat first|(with_reducible first|exact HB.out|apply wA|apply wN|apply wD|refine wS ?_ GE276.out)|exact HB.out) hb); clear BK276; clear HB; have HO283 := n0_; have BK276 := n1_; have HB := n2_; clear n0_ n1_ n2_; (try clear hb); (try clear hb2); (try clear hk); (try clear hi); (try clear ho0); obtain ⟨Ao23, co23, eo23⟩ := Kd.R_slice HO283.out; subst eo23))
 go_ret2
 exact ⟨by first | rfl | (simp [errW_none, errW_some] <;> rfl) | (simp [*, errW_none, errW_some] <;> rfl), by repeat (first | (with_reducible first | exact HB.out | apply below_alloc | apply pw_below_drewN | apply below_drew1 | refine below_set ?_ GE276.out) | exact HB.out)⟩}
 rw [if_neg c19] at H
 have c19b0 : decide (0 < (t281.length : Int)) = false := decide_eq_false c19
 have c19b1 : decide (0 < t281.length) = false := decide_eq_false (by omega)
 clear c19
 have HC24 := am H
 clear H
 try go_wp2
 have n0_ := am (blk_drew BK276.out)
 have n1_ := am (below_drew1 HB.out)
 clear BK276
 clear HB
 have BK276 := n0_
 have HB := n1_
 clear n0_ n1_
 have p278 : 0 ≤ (x11_1 : Int) := of_decide_eq_true (by first | (with_reducible assumption) | assumption)
 have q278 : x11_1 < (l3.length : Int) := of_decide_eq_true (by first | (with_reducible assumption) | assumption)
 obtain ⟨ad278, e278, hx278_0, hx278_1⟩ := at_T25 HR3.out x11_1 p278 q278
 have hw278_1 := hx278_1
 have hw278_0 := hx278_0
 cases e278
 replace hx278_0 := (HB.out.cell (World.block_lt_of_cell? w _ hx278_0)).trans hx278_0
 replace hx278_1 := (HB.out.cell (World.block_lt_of_cell? w _ hx278_1)).trans hx278_1
 replace p278 := eq_true p278
 replace q278 := eq_true q278
 refine start_ (n := 7) (S := fun w' => w'.cell? ⟨gb276, 0, none⟩ = some (.int .i64 a2_0) ∧ w'.cell? ⟨gb276, 1, none⟩ = some (.int .i64 a2_1) ∧ w'.cell? ⟨gb276, 2, none⟩ = some (.int .i64 a2_2) ∧ w'.cell? ⟨gb276, 3, none⟩ = some (.int .i64 a2_3) ∧ w'.cell? (ad278.add ((x11_1).toNat * 2)) = some (.int .i64 ((rd_T25 l3 x11_1).f0)) ∧ w'.cell? ⟨(ad278.add ((x11_1).toNat * 2)).block, (ad278.add ((x11_1).toNat * 2)).off + 1, none⟩ = some (.int .i64 ((rd_T25 l3 x11_1).f1))) (ds := []) #[false, false, false, false, false, false, false] (by kernel_rfl) rfl rfl ⟨(blk_cell BK276.out 0).trans rfl, (blk_cell BK276.out 1).trans rfl, (blk_cell BK276.out 2).trans rfl, (blk_cell BK276.out 3).trans rfl, ((HB.out.cell (World.block_lt_of_cell? w _ hw278_0)).trans hw278_0), ((HB.out.cell (World.block_lt_of_cell? w _ hw278_1)).trans hw278_1)⟩ (fun hHeld => ?_)
 generalize wr.drew = w25 at BK276 HB hx278_0 hx278_1 hHeld ⊢
 refine pure_ (i := 1) (N := some 29) (v := ?_) (a' := ?_) #[false, true, false, false, false, false, false] rfl rfl (by kernel_rfl) (fun _ _ _ h => h) (Or.inl ⟨by rfl, ?_⟩) ?_ ?_
 rotate_left;{
 intro w'
 go_simp
 with_reducible rfl}
 rotate_left;{
 simp only [ap,sA,s0,s1,i64_w,i32_w]
 rfl}
 refine pure_ (i := 2) (N := some 30) (v := ?_) (a' := ?_) #[false, true, true, false, false, false, false] rfl rfl (by kernel_rfl) (fun _ _ _ h => h) (Or.inl ⟨by rfl, ?_⟩) ?_ ?_
 rotate_left;{
 intro w'
 go_simp
 with_reducible rfl}
 rotate_left;{
 simp only [ap,sA,s0,s1,i64_w,i32_w]
 rfl}
 refine pure_ (i := 3) (N := some 31) (v := ?_) (a' := ?_) #[false, true, true, true, false, false, false] rfl rfl (by kernel_rfl) (fun _ _ _ h => h) (Or.inl ⟨by rfl, ?_⟩) ?_ ?_
 rotate_left;{
 intro w'
 go_simp
 with_reducible rfl}
 rotate_left;{
 simp only [ap,sA,s0,s1,i64_w,i32_w]
 rfl}
 refine take_ (i := 0) (N := some 28) (v := ?_) (a' := ?_) #[true, true, true, true, false, false, false] rfl rfl (by kernel_rfl) (fun _ _ _ h => h) (Or.inl ⟨by rfl, ?_⟩) hHeld ?_ ?_
 rotate_left;{
 rintro w' ⟨s0, s1, s2, s3, s4, s5⟩
 go_simp
 with_reducible rfl}
 rotate_left;{
 simp only [ap,sA,s0,s1,i64_w,i32_w]
 rfl}
 refine take_ (i := 4) (N := some 32) (v := ?_) (a' := ?_) #[true, true, true, true, true, false, false] rfl rfl (by kernel_rfl) (fun _ _ _ h => h) (Or.inl ⟨by rfl, ?_⟩) hHeld ?_ ?_
 rotate_left;{
 rintro w' ⟨s0, s1, s2, s3, s4, s5⟩
 go_simp
 with_reducible rfl}
 rotate_left;{
 simp only [ap,sA,s0,s1,i64_w,i32_w]
 rfl}
 refine one_ (i := 5) (N := some 33) #[true, true, true, true, true, true, false] rfl rfl (by kernel_rfl) (by decide) (fun K hK => ?_)
 refine goes_ Try.func29 (by kernel_rfl) rfl #[.agg #[.int .i64 a2_0, .int .i64 a2_1, .int .i64 a2_2, .int .i64 a2_3], .agg #[.int .i64 ((rd_T25 l3 x11_1).f0), .int .i64 ((rd_T25 l3 x11_1).f1)]] (by rfl) rfl rfl (by (try simp only [List.map_toArray, List.map_cons, List.map_nil]); first | done | rfl | (simp only [List.length_drop, List.length_take]; rfl)) ?_
 with_reducible refine (wigeonref02_in.calls a2_0 a2_1 a2_2 a2_3 ((rd_T25 l3 x11_1).f0) ((rd_T25 l3 x11_1).f1) true _ A16.out).mono ?_
 rintro e w26 ⟨rfl, hb⟩
 refine ⟨_, rfl, ?_⟩
 have n0_ := am (blk_below (by (with_reducible repeat first|refine bN ?_ _|refine bD ?_|refine bA ?_ _);exact BK276.out) hb)
 have n1_ := am (below_step (by repeat first|(with_reducible first|exact HB.out|apply wA|apply wN|apply wD|refine wS ?_ GE276.out)|exact HB.out) hb)
 clear BK276
 clear HB
 have BK276 := n0_
 have HB := n1_
 clear n0_ n1_
 (try clear hb)
 (try clear hb2)
 (try clear hk)
 (try clear hi)
 refine hK.out _ _ ⟨(blk_cell BK276.out 0).trans rfl, (blk_cell BK276.out 1).trans rfl, (blk_cell BK276.out 2).trans rfl, (blk_cell BK276.out 3).trans rfl, ((HB.out.cell (World.block_lt_of_cell? w _ hw278_0)).trans hw278_0), ((HB.out.cell (World.block_lt_of_cell? w _ hw278_1)).trans hw278_1)⟩ (fun hHeld => ?_)
 clear hK K
 refine norm_ (a' := ?_) ?_ ?_
 rotate_left;{
 show Act.put _ (some 33) _ = _
 simp only [ap,sA,s0,s1,i64_w,i32_w]
 rfl}
 refine pure_ (i := 6) (N := some 34) (v := ?_) (a' := ?_) #[true, true, true, true, true, true, true] rfl rfl (by kernel_rfl) (fun _ _ _ h => h) (Or.inl ⟨by rfl, ?_⟩) ?_ ?_
 rotate_left;{
 intro w'
 go_simp
 with_reducible rfl}
 rotate_left;{
 simp only [ap,sA,s0,s1,i64_w,i32_w]
 rfl}
 refine done_ (by kernel_rfl) ?_
 have p280 : 0 ≤ (x11_1 : Int) := of_decide_eq_true (by first | (with_reducible assumption) | assumption)
 have q280 : x11_1 < (l3.length : Int) := of_decide_eq_true (by first | (with_reducible assumption) | assumption)
 obtain ⟨ad280, e280, hx280_0, hx280_1⟩ := at_T25 HR3.out x11_1 p280 q280
 obtain rfl : ad278 = ad280 := (by injection e280)
 replace hx280_0 := (HB.out.cell (World.block_lt_of_cell? w _ hx280_0)).trans hx280_0
 replace hx280_1 := (HB.out.cell (World.block_lt_of_cell? w _ hx280_1)).trans hx280_1
 replace p280 := eq_true p280
 replace q280 := eq_true q280
 go_upto_region 13 with (first | ((with_reducible refine gate_callee (f := 30) rfl ?_); refine goesL_ (some 42) rfl rfl Try.func30 (by kernel_rfl) rfl #[.slice A0 l0.length c0, .slice A1 l1.length c1, .agg #[.int .i64 ((rd_T25 l3 x11_1).f0), .int .i64 ((rd_T25 l3 x11_1).f1)]] rfl (by (try simp only [List.map_toArray, List.map_cons, List.map_nil]); first | done | rfl | (simp only [List.length_drop, List.length_take]; rfl)) ?_; (with_reducible refine (wigeonref02_seers.calls k1 _ _ l0 _ _ l1 ((rd_T25 l3 x11_1).f0) ((rd_T25 l3 x11_1).f1) t281 _ ?side1 ?side2 ?side3 ?side4 A18.out).mono ?_); (case side1 => repeat (first | exact (Kd.C_below HR0.out HB.out) | (with_reducible refine Kd.C_alloc ?_ _) | (with_reducible refine Kd.C_drewN ?_ _) | (with_reducible refine Kd.C_drew ?_))); (case side2 => exact HC0.out); (case side3 => repeat (first | exact (Kd.C_below HR1.out HB.out) | (with_reducible refine Kd.C_alloc ?_ _) | (with_reducible refine Kd.C_drewN ?_ _) | (with_reducible refine Kd.C_drew ?_))); (case side4 => exact HC1.out); rintro e w27 ⟨v282, rfl, ho0, hb⟩; refine ⟨_, rfl, ?_⟩; have n0_ := am (Kd.R_lower ho0 (below_size (by repeat first|(with_reducible first|exact HB.out|apply wA|apply wN|apply wD|refine wS ?_ GE276.out)|exact HB.out))); have n1_ := am (blk_below (by (with_reducible repeat first|refine bN ?_ _|refine bD ?_|refine bA ?_ _);exact BK276.out) hb); have n2_ := am (below_step (by repeat first|(with_reducible first|exact HB.out|apply wA|apply wN|apply wD|refine wS ?_ GE276.out)|exact HB.out) hb); clear BK276; clear HB; have HO283 := n0_; have BK276 := n1_; have HB := n2_; clear n0_ n1_ n2_; (try clear hb); (try clear hb2); (try clear hk); (try clear hi); (try clear ho0); obtain ⟨Ao28, co28, eo28⟩ := Kd.R_slice HO283.out; subst eo28))
 (try simp only [Act.put, List.setIfInBounds_toArray, List.set_cons_zero, List.set_cons_succ])
 go_cut [60] (fun v60 wc => ∃ (kq : Nat) (x60_23 : Bool), v60 = .bool x60_23 ∧ Aside0 (wigeonref02_CheckWay.j1 kq l0 l1 l3 x11_1 x60_23 a2_0 a2_1 a2_2 a2_3 = some (r1, r2)) ∧ Aside0 (kq ≤ k1) ∧ Aside0 (wc.heap[gb276]? = some (.cells #[.int .i64 a2_0, .int .i64 a2_1, .int .i64 a2_2, .int .i64 a2_3] 27 (0, 0))) ∧ Aside0 (Below w.heap.size w wc))
 case first =>(
 have H := HC24.out
 clear HC24
 by_cases c29 : x11_1 > 0
 {
 rw [if_pos c29] at H
 have c29b0 : decide (0 < x11_1) = true := decide_eq_true c29
 clear c29
 (first | rw [c29b0] | (simp only [i64_w, i32_w]; rw [c29b0]) | skip)
 obtain ⟨ji30, hji30⟩ : ∃ j_ : Int, (wrap64 (x11_1 - 1)) = j_ := ⟨_, rfl⟩
 replace H : (if 0 ≤ (ji30) then (if (ji30) < (l3.length : Int) then ((wigeonref02_apart.f ((rd_T25 l3 (ji30)).f0) ((rd_T25 l3 (ji30)).f1) ((rd_T25 l3 x11_1).f0) ((rd_T25 l3 x11_1).f1)).bind fun t286 => (wigeonref02_CheckWay.j1 k1 l0 l1 l3 x11_1 (t286 != 1) a2_0 a2_1 a2_2 a2_3)) else (none)) else (none)) = some (r1, r2) := by first | (rw [hji30] at H; exact H) | (simp only [hji30] at H ⊢; exact H)
 have hji30w : (IntKind.i64.wrap (x11_1 - 1)) = ji30 := (i64_w _).trans hji30
 by_cases c31 : 0 ≤ (ji30)
 {
 rw [if_pos c31] at H
 have c31b0 : decide (0 ≤ (ji30)) = true := decide_eq_true c31
 clear c31
 by_cases c32 : (ji30) < (l3.length : Int)
 {
 rw [if_pos c32] at H
 have c32b0 : decide ((ji30) < (l3.length : Int)) = true := decide_eq_true c32
 clear c32
 replace H := Option.bind_eq_some_iff.mp H
 obtain ⟨t286, A330, H⟩ := H
 replace H : (wigeonref02_CheckWay.j1 k1 l0 l1 l3 x11_1 (t286 != 1) a2_0 a2_1 a2_2 a2_3) = some (r1, r2) := H
 have A33 := am A330
 clear A330
 have H' := am H
 clear H
 try go_wp2
 have n0_ := am (Kd.R_drew HO283.out)
 have n1_ := am (blk_drew BK276.out)
 have n2_ := am (below_drew1 HB.out)
 clear HO283
 clear BK276
 clear HB
 have HO283 := n0_
 have BK276 := n1_
 have HB := n2_
 clear n0_ n1_ n2_
 have p284 : 0 ≤ ((ji30) : Int) := of_decide_eq_true (by first | (with_reducible assumption) | assumption)
 have q284 : (ji30) < (l3.length : Int) := of_decide_eq_true (by first | (with_reducible assumption) | assumption)
 obtain ⟨ad284, e284, hx284_0, hx284_1⟩ := at_T25 HR3.out (ji30) p284 q284
 have hw284_1 := hx284_1
 have hw284_0 := hx284_0
 obtain rfl : ad278 = ad284 := (by injection e284)
 replace hx284_0 := (HB.out.cell (World.block_lt_of_cell? w _ hx284_0)).trans hx284_0
 replace hx284_1 := (HB.out.cell (World.block_lt_of_cell? w _ hx284_1)).trans hx284_1
 replace p284 := eq_true p284
 replace q284 := eq_true q284
 have p285 : 0 ≤ (x11_1 : Int) := of_decide_eq_true (by first | (with_reducible assumption) | assumption)
 have q285 : x11_1 < (l3.length : Int) := of_decide_eq_true (by first | (with_reducible assumption) | assumption)
 obtain ⟨ad285, e285, hx285_0, hx285_1⟩ := at_T25 HR3.out x11_1 p285 q285
 have hw285_1 := hx285_1
 have hw285_0 := hx285_0
 obtain rfl : ad278 = ad285 := (by injection e285)
 replace hx285_0 := (HB.out.cell (World.block_lt_of_cell? w _ hx285_0)).trans hx285_0
 replace hx285_1 := (HB.out.cell (World.block_lt_of_cell? w _ hx285_1)).trans hx285_1
 replace p285 := eq_true p285
 replace q285 := eq_true q285
 refine start_ (n := 15) (S := fun w' => w'.cell? (ad278.add (((ji30)).toNat * 2)) = some (.int .i64 ((rd_T25 l3 (ji30)).f0)) ∧ w'.cell? ⟨(ad278.add (((ji30)).toNat * 2)).block, (ad278.add (((ji30)).toNat * 2)).off + 1, none⟩ = some (.int .i64 ((rd_T25 l3 (ji30)).f1)) ∧ w'.cell? (ad278.add ((x11_1).toNat * 2)) = some (.int .i64 ((rd_T25 l3 x11_1).f0)) ∧ w'.cell? ⟨(ad278.add ((x11_1).toNat * 2)).block, (ad278.add ((x11_1).toNat * 2)).off + 1, none⟩ = some (.int .i64 ((rd_T25 l3 x11_1).f1))) (ds := []) #[F,F,F,F,F,F,F,F,F,F,F,F,F,F,F] (by kernel_rfl) rfl rfl ⟨((HB.out.cell (World.block_lt_of_cell? w _ hw284_0)).trans hw284_0), ((HB.out.cell (World.block_lt_of_cell? w _ hw284_1)).trans hw284_1), ((HB.out.cell (World.block_lt_of_cell? w _ hw285_0)).trans hw285_0), ((HB.out.cell (World.block_lt_of_cell? w _ hw285_1)).trans hw285_1)⟩ (fun hHeld => ?_); refine with_tabW wigeonref02_CheckWay.tab13 wigeonref02_CheckWay.bits13 (fun HT_ HW_ => ?_)
 generalize w27.drew = w34 at HO283 BK276 HB hx284_0 hx284_1 hx285_0 hx285_1 hHeld ⊢
 refine pure_ (i := 0) (N := some 46) (v := ?_) (a' := ?_) #[T,F,F,F,F,F,F,F,F,F,F,F,F,F,F] rfl rfl (any_of HT_.out (by kernel_rfl)) (fun _ _ _ h => h) (Or.inl ⟨by rfl, ?_⟩) ?_ ?_
 rotate_left;{
 intro w'
 go_simp
 with_reducible rfl}
 rotate_left;{
 simp only [ap,sA,s0,s1,i64_w,i32_w]
 rfl}
 refine pure_ (i := 1) (N := some 47) (v := ?_) (a' := ?_) #[T,T,F,F,F,F,F,F,F,F,F,F,F,F,F] rfl rfl (any_of HT_.out (by kernel_rfl)) (fun _ _ _ h => h) (Or.inl ⟨by rfl, ?_⟩) ?_ ?_
 rotate_left;{
 intro w'
 go_simp
 with_reducible rfl}
 rotate_left;{
 simp only [ap,sA,s0,s1,i64_w,i32_w]
 rfl}
 refine pure_ (i := 2) (N := some 48) (v := ?_) (a' := ?_) #[T,T,T,F,F,F,F,F,F,F,F,F,F,F,F] rfl rfl (any_of HT_.out (by kernel_rfl)) (fun _ _ _ h => h) (Or.inl ⟨by rfl, ?_⟩) ?_ ?_
 rotate_left;{
 intro w'
 go_simp
 with_reducible rfl}
 rotate_left;{
 simp only [ap,sA,s0,s1,i64_w,i32_w]
 rfl}
 refine pure_ (i := 3) (N := some 49) (v := ?_) (a' := ?_) #[T,T,T,T,F,F,F,F,F,F,F,F,F,F,F] rfl rfl (any_of HT_.out (by kernel_rfl)) (fun _ _ _ h => h) (Or.inl ⟨by rfl, ?_⟩) ?_ ?_
 rotate_left;{
 intro w'
 go_simp
 with_reducible rfl}
 rotate_left;{
 simp only [ap,sA,s0,s1,i64_w,i32_w]
 rfl}
 refine pure_ (i := 4) (N := some 50) (v := ?_) (a' := ?_) #[T,T,T,T,T,F,F,F,F,F,F,F,F,F,F] rfl rfl (any_of HT_.out (by kernel_rfl)) (fun _ _ _ h => h) (Or.inl ⟨by rfl, ?_⟩) ?_ ?_
 rotate_left;{
 intro w'
 go_simp
 with_reducible rfl}
 rotate_left;{
 simp only [ap,sA,s0,s1,i64_w,i32_w]
 rfl}
 refine pure_ (i := 5) (N := some 51) (v := ?_) (a' := ?_) #[T,T,T,T,T,T,F,F,F,F,F,F,F,F,F] rfl rfl (any_of HT_.out (by kernel_rfl)) (fun _ _ _ h => h) (Or.inl ⟨by rfl, ?_⟩) ?_ ?_
 rotate_left;{
 intro w'
 go_simp
 with_reducible rfl}
 rotate_left;{
 simp only [ap,sA,s0,s1,i64_w,i32_w]
 rfl}
 refine pure_ (i := 6) (N := some 52) (v := ?_) (a' := ?_) #[T,T,T,T,T,T,T,F,F,F,F,F,F,F,F] rfl rfl (any_of HT_.out (by kernel_rfl)) (fun _ _ _ h => h) (Or.inl ⟨by rfl, ?_⟩) ?_ ?_
 rotate_left;{
 intro w'
 go_simp
 with_reducible rfl}
 rotate_left;{
 simp only [ap,sA,s0,s1,i64_w,i32_w]
 rfl}
 refine pure_ (i := 8) (N := some 54) (v := ?_) (a' := ?_) #[T,T,T,T,T,T,T,F,T,F,F,F,F,F,F] rfl rfl (any_of HT_.out (by kernel_rfl)) (fun _ _ _ h => h) (Or.inl ⟨by rfl, ?_⟩) ?_ ?_
 rotate_left;{
 intro w'
 go_simp
 with_reducible rfl}
 rotate_left;{
 simp only [ap,sA,s0,s1,i64_w,i32_w]
 rfl}
 refine pure_ (i := 9) (N := some 55) (v := ?_) (a' := ?_) #[T,T,T,T,T,T,T,F,T,T,F,F,F,F,F] rfl rfl (any_of HT_.out (by kernel_rfl)) (fun _ _ _ h => h) (Or.inl ⟨by rfl, ?_⟩) ?_ ?_
 rotate_left;{
 intro w'
 go_simp
 with_reducible rfl}
 rotate_left;{
 simp only [ap,sA,s0,s1,i64_w,i32_w]
 rfl}
 refine pure_ (i := 10) (N := some 56) (v := ?_) (a' := ?_) #[T,T,T,T,T,T,T,F,T,T,T,F,F,F,F] rfl rfl (any_of HT_.out (by kernel_rfl)) (fun _ _ _ h => h) (Or.inl ⟨by rfl, ?_⟩) ?_ ?_
 rotate_left;{
 intro w'
 go_simp
 with_reducible rfl}
 rotate_left;{
 simp only [ap,sA,s0,s1,i64_w,i32_w]
 rfl}
 refine take_ (i := 7) (N := some 53) (v := ?_) (a' := ?_) #[T,T,T,T,T,T,T,T,T,T,T,F,F,F,F] rfl rfl (take_ofW HT_.out HW_.out (by kernel_rfl)) (fun _ _ _ h => h) (Or.inl ⟨by rfl, ?_⟩) hHeld ?_ ?_
 rotate_left;{
 rintro w' ⟨s0, s1, s2, s3⟩
 go_simp
 with_reducible rfl}
 rotate_left;{
 simp only [ap,sA,s0,s1,i64_w,i32_w]
 rfl}
 refine take_ (i := 11) (N := some 57) (v := ?_) (a' := ?_) #[T,T,T,T,T,T,T,T,T,T,T,T,F,F,F] rfl rfl (take_ofW HT_.out HW_.out (by kernel_rfl)) (fun _ _ _ h => h) (Or.inl ⟨by rfl, ?_⟩) hHeld ?_ ?_
 rotate_left;{
 rintro w' ⟨s0, s1, s2, s3⟩
 go_simp
 with_reducible rfl}
 rotate_left;{
 simp only [ap,sA,s0,s1,i64_w,i32_w]
 rfl}
 refine one_ (i := 12) (N := some 58) #[T,T,T,T,T,T,T,T,T,T,T,T,T,F,F] rfl rfl (one_of HT_.out (by kernel_rfl)) (by decide) (fun K hK => ?_)
 refine goes_ Try.func31 (by kernel_rfl) rfl #[.agg #[.int .i64 ((rd_T25 l3 (ji30)).f0), .int .i64 ((rd_T25 l3 (ji30)).f1)], .agg #[.int .i64 ((rd_T25 l3 x11_1).f0), .int .i64 ((rd_T25 l3 x11_1).f1)]] (by rfl) rfl rfl (by (try simp only [List.map_toArray, List.map_cons, List.map_nil]); first | done | (simp only [hji30]; rfl) | rfl | (simp only [List.length_drop, List.length_take]; rfl)) ?_
 with_reducible refine (wigeonref02_apart.calls ((rd_T25 l3 (ji30)).f0) ((rd_T25 l3 (ji30)).f1) ((rd_T25 l3 x11_1).f0) ((rd_T25 l3 x11_1).f1) t286 _ A33.out).mono ?_
 rintro e w35 ⟨rfl, hb⟩
 refine ⟨_, rfl, ?_⟩
 have n0_ := am (Kd.R_below (by (with_reducible repeat first|apply Kd.R_alloc|apply Kd.R_drewN|apply Kd.R_drew);exact HO283.out) hb)
 have n1_ := am (blk_below (by (with_reducible repeat first|refine bN ?_ _|refine bD ?_|refine bA ?_ _);exact BK276.out) hb)
 have n2_ := am (below_step (by repeat first|(with_reducible first|exact HB.out|apply wA|apply wN|apply wD|refine wS ?_ GE276.out)|exact HB.out) hb)
 clear HO283
 clear BK276
 clear HB
 have HO283 := n0_
 have BK276 := n1_
 have HB := n2_
 clear n0_ n1_ n2_
 (try clear hb)
 (try clear hb2)
 (try clear hk)
 (try clear hi)
 refine hK.out _ _ ⟨((HB.out.cell (World.block_lt_of_cell? w _ hw284_0)).trans hw284_0), ((HB.out.cell (World.block_lt_of_cell? w _ hw284_1)).trans hw284_1), ((HB.out.cell (World.block_lt_of_cell? w _ hw285_0)).trans hw285_0), ((HB.out.cell (World.block_lt_of_cell? w _ hw285_1)).trans hw285_1)⟩ (fun hHeld => ?_)
 clear hK K
 refine norm_ (a' := ?_) ?_ ?_
 rotate_left;{
 show Act.put _ (some 58) _ = _
 simp only [ap,sA,s0,s1,i64_w,i32_w]
 rfl}
 refine pure_ (i := 13) (N := some 59) (v := ?_) (a' := ?_) #[T,T,T,T,T,T,T,T,T,T,T,T,T,T,F] rfl rfl (any_of HT_.out (by kernel_rfl)) (fun _ _ _ h => h) (Or.inl ⟨by rfl, ?_⟩) ?_ ?_
 rotate_left;{
 intro w'
 go_simp
 with_reducible rfl}
 rotate_left;{
 simp only [ap,sA,s0,s1,i64_w,i32_w]
 rfl}
 refine pure_ (i := 14) (N := some 60) (v := ?_) (a' := ?_) #[T,T,T,T,T,T,T,T,T,T,T,T,T,T,T] rfl rfl (any_of HT_.out (by kernel_rfl)) (fun _ _ _ h => h) (Or.inl ⟨by rfl, ?_⟩) ?_ ?_
 rotate_left;{
 intro w'
 go_simp
 with_reducible rfl}
 rotate_left;{
 simp only [ap,sA,s0,s1,i64_w,i32_w]
 rfl}
 refine done_ (done_of HT_.out (by kernel_rfl)) ?_
 try go_wp2
 go_meet
 case rel => exact ⟨_, ((t286 != 1)), (by first | rfl | (simp; done) | (simp [*]; done)), H', ⟨by have := HK1.out; first | omega | exact Nat.le_refl _⟩, ⟨by (with_reducible repeat first|refine bN ?_ _|refine bD ?_|refine bA ?_ _);exact BK276.out⟩, ⟨by repeat (first | (with_reducible first | exact HB.out | apply below_alloc | apply pw_below_drewN | apply below_drew1 | refine below_set ?_ GE276.out) | exact HB.out)⟩⟩}
 rw [if_neg c32] at H
 exact absurd H (by simp)}
 rw [if_neg c31] at H
 exact absurd H (by simp)}
 rw [if_neg c29] at H
 have c29b0 : decide (0 < x11_1) = false := decide_eq_false c29
 clear c29
 (first | rw [c29b0] | (simp only [i64_w, i32_w]; rw [c29b0]) | skip)
 have H' := am H
 clear H
 try go_wp2
 have n0_ := am (Kd.R_drew HO283.out)
 have n1_ := am (blk_drew BK276.out)
 have n2_ := am (below_drew1 HB.out)
 clear HO283
 clear BK276
 clear HB
 have HO283 := n0_
 have BK276 := n1_
 have HB := n2_
 clear n0_ n1_ n2_
 refine start_ (n := 15) (S := fun w' => True) (ds := []) #[F,F,F,F,F,F,F,F,F,F,F,F,F,F,F] (by kernel_rfl) rfl rfl trivial (fun hHeld => ?_); refine with_tabW wigeonref02_CheckWay.tab13 wigeonref02_CheckWay.bits13 (fun HT_ HW_ => ?_)
 generalize w27.drew = w36 at HO283 BK276 HB hHeld ⊢
 refine pure_ (i := 0) (N := some 46) (v := ?_) (a' := ?_) #[T,F,F,F,F,F,F,F,F,F,F,F,F,F,F] rfl rfl (any_of HT_.out (by kernel_rfl)) (fun _ _ _ h => h) (Or.inl ⟨by rfl, ?_⟩) ?_ ?_
 rotate_left;{
 intro w'
 go_simp
 with_reducible rfl}
 rotate_left;{
 simp only [ap,sA,s0,s1,i64_w,i32_w]
 rfl}
 refine pure_ (i := 1) (N := some 47) (v := ?_) (a' := ?_) #[T,T,F,F,F,F,F,F,F,F,F,F,F,F,F] rfl rfl (any_of HT_.out (by kernel_rfl)) (fun _ _ _ h => h) (Or.inl ⟨by rfl, ?_⟩) ?_ ?_
 rotate_left;{
 intro w'
 go_simp
 with_reducible rfl}
 rotate_left;{
 simp only [ap,sA,s0,s1,i64_w,i32_w]
 rfl}
 refine pure_ (i := 2) (N := some 48) (v := ?_) (a' := ?_) #[T,T,T,F,F,F,F,F,F,F,F,F,F,F,F] rfl rfl (any_of HT_.out (by kernel_rfl)) (fun _ _ _ h => h) (Or.inl ⟨by rfl, ?_⟩) ?_ ?_
 rotate_left;{
 intro w'
 go_simp
 with_reducible rfl}
 rotate_left;{
 simp only [ap,sA,s0,s1,i64_w,i32_w]
 rfl}
 refine pure_ (i := 3) (N := some 49) (v := undef) (a' := ?_) #[T,T,T,T,F,F,F,F,F,F,F,F,F,F,F] rfl rfl (any_of HT_.out (by kernel_rfl)) (fun _ _ _ h => h) (Or.inr ⟨by rfl, rfl⟩) ?_ ?_
 rotate_left;{
 simp only [ap,sA,s0,s1,i64_w,i32_w]
 rfl}
 refine pure_ (i := 4) (N := some 50) (v := undef) (a' := ?_) #[T,T,T,T,T,F,F,F,F,F,F,F,F,F,F] rfl rfl (any_of HT_.out (by kernel_rfl)) (fun _ _ _ h => h) (Or.inr ⟨by rfl, rfl⟩) ?_ ?_
 rotate_left;{
 simp only [ap,sA,s0,s1,i64_w,i32_w]
 rfl}
 refine pure_ (i := 5) (N := some 51) (v := undef) (a' := ?_) #[T,T,T,T,T,T,F,F,F,F,F,F,F,F,F] rfl rfl (any_of HT_.out (by kernel_rfl)) (fun _ _ _ h => h) (Or.inr ⟨by rfl, rfl⟩) ?_ ?_
 rotate_left;{
 simp only [ap,sA,s0,s1,i64_w,i32_w]
 rfl}
 refine pure_ (i := 6) (N := some 52) (v := undef) (a' := ?_) #[T,T,T,T,T,T,T,F,F,F,F,F,F,F,F] rfl rfl (any_of HT_.out (by kernel_rfl)) (fun _ _ _ h => h) (Or.inr ⟨by rfl, rfl⟩) ?_ ?_
 rotate_left;{
 simp only [ap,sA,s0,s1,i64_w,i32_w]
 rfl}
 refine pure_ (i := 7) (N := some 53) (v := undef) (a' := ?_) #[T,T,T,T,T,T,T,T,F,F,F,F,F,F,F] rfl rfl (any_of HT_.out (by kernel_rfl)) (fun _ _ _ h => h) (Or.inr ⟨by rfl, rfl⟩) ?_ ?_
 rotate_left;{
 simp only [ap,sA,s0,s1,i64_w,i32_w]
 rfl}
 refine pure_ (i := 8) (N := some 54) (v := undef) (a' := ?_) #[T,T,T,T,T,T,T,T,T,F,F,F,F,F,F] rfl rfl (any_of HT_.out (by kernel_rfl)) (fun _ _ _ h => h) (Or.inr ⟨by rfl, rfl⟩) ?_ ?_
 rotate_left;{
 simp only [ap,sA,s0,s1,i64_w,i32_w]
 rfl}
 refine pure_ (i := 9) (N := some 55) (v := undef) (a' := ?_) #[T,T,T,T,T,T,T,T,T,T,F,F,F,F,F] rfl rfl (any_of HT_.out (by kernel_rfl)) (fun _ _ _ h => h) (Or.inr ⟨by rfl, rfl⟩) ?_ ?_
 rotate_left;{
 simp only [ap,sA,s0,s1,i64_w,i32_w]
 rfl}
 refine pure_ (i := 10) (N := some 56) (v := undef) (a' := ?_) #[T,T,T,T,T,T,T,T,T,T,T,F,F,F,F] rfl rfl (any_of HT_.out (by kernel_rfl)) (fun _ _ _ h => h) (Or.inr ⟨by rfl, rfl⟩) ?_ ?_
 rotate_left;{
 simp only [ap,sA,s0,s1,i64_w,i32_w]
 rfl}
 refine pure_ (i := 11) (N := some 57) (v := undef) (a' := ?_) #[T,T,T,T,T,T,T,T,T,T,T,T,F,F,F] rfl rfl (any_of HT_.out (by kernel_rfl)) (fun _ _ _ h => h) (Or.inr ⟨by rfl, rfl⟩) ?_ ?_
 rotate_left;{
 simp only [ap,sA,s0,s1,i64_w,i32_w]
 rfl}
 refine pure_ (i := 12) (N := some 58) (v := undef) (a' := ?_) #[T,T,T,T,T,T,T,T,T,T,T,T,T,F,F] rfl rfl (any_of HT_.out (by kernel_rfl)) (fun _ _ _ h => h) (Or.inr ⟨by rfl, rfl⟩) ?_ ?_
 rotate_left;{
 simp only [ap,sA,s0,s1,i64_w,i32_w]
 rfl}
 refine pure_ (i := 13) (N := some 59) (v := undef) (a' := ?_) #[T,T,T,T,T,T,T,T,T,T,T,T,T,T,F] rfl rfl (any_of HT_.out (by kernel_rfl)) (fun _ _ _ h => h) (Or.inr ⟨by rfl, rfl⟩) ?_ ?_
 rotate_left;{
 simp only [ap,sA,s0,s1,i64_w,i32_w]
 rfl}
 refine pure_ (i := 14) (N := some 60) (v := ?_) (a' := ?_) #[T,T,T,T,T,T,T,T,T,T,T,T,T,T,T] rfl rfl (any_of HT_.out (by kernel_rfl)) (fun _ _ _ h => h) (Or.inl ⟨by rfl, ?_⟩) ?_ ?_
 rotate_left;{
 intro w'
 go_simp
 with_reducible rfl}
 rotate_left;{
 simp only [ap,sA,s0,s1,i64_w,i32_w]
 rfl}
 refine done_ (done_of HT_.out (by kernel_rfl)) ?_
 try go_wp2
 go_meet
 case rel => exact ⟨_, (false), (by first | rfl | (simp; done) | (simp [*]; done)), H', ⟨by have := HK1.out; first | omega | exact Nat.le_refl _⟩, ⟨by (with_reducible repeat first|refine bN ?_ _|refine bD ?_|refine bA ?_ _);exact BK276.out⟩, ⟨by repeat (first | (with_reducible first | exact HB.out | apply below_alloc | apply pw_below_drewN | apply below_drew1 | refine below_set ?_ GE276.out) | exact HB.out)⟩⟩)
 clear HC24
 try clear c1; try clear c2; try clear p2; try clear q2; try clear hx2; try clear c3; try clear c6; try clear c6b0; try clear c6b1; try clear p6; try clear c7; try clear c7b0; try clear c7b1; try clear c7b2; try clear c11; try clear c14; try clear c14b0; try clear c15; try clear c15b0; try clear c17; try clear c19; try clear c19b0; try clear c19b1; try clear p27; try clear q27; try clear hx27; try clear c28; try clear p28; try clear q28; try clear hx28; try clear c29; try clear c29b0; try clear c30; try clear c31; try clear c31b0; try clear c32; try clear c32b0; try clear hcz12_0; try clear hcz12_1; try clear hcz12_2; try clear hcz12_3; try clear hcz9_0; try clear hcz9_1; try clear hcz9_2; try clear hcz9_3; try clear hfz12_0; try clear hfz12_1; try clear hfz12_2; try clear hfz12_3; try clear hfz9_0; try clear hfz9_1; try clear hfz9_2; try clear hfz9_3; try clear hx278_0; try clear hx278_1; try clear hx280_0; try clear hx280_1; try clear hx284_0; try clear hx284_1; try clear hx285_0; try clear hx285_1; try clear p2; try clear p278; try clear p280; try clear p284; try clear p285; try clear q278; try clear q280; try clear q284; try clear q285
 obtain ⟨kq, x60_23, rfl, HA, HJ23, BK276, HB⟩ := hcut
 cases kq with
 | zero => exact absurd HA.out (by simp [wigeonref02_CheckWay.j1])
 | succ kj23 =>
  have H := HA.out
  clear HA
  simp only [wigeonref02_CheckWay.j1] at H
  by_cases c37 : x60_23 = true
  {
 subst c37
 have H1 : (some (x11_1, 13)) = some (r1, r2) := by rw [if_pos rfl] at H; exact H
 clear H
 have H := H1
 clear H1
 simp only [Option.some.injEq, Prod.mk.injEq] at H
 obtain ⟨rfl, rfl⟩ := H
 go_wp2
 go_ret2
 exact ⟨by first | rfl | (simp [errW_none, errW_some] <;> rfl) | (simp [*, errW_none, errW_some] <;> rfl), by repeat (first | (with_reducible first | exact HB.out | apply below_alloc | apply pw_below_drewN | apply below_drew1 | refine below_set ?_ GE276.out) | exact HB.out)⟩}
  replace c37 := Bool.eq_false_iff.mpr c37
  subst c37
  have H1 : (if x11_1 > 0 then (if 0 ≤ (wrap64 (x11_1 - 1)) then (if (wrap64 (x11_1 - 1)) < (l3.length : Int) then (if 0 ≤ x11_1 then (if x11_1 < (l3.length : Int) then ((wigeonref02_sees.f kj23 l0 ((rd_T25 l3 (wrap64 (x11_1 - 1))).f0) ((rd_T25 l3 (wrap64 (x11_1 - 1))).f1) ((rd_T25 l3 x11_1).f0) ((rd_T25 l3 x11_1).f1)).bind fun t289 => (if t289 = true then (wigeonref02_CheckWay.l0 kj23 l0 l1 l3 (wrap64 (x11_1 + 1)) a2_0 a2_1 a2_2 a2_3) else (some (x11_1, 12)))) else (none)) else (none)) else (none)) else (none)) else (wigeonref02_CheckWay.l0 kj23 l0 l1 l3 (wrap64 (x11_1 + 1)) a2_0 a2_1 a2_2 a2_3)) = some (r1, r2) := by rw [if_neg (show ¬ (false = true) by decide)] at H; exact H
  clear H
  have H := H1
  clear H1
  by_cases c38 : x11_1 > 0
  {
 rw [if_pos c38] at H
 have c38b0 : decide (0 < x11_1) = true := decide_eq_true c38
 clear c38
 obtain ⟨ji39, hji39⟩ : ∃ j_ : Int, (wrap64 (x11_1 - 1)) = j_ := ⟨_, rfl⟩
 replace H : (if 0 ≤ (ji39) then (if (ji39) < (l3.length : Int) then (if 0 ≤ x11_1 then (if x11_1 < (l3.length : Int) then ((wigeonref02_sees.f kj23 l0 ((rd_T25 l3 (ji39)).f0) ((rd_T25 l3 (ji39)).f1) ((rd_T25 l3 x11_1).f0) ((rd_T25 l3 x11_1).f1)).bind fun t289 => (if t289 = true then (wigeonref02_CheckWay.l0 kj23 l0 l1 l3 (wrap64 (x11_1 + 1)) a2_0 a2_1 a2_2 a2_3) else (some (x11_1, 12)))) else (none)) else (none)) else (none)) else (none)) = some (r1, r2) := by first | (rw [hji39] at H; exact H) | (simp only [hji39] at H ⊢; exact H)
 have hji39w : (IntKind.i64.wrap (x11_1 - 1)) = ji39 := (i64_w _).trans hji39
 by_cases c40 : 0 ≤ (ji39)
 {
 rw [if_pos c40] at H
 have c40b0 : decide (0 ≤ (ji39)) = true := decide_eq_true c40
 clear c40
 by_cases c41 : (ji39) < (l3.length : Int)
 {
 rw [if_pos c41] at H
 have c41b0 : decide ((ji39) < (l3.length : Int)) = true := decide_eq_true c41
 clear c41
 by_cases c42 : 0 ≤ x11_1
 {
 rw [if_pos c42] at H
 have c42b0 : decide (0 ≤ x11_1) = true := decide_eq_true c42
 clear c42
 by_cases c43 : x11_1 < (l3.length : Int)
 {
 rw [if_pos c43] at H
 have c43b0 : decide (x11_1 < (l3.length : Int)) = true := decide_eq_true c43
 clear c43
 replace H := Option.bind_eq_some_iff.mp H
 obtain ⟨t289, A440, H⟩ := H
 replace H : (if t289 = true then (wigeonref02_CheckWay.l0 kj23 l0 l1 l3 (wrap64 (x11_1 + 1)) a2_0 a2_1 a2_2 a2_3) else (some (x11_1, 12))) = some (r1, r2) := H
 have A44 := am A440
 clear A440
 by_cases c45 : t289 = true
 {
 subst c45
 have H1 : (wigeonref02_CheckWay.l0 kj23 l0 l1 l3 (wrap64 (x11_1 + 1)) a2_0 a2_1 a2_2 a2_3) = some (r1, r2) := by rw [if_pos rfl] at H; exact H
 clear H
 have H := H1
 clear H1
 have H' := am H
 clear H
 try go_wp2
 have n0_ := am (blk_drew BK276.out)
 have n1_ := am (below_drew1 HB.out)
 clear BK276
 clear HB
 have BK276 := n0_
 have HB := n1_
 clear n0_ n1_
 have p287 : 0 ≤ ((ji39) : Int) := of_decide_eq_true (by first | (with_reducible assumption) | assumption)
 have q287 : (ji39) < (l3.length : Int) := of_decide_eq_true (by first | (with_reducible assumption) | assumption)
 obtain ⟨ad287, e287, hx287_0, hx287_1⟩ := at_T25 HR3.out (ji39) p287 q287
 have hw287_1 := hx287_1
 have hw287_0 := hx287_0
 obtain rfl : ad278 = ad287 := (by injection e287)
 replace hx287_0 := (HB.out.cell (World.block_lt_of_cell? w _ hx287_0)).trans hx287_0
 replace hx287_1 := (HB.out.cell (World.block_lt_of_cell? w _ hx287_1)).trans hx287_1
 replace p287 := eq_true p287
 replace q287 := eq_true q287
 have p288 : 0 ≤ (x11_1 : Int) := of_decide_eq_true (by first | (with_reducible assumption) | assumption)
 have q288 : x11_1 < (l3.length : Int) := of_decide_eq_true (by first | (with_reducible assumption) | assumption)
 obtain ⟨ad288, e288, hx288_0, hx288_1⟩ := at_T25 HR3.out x11_1 p288 q288
 have hw288_1 := hx288_1
 have hw288_0 := hx288_0
 obtain rfl : ad278 = ad288 := (by injection e288)
 replace hx288_0 := (HB.out.cell (World.block_lt_of_cell? w _ hx288_0)).trans hx288_0
 replace hx288_1 := (HB.out.cell (World.block_lt_of_cell? w _ hx288_1)).trans hx288_1
 replace p288 := eq_true p288
 replace q288 := eq_true q288
 refine start_ (n := 16) (S := fun w' => w'.cell? (ad278.add (((ji39)).toNat * 2)) = some (.int .i64 ((rd_T25 l3 (ji39)).f0)) ∧ w'.cell? ⟨(ad278.add (((ji39)).toNat * 2)).block, (ad278.add (((ji39)).toNat * 2)).off + 1, none⟩ = some (.int .i64 ((rd_T25 l3 (ji39)).f1)) ∧ w'.cell? (ad278.add ((x11_1).toNat * 2)) = some (.int .i64 ((rd_T25 l3 x11_1).f0)) ∧ w'.cell? ⟨(ad278.add ((x11_1).toNat * 2)).block, (ad278.add ((x11_1).toNat * 2)).off + 1, none⟩ = some (.int .i64 ((rd_T25 l3 x11_1).f1))) (ds := []) #[F,F,F,F,F,F,F,F,F,F,F,F,F,F,F,F] (by kernel_rfl) rfl rfl ⟨((HB.out.cell (World.block_lt_of_cell? w _ hw287_0)).trans hw287_0), ((HB.out.cell (World.block_lt_of_cell? w _ hw287_1)).trans hw287_1), ((HB.out.cell (World.block_lt_of_cell? w _ hw288_0)).trans hw288_0), ((HB.out.cell (World.block_lt_of_cell? w _ hw288_1)).trans hw288_1)⟩ (fun hHeld => ?_); refine with_tabW wigeonref02_CheckWay.tab15 wigeonref02_CheckWay.bits15 (fun HT_ HW_ => ?_)
 generalize wc.drew = w46 at BK276 HB hx287_0 hx287_1 hx288_0 hx288_1 hHeld ⊢
 refine pure_ (i := 0) (N := some 62) (v := ?_) (a' := ?_) #[T,F,F,F,F,F,F,F,F,F,F,F,F,F,F,F] rfl rfl (any_of HT_.out (by kernel_rfl)) (fun _ _ _ h => h) (Or.inl ⟨by rfl, ?_⟩) ?_ ?_
 rotate_left;{
 intro w'
 go_simp
 with_reducible rfl}
 rotate_left;{
 simp only [ap,sA,s0,s1,i64_w,i32_w]
 rfl}
 refine pure_ (i := 1) (N := some 63) (v := ?_) (a' := ?_) #[T,T,F,F,F,F,F,F,F,F,F,F,F,F,F,F] rfl rfl (any_of HT_.out (by kernel_rfl)) (fun _ _ _ h => h) (Or.inl ⟨by rfl, ?_⟩) ?_ ?_
 rotate_left;{
 intro w'
 go_simp
 with_reducible rfl}
 rotate_left;{
 simp only [ap,sA,s0,s1,i64_w,i32_w]
 rfl}
 refine pure_ (i := 2) (N := some 64) (v := ?_) (a' := ?_) #[T,T,T,F,F,F,F,F,F,F,F,F,F,F,F,F] rfl rfl (any_of HT_.out (by kernel_rfl)) (fun _ _ _ h => h) (Or.inl ⟨by rfl, ?_⟩) ?_ ?_
 rotate_left;{
 intro w'
 go_simp
 with_reducible rfl}
 rotate_left;{
 simp only [ap,sA,s0,s1,i64_w,i32_w]
 rfl}
 refine pure_ (i := 3) (N := some 65) (v := ?_) (a' := ?_) #[T,T,T,T,F,F,F,F,F,F,F,F,F,F,F,F] rfl rfl (any_of HT_.out (by kernel_rfl)) (fun _ _ _ h => h) (Or.inl ⟨by rfl, ?_⟩) ?_ ?_
 rotate_left;{
 intro w'
 go_simp
 with_reducible rfl}
 rotate_left;{
 simp only [ap,sA,s0,s1,i64_w,i32_w]
 rfl}
 refine pure_ (i := 4) (N := some 66) (v := ?_) (a' := ?_) #[T,T,T,T,T,F,F,F,F,F,F,F,F,F,F,F] rfl rfl (any_of HT_.out (by kernel_rfl)) (fun _ _ _ h => h) (Or.inl ⟨by rfl, ?_⟩) ?_ ?_
 rotate_left;{
 intro w'
 go_simp
 with_reducible rfl}
 rotate_left;{
 simp only [ap,sA,s0,s1,i64_w,i32_w]
 rfl}
 refine pure_ (i := 5) (N := some 67) (v := ?_) (a' := ?_) #[T,T,T,T,T,T,F,F,F,F,F,F,F,F,F,F] rfl rfl (any_of HT_.out (by kernel_rfl)) (fun _ _ _ h => h) (Or.inl ⟨by rfl, ?_⟩) ?_ ?_
 rotate_left;{
 intro w'
 go_simp
 with_reducible rfl}
 rotate_left;{
 simp only [ap,sA,s0,s1,i64_w,i32_w]
 rfl}
 refine pure_ (i := 6) (N := some 68) (v := ?_) (a' := ?_) #[T,T,T,T,T,T,T,F,F,F,F,F,F,F,F,F] rfl rfl (any_of HT_.out (by kernel_rfl)) (fun _ _ _ h => h) (Or.inl ⟨by rfl, ?_⟩) ?_ ?_
 rotate_left;{
 intro w'
 go_simp
 with_reducible rfl}
 rotate_left;{
 simp only [ap,sA,s0,s1,i64_w,i32_w]
 rfl}
 refine pure_ (i := 7) (N := some 69) (v := ?_) (a' := ?_) #[T,T,T,T,T,T,T,T,F,F,F,F,F,F,F,F] rfl rfl (any_of HT_.out (by kernel_rfl)) (fun _ _ _ h => h) (Or.inl ⟨by rfl, ?_⟩) ?_ ?_
 rotate_left;{
 intro w'
 go_simp
 with_reducible rfl}
 rotate_left;{
 simp only [ap,sA,s0,s1,i64_w,i32_w]
 rfl}
 refine pure_ (i := 9) (N := some 71) (v := ?_) (a' := ?_) #[T,T,T,T,T,T,T,T,F,T,F,F,F,F,F,F] rfl rfl (any_of HT_.out (by kernel_rfl)) (fun _ _ _ h => h) (Or.inl ⟨by rfl, ?_⟩) ?_ ?_
 rotate_left;{
 intro w'
 go_simp
 with_reducible rfl}
 rotate_left;{
 simp only [ap,sA,s0,s1,i64_w,i32_w]
 rfl}
 refine pure_ (i := 10) (N := some 72) (v := ?_) (a' := ?_) #[T,T,T,T,T,T,T,T,F,T,T,F,F,F,F,F] rfl rfl (any_of HT_.out (by kernel_rfl)) (fun _ _ _ h => h) (Or.inl ⟨by rfl, ?_⟩) ?_ ?_
 rotate_left;{
 intro w'
 go_simp
 with_reducible rfl}
 rotate_left;{
 simp only [ap,sA,s0,s1,i64_w,i32_w]
 rfl}
 refine pure_ (i := 11) (N := some 73) (v := ?_) (a' := ?_) #[T,T,T,T,T,T,T,T,F,T,T,T,F,F,F,F] rfl rfl (any_of HT_.out (by kernel_rfl)) (fun _ _ _ h => h) (Or.inl ⟨by rfl, ?_⟩) ?_ ?_
 rotate_left;{
 intro w'
 go_simp
 with_reducible rfl}
 rotate_left;{
 simp only [ap,sA,s0,s1,i64_w,i32_w]
 rfl}
 refine take_ (i := 8) (N := some 70) (v := ?_) (a' := ?_) #[T,T,T,T,T,T,T,T,T,T,T,T,F,F,F,F] rfl rfl (take_ofW HT_.out HW_.out (by kernel_rfl)) (fun _ _ _ h => h) (Or.inl ⟨by rfl, ?_⟩) hHeld ?_ ?_
 rotate_left;{
 rintro w' ⟨s0, s1, s2, s3⟩
 go_simp
 with_reducible rfl}
 rotate_left;{
 simp only [ap,sA,s0,s1,i64_w,i32_w]
 rfl}
 refine take_ (i := 12) (N := some 74) (v := ?_) (a' := ?_) #[T,T,T,T,T,T,T,T,T,T,T,T,T,F,F,F] rfl rfl (take_ofW HT_.out HW_.out (by kernel_rfl)) (fun _ _ _ h => h) (Or.inl ⟨by rfl, ?_⟩) hHeld ?_ ?_
 rotate_left;{
 rintro w' ⟨s0, s1, s2, s3⟩
 go_simp
 with_reducible rfl}
 rotate_left;{
 simp only [ap,sA,s0,s1,i64_w,i32_w]
 rfl}
 refine one_ (i := 13) (N := some 75) #[T,T,T,T,T,T,T,T,T,T,T,T,T,T,F,F] rfl rfl (one_of HT_.out (by kernel_rfl)) (by decide) (fun K hK => ?_)
 refine goes_ Try.func32 (by kernel_rfl) rfl #[.slice A0 l0.length c0, .agg #[.int .i64 ((rd_T25 l3 (ji39)).f0), .int .i64 ((rd_T25 l3 (ji39)).f1)], .agg #[.int .i64 ((rd_T25 l3 x11_1).f0), .int .i64 ((rd_T25 l3 x11_1).f1)]] (by rfl) rfl rfl (by (try simp only [List.map_toArray, List.map_cons, List.map_nil]); first | done | (simp only [hji39]; rfl) | rfl | (simp only [List.length_drop, List.length_take]; rfl)) ?_
 with_reducible refine (wigeonref02_sees.calls kj23 _ _ l0 ((rd_T25 l3 (ji39)).f0) ((rd_T25 l3 (ji39)).f1) ((rd_T25 l3 x11_1).f0) ((rd_T25 l3 x11_1).f1) true _ ?side1 ?side2 A44.out).mono ?_
 (case side1 => repeat (first | exact (Kd.C_below HR0.out HB.out) | (with_reducible refine Kd.C_alloc ?_ _) | (with_reducible refine Kd.C_drewN ?_ _) | (with_reducible refine Kd.C_drew ?_)))
 (case side2 => exact HC0.out)
 rintro e w47 ⟨rfl, hb⟩
 refine ⟨_, rfl, ?_⟩
 have n0_ := am (blk_below (by (with_reducible repeat first|refine bN ?_ _|refine bD ?_|refine bA ?_ _);exact BK276.out) hb)
 have n1_ := am (below_step (by repeat first|(with_reducible first|exact HB.out|apply wA|apply wN|apply wD|refine wS ?_ GE276.out)|exact HB.out) hb)
 clear BK276
 clear HB
 have BK276 := n0_
 have HB := n1_
 clear n0_ n1_
 (try clear hb)
 (try clear hb2)
 (try clear hk)
 (try clear hi)
 refine hK.out _ _ ⟨((HB.out.cell (World.block_lt_of_cell? w _ hw287_0)).trans hw287_0), ((HB.out.cell (World.block_lt_of_cell? w _ hw287_1)).trans hw287_1), ((HB.out.cell (World.block_lt_of_cell? w _ hw288_0)).trans hw288_0), ((HB.out.cell (World.block_lt_of_cell? w _ hw288_1)).trans hw288_1)⟩ (fun hHeld => ?_)
 clear hK K
 refine norm_ (a' := ?_) ?_ ?_
 rotate_left;{
 show Act.put _ (some 75) _ = _
 simp only [ap,sA,s0,s1,i64_w,i32_w]
 rfl}
 refine pure_ (i := 14) (N := some 76) (v := ?_) (a' := ?_) #[T,T,T,T,T,T,T,T,T,T,T,T,T,T,T,F] rfl rfl (any_of HT_.out (by kernel_rfl)) (fun _ _ _ h => h) (Or.inl ⟨by rfl, ?_⟩) ?_ ?_
 rotate_left;{
 intro w'
 go_simp
 with_reducible rfl}
 rotate_left;{
 simp only [ap,sA,s0,s1,i64_w,i32_w]
 rfl}
 refine pure_ (i := 15) (N := some 77) (v := ?_) (a' := ?_) #[T,T,T,T,T,T,T,T,T,T,T,T,T,T,T,T] rfl rfl (any_of HT_.out (by kernel_rfl)) (fun _ _ _ h => h) (Or.inl ⟨by rfl, ?_⟩) ?_ ?_
 rotate_left;{
 intro w'
 go_simp
 with_reducible rfl}
 rotate_left;{
 simp only [ap,sA,s0,s1,i64_w,i32_w]
 rfl}
 refine done_ (done_of HT_.out (by kernel_rfl)) ?_
 try go_wp2
 go_roundg kj23
 case measure => have := HK1.out; have := HJ23.out; omega
 case rel => exact ⟨(wrap64 (x11_1 + 1)), (by first | rfl | (simp; done) | (simp [*]; done)), H', ⟨by have := HK1.out; have := HJ23.out; omega⟩, ⟨by (with_reducible repeat first|refine bN ?_ _|refine bD ?_|refine bA ?_ _);exact BK276.out⟩, ⟨by repeat (first | (with_reducible first | exact HB.out | apply below_alloc | apply pw_below_drewN | apply below_drew1 | refine below_set ?_ GE276.out) | exact HB.out)⟩⟩}
 replace c45 := Bool.eq_false_iff.mpr c45
 subst c45
 have H1 : (some (x11_1, 12)) = some (r1, r2) := by rw [if_neg (show ¬ (false = true) by decide)] at H; exact H
 clear H
 have H := H1
 clear H1
 simp only [Option.some.injEq, Prod.mk.injEq] at H
 obtain ⟨rfl, rfl⟩ := H
 try go_wp2
 have n0_ := am (blk_drew BK276.out)
 have n1_ := am (below_drew1 HB.out)
 clear BK276
 clear HB
 have BK276 := n0_
 have HB := n1_
 clear n0_ n1_
 have p287 : 0 ≤ ((ji39) : Int) := of_decide_eq_true (by first | (with_reducible assumption) | assumption)
 have q287 : (ji39) < (l3.length : Int) := of_decide_eq_true (by first | (with_reducible assumption) | assumption)
 obtain ⟨ad287, e287, hx287_0, hx287_1⟩ := at_T25 HR3.out (ji39) p287 q287
 have hw287_1 := hx287_1
 have hw287_0 := hx287_0
 obtain rfl : ad278 = ad287 := (by injection e287)
 replace hx287_0 := (HB.out.cell (World.block_lt_of_cell? w _ hx287_0)).trans hx287_0
 replace hx287_1 := (HB.out.cell (World.block_lt_of_cell? w _ hx287_1)).trans hx287_1
 replace p287 := eq_true p287
 replace q287 := eq_true q287
 have p288 : 0 ≤ (x11_1 : Int) := of_decide_eq_true (by first | (with_reducible assumption) | assumption)
 have q288 : x11_1 < (l3.length : Int) := of_decide_eq_true (by first | (with_reducible assumption) | assumption)
 obtain ⟨ad288, e288, hx288_0, hx288_1⟩ := at_T25 HR3.out x11_1 p288 q288
 have hw288_1 := hx288_1
 have hw288_0 := hx288_0
 obtain rfl : ad278 = ad288 := (by injection e288)
 replace hx288_0 := (HB.out.cell (World.block_lt_of_cell? w _ hx288_0)).trans hx288_0
 replace hx288_1 := (HB.out.cell (World.block_lt_of_cell? w _ hx288_1)).trans hx288_1
 replace p288 := eq_true p288
 replace q288 := eq_true q288
 refine start_ (n := 16) (S := fun w' => w'.cell? (ad278.add (((ji39)).toNat * 2)) = some (.int .i64 ((rd_T25 l3 (ji39)).f0)) ∧ w'.cell? ⟨(ad278.add (((ji39)).toNat * 2)).block, (ad278.add (((ji39)).toNat * 2)).off + 1, none⟩ = some (.int .i64 ((rd_T25 l3 (ji39)).f1)) ∧ w'.cell? (ad278.add ((x11_1).toNat * 2)) = some (.int .i64 ((rd_T25 l3 x11_1).f0)) ∧ w'.cell? ⟨(ad278.add ((x11_1).toNat * 2)).block, (ad278.add ((x11_1).toNat * 2)).off + 1, none⟩ = some (.int .i64 ((rd_T25 l3 x11_1).f1))) (ds := []) #[F,F,F,F,F,F,F,F,F,F,F,F,F,F,F,F] (by kernel_rfl) rfl rfl ⟨((HB.out.cell (World.block_lt_of_cell? w _ hw287_0)).trans hw287_0), ((HB.out.cell (World.block_lt_of_cell? w _ hw287_1)).trans hw287_1), ((HB.out.cell (World.block_lt_of_cell? w _ hw288_0)).trans hw288_0), ((HB.out.cell (World.block_lt_of_cell? w _ hw288_1)).trans hw288_1)⟩ (fun hHeld => ?_); refine with_tabW wigeonref02_CheckWay.tab15 wigeonref02_CheckWay.bits15 (fun HT_ HW_ => ?_)
 generalize wc.drew = w48 at BK276 HB hx287_0 hx287_1 hx288_0 hx288_1 hHeld ⊢
 refine pure_ (i := 0) (N := some 62) (v := ?_) (a' := ?_) #[T,F,F,F,F,F,F,F,F,F,F,F,F,F,F,F] rfl rfl (any_of HT_.out (by kernel_rfl)) (fun _ _ _ h => h) (Or.inl ⟨by rfl, ?_⟩) ?_ ?_
 rotate_left;{
 intro w'
 go_simp
 with_reducible rfl}
 rotate_left;{
 simp only [ap,sA,s0,s1,i64_w,i32_w]
 rfl}
 refine pure_ (i := 1) (N := some 63) (v := ?_) (a' := ?_) #[T,T,F,F,F,F,F,F,F,F,F,F,F,F,F,F] rfl rfl (any_of HT_.out (by kernel_rfl)) (fun _ _ _ h => h) (Or.inl ⟨by rfl, ?_⟩) ?_ ?_
 rotate_left;{
 intro w'
 go_simp
 with_reducible rfl}
 rotate_left;{
 simp only [ap,sA,s0,s1,i64_w,i32_w]
 rfl}
 refine pure_ (i := 2) (N := some 64) (v := ?_) (a' := ?_) #[T,T,T,F,F,F,F,F,F,F,F,F,F,F,F,F] rfl rfl (any_of HT_.out (by kernel_rfl)) (fun _ _ _ h => h) (Or.inl ⟨by rfl, ?_⟩) ?_ ?_
 rotate_left;{
 intro w'
 go_simp
 with_reducible rfl}
 rotate_left;{
 simp only [ap,sA,s0,s1,i64_w,i32_w]
 rfl}
 refine pure_ (i := 3) (N := some 65) (v := ?_) (a' := ?_) #[T,T,T,T,F,F,F,F,F,F,F,F,F,F,F,F] rfl rfl (any_of HT_.out (by kernel_rfl)) (fun _ _ _ h => h) (Or.inl ⟨by rfl, ?_⟩) ?_ ?_
 rotate_left;{
 intro w'
 go_simp
 with_reducible rfl}
 rotate_left;{
 simp only [ap,sA,s0,s1,i64_w,i32_w]
 rfl}
 refine pure_ (i := 4) (N := some 66) (v := ?_) (a' := ?_) #[T,T,T,T,T,F,F,F,F,F,F,F,F,F,F,F] rfl rfl (any_of HT_.out (by kernel_rfl)) (fun _ _ _ h => h) (Or.inl ⟨by rfl, ?_⟩) ?_ ?_
 rotate_left;{
 intro w'
 go_simp
 with_reducible rfl}
 rotate_left;{
 simp only [ap,sA,s0,s1,i64_w,i32_w]
 rfl}
 refine pure_ (i := 5) (N := some 67) (v := ?_) (a' := ?_) #[T,T,T,T,T,T,F,F,F,F,F,F,F,F,F,F] rfl rfl (any_of HT_.out (by kernel_rfl)) (fun _ _ _ h => h) (Or.inl ⟨by rfl, ?_⟩) ?_ ?_
 rotate_left;{
 intro w'
 go_simp
 with_reducible rfl}
 rotate_left;{
 simp only [ap,sA,s0,s1,i64_w,i32_w]
 rfl}
 refine pure_ (i := 6) (N := some 68) (v := ?_) (a' := ?_) #[T,T,T,T,T,T,T,F,F,F,F,F,F,F,F,F] rfl rfl (any_of HT_.out (by kernel_rfl)) (fun _ _ _ h => h) (Or.inl ⟨by rfl, ?_⟩) ?_ ?_
 rotate_left;{
 intro w'
 go_simp
 with_reducible rfl}
 rotate_left;{
 simp only [ap,sA,s0,s1,i64_w,i32_w]
 rfl}
 refine pure_ (i := 7) (N := some 69) (v := ?_) (a' := ?_) #[T,T,T,T,T,T,T,T,F,F,F,F,F,F,F,F] rfl rfl (any_of HT_.out (by kernel_rfl)) (fun _ _ _ h => h) (Or.inl ⟨by rfl, ?_⟩) ?_ ?_
 rotate_left;{
 intro w'
 go_simp
 with_reducible rfl}
 rotate_left;{
 simp only [ap,sA,s0,s1,i64_w,i32_w]
 rfl}
 refine pure_ (i := 9) (N := some 71) (v := ?_) (a' := ?_) #[T,T,T,T,T,T,T,T,F,T,F,F,F,F,F,F] rfl rfl (any_of HT_.out (by kernel_rfl)) (fun _ _ _ h => h) (Or.inl ⟨by rfl, ?_⟩) ?_ ?_
 rotate_left;{
 intro w'
 go_simp
 with_reducible rfl}
 rotate_left;{
 simp only [ap,sA,s0,s1,i64_w,i32_w]
 rfl}
 refine pure_ (i := 10) (N := some 72) (v := ?_) (a' := ?_) #[T,T,T,T,T,T,T,T,F,T,T,F,F,F,F,F] rfl rfl (any_of HT_.out (by kernel_rfl)) (fun _ _ _ h => h) (Or.inl ⟨by rfl, ?_⟩) ?_ ?_
 rotate_left;{
 intro w'
 go_simp
 with_reducible rfl}
 rotate_left;{
 simp only [ap,sA,s0,s1,i64_w,i32_w]
 rfl}
 refine pure_ (i := 11) (N := some 73) (v := ?_) (a' := ?_) #[T,T,T,T,T,T,T,T,F,T,T,T,F,F,F,F] rfl rfl (any_of HT_.out (by kernel_rfl)) (fun _ _ _ h => h) (Or.inl ⟨by rfl, ?_⟩) ?_ ?_
 rotate_left;{
 intro w'
 go_simp
 with_reducible rfl}
 rotate_left;{
 simp only [ap,sA,s0,s1,i64_w,i32_w]
 rfl}
 refine take_ (i := 8) (N := some 70) (v := ?_) (a' := ?_) #[T,T,T,T,T,T,T,T,T,T,T,T,F,F,F,F] rfl rfl (take_ofW HT_.out HW_.out (by kernel_rfl)) (fun _ _ _ h => h) (Or.inl ⟨by rfl, ?_⟩) hHeld ?_ ?_
 rotate_left;{
 rintro w' ⟨s0, s1, s2, s3⟩
 go_simp
 with_reducible rfl}
 rotate_left;{
 simp only [ap,sA,s0,s1,i64_w,i32_w]
 rfl}
 refine take_ (i := 12) (N := some 74) (v := ?_) (a' := ?_) #[T,T,T,T,T,T,T,T,T,T,T,T,T,F,F,F] rfl rfl (take_ofW HT_.out HW_.out (by kernel_rfl)) (fun _ _ _ h => h) (Or.inl ⟨by rfl, ?_⟩) hHeld ?_ ?_
 rotate_left;{
 rintro w' ⟨s0, s1, s2, s3⟩
 go_simp
 with_reducible rfl}
 rotate_left;{
 simp only [ap,sA,s0,s1,i64_w,i32_w]
 rfl}
 refine one_ (i := 13) (N := some 75) #[T,T,T,T,T,T,T,T,T,T,T,T,T,T,F,F] rfl rfl (one_of HT_.out (by kernel_rfl)) (by decide) (fun K hK => ?_)
 refine goes_ Try.func32 (by kernel_rfl) rfl #[.slice A0 l0.length c0, .agg #[.int .i64 ((rd_T25 l3 (ji39)).f0), .int .i64 ((rd_T25 l3 (ji39)).f1)], .agg #[.int .i64 ((rd_T25 l3 x11_1).f0), .int .i64 ((rd_T25 l3 x11_1).f1)]] (by rfl) rfl rfl (by (try simp only [List.map_toArray, List.map_cons, List.map_nil]); first | done | (simp only [hji39]; rfl) | rfl | (simp only [List.length_drop, List.length_take]; rfl)) ?_
 with_reducible refine (wigeonref02_sees.calls kj23 _ _ l0 ((rd_T25 l3 (ji39)).f0) ((rd_T25 l3 (ji39)).f1) ((rd_T25 l3 x11_1).f0) ((rd_T25 l3 x11_1).f1) false _ ?side1 ?side2 A44.out).mono ?_
 (case side1 => repeat (first | exact (Kd.C_below HR0.out HB.out) | (with_reducible refine Kd.C_alloc ?_ _) | (with_reducible refine Kd.C_drewN ?_ _) | (with_reducible refine Kd.C_drew ?_)))
 (case side2 => exact HC0.out)
 rintro e w49 ⟨rfl, hb⟩
 refine ⟨_, rfl, ?_⟩
 have n0_ := am (blk_below (by (with_reducible repeat first|refine bN ?_ _|refine bD ?_|refine bA ?_ _);exact BK276.out) hb)
 have n1_ := am (below_step (by repeat first|(with_reducible first|exact HB.out|apply wA|apply wN|apply wD|refine wS ?_ GE276.out)|exact HB.out) hb)
 clear BK276
 clear HB
 have BK276 := n0_
 have HB := n1_
 clear n0_ n1_
 (try clear hb)
 (try clear hb2)
 (try clear hk)
 (try clear hi)
 refine hK.out _ _ ⟨((HB.out.cell (World.block_lt_of_cell? w _ hw287_0)).trans hw287_0), ((HB.out.cell (World.block_lt_of_cell? w _ hw287_1)).trans hw287_1), ((HB.out.cell (World.block_lt_of_cell? w _ hw288_0)).trans hw288_0), ((HB.out.cell (World.block_lt_of_cell? w _ hw288_1)).trans hw288_1)⟩ (fun hHeld => ?_)
 clear hK K
 refine norm_ (a' := ?_) ?_ ?_
 rotate_left;{
 show Act.put _ (some 75) _ = _
 simp only [ap,sA,s0,s1,i64_w,i32_w]
 rfl}
 refine pure_ (i := 14) (N := some 76) (v := ?_) (a' := ?_) #[T,T,T,T,T,T,T,T,T,T,T,T,T,T,T,F] rfl rfl (any_of HT_.out (by kernel_rfl)) (fun _ _ _ h => h) (Or.inl ⟨by rfl, ?_⟩) ?_ ?_
 rotate_left;{
 intro w'
 go_simp
 with_reducible rfl}
 rotate_left;{
 simp only [ap,sA,s0,s1,i64_w,i32_w]
 rfl}
 refine pure_ (i := 15) (N := some 77) (v := ?_) (a' := ?_) #[T,T,T,T,T,T,T,T,T,T,T,T,T,T,T,T] rfl rfl (any_of HT_.out (by kernel_rfl)) (fun _ _ _ h => h) (Or.inl ⟨by rfl, ?_⟩) ?_ ?_
 rotate_left;{
 intro w'
 go_simp
 with_reducible rfl}
 rotate_left;{
 simp only [ap,sA,s0,s1,i64_w,i32_w]
 rfl}
 refine done_ (done_of HT_.out (by kernel_rfl)) ?_
 try go_wp2
 go_ret2
 exact ⟨by first | rfl | (simp [errW_none, errW_some] <;> rfl) | (simp only [← hji39]; first | rfl | (simp [errW_none, errW_some] <;> rfl)) | (simp [*, errW_none, errW_some] <;> rfl), by repeat (first | (with_reducible first | exact HB.out | apply below_alloc | apply pw_below_drewN | apply below_drew1 | refine below_set ?_ GE276.out) | exact HB.out)⟩}
 rw [if_neg c43] at H
 exact absurd H (by simp)}
 rw [if_neg c42] at H
 exact absurd H (by simp)}
 rw [if_neg c41] at H
 exact absurd H (by simp)}
 rw [if_neg c40] at H
 exact absurd H (by simp)}
  rw [if_neg c38] at H
  have c38b0 : decide (0 < x11_1) = false := decide_eq_false c38
  clear c38
  have H' := am H
  clear H
  try go_wp2
  have n0_ := am (blk_drew BK276.out)
  have n1_ := am (below_drew1 HB.out)
  clear BK276
  clear HB
  have BK276 := n0_
  have HB := n1_
  clear n0_ n1_
  refine start_ (n := 16) (S := fun w' => True) (ds := []) #[F,F,F,F,F,F,F,F,F,F,F,F,F,F,F,F] (by kernel_rfl) rfl rfl trivial (fun hHeld => ?_); refine with_tabW wigeonref02_CheckWay.tab15 wigeonref02_CheckWay.bits15 (fun HT_ HW_ => ?_)
  generalize wc.drew = w50 at BK276 HB hHeld ⊢
  refine pure_ (i := 0) (N := some 62) (v := ?_) (a' := ?_) #[T,F,F,F,F,F,F,F,F,F,F,F,F,F,F,F] rfl rfl (any_of HT_.out (by kernel_rfl)) (fun _ _ _ h => h) (Or.inl ⟨by rfl, ?_⟩) ?_ ?_
  rotate_left;{
 intro w'
 go_simp
 with_reducible rfl}
  rotate_left;{
 simp only [ap,sA,s0,s1,i64_w,i32_w]
 rfl}
  refine pure_ (i := 1) (N := some 63) (v := ?_) (a' := ?_) #[T,T,F,F,F,F,F,F,F,F,F,F,F,F,F,F] rfl rfl (any_of HT_.out (by kernel_rfl)) (fun _ _ _ h => h) (Or.inl ⟨by rfl, ?_⟩) ?_ ?_
  rotate_left;{
 intro w'
 go_simp
 with_reducible rfl}
  rotate_left;{
 simp only [ap,sA,s0,s1,i64_w,i32_w]
 rfl}
  refine pure_ (i := 2) (N := some 64) (v := ?_) (a' := ?_) #[T,T,T,F,F,F,F,F,F,F,F,F,F,F,F,F] rfl rfl (any_of HT_.out (by kernel_rfl)) (fun _ _ _ h => h) (Or.inl ⟨by rfl, ?_⟩) ?_ ?_
  rotate_left;{
 intro w'
 go_simp
 with_reducible rfl}
  rotate_left;{
 simp only [ap,sA,s0,s1,i64_w,i32_w]
 rfl}
  refine pure_ (i := 3) (N := some 65) (v := undef) (a' := ?_) #[T,T,T,T,F,F,F,F,F,F,F,F,F,F,F,F] rfl rfl (any_of HT_.out (by kernel_rfl)) (fun _ _ _ h => h) (Or.inr ⟨by rfl, rfl⟩) ?_ ?_
  rotate_left;{
 simp only [ap,sA,s0,s1,i64_w,i32_w]
 rfl}
  refine pure_ (i := 4) (N := some 66) (v := undef) (a' := ?_) #[T,T,T,T,T,F,F,F,F,F,F,F,F,F,F,F] rfl rfl (any_of HT_.out (by kernel_rfl)) (fun _ _ _ h => h) (Or.inr ⟨by rfl, rfl⟩) ?_ ?_
  rotate_left;{
 simp only [ap,sA,s0,s1,i64_w,i32_w]
 rfl}
  refine pure_ (i := 5) (N := some 67) (v := undef) (a' := ?_) #[T,T,T,T,T,T,F,F,F,F,F,F,F,F,F,F] rfl rfl (any_of HT_.out (by kernel_rfl)) (fun _ _ _ h => h) (Or.inr ⟨by rfl, rfl⟩) ?_ ?_
  rotate_left;{
 simp only [ap,sA,s0,s1,i64_w,i32_w]
 rfl}
  refine pure_ (i := 6) (N := some 68) (v := undef) (a' := ?_) #[T,T,T,T,T,T,T,F,F,F,F,F,F,F,F,F] rfl rfl (any_of HT_.out (by kernel_rfl)) (fun _ _ _ h => h) (Or.inr ⟨by rfl, rfl⟩) ?_ ?_
  rotate_left;{
 simp only [ap,sA,s0,s1,i64_w,i32_w]
 rfl}
  refine pure_ (i := 7) (N := some 69) (v := undef) (a' := ?_) #[T,T,T,T,T,T,T,T,F,F,F,F,F,F,F,F] rfl rfl (any_of HT_.out (by kernel_rfl)) (fun _ _ _ h => h) (Or.inr ⟨by rfl, rfl⟩) ?_ ?_
  rotate_left;{
 simp only [ap,sA,s0,s1,i64_w,i32_w]
 rfl}
  refine pure_ (i := 8) (N := some 70) (v := undef) (a' := ?_) #[T,T,T,T,T,T,T,T,T,F,F,F,F,F,F,F] rfl rfl (any_of HT_.out (by kernel_rfl)) (fun _ _ _ h => h) (Or.inr ⟨by rfl, rfl⟩) ?_ ?_
  rotate_left;{
 simp only [ap,sA,s0,s1,i64_w,i32_w]
 rfl}
  refine pure_ (i := 9) (N := some 71) (v := undef) (a' := ?_) #[T,T,T,T,T,T,T,T,T,T,F,F,F,F,F,F] rfl rfl (any_of HT_.out (by kernel_rfl)) (fun _ _ _ h => h) (Or.inr ⟨by rfl, rfl⟩) ?_ ?_
  rotate_left;{
 simp only [ap,sA,s0,s1,i64_w,i32_w]
 rfl}
  refine pure_ (i := 10) (N := some 72) (v := undef) (a' := ?_) #[T,T,T,T,T,T,T,T,T,T,T,F,F,F,F,F] rfl rfl (any_of HT_.out (by kernel_rfl)) (fun _ _ _ h => h) (Or.inr ⟨by rfl, rfl⟩) ?_ ?_
  rotate_left;{
 simp only [ap,sA,s0,s1,i64_w,i32_w]
 rfl}
  refine pure_ (i := 11) (N := some 73) (v := undef) (a' := ?_) #[T,T,T,T,T,T,T,T,T,T,T,T,F,F,F,F] rfl rfl (any_of HT_.out (by kernel_rfl)) (fun _ _ _ h => h) (Or.inr ⟨by rfl, rfl⟩) ?_ ?_
  rotate_left;{
 simp only [ap,sA,s0,s1,i64_w,i32_w]
 rfl}
  refine pure_ (i := 12) (N := some 74) (v := undef) (a' := ?_) #[T,T,T,T,T,T,T,T,T,T,T,T,T,F,F,F] rfl rfl (any_of HT_.out (by kernel_rfl)) (fun _ _ _ h => h) (Or.inr ⟨by rfl, rfl⟩) ?_ ?_
  rotate_left;{
 simp only [ap,sA,s0,s1,i64_w,i32_w]
 rfl}
  refine pure_ (i := 13) (N := some 75) (v := undef) (a' := ?_) #[T,T,T,T,T,T,T,T,T,T,T,T,T,T,F,F] rfl rfl (any_of HT_.out (by kernel_rfl)) (fun _ _ _ h => h) (Or.inr ⟨by rfl, rfl⟩) ?_ ?_
  rotate_left;{
 simp only [ap,sA,s0,s1,i64_w,i32_w]
 rfl}
  refine pure_ (i := 14) (N := some 76) (v := undef) (a' := ?_) #[T,T,T,T,T,T,T,T,T,T,T,T,T,T,T,F] rfl rfl (any_of HT_.out (by kernel_rfl)) (fun _ _ _ h => h) (Or.inr ⟨by rfl, rfl⟩) ?_ ?_
  rotate_left;{
 simp only [ap,sA,s0,s1,i64_w,i32_w]
 rfl}
  refine pure_ (i := 15) (N := some 77) (v := ?_) (a' := ?_) #[T,T,T,T,T,T,T,T,T,T,T,T,T,T,T,T] rfl rfl (any_of HT_.out (by kernel_rfl)) (fun _ _ _ h => h) (Or.inl ⟨by rfl, ?_⟩) ?_ ?_
  rotate_left;{
 intro w'
 go_simp
 with_reducible rfl}
  rotate_left;{
 simp only [ap,sA,s0,s1,i64_w,i32_w]
 rfl}
  refine done_ (done_of HT_.out (by kernel_rfl)) ?_
  try go_wp2
  go_roundg kj23
  case measure => have := HK1.out; have := HJ23.out; omega
  case rel => exact ⟨(wrap64 (x11_1 + 1)), (by first | rfl | (simp; done) | (simp [*]; done)), H', ⟨by have := HK1.out; have := HJ23.out; omega⟩, ⟨by (with_reducible repeat first|refine bN ?_ _|refine bD ?_|refine bA ?_ _);exact BK276.out⟩, ⟨by repeat (first | (with_reducible first | exact HB.out | apply below_alloc | apply pw_below_drewN | apply below_drew1 | refine below_set ?_ GE276.out) | exact HB.out)⟩⟩}
 replace c17 := Bool.eq_false_iff.mpr c17
 subst c17
 have H1 : (some (x11_1, 1)) = some (r1, r2) := by rw [if_neg (show ¬ (false = true) by decide)] at H; exact H
 clear H
 have H := H1
 clear H1
 simp only [Option.some.injEq, Prod.mk.injEq] at H
 obtain ⟨rfl, rfl⟩ := H
 try go_wp2
 have n0_ := am (blk_drew BK276.out)
 have n1_ := am (below_drew1 HB.out)
 clear BK276
 clear HB
 have BK276 := n0_
 have HB := n1_
 clear n0_ n1_
 have p278 : 0 ≤ (x11_1 : Int) := of_decide_eq_true (by first | (with_reducible assumption) | assumption)
 have q278 : x11_1 < (l3.length : Int) := of_decide_eq_true (by first | (with_reducible assumption) | assumption)
 obtain ⟨ad278, e278, hx278_0, hx278_1⟩ := at_T25 HR3.out x11_1 p278 q278
 have hw278_1 := hx278_1
 have hw278_0 := hx278_0
 cases e278
 replace hx278_0 := (HB.out.cell (World.block_lt_of_cell? w _ hx278_0)).trans hx278_0
 replace hx278_1 := (HB.out.cell (World.block_lt_of_cell? w _ hx278_1)).trans hx278_1
 replace p278 := eq_true p278
 replace q278 := eq_true q278
 refine start_ (n := 7) (S := fun w' => w'.cell? ⟨gb276, 0, none⟩ = some (.int .i64 a2_0) ∧ w'.cell? ⟨gb276, 1, none⟩ = some (.int .i64 a2_1) ∧ w'.cell? ⟨gb276, 2, none⟩ = some (.int .i64 a2_2) ∧ w'.cell? ⟨gb276, 3, none⟩ = some (.int .i64 a2_3) ∧ w'.cell? (ad278.add ((x11_1).toNat * 2)) = some (.int .i64 ((rd_T25 l3 x11_1).f0)) ∧ w'.cell? ⟨(ad278.add ((x11_1).toNat * 2)).block, (ad278.add ((x11_1).toNat * 2)).off + 1, none⟩ = some (.int .i64 ((rd_T25 l3 x11_1).f1))) (ds := []) #[false, false, false, false, false, false, false] (by kernel_rfl) rfl rfl ⟨(blk_cell BK276.out 0).trans rfl, (blk_cell BK276.out 1).trans rfl, (blk_cell BK276.out 2).trans rfl, (blk_cell BK276.out 3).trans rfl, ((HB.out.cell (World.block_lt_of_cell? w _ hw278_0)).trans hw278_0), ((HB.out.cell (World.block_lt_of_cell? w _ hw278_1)).trans hw278_1)⟩ (fun hHeld => ?_)
 generalize wr.drew = w51 at BK276 HB hx278_0 hx278_1 hHeld ⊢
 refine pure_ (i := 1) (N := some 29) (v := ?_) (a' := ?_) #[false, true, false, false, false, false, false] rfl rfl (by kernel_rfl) (fun _ _ _ h => h) (Or.inl ⟨by rfl, ?_⟩) ?_ ?_
 rotate_left;{
 intro w'
 go_simp
 with_reducible rfl}
 rotate_left;{
 simp only [ap,sA,s0,s1,i64_w,i32_w]
 rfl}
 refine pure_ (i := 2) (N := some 30) (v := ?_) (a' := ?_) #[false, true, true, false, false, false, false] rfl rfl (by kernel_rfl) (fun _ _ _ h => h) (Or.inl ⟨by rfl, ?_⟩) ?_ ?_
 rotate_left;{
 intro w'
 go_simp
 with_reducible rfl}
 rotate_left;{
 simp only [ap,sA,s0,s1,i64_w,i32_w]
 rfl}
 refine pure_ (i := 3) (N := some 31) (v := ?_) (a' := ?_) #[false, true, true, true, false, false, false] rfl rfl (by kernel_rfl) (fun _ _ _ h => h) (Or.inl ⟨by rfl, ?_⟩) ?_ ?_
 rotate_left;{
 intro w'
 go_simp
 with_reducible rfl}
 rotate_left;{
 simp only [ap,sA,s0,s1,i64_w,i32_w]
 rfl}
 refine take_ (i := 0) (N := some 28) (v := ?_) (a' := ?_) #[true, true, true, true, false, false, false] rfl rfl (by kernel_rfl) (fun _ _ _ h => h) (Or.inl ⟨by rfl, ?_⟩) hHeld ?_ ?_
 rotate_left;{
 rintro w' ⟨s0, s1, s2, s3, s4, s5⟩
 go_simp
 with_reducible rfl}
 rotate_left;{
 simp only [ap,sA,s0,s1,i64_w,i32_w]
 rfl}
 refine take_ (i := 4) (N := some 32) (v := ?_) (a' := ?_) #[true, true, true, true, true, false, false] rfl rfl (by kernel_rfl) (fun _ _ _ h => h) (Or.inl ⟨by rfl, ?_⟩) hHeld ?_ ?_
 rotate_left;{
 rintro w' ⟨s0, s1, s2, s3, s4, s5⟩
 go_simp
 with_reducible rfl}
 rotate_left;{
 simp only [ap,sA,s0,s1,i64_w,i32_w]
 rfl}
 refine one_ (i := 5) (N := some 33) #[true, true, true, true, true, true, false] rfl rfl (by kernel_rfl) (by decide) (fun K hK => ?_)
 refine goes_ Try.func29 (by kernel_rfl) rfl #[.agg #[.int .i64 a2_0, .int .i64 a2_1, .int .i64 a2_2, .int .i64 a2_3], .agg #[.int .i64 ((rd_T25 l3 x11_1).f0), .int .i64 ((rd_T25 l3 x11_1).f1)]] (by rfl) rfl rfl (by (try simp only [List.map_toArray, List.map_cons, List.map_nil]); first | done | rfl | (simp only [List.length_drop, List.length_take]; rfl)) ?_
 with_reducible refine (wigeonref02_in.calls a2_0 a2_1 a2_2 a2_3 ((rd_T25 l3 x11_1).f0) ((rd_T25 l3 x11_1).f1) false _ A16.out).mono ?_
 rintro e w52 ⟨rfl, hb⟩
 refine ⟨_, rfl, ?_⟩
 have n0_ := am (blk_below (by (with_reducible repeat first|refine bN ?_ _|refine bD ?_|refine bA ?_ _);exact BK276.out) hb)
 have n1_ := am (below_step (by repeat first|(with_reducible first|exact HB.out|apply wA|apply wN|apply wD|refine wS ?_ GE276.out)|exact HB.out) hb)
 clear BK276
 clear HB
 have BK276 := n0_
 have HB := n1_
 clear n0_ n1_
 (try clear hb)
 (try clear hb2)
 (try clear hk)
 (try clear hi)
 refine hK.out _ _ ⟨(blk_cell BK276.out 0).trans rfl, (blk_cell BK276.out 1).trans rfl, (blk_cell BK276.out 2).trans rfl, (blk_cell BK276.out 3).trans rfl, ((HB.out.cell (World.block_lt_of_cell? w _ hw278_0)).trans hw278_0), ((HB.out.cell (World.block_lt_of_cell? w _ hw278_1)).trans hw278_1)⟩ (fun hHeld => ?_)
 clear hK K
 refine norm_ (a' := ?_) ?_ ?_
 rotate_left;{
 show Act.put _ (some 33) _ = _
 simp only [ap,sA,s0,s1,i64_w,i32_w]
 rfl}
 refine pure_ (i := 6) (N := some 34) (v := ?_) (a' := ?_) #[true, true, true, true, true, true, true] rfl rfl (by kernel_rfl) (fun _ _ _ h => h) (Or.inl ⟨by rfl, ?_⟩) ?_ ?_
 rotate_left;{
 intro w'
 go_simp
 with_reducible rfl}
 rotate_left;{
 simp only [ap,sA,s0,s1,i64_w,i32_w]
 rfl}
 refine done_ (by kernel_rfl) ?_
 try go_wp2
 go_ret2
 exact ⟨by first | rfl | (simp [errW_none, errW_some] <;> rfl) | (simp [*, errW_none, errW_some] <;> rfl), by repeat (first | (with_reducible first | exact HB.out | apply below_alloc | apply pw_below_drewN | apply below_drew1 | refine below_set ?_ GE276.out) | exact HB.out)⟩}
 rw [if_neg c15] at H
 exact absurd H (by simp)}
  rw [if_neg c14] at H
  have c14b0 : decide (x11_1 < (l3.length : Int)) = false := decide_eq_false c14
  clear c14
  simp only [Option.some.injEq, Prod.mk.injEq] at H
  obtain ⟨rfl, rfl⟩ := H
  go_wp2
  go_ret2
  exact ⟨by first | rfl | (simp [errW_none, errW_some] <;> rfl) | (simp [*, errW_none, errW_some] <;> rfl), by repeat (first | (with_reducible first | exact HB.out | apply below_alloc | apply pw_below_drewN | apply below_drew1 | refine below_set ?_ GE276.out) | exact HB.out)⟩)}
 rw [if_neg c6] at H
 have c6b0 : (t277 == 0) = false := beq_eq_false_iff_ne.mpr c6
 have c6b1 : (t277 != 0) = true := bne_iff_ne.mpr c6
 simp only [Option.some.injEq, Prod.mk.injEq] at H
 obtain ⟨rfl, rfl⟩ := H
 go_enter Try.func11, Try.ntmps11
 go_wp2_with (first | ((with_reducible refine gate_dst (N := 6) rfl ?_); refine box_event ?hg (N := 6) ?hd (cs := #[.int .i64 a2_0, .int .i64 a2_1, .int .i64 a2_2, .int .i64 a2_3]) (t := 27) ?hr ?_; (case hd => rfl); (case hg => rfl); (case hr => first | (go_simp; done) | (go_simp; rfl)); intro gb276 hg w53 hbox hb; have n0_ := am (below_step (by repeat first|(with_reducible first|exact HB.out|apply wA|apply wN|apply wD)|exact HB.out) hb); have n1_ := am (hbox); have n2_ := am ((by rw [hg]; exact (below_size (by repeat first|(with_reducible first|exact HB.out|apply wA|apply wN|apply wD)|exact HB.out)) : w.heap.size ≤ gb276)); have n3_ := am ((by rw [hg]; exact (below_size (by repeat first|(with_reducible first|exact HB.out|apply wA|apply wN|apply wD)|exact HB.out)) : w.heap.size ≤ gb276)); clear HB; have HB := n0_; have BK276 := n1_; have GW276 := n2_; have GE276 := n3_; clear n0_ n1_ n2_ n3_; clear hb hbox hg; have hcz54_0 : w53.cell? ⟨gb276, 0, none⟩ = some (.int .i64 a2_0) := (blk_cell BK276.out 0).trans rfl; have hcz54_1 : w53.cell? ⟨gb276, 1, none⟩ = some (.int .i64 a2_1) := (blk_cell BK276.out 1).trans rfl; have hcz54_2 : w53.cell? ⟨gb276, 2, none⟩ = some (.int .i64 a2_2) := (blk_cell BK276.out 2).trans rfl; have hcz54_3 : w53.cell? ⟨gb276, 3, none⟩ = some (.int .i64 a2_3) := (blk_cell BK276.out 3).trans rfl; have hfz54_0 := blk_frozen BK276.out 0; have hfz54_1 := blk_frozen BK276.out 1; have hfz54_2 := blk_frozen BK276.out 2; have hfz54_3 := blk_frozen BK276.out 3) | ((with_reducible refine gate_callee (f := 28) rfl ?_); refine goesL_ (some 15) rfl rfl Try.func28 (by kernel_rfl) rfl #[.slice A0 l0.length c0, .slice A1 l1.length c1, .slice none 0 0, .agg #[.int .i64 a2_0, .int .i64 a2_1, .int .i64 a2_2, .int .i64 a2_3]] rfl (by (try simp only [List.map_toArray, List.map_cons, List.map_nil]); first | done | rfl | (simp only [List.length_drop, List.length_take]; rfl)) ?_; (refine (wigeonref02_boxed.calls k _ _ l0 _ _ l1 _ _ ([] : List (S25)) a2_0 a2_1 a2_2 a2_3 t277 _ ?side1 ?side2 ?side3 ?side4 ?side5 ?side6 A5.out).mono ?_); (case side1 => repeat (first | exact (Kd.C_below HR0.out HB.out) | (with_reducible refine Kd.C_alloc ?_ _) | (with_reducible refine Kd.C_drewN ?_ _) | (with_reducible refine Kd.C_drew ?_))); (case side2 => exact HC0.out); (case side3 => repeat (first | exact (Kd.C_below HR1.out HB.out) | (with_reducible refine Kd.C_alloc ?_ _) | (with_reducible refine Kd.C_drewN ?_ _) | (with_reducible refine Kd.C_drew ?_))); (case side4 => exact HC1.out); (case side5 => exact Kd.C_nil _ _); (case side6 => exact Nat.le_refl _); rintro e w55 ⟨rfl, hb⟩; refine ⟨_, rfl, ?_⟩; have n0_ := am (blk_below (by (with_reducible repeat first|refine bN ?_ _|refine bD ?_|refine bA ?_ _);exact BK276.out) hb); have n1_ := am (below_step (by repeat first|(with_reducible first|exact HB.out|apply wA|apply wN|apply wD|refine wS ?_ GE276.out)|exact HB.out) hb); clear BK276; clear HB; have BK276 := n0_; have HB := n1_; clear n0_ n1_; (try clear hb); (try clear hb2); (try clear hk); (try clear hi)))
 go_ret2
 exact ⟨by first | rfl | (simp [errW_none, errW_some] <;> rfl) | (simp [*, errW_none, errW_some] <;> rfl), by repeat (first | (with_reducible first | exact HB.out | apply below_alloc | apply pw_below_drewN | apply below_drew1 | refine below_set ?_ GE276.out) | exact HB.out)⟩
end Go.Proofs.Ytieffjkplaajdaa.SW

