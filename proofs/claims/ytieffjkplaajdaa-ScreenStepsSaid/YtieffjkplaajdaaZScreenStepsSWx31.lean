/- Of the text SWx31, what the row of ScreenSteps reaches. -/
import Derived.Test.YtieffjkplaajdaaZScreenStepsSWx0
import Derived.Test.YtieffjkplaajdaaZScreenStepsSWx1
import Derived.Test.YtieffjkplaajdaaZScreenStepsSWx2
import Derived.Test.YtieffjkplaajdaaZScreenStepsSWx13
import Derived.Test.YtieffjkplaajdaaZScreenStepsSWx24
import Derived.Test.YtieffjkplaajdaaZScreenStepsSWx28
namespace Go.Proofs.Ytieffjkplaajdaa.SW
open Go.RowKit Go.Proofs.YtieffjkplaajdaaW.PrintWords Go.Proofs.YtieffjkplaajdaaW.PrintLast Go.Proofs.YtieffjkplaajdaaW.PrintMore
open Go.Proofs.YtieffjkplaajdaaW.PrintWords renaming blk_drewN → bN, blk_drew → bD, blk_alloc → bA, below_alloc → wA, pw_below_drewN → wN, below_drew1 → wD, below_set → wS
open List renaming setIfInBounds_toArray → sA, set_cons_zero → s0, set_cons_succ → s1
open Act renaming put → ap
open Aside0 renaming mk → am
attribute [local go_sem] max2_int min2_int max_two min_two max_three min_three max_four min_four   -- for this text's walks alone
set_option linter.unusedVariables false
set_option linter.unusedSimpArgs false

attribute [local go_sem high] eqA25
def screen_Steps.f (k : Nat) (l0 : List (S48)) (l1 : List (S25)) (a2_0 : Int) (a2_1 : Int) (a2_2 : Int) (a2_3 : Int) (a3_0 : Int) (a3_1 : Int) (a4_0 : Int) (a4_1 : Int) : Option (Int × Bool × Int) := (screen_Way.f k l0 l1 a2_0 a2_1 a2_2 a2_3 a3_0 a3_1 a4_0 a4_1).bind fun bt360 => (some (mx 0 (wrap64 ((bt360.1.length : Int) - 1)), bt360.2.1, bt360.2.2))
open Bool renaming true → T, false → F
set_option maxHeartbeats 8000000 in
set_option maxRecDepth 100000 in
theorem screen_Steps.calls (k : Nat) (A0 : Option Addr) (c0 : Nat) (l0 : List (S48)) (A1 : Option Addr) (c1 : Nat) (l1 : List (S25)) (a2_0 : Int) (a2_1 : Int) (a2_2 : Int) (a2_3 : Int) (a3_0 : Int) (a3_1 : Int) (a4_0 : Int) (a4_1 : Int) (r1 : Int) (r2 : Bool) (r3 : Int) (w : World) (hr0 : Kd.C k48 w A0 l0.length l0) (hc0 : l0.length ≤ c0) (hr1 : Kd.C k25 w A1 l1.length l1) (hc1 : l1.length ≤ c1) (h : screen_Steps.f k l0 l1 a2_0 a2_1 a2_2 a2_3 a3_0 a3_1 a4_0 a4_1 = some (r1, r2, r3)) :
 Calls Try.prog 15 #[.slice A0 l0.length c0, .slice A1 l1.length c1, .agg #[.int .i64 a2_0, .int .i64 a2_1, .int .i64 a2_2, .int .i64 a2_3], .agg #[.int .i64 a3_0, .int .i64 a3_1], .agg #[.int .i64 a4_0, .int .i64 a4_1]] w fun e w' => e = .returned (.tuple #[.int .i64 r1, .bool r2, .int .i64 r3]) ∧ Below w.heap.size w w' := by
 have hu27 := Try.underlying27
 have hu25 := Try.underlying25
 have HR0 := am hr0
 have HC0 := am hc0
 clear hr0 hc0
 have HR1 := am hr1
 have HC1 := am hc1
 clear hr1 hc1
 have HB := am (Below.refl w.heap.size w)
 have H : ((screen_Way.f k l0 l1 a2_0 a2_1 a2_2 a2_3 a3_0 a3_1 a4_0 a4_1).bind fun bt360 => (some (mx 0 (wrap64 ((bt360.1.length : Int) - 1)), bt360.2.1, bt360.2.2))) = some (r1, r2, r3) := h
 clear h
 replace H := Option.bind_eq_some_iff.mp H
 obtain ⟨⟨t360, t363, t364⟩, A60, H⟩ := H
 replace H : (some (mx 0 (wrap64 ((t360.length : Int) - 1)), t363, t364)) = some (r1, r2, r3) := H
 have A6 := am A60
 clear A60
 obtain ⟨ji7, hji7⟩ : ∃ j_ : Int, (mx 0 (wrap64 ((t360.length : Int) - 1))) = j_ := ⟨_, rfl⟩
 replace H : (some (ji7, t363, t364)) = some (r1, r2, r3) := by first | (rw [hji7] at H; exact H) | (simp only [hji7] at H ⊢; exact H)
 (try rw [hji7] at A6)
 (try (have hji7l : 0 ≤ ji7 := by (rw [← hji7]; unfold mx; (repeat' split) <;> omega)))
 (try (have hji7m : 0 ≤ ji7 := by omega))
 have hji7_ : (if 0 < (wrap64 ((t360.length : Int) - 1)) then (wrap64 ((t360.length : Int) - 1)) else 0) = ji7 := hji7
 simp only [Option.some.injEq, Prod.mk.injEq] at H
 obtain ⟨rfl, rfl, rfl⟩ := H
 go_enter Try.func15, Try.ntmps15
 go_wp2_with (first | ((with_reducible refine gate_dst (N := 7) rfl ?_); refine box_event ?hg (N := 7) ?hd (cs := #[.int .i64 a2_0, .int .i64 a2_1, .int .i64 a2_2, .int .i64 a2_3]) (t := 27) ?hr ?_; (case hd => rfl); (case hg => rfl); (case hr => first | (go_simp; done) | (go_simp; rfl)); intro gb357 hg w8 hbox hb; have n0_ := am (below_step (by repeat first|(with_reducible first|exact HB.out|apply wA|apply wN|apply wD)|exact HB.out) hb); have n1_ := am (hbox); have n2_ := am ((by rw [hg]; exact (below_size (by repeat first|(with_reducible first|exact HB.out|apply wA|apply wN|apply wD)|exact HB.out)) : w.heap.size ≤ gb357)); have n3_ := am ((by rw [hg]; exact (below_size (by repeat first|(with_reducible first|exact HB.out|apply wA|apply wN|apply wD)|exact HB.out)) : w.heap.size ≤ gb357)); clear HB; have HB := n0_; have BK357 := n1_; have GW357 := n2_; have GE357 := n3_; clear n0_ n1_ n2_ n3_; clear hb hbox hg) | ((with_reducible refine gate_dst (N := 8) rfl ?_); refine box_event ?hg (N := 8) ?hd (cs := #[.int .i64 a3_0, .int .i64 a3_1]) (t := 25) ?hr ?_; (case hd => rfl); (case hg => rfl); (case hr => first | (go_simp; done) | (go_simp; rfl)); intro gb358 hg w9 hbox hb; have n0_ := am (blk_below (by (with_reducible repeat first|refine bN ?_ _|refine bD ?_|refine bA ?_ _);exact BK357.out) hb); have n1_ := am (below_step (by repeat first|(with_reducible first|exact HB.out|apply wA|apply wN|apply wD|refine wS ?_ GE357.out)|exact HB.out) hb); have n2_ := am (hbox); have n3_ := am ((by rw [hg]; exact (below_size (by repeat first|(with_reducible first|exact HB.out|apply wA|apply wN|apply wD|refine wS ?_ GE357.out)|exact HB.out)) : w.heap.size ≤ gb358)); have n4_ := am ((by rw [hg]; exact (below_size (by repeat first|(with_reducible first|exact HB.out|apply wA|apply wN|apply wD|refine wS ?_ GE357.out)|exact HB.out)) : w.heap.size ≤ gb358)); have n5_ := am ((by rw [hg]; exact Nat.ne_of_lt (blk_lt (by (with_reducible repeat first|refine bN ?_ _|refine bD ?_|refine bA ?_ _);exact BK357.out)) : gb357 ≠ gb358)); have n6_ := am ((by rw [hg]; exact Nat.ne_of_gt (blk_lt (by (with_reducible repeat first|refine bN ?_ _|refine bD ?_|refine bA ?_ _);exact BK357.out)) : gb358 ≠ gb357)); clear BK357; clear HB; have BK357 := n0_; have HB := n1_; have BK358 := n2_; have GW358 := n3_; have GE358 := n4_; have NB357_358 := n5_; have NB358_357 := n6_; clear n0_ n1_ n2_ n3_ n4_ n5_ n6_; clear hb hbox hg) | ((with_reducible refine gate_dst (N := 9) rfl ?_); refine box_event ?hg (N := 9) ?hd (cs := #[.int .i64 a4_0, .int .i64 a4_1]) (t := 25) ?hr ?_; (case hd => rfl); (case hg => rfl); (case hr => first | (go_simp; done) | (go_simp; rfl)); intro gb359 hg w10 hbox hb; have n0_ := am (blk_below (by (with_reducible repeat first|refine bN ?_ _|refine bD ?_|refine bA ?_ _);exact BK357.out) hb); have n1_ := am (blk_below (by (with_reducible repeat first|refine bN ?_ _|refine bD ?_|refine bA ?_ _);exact BK358.out) hb); have n2_ := am (below_step (by repeat first|(with_reducible first|exact HB.out|apply wA|apply wN|apply wD|refine wS ?_ GE357.out|refine wS ?_ GE358.out)|exact HB.out) hb); have n3_ := am (hbox); have n4_ := am ((by rw [hg]; exact (below_size (by repeat first|(with_reducible first|exact HB.out|apply wA|apply wN|apply wD|refine wS ?_ GE357.out|refine wS ?_ GE358.out)|exact HB.out)) : w.heap.size ≤ gb359)); have n5_ := am ((by rw [hg]; exact (below_size (by repeat first|(with_reducible first|exact HB.out|apply wA|apply wN|apply wD|refine wS ?_ GE357.out|refine wS ?_ GE358.out)|exact HB.out)) : w.heap.size ≤ gb359)); have n6_ := am ((by rw [hg]; exact Nat.ne_of_lt (blk_lt (by (with_reducible repeat first|refine bN ?_ _|refine bD ?_|refine bA ?_ _);exact BK357.out)) : gb357 ≠ gb359)); have n7_ := am ((by rw [hg]; exact Nat.ne_of_gt (blk_lt (by (with_reducible repeat first|refine bN ?_ _|refine bD ?_|refine bA ?_ _);exact BK357.out)) : gb359 ≠ gb357)); have n8_ := am ((by rw [hg]; exact Nat.ne_of_lt (blk_lt (by (with_reducible repeat first|refine bN ?_ _|refine bD ?_|refine bA ?_ _);exact BK358.out)) : gb358 ≠ gb359)); have n9_ := am ((by rw [hg]; exact Nat.ne_of_gt (blk_lt (by (with_reducible repeat first|refine bN ?_ _|refine bD ?_|refine bA ?_ _);exact BK358.out)) : gb359 ≠ gb358)); clear BK357; clear BK358; clear HB; have BK357 := n0_; have BK358 := n1_; have HB := n2_; have BK359 := n3_; have GW359 := n4_; have GE359 := n5_; have NB357_359 := n6_; have NB359_357 := n7_; have NB358_359 := n8_; have NB359_358 := n9_; clear n0_ n1_ n2_ n3_ n4_ n5_ n6_ n7_ n8_ n9_; clear hb hbox hg; have hnb11 := NB357_358.out; have hnc11 := NB358_357.out; have hnb12 := NB357_359.out; have hnc12 := NB359_357.out; have hcz13_0 : w10.cell? ⟨gb357, 0, none⟩ = some (.int .i64 a2_0) := (blk_cell BK357.out 0).trans rfl; have hcz13_1 : w10.cell? ⟨gb357, 1, none⟩ = some (.int .i64 a2_1) := (blk_cell BK357.out 1).trans rfl; have hcz13_2 : w10.cell? ⟨gb357, 2, none⟩ = some (.int .i64 a2_2) := (blk_cell BK357.out 2).trans rfl; have hcz13_3 : w10.cell? ⟨gb357, 3, none⟩ = some (.int .i64 a2_3) := (blk_cell BK357.out 3).trans rfl; have hfz13_0 := blk_frozen BK357.out 0; have hfz13_1 := blk_frozen BK357.out 1; have hfz13_2 := blk_frozen BK357.out 2; have hfz13_3 := blk_frozen BK357.out 3; have hnb14 := NB358_359.out; have hnc14 := NB359_358.out; have hcz15_0 : w10.cell? ⟨gb358, 0, none⟩ = some (.int .i64 a3_0) := (blk_cell BK358.out 0).trans rfl; have hcz15_1 : w10.cell? ⟨gb358, 1, none⟩ = some (.int .i64 a3_1) := (blk_cell BK358.out 1).trans rfl; have hfz15_0 := blk_frozen BK358.out 0; have hfz15_1 := blk_frozen BK358.out 1; have hcz16_0 : w10.cell? ⟨gb359, 0, none⟩ = some (.int .i64 a4_0) := (blk_cell BK359.out 0).trans rfl; have hcz16_1 : w10.cell? ⟨gb359, 1, none⟩ = some (.int .i64 a4_1) := (blk_cell BK359.out 1).trans rfl; have hfz16_0 := blk_frozen BK359.out 0; have hfz16_1 := blk_frozen BK359.out 1) | ((with_reducible refine gate_callee (f := 9) rfl ?_); refine goesL_ (some 22) rfl rfl Try.func9 (by kernel_rfl) rfl #[.slice A0 l0.length c0, .slice A1 l1.length c1, .agg #[.int .i64 a2_0, .int .i64 a2_1, .int .i64 a2_2, .int .i64 a2_3], .agg #[.int .i64 a3_0, .int .i64 a3_1], .agg #[.int .i64 a4_0, .int .i64 a4_1]] rfl (by (try simp only [List.map_toArray, List.map_cons, List.map_nil]); first | done | rfl | (simp only [List.length_drop, List.length_take]; rfl)) ?_; (with_reducible refine (screen_Way.calls k _ _ l0 _ _ l1 a2_0 a2_1 a2_2 a2_3 a3_0 a3_1 a4_0 a4_1 t360 t363 t364 _ ?side1 ?side2 ?side3 ?side4 A6.out).mono ?_); (case side1 => repeat (first | exact (Kd.C_below HR0.out HB.out) | (with_reducible refine Kd.C_alloc ?_ _) | (with_reducible refine Kd.C_drewN ?_ _) | (with_reducible refine Kd.C_drew ?_))); (case side2 => exact HC0.out); (case side3 => repeat (first | exact (Kd.C_below HR1.out HB.out) | (with_reducible refine Kd.C_alloc ?_ _) | (with_reducible refine Kd.C_drewN ?_ _) | (with_reducible refine Kd.C_drew ?_))); (case side4 => exact HC1.out); rintro e w17 ⟨v361, rfl, ho0, hb⟩; refine ⟨_, rfl, ?_⟩; have n0_ := am (Kd.R_lower (Kd.R_newB (Kd.R_newB ho0 (by (with_reducible repeat first|refine bN ?_ _|refine bD ?_|refine bA ?_ _);exact BK358.out)) (by (with_reducible repeat first|refine bN ?_ _|refine bD ?_|refine bA ?_ _);exact BK359.out)) (below_size (by repeat first|(with_reducible first|exact HB.out|apply wA|apply wN|apply wD|refine wS ?_ GE357.out|refine wS ?_ GE358.out|refine wS ?_ GE359.out)|exact HB.out))); have n1_ := am (blk_below (by (with_reducible repeat first|refine bN ?_ _|refine bD ?_|refine bA ?_ _);exact BK357.out) hb); have n2_ := am (blk_below (by (with_reducible repeat first|refine bN ?_ _|refine bD ?_|refine bA ?_ _);exact BK358.out) hb); have n3_ := am (blk_below (by (with_reducible repeat first|refine bN ?_ _|refine bD ?_|refine bA ?_ _);exact BK359.out) hb); have n4_ := am (below_step (by repeat first|(with_reducible first|exact HB.out|apply wA|apply wN|apply wD|refine wS ?_ GE357.out|refine wS ?_ GE358.out|refine wS ?_ GE359.out)|exact HB.out) hb); clear BK357; clear BK358; clear BK359; clear HB; have HO362 := n0_; have BK357 := n1_; have BK358 := n2_; have BK359 := n3_; have HB := n4_; clear n0_ n1_ n2_ n3_ n4_; (try clear hb); (try clear hb2); (try clear hk); (try clear hi); (try clear ho0); obtain ⟨Ao18, co18, eo18⟩ := Kd.R_slice HO362.out; subst eo18))
 go_ret3
 exact ⟨by first | rfl | (simp [errW_none, errW_some] <;> rfl) | (simp only [← hji7]; first | rfl | (simp [errW_none, errW_some] <;> rfl)) | (simp [*, errW_none, errW_some] <;> rfl), by repeat (first | (with_reducible first | exact HB.out | apply below_alloc | apply pw_below_drewN | apply below_drew1 | refine below_set ?_ GE357.out | refine below_set ?_ GE358.out | refine below_set ?_ GE359.out) | exact HB.out)⟩
mutual
def wigeonlaw02_ScreenSteps.j0 : Nat → List (S48) → Bool → Int → Bool → List (S25) → Int → Int → Int → Int → Int → Int → Int → Int → Option (Bool)
 | 0, _, _, _, _, _, _, _, _, _, _, _, _, _ => none
 | k + 1, x0, x6, x7, x60, x366000, x366001, x366002, x366003, x366004, x366005, x366006, x366007, x366008 => if x60 = true then (some false) else (if x7 = 0 then ((screen_Reach.f k x0 x366000 x366001 x366002 x366003 x366004 x366005 x366006).bind fun bt375 => (wigeonlaw02_ScreenSteps.l0 k x6 bt375.1 bt375.2 false 0 x366000 x366001 x366002 x366003 x366004 x366005 x366006 x366007 x366008)) else ((wigeonlaw02_known.f k).bind fun t374 => (some t374)))
def wigeonlaw02_ScreenSteps.l0 : Nat → Bool → List (S25) → Int → Bool → Int → List (S25) → Int → Int → Int → Int → Int → Int → Int → Int → Option (Bool)
 | 0, _, _, _, _, _, _, _, _, _, _, _, _, _, _ => none
 | k + 1, x6, x11, x12, x13, x14, x366000, x366001, x366002, x366003, x366004, x366005, x366006, x366007, x366008 => if x14 < (x11.length : Int) then (if x13 = true then (wigeonlaw02_ScreenSteps.l0 k x6 x11 x12 true (wrap64 (x14 + 1)) x366000 x366001 x366002 x366003 x366004 x366005 x366006 x366007 x366008) else (if 0 ≤ x14 then (wigeonlaw02_ScreenSteps.l0 k x6 x11 x12 (((rd_T25 x11 x14).f0) == x366007 && (((rd_T25 x11 x14).f1) == x366008)) (wrap64 (x14 + 1)) x366000 x366001 x366002 x366003 x366004 x366005 x366006 x366007 x366008) else (none))) else (if x12 = 0 then (if (x13 == x6) = true then ((wigeonlaw02_known.f k).bind fun t380 => (some t380)) else (some false)) else (some false))
end
def wigeonlaw02_ScreenSteps.f (k : Nat) (l0 : List (S48)) (l1_0 : List (S25)) (a1_1 : Int) (a1_2 : Int) (a1_3 : Int) (a1_4 : Int) (a1_5 : Int) (a1_6 : Int) (a1_7 : Int) (a1_8 : Int) : Option (Bool) := (wigeonlaw02_Long.f l0 l1_0).bind fun t366 => (if t366 = true then ((wigeonlaw02_known.f k).bind fun t367 => (some t367)) else ((screen_Steps.f k l0 l1_0 a1_1 a1_2 a1_3 a1_4 a1_5 a1_6 a1_7 a1_8).bind fun bt368 => ((wigeonref02_Steps.f k l0 l1_0 a1_1 a1_2 a1_3 a1_4 a1_5 a1_6 a1_7 a1_8).bind fun bt371 => (if bt368.1 = bt371.1 then (if (bt368.2.1 != bt371.2.1) = true then (wigeonlaw02_ScreenSteps.j0 k l0 bt368.2.1 bt368.2.2 true l1_0 a1_1 a1_2 a1_3 a1_4 a1_5 a1_6 a1_7 a1_8) else (wigeonlaw02_ScreenSteps.j0 k l0 bt368.2.1 bt368.2.2 (bt368.2.2 != bt371.2.2) l1_0 a1_1 a1_2 a1_3 a1_4 a1_5 a1_6 a1_7 a1_8)) else (wigeonlaw02_ScreenSteps.j0 k l0 bt368.2.1 bt368.2.2 true l1_0 a1_1 a1_2 a1_3 a1_4 a1_5 a1_6 a1_7 a1_8)))))
set_option maxHeartbeats 8000000 in
set_option maxRecDepth 100000 in
theorem wigeonlaw02_ScreenSteps.calls (k : Nat) (A0 : Option Addr) (c0 : Nat) (l0 : List (S48)) (A1_0 : Option Addr) (c1_0 : Nat) (l1_0 : List (S25)) (a1_1 : Int) (a1_2 : Int) (a1_3 : Int) (a1_4 : Int) (a1_5 : Int) (a1_6 : Int) (a1_7 : Int) (a1_8 : Int) (r : Bool) (w : World) (hr0 : Kd.C k48 w A0 l0.length l0) (hc0 : l0.length ≤ c0) (hr1_0 : Kd.C k25 w A1_0 l1_0.length l1_0) (hc1_0 : l1_0.length ≤ c1_0) (h : wigeonlaw02_ScreenSteps.f k l0 l1_0 a1_1 a1_2 a1_3 a1_4 a1_5 a1_6 a1_7 a1_8 = some r) :
 Calls Try.prog 5 #[.slice A0 l0.length c0, .agg #[.slice A1_0 l1_0.length c1_0, .int .i64 a1_1, .int .i64 a1_2, .int .i64 a1_3, .int .i64 a1_4, .int .i64 a1_5, .int .i64 a1_6, .int .i64 a1_7, .int .i64 a1_8]] w fun e w' => e = .returned (.bool r) ∧ Below w.heap.size w w' := by
 have hu29 := Try.underlying29
 have hu27 := Try.underlying27
 have hu25 := Try.underlying25
 have HR0 := am hr0
 have HC0 := am hc0
 clear hr0 hc0
 have HR1_0 := am hr1_0
 have HC1_0 := am hc1_0
 clear hr1_0 hc1_0
 have HB := am (Below.refl w.heap.size w)
 have H : ((wigeonlaw02_Long.f l0 l1_0).bind fun t366 => (if t366 = true then ((wigeonlaw02_known.f k).bind fun t367 => (some t367)) else ((screen_Steps.f k l0 l1_0 a1_1 a1_2 a1_3 a1_4 a1_5 a1_6 a1_7 a1_8).bind fun bt368 => ((wigeonref02_Steps.f k l0 l1_0 a1_1 a1_2 a1_3 a1_4 a1_5 a1_6 a1_7 a1_8).bind fun bt371 => (if bt368.1 = bt371.1 then (if (bt368.2.1 != bt371.2.1) = true then (wigeonlaw02_ScreenSteps.j0 k l0 bt368.2.1 bt368.2.2 true l1_0 a1_1 a1_2 a1_3 a1_4 a1_5 a1_6 a1_7 a1_8) else (wigeonlaw02_ScreenSteps.j0 k l0 bt368.2.1 bt368.2.2 (bt368.2.2 != bt371.2.2) l1_0 a1_1 a1_2 a1_3 a1_4 a1_5 a1_6 a1_7 a1_8)) else (wigeonlaw02_ScreenSteps.j0 k l0 bt368.2.1 bt368.2.2 true l1_0 a1_1 a1_2 a1_3 a1_4 a1_5 a1_6 a1_7 a1_8)))))) = some r := h
 clear h
 replace H := Option.bind_eq_some_iff.mp H
 obtain ⟨t366, A30, H⟩ := H
 replace H : (if t366 = true then ((wigeonlaw02_known.f k).bind fun t367 => (some t367)) else ((screen_Steps.f k l0 l1_0 a1_1 a1_2 a1_3 a1_4 a1_5 a1_6 a1_7 a1_8).bind fun bt368 => ((wigeonref02_Steps.f k l0 l1_0 a1_1 a1_2 a1_3 a1_4 a1_5 a1_6 a1_7 a1_8).bind fun bt371 => (if bt368.1 = bt371.1 then (if (bt368.2.1 != bt371.2.1) = true then (wigeonlaw02_ScreenSteps.j0 k l0 bt368.2.1 bt368.2.2 true l1_0 a1_1 a1_2 a1_3 a1_4 a1_5 a1_6 a1_7 a1_8) else (wigeonlaw02_ScreenSteps.j0 k l0 bt368.2.1 bt368.2.2 (bt368.2.2 != bt371.2.2) l1_0 a1_1 a1_2 a1_3 a1_4 a1_5 a1_6 a1_7 a1_8)) else (wigeonlaw02_ScreenSteps.j0 k l0 bt368.2.1 bt368.2.2 true l1_0 a1_1 a1_2 a1_3 a1_4 a1_5 a1_6 a1_7 a1_8))))) = some r := H
 have A3 := am A30
 clear A30
 by_cases c4 : t366 = true
 {
 subst c4
 have H1 : ((wigeonlaw02_known.f k).bind fun t367 => (some t367)) = some r := by rw [if_pos rfl] at H; exact H
 clear H
 have H := H1
 clear H1
 replace H := Option.bind_eq_some_iff.mp H
 obtain ⟨t367, A50, H⟩ := H
 replace H : (some t367) = some r := H
 have A5 := am A50
 clear A50
 obtain rfl := Option.some.inj H
 go_enter Try.func5, Try.ntmps5
 go_wp2_with (first | ((with_reducible refine gate_dst (N := 3) rfl ?_); refine box_event ?hg (N := 3) ?hd (cs := #[.slice A1_0 l1_0.length c1_0, .int .i64 a1_1, .int .i64 a1_2, .int .i64 a1_3, .int .i64 a1_4, .int .i64 a1_5, .int .i64 a1_6, .int .i64 a1_7, .int .i64 a1_8]) (t := 29) ?hr ?_; (case hd => rfl); (case hg => rfl); (case hr => first | (go_simp; done) | (go_simp; rfl)); intro gb365 hg w6 hbox hb; have n0_ := am (below_step (by repeat first|(with_reducible first|exact HB.out|apply wA|apply wN|apply wD)|exact HB.out) hb); have n1_ := am (hbox); have n2_ := am ((by rw [hg]; exact (below_size (by repeat first|(with_reducible first|exact HB.out|apply wA|apply wN|apply wD)|exact HB.out)) : w.heap.size ≤ gb365)); have n3_ := am ((by rw [hg]; exact (below_size (by repeat first|(with_reducible first|exact HB.out|apply wA|apply wN|apply wD)|exact HB.out)) : w.heap.size ≤ gb365)); clear HB; have HB := n0_; have BK365 := n1_; have GW365 := n2_; have GE365 := n3_; clear n0_ n1_ n2_ n3_; clear hb hbox hg; have hcz7_0 : w6.cell? ⟨gb365, 0, none⟩ = some (.slice A1_0 l1_0.length c1_0) := (blk_cell BK365.out 0).trans rfl; have hcz7_1 : w6.cell? ⟨gb365, 1, none⟩ = some (.int .i64 a1_1) := (blk_cell BK365.out 1).trans rfl; have hcz7_2 : w6.cell? ⟨gb365, 2, none⟩ = some (.int .i64 a1_2) := (blk_cell BK365.out 2).trans rfl; have hcz7_3 : w6.cell? ⟨gb365, 3, none⟩ = some (.int .i64 a1_3) := (blk_cell BK365.out 3).trans rfl; have hcz7_4 : w6.cell? ⟨gb365, 4, none⟩ = some (.int .i64 a1_4) := (blk_cell BK365.out 4).trans rfl; have hcz7_5 : w6.cell? ⟨gb365, 5, none⟩ = some (.int .i64 a1_5) := (blk_cell BK365.out 5).trans rfl; have hcz7_6 : w6.cell? ⟨gb365, 6, none⟩ = some (.int .i64 a1_6) := (blk_cell BK365.out 6).trans rfl; have hcz7_7 : w6.cell? ⟨gb365, 7, none⟩ = some (.int .i64 a1_7) := (blk_cell BK365.out 7).trans rfl; have hcz7_8 : w6.cell? ⟨gb365, 8, none⟩ = some (.int .i64 a1_8) := (blk_cell BK365.out 8).trans rfl; have hfz7_0 := blk_frozen BK365.out 0; have hfz7_1 := blk_frozen BK365.out 1; have hfz7_2 := blk_frozen BK365.out 2; have hfz7_3 := blk_frozen BK365.out 3; have hfz7_4 := blk_frozen BK365.out 4; have hfz7_5 := blk_frozen BK365.out 5; have hfz7_6 := blk_frozen BK365.out 6; have hfz7_7 := blk_frozen BK365.out 7; have hfz7_8 := blk_frozen BK365.out 8) | (go_at_call 7; (with_reducible refine (wigeonlaw02_Long.calls _ _ l0 _ _ l1_0 true _ ?side1 ?side2 ?side3 ?side4 A3.out).mono ?_); (case side1 => repeat (first | exact (Kd.C_below HR0.out HB.out) | (with_reducible refine Kd.C_alloc ?_ _) | (with_reducible refine Kd.C_drewN ?_ _) | (with_reducible refine Kd.C_drew ?_))); (case side2 => exact HC0.out); (case side3 => repeat (first | exact (Kd.C_below HR1_0.out HB.out) | (with_reducible refine Kd.C_alloc ?_ _) | (with_reducible refine Kd.C_drewN ?_ _) | (with_reducible refine Kd.C_drew ?_))); (case side4 => exact HC1_0.out); rintro e w' ⟨rfl, ⟨nd, rfl⟩⟩; (try first | exact ⟨rfl, _, World.drewN_drewN _ _ _⟩ | exact ⟨rfl, _, Eq.trans (World.drewN_drewN _ _ _) (congrArg (World.drewN _) (Nat.add_assoc _ _ _))⟩)) | (go_at_call 8; (with_reducible refine (wigeonlaw02_known.calls k  t367 _ A5.out).mono ?_); rintro e w8 ⟨rfl, hb⟩; have n0_ := am (blk_below (by (with_reducible repeat first|refine bN ?_ _|refine bD ?_|refine bA ?_ _);exact BK365.out) hb); have n1_ := am (below_step (by repeat first|(with_reducible first|exact HB.out|apply wA|apply wN|apply wD|refine wS ?_ GE365.out)|exact HB.out) hb); clear BK365; clear HB; have BK365 := n0_; have HB := n1_; clear n0_ n1_; (try clear hb); (try clear hb2); (try clear hk); (try clear hi)))
 repeat (go_quiet (first | fail); try go_wp2_with (first | fail))
 go_ret
 exact ⟨by first | rfl | (simp [errW_none, errW_some] <;> rfl) | (simp [*, errW_none, errW_some] <;> rfl), by repeat (first | (with_reducible first | exact HB.out | apply below_alloc | apply pw_below_drewN | apply below_drew1 | refine below_set ?_ GE365.out) | exact HB.out)⟩}
 replace c4 := Bool.eq_false_iff.mpr c4
 subst c4
 have H1 : ((screen_Steps.f k l0 l1_0 a1_1 a1_2 a1_3 a1_4 a1_5 a1_6 a1_7 a1_8).bind fun bt368 => ((wigeonref02_Steps.f k l0 l1_0 a1_1 a1_2 a1_3 a1_4 a1_5 a1_6 a1_7 a1_8).bind fun bt371 => (if bt368.1 = bt371.1 then (if (bt368.2.1 != bt371.2.1) = true then (wigeonlaw02_ScreenSteps.j0 k l0 bt368.2.1 bt368.2.2 true l1_0 a1_1 a1_2 a1_3 a1_4 a1_5 a1_6 a1_7 a1_8) else (wigeonlaw02_ScreenSteps.j0 k l0 bt368.2.1 bt368.2.2 (bt368.2.2 != bt371.2.2) l1_0 a1_1 a1_2 a1_3 a1_4 a1_5 a1_6 a1_7 a1_8)) else (wigeonlaw02_ScreenSteps.j0 k l0 bt368.2.1 bt368.2.2 true l1_0 a1_1 a1_2 a1_3 a1_4 a1_5 a1_6 a1_7 a1_8)))) = some r := by rw [if_neg (show ¬ (false = true) by decide)] at H; exact H
 clear H
 have H := H1
 clear H1
 replace H := Option.bind_eq_some_iff.mp H
 obtain ⟨⟨t368, t369, t370⟩, A90, H⟩ := H
 replace H : ((wigeonref02_Steps.f k l0 l1_0 a1_1 a1_2 a1_3 a1_4 a1_5 a1_6 a1_7 a1_8).bind fun bt371 => (if t368 = bt371.1 then (if (t369 != bt371.2.1) = true then (wigeonlaw02_ScreenSteps.j0 k l0 t369 t370 true l1_0 a1_1 a1_2 a1_3 a1_4 a1_5 a1_6 a1_7 a1_8) else (wigeonlaw02_ScreenSteps.j0 k l0 t369 t370 (t370 != bt371.2.2) l1_0 a1_1 a1_2 a1_3 a1_4 a1_5 a1_6 a1_7 a1_8)) else (wigeonlaw02_ScreenSteps.j0 k l0 t369 t370 true l1_0 a1_1 a1_2 a1_3 a1_4 a1_5 a1_6 a1_7 a1_8))) = some r := H
 have A9 := am A90
 clear A90
 replace H := Option.bind_eq_some_iff.mp H
 obtain ⟨⟨t371, t372, t373⟩, A100, H⟩ := H
 replace H : (if t368 = t371 then (if (t369 != t372) = true then (wigeonlaw02_ScreenSteps.j0 k l0 t369 t370 true l1_0 a1_1 a1_2 a1_3 a1_4 a1_5 a1_6 a1_7 a1_8) else (wigeonlaw02_ScreenSteps.j0 k l0 t369 t370 (t370 != t373) l1_0 a1_1 a1_2 a1_3 a1_4 a1_5 a1_6 a1_7 a1_8)) else (wigeonlaw02_ScreenSteps.j0 k l0 t369 t370 true l1_0 a1_1 a1_2 a1_3 a1_4 a1_5 a1_6 a1_7 a1_8)) = some r := H
 have A10 := am A100
 clear A100
 have HC11 := am H
 clear H
 go_enter Try.func5, Try.ntmps5
 go_upto_region 5 with (first | ((with_reducible refine gate_dst (N := 3) rfl ?_); refine box_event ?hg (N := 3) ?hd (cs := #[.slice A1_0 l1_0.length c1_0, .int .i64 a1_1, .int .i64 a1_2, .int .i64 a1_3, .int .i64 a1_4, .int .i64 a1_5, .int .i64 a1_6, .int .i64 a1_7, .int .i64 a1_8]) (t := 29) ?hr ?_; (case hd => rfl); (case hg => rfl); (case hr => first | (go_simp; done) | (go_simp; rfl)); intro gb365 hg w12 hbox hb; have n0_ := am (below_step (by repeat first|(with_reducible first|exact HB.out|apply wA|apply wN|apply wD)|exact HB.out) hb); have n1_ := am (hbox); have n2_ := am ((by rw [hg]; exact (below_size (by repeat first|(with_reducible first|exact HB.out|apply wA|apply wN|apply wD)|exact HB.out)) : w.heap.size ≤ gb365)); have n3_ := am ((by rw [hg]; exact (below_size (by repeat first|(with_reducible first|exact HB.out|apply wA|apply wN|apply wD)|exact HB.out)) : w.heap.size ≤ gb365)); clear HB; have HB := n0_; have BK365 := n1_; have GW365 := n2_; have GE365 := n3_; clear n0_ n1_ n2_ n3_; clear hb hbox hg; have hcz13_0 : w12.cell? ⟨gb365, 0, none⟩ = some (.slice A1_0 l1_0.length c1_0) := (blk_cell BK365.out 0).trans rfl; have hcz13_1 : w12.cell? ⟨gb365, 1, none⟩ = some (.int .i64 a1_1) := (blk_cell BK365.out 1).trans rfl; have hcz13_2 : w12.cell? ⟨gb365, 2, none⟩ = some (.int .i64 a1_2) := (blk_cell BK365.out 2).trans rfl; have hcz13_3 : w12.cell? ⟨gb365, 3, none⟩ = some (.int .i64 a1_3) := (blk_cell BK365.out 3).trans rfl; have hcz13_4 : w12.cell? ⟨gb365, 4, none⟩ = some (.int .i64 a1_4) := (blk_cell BK365.out 4).trans rfl; have hcz13_5 : w12.cell? ⟨gb365, 5, none⟩ = some (.int .i64 a1_5) := (blk_cell BK365.out 5).trans rfl; have hcz13_6 : w12.cell? ⟨gb365, 6, none⟩ = some (.int .i64 a1_6) := (blk_cell BK365.out 6).trans rfl; have hcz13_7 : w12.cell? ⟨gb365, 7, none⟩ = some (.int .i64 a1_7) := (blk_cell BK365.out 7).trans rfl; have hcz13_8 : w12.cell? ⟨gb365, 8, none⟩ = some (.int .i64 a1_8) := (blk_cell BK365.out 8).trans rfl; have hfz13_0 := blk_frozen BK365.out 0; have hfz13_1 := blk_frozen BK365.out 1; have hfz13_2 := blk_frozen BK365.out 2; have hfz13_3 := blk_frozen BK365.out 3; have hfz13_4 := blk_frozen BK365.out 4; have hfz13_5 := blk_frozen BK365.out 5; have hfz13_6 := blk_frozen BK365.out 6; have hfz13_7 := blk_frozen BK365.out 7; have hfz13_8 := blk_frozen BK365.out 8) | (go_at_call 7; (with_reducible refine (wigeonlaw02_Long.calls _ _ l0 _ _ l1_0 false _ ?side1 ?side2 ?side3 ?side4 A3.out).mono ?_); (case side1 => repeat (first | exact (Kd.C_below HR0.out HB.out) | (with_reducible refine Kd.C_alloc ?_ _) | (with_reducible refine Kd.C_drewN ?_ _) | (with_reducible refine Kd.C_drew ?_))); (case side2 => exact HC0.out); (case side3 => repeat (first | exact (Kd.C_below HR1_0.out HB.out) | (with_reducible refine Kd.C_alloc ?_ _) | (with_reducible refine Kd.C_drewN ?_ _) | (with_reducible refine Kd.C_drew ?_))); (case side4 => exact HC1_0.out); rintro e w' ⟨rfl, ⟨nd, rfl⟩⟩; (try first | exact ⟨rfl, _, World.drewN_drewN _ _ _⟩ | exact ⟨rfl, _, Eq.trans (World.drewN_drewN _ _ _) (congrArg (World.drewN _) (Nat.add_assoc _ _ _))⟩)) | (go_at_call 15; (with_reducible refine (screen_Steps.calls k _ _ l0 _ _ l1_0 a1_1 a1_2 a1_3 a1_4 a1_5 a1_6 a1_7 a1_8 t368 t369 t370 _ ?side1 ?side2 ?side3 ?side4 A9.out).mono ?_); (case side1 => repeat (first | exact (Kd.C_below HR0.out (by repeat first|(with_reducible first|exact HB.out|apply wA|apply wN|apply wD|refine wS ?_ GE365.out)|exact HB.out)) | (with_reducible refine Kd.C_alloc ?_ _) | (with_reducible refine Kd.C_drewN ?_ _) | (with_reducible refine Kd.C_drew ?_))); (case side2 => exact HC0.out); (case side3 => repeat (first | exact (Kd.C_below HR1_0.out (by repeat first|(with_reducible first|exact HB.out|apply wA|apply wN|apply wD|refine wS ?_ GE365.out)|exact HB.out)) | (with_reducible refine Kd.C_alloc ?_ _) | (with_reducible refine Kd.C_drewN ?_ _) | (with_reducible refine Kd.C_drew ?_))); (case side4 => exact HC1_0.out); rintro e w14 ⟨rfl, hb⟩; have n0_ := am (blk_below (by (with_reducible repeat first|refine bN ?_ _|refine bD ?_|refine bA ?_ _);exact BK365.out) hb); have n1_ := am (below_step (by repeat first|(with_reducible first|exact HB.out|apply wA|apply wN|apply wD|refine wS ?_ GE365.out)|exact HB.out) hb); clear BK365; clear HB; have BK365 := n0_; have HB := n1_; clear n0_ n1_; (try clear hb); (try clear hb2); (try clear hk); (try clear hi); have hcz15_0 : w14.cell? ⟨gb365, 0, none⟩ = some (.slice A1_0 l1_0.length c1_0) := (blk_cell BK365.out 0).trans rfl; have hcz15_1 : w14.cell? ⟨gb365, 1, none⟩ = some (.int .i64 a1_1) := (blk_cell BK365.out 1).trans rfl; have hcz15_2 : w14.cell? ⟨gb365, 2, none⟩ = some (.int .i64 a1_2) := (blk_cell BK365.out 2).trans rfl; have hcz15_3 : w14.cell? ⟨gb365, 3, none⟩ = some (.int .i64 a1_3) := (blk_cell BK365.out 3).trans rfl; have hcz15_4 : w14.cell? ⟨gb365, 4, none⟩ = some (.int .i64 a1_4) := (blk_cell BK365.out 4).trans rfl; have hcz15_5 : w14.cell? ⟨gb365, 5, none⟩ = some (.int .i64 a1_5) := (blk_cell BK365.out 5).trans rfl; have hcz15_6 : w14.cell? ⟨gb365, 6, none⟩ = some (.int .i64 a1_6) := (blk_cell BK365.out 6).trans rfl; have hcz15_7 : w14.cell? ⟨gb365, 7, none⟩ = some (.int .i64 a1_7) := (blk_cell BK365.out 7).trans rfl; have hcz15_8 : w14.cell? ⟨gb365, 8, none⟩ = some (.int .i64 a1_8) := (blk_cell BK365.out 8).trans rfl; have hfz15_0 := blk_frozen BK365.out 0; have hfz15_1 := blk_frozen BK365.out 1; have hfz15_2 := blk_frozen BK365.out 2; have hfz15_3 := blk_frozen BK365.out 3; have hfz15_4 := blk_frozen BK365.out 4; have hfz15_5 := blk_frozen BK365.out 5; have hfz15_6 := blk_frozen BK365.out 6; have hfz15_7 := blk_frozen BK365.out 7; have hfz15_8 := blk_frozen BK365.out 8) | (go_at_call 10; (with_reducible refine (wigeonref02_Steps.calls k _ _ l0 _ _ l1_0 a1_1 a1_2 a1_3 a1_4 a1_5 a1_6 a1_7 a1_8 t371 t372 t373 _ ?side1 ?side2 ?side3 ?side4 A10.out).mono ?_); (case side1 => repeat (first | exact (Kd.C_below HR0.out HB.out) | (with_reducible refine Kd.C_alloc ?_ _) | (with_reducible refine Kd.C_drewN ?_ _) | (with_reducible refine Kd.C_drew ?_))); (case side2 => exact HC0.out); (case side3 => repeat (first | exact (Kd.C_below HR1_0.out HB.out) | (with_reducible refine Kd.C_alloc ?_ _) | (with_reducible refine Kd.C_drewN ?_ _) | (with_reducible refine Kd.C_drew ?_))); (case side4 => exact HC1_0.out); rintro e w16 ⟨rfl, hb⟩; have n0_ := am (blk_below (by (with_reducible repeat first|refine bN ?_ _|refine bD ?_|refine bA ?_ _);exact BK365.out) hb); have n1_ := am (below_step (by repeat first|(with_reducible first|exact HB.out|apply wA|apply wN|apply wD|refine wS ?_ GE365.out)|exact HB.out) hb); clear BK365; clear HB; have BK365 := n0_; have HB := n1_; clear n0_ n1_; (try clear hb); (try clear hb2); (try clear hk); (try clear hi)))
 repeat (go_quiet (first | fail); go_upto_region 5 with (first | fail))
 (try simp only [Act.put, List.setIfInBounds_toArray, List.set_cons_zero, List.set_cons_succ])
 go_cut [60] (fun v60 wc => ∃ (kq : Nat) (x60_10 : Bool), v60 = .bool x60_10 ∧ Aside0 (wigeonlaw02_ScreenSteps.j0 kq l0 t369 t370 x60_10 l1_0 a1_1 a1_2 a1_3 a1_4 a1_5 a1_6 a1_7 a1_8 = some r) ∧ Aside0 (kq ≤ k) ∧ Aside0 (wc.heap[gb365]? = some (.cells #[(.slice A1_0 l1_0.length c1_0), .int .i64 a1_1, .int .i64 a1_2, .int .i64 a1_3, .int .i64 a1_4, .int .i64 a1_5, .int .i64 a1_6, .int .i64 a1_7, .int .i64 a1_8] 29 (0, 0))) ∧ Aside0 (Below w.heap.size w wc))
 case first =>(
 have H := HC11.out
 clear HC11
 by_cases c17 : t368 = t371
 {
 rw [if_pos c17] at H
 have c17b0 : (t368 == t371) = true := beq_iff_eq.mpr c17
 have c17b1 : (t368 != t371) = false := bne_eq_false_iff_eq.mpr c17
 clear c17
 (first | rw [c17b0] | (simp only [i64_w, i32_w]; rw [c17b0]) | skip)
 by_cases c18 : (t369 != t372) = true
 {
 rw [if_pos c18] at H
 have c18b0 : (t369 != t372) = true := c18
 (try (have c18b1 : decide (t369 = t372) = false := by simpa using c18))
 (try (have c18b2 : (t369 == t372) = false := by simpa using c18))
 (try (have c18b3 : ¬ (t369 = t372) := by simpa using c18))
 clear c18
 have H' := am H
 clear H
 go_wp2
 repeat (go_quiet (fail); try go_wp2)
 go_meet
 case rel => exact ⟨_, (true), (by first | rfl | (simp; done) | (simp [*]; done)), H', ⟨by first | omega | exact Nat.le_refl _⟩, ⟨by (with_reducible repeat first|refine bN ?_ _|refine bD ?_|refine bA ?_ _);exact BK365.out⟩, ⟨by repeat (first | (with_reducible first | exact HB.out | apply below_alloc | apply pw_below_drewN | apply below_drew1 | refine below_set ?_ GE365.out) | exact HB.out)⟩⟩}
 rw [if_neg c18] at H
 have c18b0 : (t369 != t372) = false := by simpa using c18
 (try (have c18b1 : decide (t369 = t372) = true := by simpa using c18))
 (try (have c18b2 : (t369 == t372) = true := by simpa using c18))
 clear c18
 have H' := am H
 clear H
 go_wp2
 repeat (go_quiet (fail); try go_wp2)
 go_meet
 case rel => exact ⟨_, ((t370 != t373)), (by first | rfl | (simp; done) | (simp [*]; done)), H', ⟨by first | omega | exact Nat.le_refl _⟩, ⟨by (with_reducible repeat first|refine bN ?_ _|refine bD ?_|refine bA ?_ _);exact BK365.out⟩, ⟨by repeat (first | (with_reducible first | exact HB.out | apply below_alloc | apply pw_below_drewN | apply below_drew1 | refine below_set ?_ GE365.out) | exact HB.out)⟩⟩}
 rw [if_neg c17] at H
 have c17b0 : (t368 == t371) = false := beq_eq_false_iff_ne.mpr c17
 have c17b1 : (t368 != t371) = true := bne_iff_ne.mpr c17
 (first | rw [c17b0] | (simp only [i64_w, i32_w]; rw [c17b0]) | skip)
 have H' := am H
 clear H
 go_wp2
 repeat (go_quiet (fail); try go_wp2)
 go_meet
 case rel => exact ⟨_, (true), (by first | rfl | (simp; done) | (simp [*]; done)), H', ⟨by first | omega | exact Nat.le_refl _⟩, ⟨by (with_reducible repeat first|refine bN ?_ _|refine bD ?_|refine bA ?_ _);exact BK365.out⟩, ⟨by repeat (first | (with_reducible first | exact HB.out | apply below_alloc | apply pw_below_drewN | apply below_drew1 | refine below_set ?_ GE365.out) | exact HB.out)⟩⟩)
 clear HC11
 try clear c1; try clear p2; try clear c4; try clear c5; try clear c17; try clear c17b0; try clear c17b1; try clear c18; try clear c18b0; try clear c18b1; try clear c18b2; try clear hcz13_0; try clear hcz13_1; try clear hcz13_2; try clear hcz13_3; try clear hcz13_4; try clear hcz13_5; try clear hcz13_6; try clear hcz13_7; try clear hcz13_8; try clear hcz15_0; try clear hcz15_1; try clear hcz15_2; try clear hcz15_3; try clear hcz15_4; try clear hcz15_5; try clear hcz15_6; try clear hcz15_7; try clear hcz15_8; try clear hcz7_0; try clear hcz7_1; try clear hcz7_2; try clear hcz7_3; try clear hcz7_4; try clear hcz7_5; try clear hcz7_6; try clear hcz7_7; try clear hcz7_8; try clear hfz13_0; try clear hfz13_1; try clear hfz13_2; try clear hfz13_3; try clear hfz13_4; try clear hfz13_5; try clear hfz13_6; try clear hfz13_7; try clear hfz13_8; try clear hfz15_0; try clear hfz15_1; try clear hfz15_2; try clear hfz15_3; try clear hfz15_4; try clear hfz15_5; try clear hfz15_6; try clear hfz15_7; try clear hfz15_8; try clear hfz7_0; try clear hfz7_1; try clear hfz7_2; try clear hfz7_3; try clear hfz7_4; try clear hfz7_5; try clear hfz7_6; try clear hfz7_7; try clear hfz7_8
 obtain ⟨kq, x60_10, rfl, HA, HJ10, BK365, HB⟩ := hcut
 cases kq with
 | zero => exact absurd HA.out (by simp [wigeonlaw02_ScreenSteps.j0])
 | succ kj10 =>
  have H := HA.out
  clear HA
  simp only [wigeonlaw02_ScreenSteps.j0] at H
  by_cases c19 : x60_10 = true
  {
 subst c19
 have H1 : (some false) = some r := by rw [if_pos rfl] at H; exact H
 clear H
 have H := H1
 clear H1
 obtain rfl := Option.some.inj H
 go_wp2
 repeat (go_quiet (fail); try go_wp2)
 go_ret
 exact ⟨by first | rfl | (simp [errW_none, errW_some] <;> rfl) | (simp [*, errW_none, errW_some] <;> rfl), by repeat (first | (with_reducible first | exact HB.out | apply below_alloc | apply pw_below_drewN | apply below_drew1 | refine below_set ?_ GE365.out) | exact HB.out)⟩}
  replace c19 := Bool.eq_false_iff.mpr c19
  subst c19
  have H1 : (if t370 = 0 then ((screen_Reach.f kj10 l0 l1_0 a1_1 a1_2 a1_3 a1_4 a1_5 a1_6).bind fun bt375 => (wigeonlaw02_ScreenSteps.l0 kj10 t369 bt375.1 bt375.2 false 0 l1_0 a1_1 a1_2 a1_3 a1_4 a1_5 a1_6 a1_7 a1_8)) else ((wigeonlaw02_known.f kj10).bind fun t374 => (some t374))) = some r := by rw [if_neg (show ¬ (false = true) by decide)] at H; exact H
  clear H
  have H := H1
  clear H1
  by_cases c20 : t370 = 0
  {
 rw [if_pos c20] at H
 have c20b0 : (t370 == 0) = true := beq_iff_eq.mpr c20
 have c20b1 : (t370 != 0) = false := bne_eq_false_iff_eq.mpr c20
 clear c20
 replace H := Option.bind_eq_some_iff.mp H
 obtain ⟨⟨t375, t378⟩, A210, H⟩ := H
 replace H : (wigeonlaw02_ScreenSteps.l0 kj10 t369 t375 t378 false 0 l1_0 a1_1 a1_2 a1_3 a1_4 a1_5 a1_6 a1_7 a1_8) = some r := H
 have A21 := am A210
 clear A210
 have H' := am H
 clear H
 have hcz22_0 : wc.cell? ⟨gb365, 0, none⟩ = some (.slice A1_0 l1_0.length c1_0) := (blk_cell BK365.out 0).trans rfl
 have hcz22_1 : wc.cell? ⟨gb365, 1, none⟩ = some (.int .i64 a1_1) := (blk_cell BK365.out 1).trans rfl
 have hcz22_2 : wc.cell? ⟨gb365, 2, none⟩ = some (.int .i64 a1_2) := (blk_cell BK365.out 2).trans rfl
 have hcz22_3 : wc.cell? ⟨gb365, 3, none⟩ = some (.int .i64 a1_3) := (blk_cell BK365.out 3).trans rfl
 have hcz22_4 : wc.cell? ⟨gb365, 4, none⟩ = some (.int .i64 a1_4) := (blk_cell BK365.out 4).trans rfl
 have hcz22_5 : wc.cell? ⟨gb365, 5, none⟩ = some (.int .i64 a1_5) := (blk_cell BK365.out 5).trans rfl
 have hcz22_6 : wc.cell? ⟨gb365, 6, none⟩ = some (.int .i64 a1_6) := (blk_cell BK365.out 6).trans rfl
 have hcz22_7 : wc.cell? ⟨gb365, 7, none⟩ = some (.int .i64 a1_7) := (blk_cell BK365.out 7).trans rfl
 have hcz22_8 : wc.cell? ⟨gb365, 8, none⟩ = some (.int .i64 a1_8) := (blk_cell BK365.out 8).trans rfl
 have hfz22_0 := blk_frozen BK365.out 0
 have hfz22_1 := blk_frozen BK365.out 1
 have hfz22_2 := blk_frozen BK365.out 2
 have hfz22_3 := blk_frozen BK365.out 3
 have hfz22_4 := blk_frozen BK365.out 4
 have hfz22_5 := blk_frozen BK365.out 5
 have hfz22_6 := blk_frozen BK365.out 6
 have hfz22_7 := blk_frozen BK365.out 7
 have hfz22_8 := blk_frozen BK365.out 8
 go_wp2_with (first | (go_at_call 12; (with_reducible refine (screen_Reach.calls kj10 _ _ l0 _ _ l1_0 a1_1 a1_2 a1_3 a1_4 a1_5 a1_6 t375 t378 _ ?side1 ?side2 ?side3 ?side4 A21.out).mono ?_); (case side1 => repeat (first | exact (Kd.C_below HR0.out HB.out) | (with_reducible refine Kd.C_alloc ?_ _) | (with_reducible refine Kd.C_drewN ?_ _) | (with_reducible refine Kd.C_drew ?_))); (case side2 => exact HC0.out); (case side3 => repeat (first | exact (Kd.C_below HR1_0.out HB.out) | (with_reducible refine Kd.C_alloc ?_ _) | (with_reducible refine Kd.C_drewN ?_ _) | (with_reducible refine Kd.C_drew ?_))); (case side4 => exact HC1_0.out); rintro e w23 ⟨v376, rfl, ho0, hb⟩; have n0_ := am (Kd.R_lower ho0 (below_size (by repeat first|(with_reducible first|exact HB.out|apply wA|apply wN|apply wD|refine wS ?_ GE365.out)|exact HB.out))); have n1_ := am (blk_below (by (with_reducible repeat first|refine bN ?_ _|refine bD ?_|refine bA ?_ _);exact BK365.out) hb); have n2_ := am (below_step (by repeat first|(with_reducible first|exact HB.out|apply wA|apply wN|apply wD|refine wS ?_ GE365.out)|exact HB.out) hb); clear BK365; clear HB; have HO377 := n0_; have BK365 := n1_; have HB := n2_; clear n0_ n1_ n2_; (try clear hb); (try clear hb2); (try clear hk); (try clear hi); (try clear ho0)))
 repeat (go_quiet (first | (go_at_call 12; (with_reducible refine (screen_Reach.calls kj10 _ _ l0 _ _ l1_0 a1_1 a1_2 a1_3 a1_4 a1_5 a1_6 t375 t378 _ ?side1 ?side2 ?side3 ?side4 A21.out).mono ?_); (case side1 => repeat (first | exact (Kd.C_below HR0.out HB.out) | (with_reducible refine Kd.C_alloc ?_ _) | (with_reducible refine Kd.C_drewN ?_ _) | (with_reducible refine Kd.C_drew ?_))); (case side2 => exact HC0.out); (case side3 => repeat (first | exact (Kd.C_below HR1_0.out HB.out) | (with_reducible refine Kd.C_alloc ?_ _) | (with_reducible refine Kd.C_drewN ?_ _) | (with_reducible refine Kd.C_drew ?_))); (case side4 => exact HC1_0.out); rintro e w23 ⟨v376, rfl, ho0, hb⟩; have n0_ := am (Kd.R_lower ho0 (below_size (by repeat first|(with_reducible first|exact HB.out|apply wA|apply wN|apply wD|refine wS ?_ GE365.out)|exact HB.out))); have n1_ := am (blk_below (by (with_reducible repeat first|refine bN ?_ _|refine bD ?_|refine bA ?_ _);exact BK365.out) hb); have n2_ := am (below_step (by repeat first|(with_reducible first|exact HB.out|apply wA|apply wN|apply wD|refine wS ?_ GE365.out)|exact HB.out) hb); clear BK365; clear HB; have HO377 := n0_; have BK365 := n1_; have HB := n2_; clear n0_ n1_ n2_; (try clear hb); (try clear hb2); (try clear hk); (try clear hi); (try clear ho0))); try go_wp2_with (first | (go_at_call 12; (with_reducible refine (screen_Reach.calls kj10 _ _ l0 _ _ l1_0 a1_1 a1_2 a1_3 a1_4 a1_5 a1_6 t375 t378 _ ?side1 ?side2 ?side3 ?side4 A21.out).mono ?_); (case side1 => repeat (first | exact (Kd.C_below HR0.out HB.out) | (with_reducible refine Kd.C_alloc ?_ _) | (with_reducible refine Kd.C_drewN ?_ _) | (with_reducible refine Kd.C_drew ?_))); (case side2 => exact HC0.out); (case side3 => repeat (first | exact (Kd.C_below HR1_0.out HB.out) | (with_reducible refine Kd.C_alloc ?_ _) | (with_reducible refine Kd.C_drewN ?_ _) | (with_reducible refine Kd.C_drew ?_))); (case side4 => exact HC1_0.out); rintro e w23 ⟨v376, rfl, ho0, hb⟩; have n0_ := am (Kd.R_lower ho0 (below_size (by repeat first|(with_reducible first|exact HB.out|apply wA|apply wN|apply wD|refine wS ?_ GE365.out)|exact HB.out))); have n1_ := am (blk_below (by (with_reducible repeat first|refine bN ?_ _|refine bD ?_|refine bA ?_ _);exact BK365.out) hb); have n2_ := am (below_step (by repeat first|(with_reducible first|exact HB.out|apply wA|apply wN|apply wD|refine wS ?_ GE365.out)|exact HB.out) hb); clear BK365; clear HB; have HO377 := n0_; have BK365 := n1_; have HB := n2_; clear n0_ n1_ n2_; (try clear hb); (try clear hb2); (try clear hk); (try clear hi); (try clear ho0))))
 go_loopg [13, 14] kj10 (fun kq v13 v14 w' => ∃ (x13_2 : Bool) (x14_2 : Int), v13 = .bool x13_2 ∧ v14 = .int .i64 x14_2 ∧ Aside0 (wigeonlaw02_ScreenSteps.l0 kq t369 t375 t378 x13_2 x14_2 l1_0 a1_1 a1_2 a1_3 a1_4 a1_5 a1_6 a1_7 a1_8 = some r) ∧ Aside0 (kq ≤ kj10) ∧ Aside0 (Kd.R k25 25 w' w.heap.size (fun _ => True) v376 t375) ∧ Aside0 (w'.heap[gb365]? = some (.cells #[(.slice A1_0 l1_0.length c1_0), .int .i64 a1_1, .int .i64 a1_2, .int .i64 a1_3, .int .i64 a1_4, .int .i64 a1_5, .int .i64 a1_6, .int .i64 a1_7, .int .i64 a1_8] 29 (0, 0))) ∧ Aside0 (Below w.heap.size w w'))
 case atStart => exact ⟨(false), (0), (by first | rfl | (simp; done) | (simp [*]; done)), (by first | rfl | (simp; done) | (simp [*]; done)), H', ⟨Nat.le_refl _⟩, ⟨by (with_reducible repeat first|apply Kd.R_alloc|apply Kd.R_drewN|apply Kd.R_drew);exact HO377.out⟩, ⟨by (with_reducible repeat first|refine bN ?_ _|refine bD ?_|refine bA ?_ _);exact BK365.out⟩, ⟨by repeat (first | (with_reducible first | exact HB.out | apply below_alloc | apply pw_below_drewN | apply below_drew1 | refine below_set ?_ GE365.out) | exact HB.out)⟩⟩
 case round =>(
 clear H'
 try clear c1; try clear c2; try clear p2; try clear c4; try clear c5; try clear c17; try clear c17b0; try clear c17b1; try clear c18; try clear c18b0; try clear c18b1; try clear c18b2; try clear c19; try clear c20; try clear c20b0; try clear c20b1; try clear hcz13_0; try clear hcz13_1; try clear hcz13_2; try clear hcz13_3; try clear hcz13_4; try clear hcz13_5; try clear hcz13_6; try clear hcz13_7; try clear hcz13_8; try clear hcz15_0; try clear hcz15_1; try clear hcz15_2; try clear hcz15_3; try clear hcz15_4; try clear hcz15_5; try clear hcz15_6; try clear hcz15_7; try clear hcz15_8; try clear hcz22_0; try clear hcz22_1; try clear hcz22_2; try clear hcz22_3; try clear hcz22_4; try clear hcz22_5; try clear hcz22_6; try clear hcz22_7; try clear hcz22_8; try clear hcz7_0; try clear hcz7_1; try clear hcz7_2; try clear hcz7_3; try clear hcz7_4; try clear hcz7_5; try clear hcz7_6; try clear hcz7_7; try clear hcz7_8; try clear hfz13_0; try clear hfz13_1; try clear hfz13_2; try clear hfz13_3; try clear hfz13_4; try clear hfz13_5; try clear hfz13_6; try clear hfz13_7; try clear hfz13_8; try clear hfz15_0; try clear hfz15_1; try clear hfz15_2; try clear hfz15_3; try clear hfz15_4; try clear hfz15_5; try clear hfz15_6; try clear hfz15_7; try clear hfz15_8; try clear hfz22_0; try clear hfz22_1; try clear hfz22_2; try clear hfz22_3; try clear hfz22_4; try clear hfz22_5; try clear hfz22_6; try clear hfz22_7; try clear hfz22_8; try clear hfz7_0; try clear hfz7_1; try clear hfz7_2; try clear hfz7_3; try clear hfz7_4; try clear hfz7_5; try clear hfz7_6; try clear hfz7_7; try clear hfz7_8; try clear p2
 obtain ⟨x13_2, x14_2, rfl, rfl, HA, HK2, HO_11, BK365, HB⟩ := hrel
 cases gk with
 | zero => exact absurd HA.out (by simp [wigeonlaw02_ScreenSteps.l0])
 | succ k2 =>
  have H := HA.out
  clear HA
  simp only [wigeonlaw02_ScreenSteps.l0] at H
  by_cases c24 : x14_2 < (t375.length : Int)
  {
 rw [if_pos c24] at H
 have c24b0 : decide (x14_2 < (t375.length : Int)) = true := decide_eq_true c24
 clear c24
 by_cases c25 : x13_2 = true
 {
 subst c25
 have H1 : (wigeonlaw02_ScreenSteps.l0 k2 t369 t375 t378 true (wrap64 (x14_2 + 1)) l1_0 a1_1 a1_2 a1_3 a1_4 a1_5 a1_6 a1_7 a1_8) = some r := by rw [if_pos rfl] at H; exact H
 clear H
 have H := H1
 clear H1
 have H' := am H
 clear H
 obtain ⟨Ao26, co26, eo26⟩ := Kd.R_slice HO_11.out
 subst eo26
 go_wp2
 repeat (go_quiet (fail); try go_wp2)
 go_roundg k2
 case measure => have := HJ10.out; have := HK2.out; omega
 case rel => exact ⟨(true), (wrap64 (x14_2 + 1)), (by first | rfl | (simp; done) | (simp [*]; done)), (by first | rfl | (simp; done) | (simp [*]; done)), H', ⟨by have := HJ10.out; have := HK2.out; omega⟩, ⟨by (with_reducible repeat first|apply Kd.R_alloc|apply Kd.R_drewN|apply Kd.R_drew);exact HO_11.out⟩, ⟨by (with_reducible repeat first|refine bN ?_ _|refine bD ?_|refine bA ?_ _);exact BK365.out⟩, ⟨by repeat (first | (with_reducible first | exact HB.out | apply below_alloc | apply pw_below_drewN | apply below_drew1 | refine below_set ?_ GE365.out) | exact HB.out)⟩⟩}
 replace c25 := Bool.eq_false_iff.mpr c25
 subst c25
 have H1 : (if 0 ≤ x14_2 then (wigeonlaw02_ScreenSteps.l0 k2 t369 t375 t378 (((rd_T25 t375 x14_2).f0) == a1_7 && (((rd_T25 t375 x14_2).f1) == a1_8)) (wrap64 (x14_2 + 1)) l1_0 a1_1 a1_2 a1_3 a1_4 a1_5 a1_6 a1_7 a1_8) else (none)) = some r := by rw [if_neg (show ¬ (false = true) by decide)] at H; exact H
 clear H
 have H := H1
 clear H1
 by_cases c27 : 0 ≤ x14_2
 {
 rw [if_pos c27] at H
 have c27b0 : decide (0 ≤ x14_2) = true := decide_eq_true c27
 clear c27
 have H' := am H
 clear H
 obtain ⟨Ao28, co28, eo28⟩ := Kd.R_slice HO_11.out
 subst eo28
 have p379 : 0 ≤ (x14_2 : Int) := of_decide_eq_true (by first | (with_reducible assumption) | assumption)
 have q379 : x14_2 < (t375.length : Int) := of_decide_eq_true (by first | (with_reducible assumption) | assumption)
 obtain ⟨ad379, e379, hx379_0, hx379_1⟩ := at_T25 (Kd.R_reads' HO_11.out).2.2 x14_2 p379 q379
 cases e379
 replace p379 := eq_true p379
 replace q379 := eq_true q379
 have hcz29_0 : wr.cell? ⟨gb365, 0, none⟩ = some (.slice A1_0 l1_0.length c1_0) := (blk_cell BK365.out 0).trans rfl
 have hcz29_1 : wr.cell? ⟨gb365, 1, none⟩ = some (.int .i64 a1_1) := (blk_cell BK365.out 1).trans rfl
 have hcz29_2 : wr.cell? ⟨gb365, 2, none⟩ = some (.int .i64 a1_2) := (blk_cell BK365.out 2).trans rfl
 have hcz29_3 : wr.cell? ⟨gb365, 3, none⟩ = some (.int .i64 a1_3) := (blk_cell BK365.out 3).trans rfl
 have hcz29_4 : wr.cell? ⟨gb365, 4, none⟩ = some (.int .i64 a1_4) := (blk_cell BK365.out 4).trans rfl
 have hcz29_5 : wr.cell? ⟨gb365, 5, none⟩ = some (.int .i64 a1_5) := (blk_cell BK365.out 5).trans rfl
 have hcz29_6 : wr.cell? ⟨gb365, 6, none⟩ = some (.int .i64 a1_6) := (blk_cell BK365.out 6).trans rfl
 have hcz29_7 : wr.cell? ⟨gb365, 7, none⟩ = some (.int .i64 a1_7) := (blk_cell BK365.out 7).trans rfl
 have hcz29_8 : wr.cell? ⟨gb365, 8, none⟩ = some (.int .i64 a1_8) := (blk_cell BK365.out 8).trans rfl
 have hfz29_0 := blk_frozen BK365.out 0
 have hfz29_1 := blk_frozen BK365.out 1
 have hfz29_2 := blk_frozen BK365.out 2
 have hfz29_3 := blk_frozen BK365.out 3
 have hfz29_4 := blk_frozen BK365.out 4
 have hfz29_5 := blk_frozen BK365.out 5
 have hfz29_6 := blk_frozen BK365.out 6
 have hfz29_7 := blk_frozen BK365.out 7
 have hfz29_8 := blk_frozen BK365.out 8
 go_wp2
 repeat (go_quiet (fail); try go_wp2)
 go_roundg k2
 case measure => have := HJ10.out; have := HK2.out; omega
 case rel => exact ⟨((((rd_T25 t375 x14_2).f0) == a1_7 && (((rd_T25 t375 x14_2).f1) == a1_8))), (wrap64 (x14_2 + 1)), (by first | rfl | (simp; done) | (simp [*]; done)), (by first | rfl | (simp; done) | (simp [*]; done)), H', ⟨by have := HJ10.out; have := HK2.out; omega⟩, ⟨by (with_reducible repeat first|apply Kd.R_alloc|apply Kd.R_drewN|apply Kd.R_drew);exact HO_11.out⟩, ⟨by (with_reducible repeat first|refine bN ?_ _|refine bD ?_|refine bA ?_ _);exact BK365.out⟩, ⟨by repeat (first | (with_reducible first | exact HB.out | apply below_alloc | apply pw_below_drewN | apply below_drew1 | refine below_set ?_ GE365.out) | exact HB.out)⟩⟩}
 rw [if_neg c27] at H
 exact absurd H (by simp)}
  rw [if_neg c24] at H
  have c24b0 : decide (x14_2 < (t375.length : Int)) = false := decide_eq_false c24
  clear c24
  by_cases c30 : t378 = 0
  {
 rw [if_pos c30] at H
 have c30b0 : (t378 == 0) = true := beq_iff_eq.mpr c30
 have c30b1 : (t378 != 0) = false := bne_eq_false_iff_eq.mpr c30
 clear c30
 by_cases c31 : (x13_2 == t369) = true
 {
 rw [if_pos c31] at H
 have c31b0 : (x13_2 == t369) = true := c31
 (try (have c31b1 : decide (x13_2 = t369) = true := by simpa using c31))
 (try (have c31b2 : (x13_2 == t369) = true := by simpa using c31))
 clear c31
 replace H := Option.bind_eq_some_iff.mp H
 obtain ⟨t380, A320, H⟩ := H
 replace H : (some t380) = some r := H
 have A32 := am A320
 clear A320
 obtain rfl := Option.some.inj H
 obtain ⟨Ao33, co33, eo33⟩ := Kd.R_slice HO_11.out
 subst eo33
 go_wp2_with (first | (go_at_call 8; (with_reducible refine (wigeonlaw02_known.calls k2  t380 _ A32.out).mono ?_); rintro e w34 ⟨rfl, hb⟩; have n0_ := am (Kd.R_below (by (with_reducible repeat first|apply Kd.R_alloc|apply Kd.R_drewN|apply Kd.R_drew);exact HO_11.out) hb); have n1_ := am (blk_below (by (with_reducible repeat first|refine bN ?_ _|refine bD ?_|refine bA ?_ _);exact BK365.out) hb); have n2_ := am (below_step (by repeat first|(with_reducible first|exact HB.out|apply wA|apply wN|apply wD|refine wS ?_ GE365.out)|exact HB.out) hb); clear HO_11; clear BK365; clear HB; have HO_11 := n0_; have BK365 := n1_; have HB := n2_; clear n0_ n1_ n2_; (try clear hb); (try clear hb2); (try clear hk); (try clear hi)))
 repeat (go_quiet (first | (go_at_call 8; (with_reducible refine (wigeonlaw02_known.calls k2  t380 _ A32.out).mono ?_); rintro e w34 ⟨rfl, hb⟩; have n0_ := am (Kd.R_below (by (with_reducible repeat first|apply Kd.R_alloc|apply Kd.R_drewN|apply Kd.R_drew);exact HO_11.out) hb); have n1_ := am (blk_below (by (with_reducible repeat first|refine bN ?_ _|refine bD ?_|refine bA ?_ _);exact BK365.out) hb); have n2_ := am (below_step (by repeat first|(with_reducible first|exact HB.out|apply wA|apply wN|apply wD|refine wS ?_ GE365.out)|exact HB.out) hb); clear HO_11; clear BK365; clear HB; have HO_11 := n0_; have BK365 := n1_; have HB := n2_; clear n0_ n1_ n2_; (try clear hb); (try clear hb2); (try clear hk); (try clear hi))); try go_wp2_with (first | (go_at_call 8; (with_reducible refine (wigeonlaw02_known.calls k2  t380 _ A32.out).mono ?_); rintro e w34 ⟨rfl, hb⟩; have n0_ := am (Kd.R_below (by (with_reducible repeat first|apply Kd.R_alloc|apply Kd.R_drewN|apply Kd.R_drew);exact HO_11.out) hb); have n1_ := am (blk_below (by (with_reducible repeat first|refine bN ?_ _|refine bD ?_|refine bA ?_ _);exact BK365.out) hb); have n2_ := am (below_step (by repeat first|(with_reducible first|exact HB.out|apply wA|apply wN|apply wD|refine wS ?_ GE365.out)|exact HB.out) hb); clear HO_11; clear BK365; clear HB; have HO_11 := n0_; have BK365 := n1_; have HB := n2_; clear n0_ n1_ n2_; (try clear hb); (try clear hb2); (try clear hk); (try clear hi))))
 go_ret
 exact ⟨by first | rfl | (simp [errW_none, errW_some] <;> rfl) | (simp [*, errW_none, errW_some] <;> rfl), by repeat (first | (with_reducible first | exact HB.out | apply below_alloc | apply pw_below_drewN | apply below_drew1 | refine below_set ?_ GE365.out) | exact HB.out)⟩}
 rw [if_neg c31] at H
 have c31b0 : (x13_2 == t369) = false := by simpa using c31
 (try (have c31b1 : decide (x13_2 = t369) = false := by simpa using c31))
 (try (have c31b2 : (x13_2 == t369) = false := by simpa using c31))
 (try (have c31b3 : ¬ (x13_2 = t369) := by simpa using c31))
 clear c31
 obtain rfl := Option.some.inj H
 obtain ⟨Ao35, co35, eo35⟩ := Kd.R_slice HO_11.out
 subst eo35
 go_wp2
 repeat (go_quiet (fail); try go_wp2)
 go_ret
 exact ⟨by first | rfl | (simp [errW_none, errW_some] <;> rfl) | (simp [*, errW_none, errW_some] <;> rfl), by repeat (first | (with_reducible first | exact HB.out | apply below_alloc | apply pw_below_drewN | apply below_drew1 | refine below_set ?_ GE365.out) | exact HB.out)⟩}
  rw [if_neg c30] at H
  have c30b0 : (t378 == 0) = false := beq_eq_false_iff_ne.mpr c30
  have c30b1 : (t378 != 0) = true := bne_iff_ne.mpr c30
  obtain rfl := Option.some.inj H
  obtain ⟨Ao36, co36, eo36⟩ := Kd.R_slice HO_11.out
  subst eo36
  go_wp2
  repeat (go_quiet (fail); try go_wp2)
  go_ret
  exact ⟨by first | rfl | (simp [errW_none, errW_some] <;> rfl) | (simp [*, errW_none, errW_some] <;> rfl), by repeat (first | (with_reducible first | exact HB.out | apply below_alloc | apply pw_below_drewN | apply below_drew1 | refine below_set ?_ GE365.out) | exact HB.out)⟩)}
  rw [if_neg c20] at H
  have c20b0 : (t370 == 0) = false := beq_eq_false_iff_ne.mpr c20
  have c20b1 : (t370 != 0) = true := bne_iff_ne.mpr c20
  replace H := Option.bind_eq_some_iff.mp H
  obtain ⟨t374, A370, H⟩ := H
  replace H : (some t374) = some r := H
  have A37 := am A370
  clear A370
  obtain rfl := Option.some.inj H
  go_wp2_with (first | (go_at_call 8; (with_reducible refine (wigeonlaw02_known.calls kj10  t374 _ A37.out).mono ?_); rintro e w38 ⟨rfl, hb⟩; have n0_ := am (blk_below (by (with_reducible repeat first|refine bN ?_ _|refine bD ?_|refine bA ?_ _);exact BK365.out) hb); have n1_ := am (below_step (by repeat first|(with_reducible first|exact HB.out|apply wA|apply wN|apply wD|refine wS ?_ GE365.out)|exact HB.out) hb); clear BK365; clear HB; have BK365 := n0_; have HB := n1_; clear n0_ n1_; (try clear hb); (try clear hb2); (try clear hk); (try clear hi)))
  repeat (go_quiet (first | (go_at_call 8; (with_reducible refine (wigeonlaw02_known.calls kj10  t374 _ A37.out).mono ?_); rintro e w38 ⟨rfl, hb⟩; have n0_ := am (blk_below (by (with_reducible repeat first|refine bN ?_ _|refine bD ?_|refine bA ?_ _);exact BK365.out) hb); have n1_ := am (below_step (by repeat first|(with_reducible first|exact HB.out|apply wA|apply wN|apply wD|refine wS ?_ GE365.out)|exact HB.out) hb); clear BK365; clear HB; have BK365 := n0_; have HB := n1_; clear n0_ n1_; (try clear hb); (try clear hb2); (try clear hk); (try clear hi))); try go_wp2_with (first | (go_at_call 8; (with_reducible refine (wigeonlaw02_known.calls kj10  t374 _ A37.out).mono ?_); rintro e w38 ⟨rfl, hb⟩; have n0_ := am (blk_below (by (with_reducible repeat first|refine bN ?_ _|refine bD ?_|refine bA ?_ _);exact BK365.out) hb); have n1_ := am (below_step (by repeat first|(with_reducible first|exact HB.out|apply wA|apply wN|apply wD|refine wS ?_ GE365.out)|exact HB.out) hb); clear BK365; clear HB; have BK365 := n0_; have HB := n1_; clear n0_ n1_; (try clear hb); (try clear hb2); (try clear hk); (try clear hi))))
  go_ret
  exact ⟨by first | rfl | (simp [errW_none, errW_some] <;> rfl) | (simp [*, errW_none, errW_some] <;> rfl), by repeat (first | (with_reducible first | exact HB.out | apply below_alloc | apply pw_below_drewN | apply below_drew1 | refine below_set ?_ GE365.out) | exact HB.out)⟩
end Go.Proofs.Ytieffjkplaajdaa.SW

