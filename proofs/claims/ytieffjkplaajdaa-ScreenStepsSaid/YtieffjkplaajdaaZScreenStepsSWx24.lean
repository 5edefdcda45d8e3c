/- Of the text SWx24, what the row of ScreenSteps reaches. -/
import Derived.Test.YtieffjkplaajdaaZScreenStepsSWx0
import Derived.Test.YtieffjkplaajdaaZScreenStepsSWx1
import Derived.Test.YtieffjkplaajdaaZScreenStepsSWx19
import Derived.Test.YtieffjkplaajdaaZScreenStepsSWx23
namespace Go.Proofs.Ytieffjkplaajdaa.SW
open Go.RowKit Go.Proofs.YtieffjkplaajdaaW.PrintWords Go.Proofs.YtieffjkplaajdaaW.PrintLast Go.Proofs.YtieffjkplaajdaaW.PrintMore
open Go.Proofs.YtieffjkplaajdaaW.PrintWords renaming blk_drewN → bN, blk_drew → bD, blk_alloc → bA, below_alloc → wA, pw_below_drewN → wN, below_drew1 → wD, below_set → wS
open List renaming setIfInBounds_toArray → sA, set_cons_zero → s0, set_cons_succ → s1
open Act renaming put → ap
open Aside0 renaming mk → am
attribute [local go_sem] max2_int min2_int max_two min_two max_three min_three max_four min_four   -- for this text's walks alone
set_option linter.unusedVariables false
set_option linter.unusedSimpArgs false

attribute [local go_sem high] eqA25
def wigeonref02_Steps.l0 : Nat → List (S25) → List Int → Int → Int → Int → Option (Int × Bool × Int)
  | 0, _, _, _, _, _ => none
  | k + 1, x14, x15, x16, x263000, x263001 => if x16 < (x14.length : Int) then (if 0 ≤ x16 then (if (((rd_T25 x14 x16).f0) == x263000 && (((rd_T25 x14 x16).f1) == x263001)) = true then (if x16 < (x15.length : Int) then (if (rd x15 x16) ≥ 0 then (some (rd x15 x16, true, 0)) else (wigeonref02_Steps.l0 k x14 x15 (wrap64 (x16 + 1)) x263000 x263001)) else (none)) else (wigeonref02_Steps.l0 k x14 x15 (wrap64 (x16 + 1)) x263000 x263001)) else (none)) else (some (0, false, 0))
def wigeonref02_Steps.f (k : Nat) (l0 : List (S48)) (l1 : List (S25)) (a2_0 : Int) (a2_1 : Int) (a2_2 : Int) (a2_3 : Int) (a3_0 : Int) (a3_1 : Int) (a4_0 : Int) (a4_1 : Int) : Option (Int × Bool × Int) := (wigeonref02_placed.f k l0 l1 a2_0 a2_1 a2_2 a2_3 (([(⟨a3_0, a3_1⟩ : S25), (⟨a4_0, a4_1⟩ : S25)] : List (S25)))).bind fun t266 => (if t266 = 0 then ((wigeonref02_distances.f k l0 l1 a2_0 a2_1 a2_2 a2_3 a3_0 a3_1).bind fun bt267 => (wigeonref02_Steps.l0 k bt267.1 bt267.2 0 a4_0 a4_1)) else (some (0, false, t266)))
open Bool renaming true → T, false → F
set_option maxHeartbeats 8000000 in
set_option maxRecDepth 100000 in
theorem wigeonref02_Steps.calls (k : Nat) (A0 : Option Addr) (c0 : Nat) (l0 : List (S48)) (A1 : Option Addr) (c1 : Nat) (l1 : List (S25)) (a2_0 : Int) (a2_1 : Int) (a2_2 : Int) (a2_3 : Int) (a3_0 : Int) (a3_1 : Int) (a4_0 : Int) (a4_1 : Int) (r1 : Int) (r2 : Bool) (r3 : Int) (w : World) (hr0 : Kd.C k48 w A0 l0.length l0) (hc0 : l0.length ≤ c0) (hr1 : Kd.C k25 w A1 l1.length l1) (hc1 : l1.length ≤ c1) (h : wigeonref02_Steps.f k l0 l1 a2_0 a2_1 a2_2 a2_3 a3_0 a3_1 a4_0 a4_1 = some (r1, r2, r3)) :
 Calls Try.prog 10 #[.slice A0 l0.length c0, .slice A1 l1.length c1, .agg #[.int .i64 a2_0, .int .i64 a2_1, .int .i64 a2_2, .int .i64 a2_3], .agg #[.int .i64 a3_0, .int .i64 a3_1], .agg #[.int .i64 a4_0, .int .i64 a4_1]] w fun e w' => e = .returned (.tuple #[.int .i64 r1, .bool r2, .int .i64 r3]) ∧ Below w.heap.size w w' := by
 have hu27 := Try.underlying27
 have hu25 := Try.underlying25
 have HR0 := am hr0
 have HC0 := am hc0
 clear hr0 hc0
 have HR1 := am hr1
 have HC1 := am hc1
 clear hr1 hc1
 have HB := am (Below.refl w.heap.size w)
 have H : ((wigeonref02_placed.f k l0 l1 a2_0 a2_1 a2_2 a2_3 (([(⟨a3_0, a3_1⟩ : S25), (⟨a4_0, a4_1⟩ : S25)] : List (S25)))).bind fun t266 => (if t266 = 0 then ((wigeonref02_distances.f k l0 l1 a2_0 a2_1 a2_2 a2_3 a3_0 a3_1).bind fun bt267 => (wigeonref02_Steps.l0 k bt267.1 bt267.2 0 a4_0 a4_1)) else (some (0, false, t266)))) = some (r1, r2, r3) := h
 clear h
 obtain ⟨y263, hy263⟩ : ∃ y_ : List (S25), y_ = (([(⟨a3_0, a3_1⟩ : S25), (⟨a4_0, a4_1⟩ : S25)] : List (S25))) := ⟨_, rfl⟩
 replace H : ((wigeonref02_placed.f k l0 l1 a2_0 a2_1 a2_2 a2_3 y263).bind fun t266 => (if t266 = 0 then ((wigeonref02_distances.f k l0 l1 a2_0 a2_1 a2_2 a2_3 a3_0 a3_1).bind fun bt267 => (wigeonref02_Steps.l0 k bt267.1 bt267.2 0 a4_0 a4_1)) else (some (0, false, t266)))) = some (r1, r2, r3) := by first | (rw [hy263]; with_reducible exact H) | (have H2_ := (Option.bind_some _ _).symm.trans H; rw [hy263]; with_reducible exact H2_) | (have H2_ := (Option.bind_some _ _).symm.trans H; with_reducible exact H2_) | with_reducible exact H | (rw [hy263]; exact H) | exact H
 have Ny263 := am hy263
 clear hy263
 replace H := Option.bind_eq_some_iff.mp H
 obtain ⟨t266, A60, H⟩ := H
 replace H : (if t266 = 0 then ((wigeonref02_distances.f k l0 l1 a2_0 a2_1 a2_2 a2_3 a3_0 a3_1).bind fun bt267 => (wigeonref02_Steps.l0 k bt267.1 bt267.2 0 a4_0 a4_1)) else (some (0, false, t266))) = some (r1, r2, r3) := H
 have A6 := am A60
 clear A60
 by_cases c7 : t266 = 0
 {
 rw [if_pos c7] at H
 have c7b0 : (t266 == 0) = true := beq_iff_eq.mpr c7
 have c7b1 : (t266 != 0) = false := bne_eq_false_iff_eq.mpr c7
 clear c7
 replace H := Option.bind_eq_some_iff.mp H
 obtain ⟨⟨t267, t270⟩, A80, H⟩ := H
 replace H : (wigeonref02_Steps.l0 k t267 t270 0 a4_0 a4_1) = some (r1, r2, r3) := H
 have A8 := am A80
 clear A80
 have H' := am H
 clear H
 go_enter Try.func10, Try.ntmps10
 go_wp2_with (first | ((with_reducible refine gate_dst (N := 7) rfl ?_); refine box_event ?hg (N := 7) ?hd (cs := #[.int .i64 a2_0, .int .i64 a2_1, .int .i64 a2_2, .int .i64 a2_3]) (t := 27) ?hr ?_; (case hd => rfl); (case hg => rfl); (case hr => first | (go_simp; done) | (go_simp; rfl)); intro gb260 hg w9 hbox hb; have n0_ := am (below_step (by repeat first|(with_reducible first|exact HB.out|apply wA|apply wN|apply wD)|exact HB.out) hb); have n1_ := am (hbox); have n2_ := am ((by rw [hg]; exact (below_size (by repeat first|(with_reducible first|exact HB.out|apply wA|apply wN|apply wD)|exact HB.out)) : w.heap.size ≤ gb260)); have n3_ := am ((by rw [hg]; exact (below_size (by repeat first|(with_reducible first|exact HB.out|apply wA|apply wN|apply wD)|exact HB.out)) : w.heap.size ≤ gb260)); clear HB; have HB := n0_; have BK260 := n1_; have GW260 := n2_; have GE260 := n3_; clear n0_ n1_ n2_ n3_; clear hb hbox hg) | ((with_reducible refine gate_dst (N := 8) rfl ?_); refine box_event ?hg (N := 8) ?hd (cs := #[.int .i64 a3_0, .int .i64 a3_1]) (t := 25) ?hr ?_; (case hd => rfl); (case hg => rfl); (case hr => first | (go_simp; done) | (go_simp; rfl)); intro gb261 hg w10 hbox hb; have n0_ := am (blk_below (by (with_reducible repeat first|refine bN ?_ _|refine bD ?_|refine bA ?_ _);exact BK260.out) hb); have n1_ := am (below_step (by repeat first|(with_reducible first|exact HB.out|apply wA|apply wN|apply wD|refine wS ?_ GE260.out)|exact HB.out) hb); have n2_ := am (hbox); have n3_ := am ((by rw [hg]; exact (below_size (by repeat first|(with_reducible first|exact HB.out|apply wA|apply wN|apply wD|refine wS ?_ GE260.out)|exact HB.out)) : w.heap.size ≤ gb261)); have n4_ := am ((by rw [hg]; exact (below_size (by repeat first|(with_reducible first|exact HB.out|apply wA|apply wN|apply wD|refine wS ?_ GE260.out)|exact HB.out)) : w.heap.size ≤ gb261)); have n5_ := am ((by rw [hg]; exact Nat.ne_of_lt (blk_lt (by (with_reducible repeat first|refine bN ?_ _|refine bD ?_|refine bA ?_ _);exact BK260.out)) : gb260 ≠ gb261)); have n6_ := am ((by rw [hg]; exact Nat.ne_of_gt (blk_lt (by (with_reducible repeat first|refine bN ?_ _|refine bD ?_|refine bA ?_ _);exact BK260.out)) : gb261 ≠ gb260)); clear BK260; clear HB; have BK260 := n0_; have HB := n1_; have BK261 := n2_; have GW261 := n3_; have GE261 := n4_; have NB260_261 := n5_; have NB261_260 := n6_; clear n0_ n1_ n2_ n3_ n4_ n5_ n6_; clear hb hbox hg) | ((with_reducible refine gate_dst (N := 9) rfl ?_); refine box_event ?hg (N := 9) ?hd (cs := #[.int .i64 a4_0, .int .i64 a4_1]) (t := 25) ?hr ?_; (case hd => rfl); (case hg => rfl); (case hr => first | (go_simp; done) | (go_simp; rfl)); intro gb262 hg w11 hbox hb; have n0_ := am (blk_below (by (with_reducible repeat first|refine bN ?_ _|refine bD ?_|refine bA ?_ _);exact BK260.out) hb); have n1_ := am (blk_below (by (with_reducible repeat first|refine bN ?_ _|refine bD ?_|refine bA ?_ _);exact BK261.out) hb); have n2_ := am (below_step (by repeat first|(with_reducible first|exact HB.out|apply wA|apply wN|apply wD|refine wS ?_ GE260.out|refine wS ?_ GE261.out)|exact HB.out) hb); have n3_ := am (hbox); have n4_ := am ((by rw [hg]; exact (below_size (by repeat first|(with_reducible first|exact HB.out|apply wA|apply wN|apply wD|refine wS ?_ GE260.out|refine wS ?_ GE261.out)|exact HB.out)) : w.heap.size ≤ gb262)); have n5_ := am ((by rw [hg]; exact (below_size (by repeat first|(with_reducible first|exact HB.out|apply wA|apply wN|apply wD|refine wS ?_ GE260.out|refine wS ?_ GE261.out)|exact HB.out)) : w.heap.size ≤ gb262)); have n6_ := am ((by rw [hg]; exact Nat.ne_of_lt (blk_lt (by (with_reducible repeat first|refine bN ?_ _|refine bD ?_|refine bA ?_ _);exact BK260.out)) : gb260 ≠ gb262)); have n7_ := am ((by rw [hg]; exact Nat.ne_of_gt (blk_lt (by (with_reducible repeat first|refine bN ?_ _|refine bD ?_|refine bA ?_ _);exact BK260.out)) : gb262 ≠ gb260)); have n8_ := am ((by rw [hg]; exact Nat.ne_of_lt (blk_lt (by (with_reducible repeat first|refine bN ?_ _|refine bD ?_|refine bA ?_ _);exact BK261.out)) : gb261 ≠ gb262)); have n9_ := am ((by rw [hg]; exact Nat.ne_of_gt (blk_lt (by (with_reducible repeat first|refine bN ?_ _|refine bD ?_|refine bA ?_ _);exact BK261.out)) : gb262 ≠ gb261)); clear BK260; clear BK261; clear HB; have BK260 := n0_; have BK261 := n1_; have HB := n2_; have BK262 := n3_; have GW262 := n4_; have GE262 := n5_; have NB260_262 := n6_; have NB262_260 := n7_; have NB261_262 := n8_; have NB262_261 := n9_; clear n0_ n1_ n2_ n3_ n4_ n5_ n6_ n7_ n8_ n9_; clear hb hbox hg; have hnb12 := NB260_261.out; have hnc12 := NB261_260.out; have hnb13 := NB260_262.out; have hnc13 := NB262_260.out; have hcz14_0 : w11.cell? ⟨gb260, 0, none⟩ = some (.int .i64 a2_0) := (blk_cell BK260.out 0).trans rfl; have hcz14_1 : w11.cell? ⟨gb260, 1, none⟩ = some (.int .i64 a2_1) := (blk_cell BK260.out 1).trans rfl; have hcz14_2 : w11.cell? ⟨gb260, 2, none⟩ = some (.int .i64 a2_2) := (blk_cell BK260.out 2).trans rfl; have hcz14_3 : w11.cell? ⟨gb260, 3, none⟩ = some (.int .i64 a2_3) := (blk_cell BK260.out 3).trans rfl; have hfz14_0 := blk_frozen BK260.out 0; have hfz14_1 := blk_frozen BK260.out 1; have hfz14_2 := blk_frozen BK260.out 2; have hfz14_3 := blk_frozen BK260.out 3; have hnb15 := NB261_262.out; have hnc15 := NB262_261.out; have hcz16_0 : w11.cell? ⟨gb261, 0, none⟩ = some (.int .i64 a3_0) := (blk_cell BK261.out 0).trans rfl; have hcz16_1 : w11.cell? ⟨gb261, 1, none⟩ = some (.int .i64 a3_1) := (blk_cell BK261.out 1).trans rfl; have hfz16_0 := blk_frozen BK261.out 0; have hfz16_1 := blk_frozen BK261.out 1; have hcz17_0 : w11.cell? ⟨gb262, 0, none⟩ = some (.int .i64 a4_0) := (blk_cell BK262.out 0).trans rfl; have hcz17_1 : w11.cell? ⟨gb262, 1, none⟩ = some (.int .i64 a4_1) := (blk_cell BK262.out 1).trans rfl; have hfz17_0 := blk_frozen BK262.out 0; have hfz17_1 := blk_frozen BK262.out 1) | ((with_reducible refine gate_dst (N := 22) rfl ?_); refine Kd.R_lit k25 _ 25 ?hg (N := 22) ?hd (xs := ([(⟨a3_0, a3_1⟩ : S25), (⟨a4_0, a4_1⟩ : S25)] : List (S25))) (inner := [.int .i64 a3_0, .int .i64 a3_1, .int .i64 a4_0, .int .i64 a4_1]) (ok := fun _ => True) (okp := fun _ => True) ?hr ?hp (fun _ hk => hk) trivial (Below.refl _ _) (Nat.le_refl _) (by simp) ?_; (case hd => rfl); (case hg => rfl); (case hr => first | (go_simp; done) | (go_simp; rfl)); (case hp => exact (Reps.c2 (show Kd.M k25 _ _ _ (⟨a3_0, a3_1⟩ : S25) [.int .i64 a3_0, .int .i64 a3_1] from (k25_mkM _ _ _ (⟨a3_0, a3_1⟩ : S25) )) (Reps.c2 (show Kd.M k25 _ _ _ (⟨a4_0, a4_1⟩ : S25) [.int .i64 a4_0, .int .i64 a4_1] from (k25_mkM _ _ _ (⟨a4_0, a4_1⟩ : S25) )) (Reps.none _ _)))); intro v264 w18 ho19 hb hg_ hnew_; clear hg_ hnew_; (first | rw [← Ny263.out] at ho19 | (simp only [Int.reduceToNat] at ho19; rw [← Ny263.out] at ho19)); have n0_ := am (Kd.R_lower (Kd.R_newB (Kd.R_newB ho19 (by (with_reducible repeat first|refine bN ?_ _|refine bD ?_|refine bA ?_ _);exact BK261.out)) (by (with_reducible repeat first|refine bN ?_ _|refine bD ?_|refine bA ?_ _);exact BK262.out)) (below_size (by repeat first|(with_reducible first|exact HB.out|apply wA|apply wN|apply wD|refine wS ?_ GE260.out|refine wS ?_ GE261.out|refine wS ?_ GE262.out)|exact HB.out))); have n1_ := am (blk_below (by (with_reducible repeat first|refine bN ?_ _|refine bD ?_|refine bA ?_ _);exact BK260.out) hb); have n2_ := am (blk_below (by (with_reducible repeat first|refine bN ?_ _|refine bD ?_|refine bA ?_ _);exact BK261.out) hb); have n3_ := am (blk_below (by (with_reducible repeat first|refine bN ?_ _|refine bD ?_|refine bA ?_ _);exact BK262.out) hb); have n4_ := am (below_step (by repeat first|(with_reducible first|exact HB.out|apply wA|apply wN|apply wD|refine wS ?_ GE260.out|refine wS ?_ GE261.out|refine wS ?_ GE262.out)|exact HB.out) hb); clear BK260; clear BK261; clear BK262; clear HB; have HO265 := n0_; have BK260 := n1_; have BK261 := n2_; have BK262 := n3_; have HB := n4_; clear n0_ n1_ n2_ n3_ n4_; clear hb ho19; obtain ⟨Ao20, co20, eo20⟩ := Kd.R_slice HO265.out; subst eo20) | (go_at_call 26; (with_reducible refine (wigeonref02_placed.calls k _ _ l0 _ _ l1 a2_0 a2_1 a2_2 a2_3 _ _ y263 t266 _ ?side1 ?side2 ?side3 ?side4 ?side5 ?side6 A6.out).mono ?_); (case side1 => repeat (first | exact (Kd.C_below HR0.out HB.out) | (with_reducible refine Kd.C_alloc ?_ _) | (with_reducible refine Kd.C_drewN ?_ _) | (with_reducible refine Kd.C_drew ?_))); (case side2 => exact HC0.out); (case side3 => repeat (first | exact (Kd.C_below HR1.out HB.out) | (with_reducible refine Kd.C_alloc ?_ _) | (with_reducible refine Kd.C_drewN ?_ _) | (with_reducible refine Kd.C_drew ?_))); (case side4 => exact HC1.out); (case side5 => repeat (first | exact (Kd.R_reads' HO265.out).2.2 | (with_reducible refine Kd.C_alloc ?_ _) | (with_reducible refine Kd.C_drewN ?_ _) | (with_reducible refine Kd.C_drew ?_))); (case side6 => exact (Kd.R_reads' HO265.out).2.1); rintro e w21 ⟨rfl, hb⟩; have n0_ := am (Kd.R_below (by (with_reducible repeat first|apply Kd.R_alloc|apply Kd.R_drewN|apply Kd.R_drew);exact HO265.out) hb); have n1_ := am (blk_below (by (with_reducible repeat first|refine bN ?_ _|refine bD ?_|refine bA ?_ _);exact BK260.out) hb); have n2_ := am (blk_below (by (with_reducible repeat first|refine bN ?_ _|refine bD ?_|refine bA ?_ _);exact BK261.out) hb); have n3_ := am (blk_below (by (with_reducible repeat first|refine bN ?_ _|refine bD ?_|refine bA ?_ _);exact BK262.out) hb); have n4_ := am (below_step (by repeat first|(with_reducible first|exact HB.out|apply wA|apply wN|apply wD|refine wS ?_ GE260.out|refine wS ?_ GE261.out|refine wS ?_ GE262.out)|exact HB.out) hb); clear HO265; clear BK260; clear BK261; clear BK262; clear HB; have HO265 := n0_; have BK260 := n1_; have BK261 := n2_; have BK262 := n3_; have HB := n4_; clear n0_ n1_ n2_ n3_ n4_; (try clear hb); (try clear hb2); (try clear hk); (try clear hi); have hcz22_0 : w21.cell? ⟨gb260, 0, none⟩ = some (.int .i64 a2_0) := (blk_cell BK260.out 0).trans rfl; have hcz22_1 : w21.cell? ⟨gb260, 1, none⟩ = some (.int .i64 a2_1) := (blk_cell BK260.out 1).trans rfl; have hcz22_2 : w21.cell? ⟨gb260, 2, none⟩ = some (.int .i64 a2_2) := (blk_cell BK260.out 2).trans rfl; have hcz22_3 : w21.cell? ⟨gb260, 3, none⟩ = some (.int .i64 a2_3) := (blk_cell BK260.out 3).trans rfl; have hfz22_0 := blk_frozen BK260.out 0; have hfz22_1 := blk_frozen BK260.out 1; have hfz22_2 := blk_frozen BK260.out 2; have hfz22_3 := blk_frozen BK260.out 3; have hcz23_0 : w21.cell? ⟨gb261, 0, none⟩ = some (.int .i64 a3_0) := (blk_cell BK261.out 0).trans rfl; have hcz23_1 : w21.cell? ⟨gb261, 1, none⟩ = some (.int .i64 a3_1) := (blk_cell BK261.out 1).trans rfl; have hfz23_0 := blk_frozen BK261.out 0; have hfz23_1 := blk_frozen BK261.out 1) | (go_at_call 27; (with_reducible refine (wigeonref02_distances.calls k _ _ l0 _ _ l1 a2_0 a2_1 a2_2 a2_3 a3_0 a3_1 t267 t270 _ ?side1 ?side2 ?side3 ?side4 A8.out).mono ?_); (case side1 => repeat (first | exact (Kd.C_below HR0.out HB.out) | (with_reducible refine Kd.C_alloc ?_ _) | (with_reducible refine Kd.C_drewN ?_ _) | (with_reducible refine Kd.C_drew ?_))); (case side2 => exact HC0.out); (case side3 => repeat (first | exact (Kd.C_below HR1.out HB.out) | (with_reducible refine Kd.C_alloc ?_ _) | (with_reducible refine Kd.C_drewN ?_ _) | (with_reducible refine Kd.C_drew ?_))); (case side4 => exact HC1.out); rintro e w24 ⟨v268, v271, rfl, ho0, ho1, hb⟩; have n0_ := am (Kd.R_elder' (by (with_reducible repeat first|apply Kd.R_alloc|apply Kd.R_drewN|apply Kd.R_drew);exact HO265.out) (Kd.R_base ho0) hb); have n1_ := am (Kd.R_lower (Kd.R_newB (Kd.R_newB (Kd.R_new' ho0 (Kd.R_lt (by (with_reducible repeat first|apply Kd.R_alloc|apply Kd.R_drewN|apply Kd.R_drew);exact HO265.out))) (by (with_reducible repeat first|refine bN ?_ _|refine bD ?_|refine bA ?_ _);exact BK261.out)) (by (with_reducible repeat first|refine bN ?_ _|refine bD ?_|refine bA ?_ _);exact BK262.out)) (below_size (by repeat first|(with_reducible first|exact HB.out|apply wA|apply wN|apply wD|refine wS ?_ GE260.out|refine wS ?_ GE261.out|refine wS ?_ GE262.out)|exact HB.out))); have n2_ := am (Kd.R_lower ho1 (below_size (by repeat first|(with_reducible first|exact HB.out|apply wA|apply wN|apply wD|refine wS ?_ GE260.out|refine wS ?_ GE261.out|refine wS ?_ GE262.out)|exact HB.out))); have n3_ := am (blk_below (by (with_reducible repeat first|refine bN ?_ _|refine bD ?_|refine bA ?_ _);exact BK260.out) hb); have n4_ := am (blk_below (by (with_reducible repeat first|refine bN ?_ _|refine bD ?_|refine bA ?_ _);exact BK261.out) hb); have n5_ := am (blk_below (by (with_reducible repeat first|refine bN ?_ _|refine bD ?_|refine bA ?_ _);exact BK262.out) hb); have n6_ := am (below_step (by repeat first|(with_reducible first|exact HB.out|apply wA|apply wN|apply wD|refine wS ?_ GE260.out|refine wS ?_ GE261.out|refine wS ?_ GE262.out)|exact HB.out) hb); clear HO265; clear BK260; clear BK261; clear BK262; clear HB; have HO265 := n0_; have HO269 := n1_; have HO272 := n2_; have BK260 := n3_; have BK261 := n4_; have BK262 := n5_; have HB := n6_; clear n0_ n1_ n2_ n3_ n4_ n5_ n6_; (try clear hb); (try clear hb2); (try clear hk); (try clear hi); (try clear ho0); (try clear ho1)))
 repeat (go_quiet (first | fail); try go_wp2_with (first | fail))
 go_loopg [16] k (fun kq v16 w' => ∃ (x16_1 : Int), v16 = .int .i64 x16_1 ∧ Aside0 (wigeonref02_Steps.l0 kq t267 t270 x16_1 a4_0 a4_1 = some (r1, r2, r3)) ∧ Aside0 (kq ≤ k) ∧ Aside0 (Kd.R k25 25 w' w.heap.size (fun k_ => k_ ≠ gb261 ∧ k_ ≠ gb262) v268 t267) ∧ Aside0 (Kd.R (Kd.int .i64) 3 w' w.heap.size (fun _ => True) v271 t270) ∧ Aside0 (w'.heap[gb260]? = some (.cells #[.int .i64 a2_0, .int .i64 a2_1, .int .i64 a2_2, .int .i64 a2_3] 27 (0, 0))) ∧ Aside0 (w'.heap[gb261]? = some (.cells #[.int .i64 a3_0, .int .i64 a3_1] 25 (0, 0))) ∧ Aside0 (w'.heap[gb262]? = some (.cells #[.int .i64 a4_0, .int .i64 a4_1] 25 (0, 0))) ∧ Aside0 (Below w.heap.size w w'))
 case atStart => exact ⟨(0), (by first | rfl | (simp; done) | (simp [*]; done)), H', ⟨Nat.le_refl _⟩, ⟨by (with_reducible repeat first|apply Kd.R_alloc|apply Kd.R_drewN|apply Kd.R_drew);exact Kd.R_mono HO269.out (fun _ hk => ⟨hk.1.2, hk.2⟩)⟩, ⟨by (with_reducible repeat first|apply Kd.R_alloc|apply Kd.R_drewN|apply Kd.R_drew);exact HO272.out⟩, ⟨by (with_reducible repeat first|refine bN ?_ _|refine bD ?_|refine bA ?_ _);exact BK260.out⟩, ⟨by (with_reducible repeat first|refine bN ?_ _|refine bD ?_|refine bA ?_ _);exact BK261.out⟩, ⟨by (with_reducible repeat first|refine bN ?_ _|refine bD ?_|refine bA ?_ _);exact BK262.out⟩, ⟨by repeat (first | (with_reducible first | exact HB.out | apply below_alloc | apply pw_below_drewN | apply below_drew1 | refine below_set ?_ GE260.out | refine below_set ?_ GE261.out | refine below_set ?_ GE262.out) | exact HB.out)⟩⟩
 case round =>(
 clear H'
 try clear c1; try clear c2; try clear p2; try clear c7; try clear c7b0; try clear c7b1; try clear c10; try clear c12; try clear c13; try clear c15; try clear hcz14_0; try clear hcz14_1; try clear hcz14_2; try clear hcz14_3; try clear hcz16_0; try clear hcz16_1; try clear hcz17_0; try clear hcz17_1; try clear hcz22_0; try clear hcz22_1; try clear hcz22_2; try clear hcz22_3; try clear hcz23_0; try clear hcz23_1; try clear hfz14_0; try clear hfz14_1; try clear hfz14_2; try clear hfz14_3; try clear hfz16_0; try clear hfz16_1; try clear hfz17_0; try clear hfz17_1; try clear hfz22_0; try clear hfz22_1; try clear hfz22_2; try clear hfz22_3; try clear hfz23_0; try clear hfz23_1
 obtain ⟨x16_1, rfl, HA, HK1, HO_14, HO_15, BK260, BK261, BK262, HB⟩ := hrel
 cases gk with
 | zero => exact absurd HA.out (by simp [wigeonref02_Steps.l0])
 | succ k1 =>
  have H := HA.out
  clear HA
  simp only [wigeonref02_Steps.l0] at H
  by_cases c25 : x16_1 < (t267.length : Int)
  {
 rw [if_pos c25] at H
 have c25b0 : decide (x16_1 < (t267.length : Int)) = true := decide_eq_true c25
 clear c25
 by_cases c26 : 0 ≤ x16_1
 {
 rw [if_pos c26] at H
 have c26b0 : decide (0 ≤ x16_1) = true := decide_eq_true c26
 clear c26
 by_cases c27 : (((rd_T25 t267 x16_1).f0) == a4_0 && (((rd_T25 t267 x16_1).f1) == a4_1)) = true
 {
 rw [if_pos c27] at H
 have c27b0 : (((rd_T25 t267 x16_1).f0) == a4_0 && (((rd_T25 t267 x16_1).f1) == a4_1)) = true := c27
 (try (have c27b1 : decide (((rd_T25 t267 x16_1).f0) = a4_0 && (((rd_T25 t267 x16_1).f1) == a4_1)) = true := by simpa using c27))
 (try (have c27b2 : (((rd_T25 t267 x16_1).f0) == a4_0 && (((rd_T25 t267 x16_1).f1) == a4_1)) = true := by simpa using c27))
 clear c27
 by_cases c28 : x16_1 < (t270.length : Int)
 {
 rw [if_pos c28] at H
 have c28b0 : decide (x16_1 < (t270.length : Int)) = true := decide_eq_true c28
 clear c28
 by_cases c29 : (rd t270 x16_1) ≥ 0
 {
 rw [if_pos c29] at H
 have c29b0 : decide (0 ≤ (rd t270 x16_1)) = true := decide_eq_true c29
 clear c29
 simp only [Option.some.injEq, Prod.mk.injEq] at H
 obtain ⟨rfl, rfl, rfl⟩ := H
 obtain ⟨Ao30, co30, eo30⟩ := Kd.R_slice HO_14.out
 subst eo30
 have p273 : 0 ≤ (x16_1 : Int) := of_decide_eq_true (by first | (with_reducible assumption) | assumption)
 have q273 : x16_1 < (t267.length : Int) := of_decide_eq_true (by first | (with_reducible assumption) | assumption)
 obtain ⟨ad273, e273, hx273_0, hx273_1⟩ := at_T25 (Kd.R_reads' HO_14.out).2.2 x16_1 p273 q273
 cases e273
 replace p273 := eq_true p273
 replace q273 := eq_true q273
 have hnb31 := NB262_260.out
 have hnc31 := NB260_262.out
 have hnb32 := NB262_261.out
 have hnc32 := NB261_262.out
 have hcz33_0 : wr.cell? ⟨gb262, 0, none⟩ = some (.int .i64 a4_0) := (blk_cell BK262.out 0).trans rfl
 have hcz33_1 : wr.cell? ⟨gb262, 1, none⟩ = some (.int .i64 a4_1) := (blk_cell BK262.out 1).trans rfl
 have hfz33_0 := blk_frozen BK262.out 0
 have hfz33_1 := blk_frozen BK262.out 1
 obtain ⟨Ao34, co34, eo34⟩ := Kd.R_slice HO_15.out
 subst eo34
 have p274 : 0 ≤ (x16_1 : Int) := of_decide_eq_true (by first | (with_reducible assumption) | assumption)
 have q274 : x16_1 < (t270.length : Int) := of_decide_eq_true (by first | (with_reducible assumption) | assumption)
 obtain ⟨ad274, e274, hx274_0⟩ := Kd.at_int (Kd.R_reads' HO_15.out).2.2 x16_1 p274 q274
 cases e274
 replace p274 := eq_true p274
 replace q274 := eq_true q274
 have p275 : 0 ≤ (x16_1 : Int) := of_decide_eq_true (by first | (with_reducible assumption) | assumption)
 have q275 : x16_1 < (t270.length : Int) := of_decide_eq_true (by first | (with_reducible assumption) | assumption)
 obtain ⟨ad275, e275, hx275_0⟩ := Kd.at_int (Kd.R_reads' HO_15.out).2.2 x16_1 p275 q275
 obtain rfl : ad274 = ad275 := (by injection e275)
 replace p275 := eq_true p275
 replace q275 := eq_true q275
 go_wp2
 repeat (go_quiet (fail); try go_wp2)
 go_ret3
 exact ⟨by first | rfl | (simp [errW_none, errW_some] <;> rfl) | (simp [*, errW_none, errW_some] <;> rfl), by repeat (first | (with_reducible first | exact HB.out | apply below_alloc | apply pw_below_drewN | apply below_drew1 | refine below_set ?_ GE260.out | refine below_set ?_ GE261.out | refine below_set ?_ GE262.out) | exact HB.out)⟩}
 rw [if_neg c29] at H
 have c29b0 : decide (0 ≤ (rd t270 x16_1)) = false := decide_eq_false c29
 clear c29
 have H' := am H
 clear H
 obtain ⟨Ao35, co35, eo35⟩ := Kd.R_slice HO_14.out
 subst eo35
 have p273 : 0 ≤ (x16_1 : Int) := of_decide_eq_true (by first | (with_reducible assumption) | assumption)
 have q273 : x16_1 < (t267.length : Int) := of_decide_eq_true (by first | (with_reducible assumption) | assumption)
 obtain ⟨ad273, e273, hx273_0, hx273_1⟩ := at_T25 (Kd.R_reads' HO_14.out).2.2 x16_1 p273 q273
 cases e273
 replace p273 := eq_true p273
 replace q273 := eq_true q273
 have hnb36 := NB262_260.out
 have hnc36 := NB260_262.out
 have hnb37 := NB262_261.out
 have hnc37 := NB261_262.out
 have hcz38_0 : wr.cell? ⟨gb262, 0, none⟩ = some (.int .i64 a4_0) := (blk_cell BK262.out 0).trans rfl
 have hcz38_1 : wr.cell? ⟨gb262, 1, none⟩ = some (.int .i64 a4_1) := (blk_cell BK262.out 1).trans rfl
 have hfz38_0 := blk_frozen BK262.out 0
 have hfz38_1 := blk_frozen BK262.out 1
 obtain ⟨Ao39, co39, eo39⟩ := Kd.R_slice HO_15.out
 subst eo39
 have p274 : 0 ≤ (x16_1 : Int) := of_decide_eq_true (by first | (with_reducible assumption) | assumption)
 have q274 : x16_1 < (t270.length : Int) := of_decide_eq_true (by first | (with_reducible assumption) | assumption)
 obtain ⟨ad274, e274, hx274_0⟩ := Kd.at_int (Kd.R_reads' HO_15.out).2.2 x16_1 p274 q274
 cases e274
 replace p274 := eq_true p274
 replace q274 := eq_true q274
 go_wp2
 repeat (go_quiet (fail); try go_wp2)
 go_roundg k1
 case measure => have := HK1.out; omega
 case rel => exact ⟨(wrap64 (x16_1 + 1)), (by first | rfl | (simp; done) | (simp [*]; done)), H', ⟨by have := HK1.out; omega⟩, ⟨by (with_reducible repeat first|apply Kd.R_alloc|apply Kd.R_drewN|apply Kd.R_drew);exact HO_14.out⟩, ⟨by (with_reducible repeat first|apply Kd.R_alloc|apply Kd.R_drewN|apply Kd.R_drew);exact HO_15.out⟩, ⟨by (with_reducible repeat first|refine bN ?_ _|refine bD ?_|refine bA ?_ _);exact BK260.out⟩, ⟨by (with_reducible repeat first|refine bN ?_ _|refine bD ?_|refine bA ?_ _);exact BK261.out⟩, ⟨by (with_reducible repeat first|refine bN ?_ _|refine bD ?_|refine bA ?_ _);exact BK262.out⟩, ⟨by repeat (first | (with_reducible first | exact HB.out | apply below_alloc | apply pw_below_drewN | apply below_drew1 | refine below_set ?_ GE260.out | refine below_set ?_ GE261.out | refine below_set ?_ GE262.out) | exact HB.out)⟩⟩}
 rw [if_neg c28] at H
 exact absurd H (by simp)}
 rw [if_neg c27] at H
 have c27b0 : (((rd_T25 t267 x16_1).f0) == a4_0 && (((rd_T25 t267 x16_1).f1) == a4_1)) = false := by simpa using c27
 (try (have c27b1 : decide (((rd_T25 t267 x16_1).f0) = a4_0 && (((rd_T25 t267 x16_1).f1) == a4_1)) = false := by simpa using c27))
 (try (have c27b2 : (((rd_T25 t267 x16_1).f0) == a4_0 && (((rd_T25 t267 x16_1).f1) == a4_1)) = false := by simpa using c27))
 (try (have c27b3 : ¬ (((rd_T25 t267 x16_1).f0) = a4_0 && (((rd_T25 t267 x16_1).f1) == a4_1)) := by simpa using c27))
 clear c27
 have H' := am H
 clear H
 obtain ⟨Ao40, co40, eo40⟩ := Kd.R_slice HO_14.out
 subst eo40
 have p273 : 0 ≤ (x16_1 : Int) := of_decide_eq_true (by first | (with_reducible assumption) | assumption)
 have q273 : x16_1 < (t267.length : Int) := of_decide_eq_true (by first | (with_reducible assumption) | assumption)
 obtain ⟨ad273, e273, hx273_0, hx273_1⟩ := at_T25 (Kd.R_reads' HO_14.out).2.2 x16_1 p273 q273
 cases e273
 replace p273 := eq_true p273
 replace q273 := eq_true q273
 have hnb41 := NB262_260.out
 have hnc41 := NB260_262.out
 have hnb42 := NB262_261.out
 have hnc42 := NB261_262.out
 have hcz43_0 : wr.cell? ⟨gb262, 0, none⟩ = some (.int .i64 a4_0) := (blk_cell BK262.out 0).trans rfl
 have hcz43_1 : wr.cell? ⟨gb262, 1, none⟩ = some (.int .i64 a4_1) := (blk_cell BK262.out 1).trans rfl
 have hfz43_0 := blk_frozen BK262.out 0
 have hfz43_1 := blk_frozen BK262.out 1
 go_wp2
 repeat (go_quiet (fail); try go_wp2)
 go_roundg k1
 case measure => have := HK1.out; omega
 case rel => exact ⟨(wrap64 (x16_1 + 1)), (by first | rfl | (simp; done) | (simp [*]; done)), H', ⟨by have := HK1.out; omega⟩, ⟨by (with_reducible repeat first|apply Kd.R_alloc|apply Kd.R_drewN|apply Kd.R_drew);exact HO_14.out⟩, ⟨by (with_reducible repeat first|apply Kd.R_alloc|apply Kd.R_drewN|apply Kd.R_drew);exact HO_15.out⟩, ⟨by (with_reducible repeat first|refine bN ?_ _|refine bD ?_|refine bA ?_ _);exact BK260.out⟩, ⟨by (with_reducible repeat first|refine bN ?_ _|refine bD ?_|refine bA ?_ _);exact BK261.out⟩, ⟨by (with_reducible repeat first|refine bN ?_ _|refine bD ?_|refine bA ?_ _);exact BK262.out⟩, ⟨by repeat (first | (with_reducible first | exact HB.out | apply below_alloc | apply pw_below_drewN | apply below_drew1 | refine below_set ?_ GE260.out | refine below_set ?_ GE261.out | refine below_set ?_ GE262.out) | exact HB.out)⟩⟩}
 rw [if_neg c26] at H
 exact absurd H (by simp)}
  rw [if_neg c25] at H
  have c25b0 : decide (x16_1 < (t267.length : Int)) = false := decide_eq_false c25
  clear c25
  simp only [Option.some.injEq, Prod.mk.injEq] at H
  obtain ⟨rfl, rfl, rfl⟩ := H
  obtain ⟨Ao44, co44, eo44⟩ := Kd.R_slice HO_14.out
  subst eo44
  go_wp2
  repeat (go_quiet (fail); try go_wp2)
  go_ret3
  exact ⟨by first | rfl | (simp [errW_none, errW_some] <;> rfl) | (simp [*, errW_none, errW_some] <;> rfl), by repeat (first | (with_reducible first | exact HB.out | apply below_alloc | apply pw_below_drewN | apply below_drew1 | refine below_set ?_ GE260.out | refine below_set ?_ GE261.out | refine below_set ?_ GE262.out) | exact HB.out)⟩)}
 rw [if_neg c7] at H
 have c7b0 : (t266 == 0) = false := beq_eq_false_iff_ne.mpr c7
 have c7b1 : (t266 != 0) = true := bne_iff_ne.mpr c7
 simp only [Option.some.injEq, Prod.mk.injEq] at H
 obtain ⟨rfl, rfl, rfl⟩ := H
 go_enter Try.func10, Try.ntmps10
 go_wp2_with (first | ((with_reducible refine gate_dst (N := 7) rfl ?_); refine box_event ?hg (N := 7) ?hd (cs := #[.int .i64 a2_0, .int .i64 a2_1, .int .i64 a2_2, .int .i64 a2_3]) (t := 27) ?hr ?_; (case hd => rfl); (case hg => rfl); (case hr => first | (go_simp; done) | (go_simp; rfl)); intro gb260 hg w45 hbox hb; have n0_ := am (below_step (by repeat first|(with_reducible first|exact HB.out|apply wA|apply wN|apply wD)|exact HB.out) hb); have n1_ := am (hbox); have n2_ := am ((by rw [hg]; exact (below_size (by repeat first|(with_reducible first|exact HB.out|apply wA|apply wN|apply wD)|exact HB.out)) : w.heap.size ≤ gb260)); have n3_ := am ((by rw [hg]; exact (below_size (by repeat first|(with_reducible first|exact HB.out|apply wA|apply wN|apply wD)|exact HB.out)) : w.heap.size ≤ gb260)); clear HB; have HB := n0_; have BK260 := n1_; have GW260 := n2_; have GE260 := n3_; clear n0_ n1_ n2_ n3_; clear hb hbox hg) | ((with_reducible refine gate_dst (N := 8) rfl ?_); refine box_event ?hg (N := 8) ?hd (cs := #[.int .i64 a3_0, .int .i64 a3_1]) (t := 25) ?hr ?_; (case hd => rfl); (case hg => rfl); (case hr => first | (go_simp; done) | (go_simp; rfl)); intro gb261 hg w46 hbox hb; have n0_ := am (blk_below (by (with_reducible repeat first|refine bN ?_ _|refine bD ?_|refine bA ?_ _);exact BK260.out) hb); have n1_ := am (below_step (by repeat first|(with_reducible first|exact HB.out|apply wA|apply wN|apply wD|refine wS ?_ GE260.out)|exact HB.out) hb); have n2_ := am (hbox); have n3_ := am ((by rw [hg]; exact (below_size (by repeat first|(with_reducible first|exact HB.out|apply wA|apply wN|apply wD|refine wS ?_ GE260.out)|exact HB.out)) : w.heap.size ≤ gb261)); have n4_ := am ((by rw [hg]; exact (below_size (by repeat first|(with_reducible first|exact HB.out|apply wA|apply wN|apply wD|refine wS ?_ GE260.out)|exact HB.out)) : w.heap.size ≤ gb261)); have n5_ := am ((by rw [hg]; exact Nat.ne_of_lt (blk_lt (by (with_reducible repeat first|refine bN ?_ _|refine bD ?_|refine bA ?_ _);exact BK260.out)) : gb260 ≠ gb261)); have n6_ := am ((by rw [hg]; exact Nat.ne_of_gt (blk_lt (by (with_reducible repeat first|refine bN ?_ _|refine bD ?_|refine bA ?_ _);exact BK260.out)) : gb261 ≠ gb260)); clear BK260; clear HB; have BK260 := n0_; have HB := n1_; have BK261 := n2_; have GW261 := n3_; have GE261 := n4_; have NB260_261 := n5_; have NB261_260 := n6_; clear n0_ n1_ n2_ n3_ n4_ n5_ n6_; clear hb hbox hg) | ((with_reducible refine gate_dst (N := 9) rfl ?_); refine box_event ?hg (N := 9) ?hd (cs := #[.int .i64 a4_0, .int .i64 a4_1]) (t := 25) ?hr ?_; (case hd => rfl); (case hg => rfl); (case hr => first | (go_simp; done) | (go_simp; rfl)); intro gb262 hg w47 hbox hb; have n0_ := am (blk_below (by (with_reducible repeat first|refine bN ?_ _|refine bD ?_|refine bA ?_ _);exact BK260.out) hb); have n1_ := am (blk_below (by (with_reducible repeat first|refine bN ?_ _|refine bD ?_|refine bA ?_ _);exact BK261.out) hb); have n2_ := am (below_step (by repeat first|(with_reducible first|exact HB.out|apply wA|apply wN|apply wD|refine wS ?_ GE260.out|refine wS ?_ GE261.out)|exact HB.out) hb); have n3_ := am (hbox); have n4_ := am ((by rw [hg]; exact (below_size (by repeat first|(with_reducible first|exact HB.out|apply wA|apply wN|apply wD|refine wS ?_ GE260.out|refine wS ?_ GE261.out)|exact HB.out)) : w.heap.size ≤ gb262)); have n5_ := am ((by rw [hg]; exact (below_size (by repeat first|(with_reducible first|exact HB.out|apply wA|apply wN|apply wD|refine wS ?_ GE260.out|refine wS ?_ GE261.out)|exact HB.out)) : w.heap.size ≤ gb262)); have n6_ := am ((by rw [hg]; exact Nat.ne_of_lt (blk_lt (by (with_reducible repeat first|refine bN ?_ _|refine bD ?_|refine bA ?_ _);exact BK260.out)) : gb260 ≠ gb262)); have n7_ := am ((by rw [hg]; exact Nat.ne_of_gt (blk_lt (by (with_reducible repeat first|refine bN ?_ _|refine bD ?_|refine bA ?_ _);exact BK260.out)) : gb262 ≠ gb260)); have n8_ := am ((by rw [hg]; exact Nat.ne_of_lt (blk_lt (by (with_reducible repeat first|refine bN ?_ _|refine bD ?_|refine bA ?_ _);exact BK261.out)) : gb261 ≠ gb262)); have n9_ := am ((by rw [hg]; exact Nat.ne_of_gt (blk_lt (by (with_reducible repeat first|refine bN ?_ _|refine bD ?_|refine bA ?_ _);exact BK261.out)) : gb262 ≠ gb261)); clear BK260; clear BK261; clear HB; have BK260 := n0_; have BK261 := n1_; have HB := n2_; have BK262 := n3_; have GW262 := n4_; have GE262 := n5_; have NB260_262 := n6_; have NB262_260 := n7_; have NB261_262 := n8_; have NB262_261 := n9_; clear n0_ n1_ n2_ n3_ n4_ n5_ n6_ n7_ n8_ n9_; clear hb hbox hg; have hnb48 := NB260_261.out; have hnc48 := NB261_260.out; have hnb49 := NB260_262.out; have hnc49 := NB262_260.out; have hcz50_0 : w47.cell? ⟨gb260, 0, none⟩ = some (.int .i64 a2_0) := (blk_cell BK260.out 0).trans rfl; have hcz50_1 : w47.cell? ⟨gb260, 1, none⟩ = some (.int .i64 a2_1) := (blk_cell BK260.out 1).trans rfl; have hcz50_2 : w47.cell? ⟨gb260, 2, none⟩ = some (.int .i64 a2_2) := (blk_cell BK260.out 2).trans rfl; have hcz50_3 : w47.cell? ⟨gb260, 3, none⟩ = some (.int .i64 a2_3) := (blk_cell BK260.out 3).trans rfl; have hfz50_0 := blk_frozen BK260.out 0; have hfz50_1 := blk_frozen BK260.out 1; have hfz50_2 := blk_frozen BK260.out 2; have hfz50_3 := blk_frozen BK260.out 3; have hnb51 := NB261_262.out; have hnc51 := NB262_261.out; have hcz52_0 : w47.cell? ⟨gb261, 0, none⟩ = some (.int .i64 a3_0) := (blk_cell BK261.out 0).trans rfl; have hcz52_1 : w47.cell? ⟨gb261, 1, none⟩ = some (.int .i64 a3_1) := (blk_cell BK261.out 1).trans rfl; have hfz52_0 := blk_frozen BK261.out 0; have hfz52_1 := blk_frozen BK261.out 1; have hcz53_0 : w47.cell? ⟨gb262, 0, none⟩ = some (.int .i64 a4_0) := (blk_cell BK262.out 0).trans rfl; have hcz53_1 : w47.cell? ⟨gb262, 1, none⟩ = some (.int .i64 a4_1) := (blk_cell BK262.out 1).trans rfl; have hfz53_0 := blk_frozen BK262.out 0; have hfz53_1 := blk_frozen BK262.out 1) | ((with_reducible refine gate_dst (N := 22) rfl ?_); refine Kd.R_lit k25 _ 25 ?hg (N := 22) ?hd (xs := ([(⟨a3_0, a3_1⟩ : S25), (⟨a4_0, a4_1⟩ : S25)] : List (S25))) (inner := [.int .i64 a3_0, .int .i64 a3_1, .int .i64 a4_0, .int .i64 a4_1]) (ok := fun _ => True) (okp := fun _ => True) ?hr ?hp (fun _ hk => hk) trivial (Below.refl _ _) (Nat.le_refl _) (by simp) ?_; (case hd => rfl); (case hg => rfl); (case hr => first | (go_simp; done) | (go_simp; rfl)); (case hp => exact (Reps.c2 (show Kd.M k25 _ _ _ (⟨a3_0, a3_1⟩ : S25) [.int .i64 a3_0, .int .i64 a3_1] from (k25_mkM _ _ _ (⟨a3_0, a3_1⟩ : S25) )) (Reps.c2 (show Kd.M k25 _ _ _ (⟨a4_0, a4_1⟩ : S25) [.int .i64 a4_0, .int .i64 a4_1] from (k25_mkM _ _ _ (⟨a4_0, a4_1⟩ : S25) )) (Reps.none _ _)))); intro v264 w54 ho55 hb hg_ hnew_; clear hg_ hnew_; (first | rw [← Ny263.out] at ho55 | (simp only [Int.reduceToNat] at ho55; rw [← Ny263.out] at ho55)); have n0_ := am (Kd.R_lower (Kd.R_newB (Kd.R_newB ho55 (by (with_reducible repeat first|refine bN ?_ _|refine bD ?_|refine bA ?_ _);exact BK261.out)) (by (with_reducible repeat first|refine bN ?_ _|refine bD ?_|refine bA ?_ _);exact BK262.out)) (below_size (by repeat first|(with_reducible first|exact HB.out|apply wA|apply wN|apply wD|refine wS ?_ GE260.out|refine wS ?_ GE261.out|refine wS ?_ GE262.out)|exact HB.out))); have n1_ := am (blk_below (by (with_reducible repeat first|refine bN ?_ _|refine bD ?_|refine bA ?_ _);exact BK260.out) hb); have n2_ := am (blk_below (by (with_reducible repeat first|refine bN ?_ _|refine bD ?_|refine bA ?_ _);exact BK261.out) hb); have n3_ := am (blk_below (by (with_reducible repeat first|refine bN ?_ _|refine bD ?_|refine bA ?_ _);exact BK262.out) hb); have n4_ := am (below_step (by repeat first|(with_reducible first|exact HB.out|apply wA|apply wN|apply wD|refine wS ?_ GE260.out|refine wS ?_ GE261.out|refine wS ?_ GE262.out)|exact HB.out) hb); clear BK260; clear BK261; clear BK262; clear HB; have HO265 := n0_; have BK260 := n1_; have BK261 := n2_; have BK262 := n3_; have HB := n4_; clear n0_ n1_ n2_ n3_ n4_; clear hb ho55; obtain ⟨Ao56, co56, eo56⟩ := Kd.R_slice HO265.out; subst eo56) | (go_at_call 26; (with_reducible refine (wigeonref02_placed.calls k _ _ l0 _ _ l1 a2_0 a2_1 a2_2 a2_3 _ _ y263 t266 _ ?side1 ?side2 ?side3 ?side4 ?side5 ?side6 A6.out).mono ?_); (case side1 => repeat (first | exact (Kd.C_below HR0.out HB.out) | (with_reducible refine Kd.C_alloc ?_ _) | (with_reducible refine Kd.C_drewN ?_ _) | (with_reducible refine Kd.C_drew ?_))); (case side2 => exact HC0.out); (case side3 => repeat (first | exact (Kd.C_below HR1.out HB.out) | (with_reducible refine Kd.C_alloc ?_ _) | (with_reducible refine Kd.C_drewN ?_ _) | (with_reducible refine Kd.C_drew ?_))); (case side4 => exact HC1.out); (case side5 => repeat (first | exact (Kd.R_reads' HO265.out).2.2 | (with_reducible refine Kd.C_alloc ?_ _) | (with_reducible refine Kd.C_drewN ?_ _) | (with_reducible refine Kd.C_drew ?_))); (case side6 => exact (Kd.R_reads' HO265.out).2.1); rintro e w57 ⟨rfl, hb⟩; have n0_ := am (Kd.R_below (by (with_reducible repeat first|apply Kd.R_alloc|apply Kd.R_drewN|apply Kd.R_drew);exact HO265.out) hb); have n1_ := am (blk_below (by (with_reducible repeat first|refine bN ?_ _|refine bD ?_|refine bA ?_ _);exact BK260.out) hb); have n2_ := am (blk_below (by (with_reducible repeat first|refine bN ?_ _|refine bD ?_|refine bA ?_ _);exact BK261.out) hb); have n3_ := am (blk_below (by (with_reducible repeat first|refine bN ?_ _|refine bD ?_|refine bA ?_ _);exact BK262.out) hb); have n4_ := am (below_step (by repeat first|(with_reducible first|exact HB.out|apply wA|apply wN|apply wD|refine wS ?_ GE260.out|refine wS ?_ GE261.out|refine wS ?_ GE262.out)|exact HB.out) hb); clear HO265; clear BK260; clear BK261; clear BK262; clear HB; have HO265 := n0_; have BK260 := n1_; have BK261 := n2_; have BK262 := n3_; have HB := n4_; clear n0_ n1_ n2_ n3_ n4_; (try clear hb); (try clear hb2); (try clear hk); (try clear hi)))
 repeat (go_quiet (first | fail); try go_wp2_with (first | fail))
 go_ret3
 exact ⟨by first | rfl | (simp [errW_none, errW_some] <;> rfl) | (simp [*, errW_none, errW_some] <;> rfl), by repeat (first | (with_reducible first | exact HB.out | apply below_alloc | apply pw_below_drewN | apply below_drew1 | refine below_set ?_ GE260.out | refine below_set ?_ GE261.out | refine below_set ?_ GE262.out) | exact HB.out)⟩
end Go.Proofs.Ytieffjkplaajdaa.SW

