/- Of the text SWx20, what the row of ScreenSteps reaches. -/
import Derived.Test.YtieffjkplaajdaaZScreenStepsSWx0
namespace Go.Proofs.Ytieffjkplaajdaa.SW
open Go.RowKit Go.Proofs.YtieffjkplaajdaaW.PrintWords Go.Proofs.YtieffjkplaajdaaW.PrintLast Go.Proofs.YtieffjkplaajdaaW.PrintMore
open Go.Proofs.YtieffjkplaajdaaW.PrintWords renaming blk_drewN → bN, blk_drew → bD, blk_alloc → bA, below_alloc → wA, pw_below_drewN → wN, below_drew1 → wD, below_set → wS
open List renaming setIfInBounds_toArray → sA, set_cons_zero → s0, set_cons_succ → s1
open Act renaming put → ap
open Aside0 renaming mk → am
attribute [local go_sem] max2_int min2_int max_two min_two max_three min_three max_four min_four   -- for this text's walks alone
set_option linter.unusedVariables false
set_option linter.unusedSimpArgs false

def wigeonref02_parted.f (a0 : Int) (a1 : Int) (a2 : Int) (a3 : Int) : Option (Bool) := if (mx a0 a1) < (mn a2 a3) then (some true) else (some (decide ((mx a2 a3) < (mn a0 a1))))
open Bool renaming true → T, false → F
set_option maxHeartbeats 8000000 in
set_option maxRecDepth 100000 in
theorem wigeonref02_parted.calls (a0 : Int) (a1 : Int) (a2 : Int) (a3 : Int) (r : Bool) (w : World) (h : wigeonref02_parted.f a0 a1 a2 a3 = some r) :
 Calls Try.prog 78 #[.int .i64 a0, .int .i64 a1, .int .i64 a2, .int .i64 a3] w fun e w' => e = .returned (.bool r) ∧ Below w.heap.size w w' := by
 have HB := am (Below.refl w.heap.size w)
 have H : (if (mx a0 a1) < (mn a2 a3) then (some true) else (some (decide ((mx a2 a3) < (mn a0 a1))))) = some r := h
 clear h
 obtain ⟨ji5, hji5⟩ : ∃ j_ : Int, (mx a0 a1) = j_ := ⟨_, rfl⟩
 replace H : (if (ji5) < (mn a2 a3) then (some true) else (some (decide ((mx a2 a3) < (mn a0 a1))))) = some r := by first | (rw [hji5] at H; exact H) | (simp only [hji5] at H ⊢; exact H)
 have hji5_ : (if a0 < a1 then a1 else a0) = ji5 := hji5
 obtain ⟨ji6, hji6⟩ : ∃ j_ : Int, (mn a2 a3) = j_ := ⟨_, rfl⟩
 replace H : (if (ji5) < (ji6) then (some true) else (some (decide ((mx a2 a3) < (mn a0 a1))))) = some r := by first | (rw [hji6] at H; exact H) | (simp only [hji6] at H ⊢; exact H)
 have hji6_ : (if a3 < a2 then a3 else a2) = ji6 := hji6
 by_cases c7 : (ji5) < (ji6)
 {
 rw [if_pos c7] at H
 have c7b0 : decide ((ji5) < (ji6)) = true := decide_eq_true c7
 clear c7
 obtain rfl := Option.some.inj H
 go_enter Try.func78, Try.ntmps78
 go_wp2
 go_ret
 exact ⟨by first | rfl | (simp [errW_none, errW_some] <;> rfl) | (simp only [← hji5, ← hji6]; first | rfl | (simp [errW_none, errW_some] <;> rfl)) | (simp [*, errW_none, errW_some] <;> rfl), by repeat (first | (with_reducible first | exact HB.out | apply below_alloc | apply pw_below_drewN | apply below_drew1) | exact HB.out)⟩}
 rw [if_neg c7] at H
 have c7b0 : decide ((ji5) < (ji6)) = false := decide_eq_false c7
 clear c7
 obtain ⟨ji8, hji8⟩ : ∃ j_ : Int, (mx a2 a3) = j_ := ⟨_, rfl⟩
 replace H : (some (decide ((ji8) < (mn a0 a1)))) = some r := by first | (rw [hji8] at H; exact H) | (simp only [hji8] at H ⊢; exact H)
 have hji8_ : (if a2 < a3 then a3 else a2) = ji8 := hji8
 obtain ⟨ji9, hji9⟩ : ∃ j_ : Int, (mn a0 a1) = j_ := ⟨_, rfl⟩
 replace H : (some (decide ((ji8) < (ji9)))) = some r := by first | (rw [hji9] at H; exact H) | (simp only [hji9] at H ⊢; exact H)
 have hji9_ : (if a1 < a0 then a1 else a0) = ji9 := hji9
 obtain rfl := Option.some.inj H
 go_enter Try.func78, Try.ntmps78
 go_wp2
 go_ret
 exact ⟨by first | rfl | (simp [errW_none, errW_some] <;> rfl) | (simp only [← hji5, ← hji6, ← hji8, ← hji9]; first | rfl | (simp [errW_none, errW_some] <;> rfl)) | (simp [*, errW_none, errW_some] <;> rfl), by repeat (first | (with_reducible first | exact HB.out | apply below_alloc | apply pw_below_drewN | apply below_drew1) | exact HB.out)⟩
def wigeonref02_side.f (a0_0 : Int) (a0_1 : Int) (a1_0 : Int) (a1_1 : Int) (a2_0 : Int) (a2_1 : Int) : Option (Int) := some (wrap64 ((wrap64 ((wrap64 (a1_0 - a0_0)) * (wrap64 (a2_1 - a0_1)))) - (wrap64 ((wrap64 (a1_1 - a0_1)) * (wrap64 (a2_0 - a0_0))))))
set_option maxHeartbeats 8000000 in
set_option maxRecDepth 100000 in
theorem wigeonref02_side.calls (a0_0 : Int) (a0_1 : Int) (a1_0 : Int) (a1_1 : Int) (a2_0 : Int) (a2_1 : Int) (r : Int) (w : World) (h : wigeonref02_side.f a0_0 a0_1 a1_0 a1_1 a2_0 a2_1 = some r) :
 Calls Try.prog 79 #[.agg #[.int .i64 a0_0, .int .i64 a0_1], .agg #[.int .i64 a1_0, .int .i64 a1_1], .agg #[.int .i64 a2_0, .int .i64 a2_1]] w fun e w' => e = .returned (.int .i64 r) ∧ Below w.heap.size w w' := by
 have hu25 := Try.underlying25
 have HB := am (Below.refl w.heap.size w)
 have H : (some (wrap64 ((wrap64 ((wrap64 (a1_0 - a0_0)) * (wrap64 (a2_1 - a0_1)))) - (wrap64 ((wrap64 (a1_1 - a0_1)) * (wrap64 (a2_0 - a0_0))))))) = some r := h
 clear h
 obtain rfl := Option.some.inj H
 go_enter Try.func79, Try.ntmps79
 go_wp2_with (first | ((with_reducible refine gate_dst (N := 3) rfl ?_); refine box_event ?hg (N := 3) ?hd (cs := #[.int .i64 a0_0, .int .i64 a0_1]) (t := 25) ?hr ?_; (case hd => rfl); (case hg => rfl); (case hr => first | (go_simp; done) | (go_simp; rfl)); intro gb201 hg w4 hbox hb; have n0_ := am (below_step (by repeat first|(with_reducible first|exact HB.out|apply wA|apply wN|apply wD)|exact HB.out) hb); have n1_ := am (hbox); have n2_ := am ((by rw [hg]; exact (below_size (by repeat first|(with_reducible first|exact HB.out|apply wA|apply wN|apply wD)|exact HB.out)) : w.heap.size ≤ gb201)); have n3_ := am ((by rw [hg]; exact (below_size (by repeat first|(with_reducible first|exact HB.out|apply wA|apply wN|apply wD)|exact HB.out)) : w.heap.size ≤ gb201)); clear HB; have HB := n0_; have BK201 := n1_; have GW201 := n2_; have GE201 := n3_; clear n0_ n1_ n2_ n3_; clear hb hbox hg) | ((with_reducible refine gate_dst (N := 4) rfl ?_); refine box_event ?hg (N := 4) ?hd (cs := #[.int .i64 a1_0, .int .i64 a1_1]) (t := 25) ?hr ?_; (case hd => rfl); (case hg => rfl); (case hr => first | (go_simp; done) | (go_simp; rfl)); intro gb202 hg w5 hbox hb; have n0_ := am (blk_below (by (with_reducible repeat first|refine bN ?_ _|refine bD ?_|refine bA ?_ _);exact BK201.out) hb); have n1_ := am (below_step (by repeat first|(with_reducible first|exact HB.out|apply wA|apply wN|apply wD|refine wS ?_ GE201.out)|exact HB.out) hb); have n2_ := am (hbox); have n3_ := am ((by rw [hg]; exact (below_size (by repeat first|(with_reducible first|exact HB.out|apply wA|apply wN|apply wD|refine wS ?_ GE201.out)|exact HB.out)) : w.heap.size ≤ gb202)); have n4_ := am ((by rw [hg]; exact (below_size (by repeat first|(with_reducible first|exact HB.out|apply wA|apply wN|apply wD|refine wS ?_ GE201.out)|exact HB.out)) : w.heap.size ≤ gb202)); have n5_ := am ((by rw [hg]; exact Nat.ne_of_lt (blk_lt (by (with_reducible repeat first|refine bN ?_ _|refine bD ?_|refine bA ?_ _);exact BK201.out)) : gb201 ≠ gb202)); have n6_ := am ((by rw [hg]; exact Nat.ne_of_gt (blk_lt (by (with_reducible repeat first|refine bN ?_ _|refine bD ?_|refine bA ?_ _);exact BK201.out)) : gb202 ≠ gb201)); clear BK201; clear HB; have BK201 := n0_; have HB := n1_; have BK202 := n2_; have GW202 := n3_; have GE202 := n4_; have NB201_202 := n5_; have NB202_201 := n6_; clear n0_ n1_ n2_ n3_ n4_ n5_ n6_; clear hb hbox hg) | ((with_reducible refine gate_dst (N := 5) rfl ?_); refine box_event ?hg (N := 5) ?hd (cs := #[.int .i64 a2_0, .int .i64 a2_1]) (t := 25) ?hr ?_; (case hd => rfl); (case hg => rfl); (case hr => first | (go_simp; done) | (go_simp; rfl)); intro gb203 hg w6 hbox hb; have n0_ := am (blk_below (by (with_reducible repeat first|refine bN ?_ _|refine bD ?_|refine bA ?_ _);exact BK201.out) hb); have n1_ := am (blk_below (by (with_reducible repeat first|refine bN ?_ _|refine bD ?_|refine bA ?_ _);exact BK202.out) hb); have n2_ := am (below_step (by repeat first|(with_reducible first|exact HB.out|apply wA|apply wN|apply wD|refine wS ?_ GE201.out|refine wS ?_ GE202.out)|exact HB.out) hb); have n3_ := am (hbox); have n4_ := am ((by rw [hg]; exact (below_size (by repeat first|(with_reducible first|exact HB.out|apply wA|apply wN|apply wD|refine wS ?_ GE201.out|refine wS ?_ GE202.out)|exact HB.out)) : w.heap.size ≤ gb203)); have n5_ := am ((by rw [hg]; exact (below_size (by repeat first|(with_reducible first|exact HB.out|apply wA|apply wN|apply wD|refine wS ?_ GE201.out|refine wS ?_ GE202.out)|exact HB.out)) : w.heap.size ≤ gb203)); have n6_ := am ((by rw [hg]; exact Nat.ne_of_lt (blk_lt (by (with_reducible repeat first|refine bN ?_ _|refine bD ?_|refine bA ?_ _);exact BK201.out)) : gb201 ≠ gb203)); have n7_ := am ((by rw [hg]; exact Nat.ne_of_gt (blk_lt (by (with_reducible repeat first|refine bN ?_ _|refine bD ?_|refine bA ?_ _);exact BK201.out)) : gb203 ≠ gb201)); have n8_ := am ((by rw [hg]; exact Nat.ne_of_lt (blk_lt (by (with_reducible repeat first|refine bN ?_ _|refine bD ?_|refine bA ?_ _);exact BK202.out)) : gb202 ≠ gb203)); have n9_ := am ((by rw [hg]; exact Nat.ne_of_gt (blk_lt (by (with_reducible repeat first|refine bN ?_ _|refine bD ?_|refine bA ?_ _);exact BK202.out)) : gb203 ≠ gb202)); clear BK201; clear BK202; clear HB; have BK201 := n0_; have BK202 := n1_; have HB := n2_; have BK203 := n3_; have GW203 := n4_; have GE203 := n5_; have NB201_203 := n6_; have NB203_201 := n7_; have NB202_203 := n8_; have NB203_202 := n9_; clear n0_ n1_ n2_ n3_ n4_ n5_ n6_ n7_ n8_ n9_; clear hb hbox hg; have hnb7 := NB202_201.out; have hnc7 := NB201_202.out; have hnb8 := NB202_203.out; have hnc8 := NB203_202.out; have hcz9_0 : w6.cell? ⟨gb202, 0, none⟩ = some (.int .i64 a1_0) := (blk_cell BK202.out 0).trans rfl; have hcz9_1 : w6.cell? ⟨gb202, 1, none⟩ = some (.int .i64 a1_1) := (blk_cell BK202.out 1).trans rfl; have hfz9_0 := blk_frozen BK202.out 0; have hfz9_1 := blk_frozen BK202.out 1; have hnb10 := NB201_203.out; have hnc10 := NB203_201.out; have hcz11_0 : w6.cell? ⟨gb201, 0, none⟩ = some (.int .i64 a0_0) := (blk_cell BK201.out 0).trans rfl; have hcz11_1 : w6.cell? ⟨gb201, 1, none⟩ = some (.int .i64 a0_1) := (blk_cell BK201.out 1).trans rfl; have hfz11_0 := blk_frozen BK201.out 0; have hfz11_1 := blk_frozen BK201.out 1; have hcz12_0 : w6.cell? ⟨gb203, 0, none⟩ = some (.int .i64 a2_0) := (blk_cell BK203.out 0).trans rfl; have hcz12_1 : w6.cell? ⟨gb203, 1, none⟩ = some (.int .i64 a2_1) := (blk_cell BK203.out 1).trans rfl; have hfz12_0 := blk_frozen BK203.out 0; have hfz12_1 := blk_frozen BK203.out 1))
 go_ret
 exact ⟨by first | rfl | (simp [errW_none, errW_some] <;> rfl) | (simp [*, errW_none, errW_some] <;> rfl), by repeat (first | (with_reducible first | exact HB.out | apply below_alloc | apply pw_below_drewN | apply below_drew1 | refine below_set ?_ GE201.out | refine below_set ?_ GE202.out | refine below_set ?_ GE203.out) | exact HB.out)⟩
def wigeonref02_touch.j0 : Nat → Bool → Int → Int → Int → Int → Int → Int → Int → Int → Option (Bool)
 | 0, _, _, _, _, _, _, _, _, _ => none
 | k + 1, x28, x205000, x205001, x206000, x206001, x207000, x207001, x208000, x208001 => if x28 = true then (some false) else ((wigeonref02_side.f x205000 x205001 x206000 x206001 x207000 x207001).bind fun t210 => ((wigeonref02_side.f x205000 x205001 x206000 x206001 x208000 x208001).bind fun t211 => (if (wrap64 (t210 * t211)) ≤ 0 then ((wigeonref02_side.f x207000 x207001 x208000 x208001 x205000 x205001).bind fun t212 => ((wigeonref02_side.f x207000 x207001 x208000 x208001 x206000 x206001).bind fun t213 => (some (decide ((wrap64 (t212 * t213)) ≤ 0))))) else (some false))))
def wigeonref02_touch.f (k : Nat) (a0_0 : Int) (a0_1 : Int) (a1_0 : Int) (a1_1 : Int) (a2_0 : Int) (a2_1 : Int) (a3_0 : Int) (a3_1 : Int) : Option (Bool) := (wigeonref02_parted.f a0_0 a1_0 a2_0 a3_0).bind fun t208 => (if t208 = true then (wigeonref02_touch.j0 k true a0_0 a0_1 a1_0 a1_1 a2_0 a2_1 a3_0 a3_1) else ((wigeonref02_parted.f a0_1 a1_1 a2_1 a3_1).bind fun t209 => (wigeonref02_touch.j0 k t209 a0_0 a0_1 a1_0 a1_1 a2_0 a2_1 a3_0 a3_1)))
def wigeonref02_touch.T3 : Bool × List (List Nat × List Nat) := (true, [([], []), ([], []), ([], []), ([0, 1, 2], [0, 1, 2]), ([], []), ([], []), ([], []), ([4, 5, 6, 3], [4, 5, 6]), ([3, 7], [3, 7]), ([8], [8]), ([9, 7], [9]), ([10], [10]), ([10], [10]), ([10], [10]), ([11, 12, 13, 10, 10], [10, 11, 12, 13]), ([10], [10]), ([10], [10]), ([10], [10]), ([15, 16, 17, 14, 10], [10, 15, 16, 17]), ([14, 18, 10], [10, 14, 18]), ([19, 10], [10, 19]), ([10, 20], [10, 20]), ([21, 18, 0, 1, 2, 3, 4, 5, 6, 7, 8, 9, 10, 11, 12, 13, 14, 15, 16, 17, 18, 19, 20, 21], [21])])
def wigeonref02_touch.B3 : List Nat := [0, 0, 0, 7, 0, 0, 0, 127, 255, 511, 1023, 2047, 2047, 2047, 16383, 2047, 2047, 2047, 262143, 524287, 1048575, 2097151, 4194303]
theorem wigeonref02_touch.tab3 : rtab .any (opsOf Try.f62 3) = wigeonref02_touch.T3 := by kernel_rfl
theorem wigeonref02_touch.bits3 : waitsOk wigeonref02_touch.T3.2 wigeonref02_touch.B3 = true := by kernel_rfl
set_option maxHeartbeats 8000000 in
set_option maxRecDepth 100000 in
theorem wigeonref02_touch.calls (k : Nat) (a0_0 : Int) (a0_1 : Int) (a1_0 : Int) (a1_1 : Int) (a2_0 : Int) (a2_1 : Int) (a3_0 : Int) (a3_1 : Int) (r : Bool) (w : World) (h : wigeonref02_touch.f k a0_0 a0_1 a1_0 a1_1 a2_0 a2_1 a3_0 a3_1 = some r) :
 Calls Try.prog 62 #[.agg #[.int .i64 a0_0, .int .i64 a0_1], .agg #[.int .i64 a1_0, .int .i64 a1_1], .agg #[.int .i64 a2_0, .int .i64 a2_1], .agg #[.int .i64 a3_0, .int .i64 a3_1]] w fun e w' => e = .returned (.bool r) ∧ Below w.heap.size w w' := by
 have hu25 := Try.underlying25
 have HB := am (Below.refl w.heap.size w)
 have H : ((wigeonref02_parted.f a0_0 a1_0 a2_0 a3_0).bind fun t208 => (if t208 = true then (wigeonref02_touch.j0 k true a0_0 a0_1 a1_0 a1_1 a2_0 a2_1 a3_0 a3_1) else ((wigeonref02_parted.f a0_1 a1_1 a2_1 a3_1).bind fun t209 => (wigeonref02_touch.j0 k t209 a0_0 a0_1 a1_0 a1_1 a2_0 a2_1 a3_0 a3_1)))) = some r := h
 clear h
 have HC5 := am H
 clear H
 go_enter Try.func62, Try.ntmps62
 go_upto_region 1 with (first | ((with_reducible refine gate_dst (N := 4) rfl ?_); refine box_event ?hg (N := 4) ?hd (cs := #[.int .i64 a0_0, .int .i64 a0_1]) (t := 25) ?hr ?_; (case hd => rfl); (case hg => rfl); (case hr => first | (go_simp; done) | (go_simp; rfl)); intro gb204 hg w6 hbox hb; have n0_ := am (below_step (by repeat first|(with_reducible first|exact HB.out|apply wA|apply wN|apply wD)|exact HB.out) hb); have n1_ := am (hbox); have n2_ := am ((by rw [hg]; exact (below_size (by repeat first|(with_reducible first|exact HB.out|apply wA|apply wN|apply wD)|exact HB.out)) : w.heap.size ≤ gb204)); have n3_ := am ((by rw [hg]; exact (below_size (by repeat first|(with_reducible first|exact HB.out|apply wA|apply wN|apply wD)|exact HB.out)) : w.heap.size ≤ gb204)); clear HB; have HB := n0_; have BK204 := n1_; have GW204 := n2_; have GE204 := n3_; clear n0_ n1_ n2_ n3_; clear hb hbox hg) | ((with_reducible refine gate_dst (N := 5) rfl ?_); refine box_event ?hg (N := 5) ?hd (cs := #[.int .i64 a1_0, .int .i64 a1_1]) (t := 25) ?hr ?_; (case hd => rfl); (case hg => rfl); (case hr => first | (go_simp; done) | (go_simp; rfl)); intro gb205 hg w7 hbox hb; have n0_ := am (blk_below (by (with_reducible repeat first|refine bN ?_ _|refine bD ?_|refine bA ?_ _);exact BK204.out) hb); have n1_ := am (below_step (by repeat first|(with_reducible first|exact HB.out|apply wA|apply wN|apply wD|refine wS ?_ GE204.out)|exact HB.out) hb); have n2_ := am (hbox); have n3_ := am ((by rw [hg]; exact (below_size (by repeat first|(with_reducible first|exact HB.out|apply wA|apply wN|apply wD|refine wS ?_ GE204.out)|exact HB.out)) : w.heap.size ≤ gb205)); have n4_ := am ((by rw [hg]; exact (below_size (by repeat first|(with_reducible first|exact HB.out|apply wA|apply wN|apply wD|refine wS ?_ GE204.out)|exact HB.out)) : w.heap.size ≤ gb205)); have n5_ := am ((by rw [hg]; exact Nat.ne_of_lt (blk_lt (by (with_reducible repeat first|refine bN ?_ _|refine bD ?_|refine bA ?_ _);exact BK204.out)) : gb204 ≠ gb205)); have n6_ := am ((by rw [hg]; exact Nat.ne_of_gt (blk_lt (by (with_reducible repeat first|refine bN ?_ _|refine bD ?_|refine bA ?_ _);exact BK204.out)) : gb205 ≠ gb204)); clear BK204; clear HB; have BK204 := n0_; have HB := n1_; have BK205 := n2_; have GW205 := n3_; have GE205 := n4_; have NB204_205 := n5_; have NB205_204 := n6_; clear n0_ n1_ n2_ n3_ n4_ n5_ n6_; clear hb hbox hg) | ((with_reducible refine gate_dst (N := 6) rfl ?_); refine box_event ?hg (N := 6) ?hd (cs := #[.int .i64 a2_0, .int .i64 a2_1]) (t := 25) ?hr ?_; (case hd => rfl); (case hg => rfl); (case hr => first | (go_simp; done) | (go_simp; rfl)); intro gb206 hg w8 hbox hb; have n0_ := am (blk_below (by (with_reducible repeat first|refine bN ?_ _|refine bD ?_|refine bA ?_ _);exact BK204.out) hb); have n1_ := am (blk_below (by (with_reducible repeat first|refine bN ?_ _|refine bD ?_|refine bA ?_ _);exact BK205.out) hb); have n2_ := am (below_step (by repeat first|(with_reducible first|exact HB.out|apply wA|apply wN|apply wD|refine wS ?_ GE204.out|refine wS ?_ GE205.out)|exact HB.out) hb); have n3_ := am (hbox); have n4_ := am ((by rw [hg]; exact (below_size (by repeat first|(with_reducible first|exact HB.out|apply wA|apply wN|apply wD|refine wS ?_ GE204.out|refine wS ?_ GE205.out)|exact HB.out)) : w.heap.size ≤ gb206)); have n5_ := am ((by rw [hg]; exact (below_size (by repeat first|(with_reducible first|exact HB.out|apply wA|apply wN|apply wD|refine wS ?_ GE204.out|refine wS ?_ GE205.out)|exact HB.out)) : w.heap.size ≤ gb206)); have n6_ := am ((by rw [hg]; exact Nat.ne_of_lt (blk_lt (by (with_reducible repeat first|refine bN ?_ _|refine bD ?_|refine bA ?_ _);exact BK204.out)) : gb204 ≠ gb206)); have n7_ := am ((by rw [hg]; exact Nat.ne_of_gt (blk_lt (by (with_reducible repeat first|refine bN ?_ _|refine bD ?_|refine bA ?_ _);exact BK204.out)) : gb206 ≠ gb204)); have n8_ := am ((by rw [hg]; exact Nat.ne_of_lt (blk_lt (by (with_reducible repeat first|refine bN ?_ _|refine bD ?_|refine bA ?_ _);exact BK205.out)) : gb205 ≠ gb206)); have n9_ := am ((by rw [hg]; exact Nat.ne_of_gt (blk_lt (by (with_reducible repeat first|refine bN ?_ _|refine bD ?_|refine bA ?_ _);exact BK205.out)) : gb206 ≠ gb205)); clear BK204; clear BK205; clear HB; have BK204 := n0_; have BK205 := n1_; have HB := n2_; have BK206 := n3_; have GW206 := n4_; have GE206 := n5_; have NB204_206 := n6_; have NB206_204 := n7_; have NB205_206 := n8_; have NB206_205 := n9_; clear n0_ n1_ n2_ n3_ n4_ n5_ n6_ n7_ n8_ n9_; clear hb hbox hg) | ((with_reducible refine gate_dst (N := 7) rfl ?_); refine box_event ?hg (N := 7) ?hd (cs := #[.int .i64 a3_0, .int .i64 a3_1]) (t := 25) ?hr ?_; (case hd => rfl); (case hg => rfl); (case hr => first | (go_simp; done) | (go_simp; rfl)); intro gb207 hg w9 hbox hb; have n0_ := am (blk_below (by (with_reducible repeat first|refine bN ?_ _|refine bD ?_|refine bA ?_ _);exact BK204.out) hb); have n1_ := am (blk_below (by (with_reducible repeat first|refine bN ?_ _|refine bD ?_|refine bA ?_ _);exact BK205.out) hb); have n2_ := am (blk_below (by (with_reducible repeat first|refine bN ?_ _|refine bD ?_|refine bA ?_ _);exact BK206.out) hb); have n3_ := am (below_step (by repeat first|(with_reducible first|exact HB.out|apply wA|apply wN|apply wD|refine wS ?_ GE204.out|refine wS ?_ GE205.out|refine wS ?_ GE206.out)|exact HB.out) hb); have n4_ := am (hbox); have n5_ := am ((by rw [hg]; exact (below_size (by repeat first|(with_reducible first|exact HB.out|apply wA|apply wN|apply wD|refine wS ?_ GE204.out|refine wS ?_ GE205.out|refine wS ?_ GE206.out)|exact HB.out)) : w.heap.size ≤ gb207)); have n6_ := am ((by rw [hg]; exact (below_size (by repeat first|(with_reducible first|exact HB.out|apply wA|apply wN|apply wD|refine wS ?_ GE204.out|refine wS ?_ GE205.out|refine wS ?_ GE206.out)|exact HB.out)) : w.heap.size ≤ gb207)); have n7_ := am ((by rw [hg]; exact Nat.ne_of_lt (blk_lt (by (with_reducible repeat first|refine bN ?_ _|refine bD ?_|refine bA ?_ _);exact BK204.out)) : gb204 ≠ gb207)); have n8_ := am ((by rw [hg]; exact Nat.ne_of_gt (blk_lt (by (with_reducible repeat first|refine bN ?_ _|refine bD ?_|refine bA ?_ _);exact BK204.out)) : gb207 ≠ gb204)); have n9_ := am ((by rw [hg]; exact Nat.ne_of_lt (blk_lt (by (with_reducible repeat first|refine bN ?_ _|refine bD ?_|refine bA ?_ _);exact BK205.out)) : gb205 ≠ gb207)); have n10_ := am ((by rw [hg]; exact Nat.ne_of_gt (blk_lt (by (with_reducible repeat first|refine bN ?_ _|refine bD ?_|refine bA ?_ _);exact BK205.out)) : gb207 ≠ gb205)); have n11_ := am ((by rw [hg]; exact Nat.ne_of_lt (blk_lt (by (with_reducible repeat first|refine bN ?_ _|refine bD ?_|refine bA ?_ _);exact BK206.out)) : gb206 ≠ gb207)); have n12_ := am ((by rw [hg]; exact Nat.ne_of_gt (blk_lt (by (with_reducible repeat first|refine bN ?_ _|refine bD ?_|refine bA ?_ _);exact BK206.out)) : gb207 ≠ gb206)); clear BK204; clear BK205; clear BK206; clear HB; have BK204 := n0_; have BK205 := n1_; have BK206 := n2_; have HB := n3_; have BK207 := n4_; have GW207 := n5_; have GE207 := n6_; have NB204_207 := n7_; have NB207_204 := n8_; have NB205_207 := n9_; have NB207_205 := n10_; have NB206_207 := n11_; have NB207_206 := n12_; clear n0_ n1_ n2_ n3_ n4_ n5_ n6_ n7_ n8_ n9_ n10_ n11_ n12_; clear hb hbox hg))
 (try simp only [Act.put, List.setIfInBounds_toArray, List.set_cons_zero, List.set_cons_succ])
 go_cut [28] (fun v28 wc => ∃ (kq : Nat) (x28_4 : Bool), v28 = .bool x28_4 ∧ Aside0 (wigeonref02_touch.j0 kq x28_4 a0_0 a0_1 a1_0 a1_1 a2_0 a2_1 a3_0 a3_1 = some r) ∧ Aside0 (kq ≤ k) ∧ Aside0 (wc.heap[gb204]? = some (.cells #[.int .i64 a0_0, .int .i64 a0_1] 25 (0, 0))) ∧ Aside0 (wc.heap[gb205]? = some (.cells #[.int .i64 a1_0, .int .i64 a1_1] 25 (0, 0))) ∧ Aside0 (wc.heap[gb206]? = some (.cells #[.int .i64 a2_0, .int .i64 a2_1] 25 (0, 0))) ∧ Aside0 (wc.heap[gb207]? = some (.cells #[.int .i64 a3_0, .int .i64 a3_1] 25 (0, 0))) ∧ Aside0 (Below w.heap.size w wc))
 case first =>(
 have H := HC5.out
 clear HC5
 replace H := Option.bind_eq_some_iff.mp H
 obtain ⟨t208, A100, H⟩ := H
 replace H : (if t208 = true then (wigeonref02_touch.j0 k true a0_0 a0_1 a1_0 a1_1 a2_0 a2_1 a3_0 a3_1) else ((wigeonref02_parted.f a0_1 a1_1 a2_1 a3_1).bind fun t209 => (wigeonref02_touch.j0 k t209 a0_0 a0_1 a1_0 a1_1 a2_0 a2_1 a3_0 a3_1))) = some r := H
 have A10 := am A100
 clear A100
 by_cases c11 : t208 = true
 {
 subst c11
 have H1 : (wigeonref02_touch.j0 k true a0_0 a0_1 a1_0 a1_1 a2_0 a2_1 a3_0 a3_1) = some r := by rw [if_pos rfl] at H; exact H
 clear H
 have H := H1
 clear H1
 have H' := am H
 clear H
 have hnb12 := NB204_205.out
 have hnc12 := NB205_204.out
 have hnb13 := NB204_206.out
 have hnc13 := NB206_204.out
 have hnb14 := NB204_207.out
 have hnc14 := NB207_204.out
 have hcz15_0 : w9.cell? ⟨gb204, 0, none⟩ = some (.int .i64 a0_0) := (blk_cell BK204.out 0).trans rfl
 have hcz15_1 : w9.cell? ⟨gb204, 1, none⟩ = some (.int .i64 a0_1) := (blk_cell BK204.out 1).trans rfl
 have hfz15_0 := blk_frozen BK204.out 0
 have hfz15_1 := blk_frozen BK204.out 1
 have hnb16 := NB205_206.out
 have hnc16 := NB206_205.out
 have hnb17 := NB205_207.out
 have hnc17 := NB207_205.out
 have hcz18_0 : w9.cell? ⟨gb205, 0, none⟩ = some (.int .i64 a1_0) := (blk_cell BK205.out 0).trans rfl
 have hcz18_1 : w9.cell? ⟨gb205, 1, none⟩ = some (.int .i64 a1_1) := (blk_cell BK205.out 1).trans rfl
 have hfz18_0 := blk_frozen BK205.out 0
 have hfz18_1 := blk_frozen BK205.out 1
 have hnb19 := NB206_207.out
 have hnc19 := NB207_206.out
 have hcz20_0 : w9.cell? ⟨gb206, 0, none⟩ = some (.int .i64 a2_0) := (blk_cell BK206.out 0).trans rfl
 have hcz20_1 : w9.cell? ⟨gb206, 1, none⟩ = some (.int .i64 a2_1) := (blk_cell BK206.out 1).trans rfl
 have hfz20_0 := blk_frozen BK206.out 0
 have hfz20_1 := blk_frozen BK206.out 1
 have hcz21_0 : w9.cell? ⟨gb207, 0, none⟩ = some (.int .i64 a3_0) := (blk_cell BK207.out 0).trans rfl
 have hcz21_1 : w9.cell? ⟨gb207, 1, none⟩ = some (.int .i64 a3_1) := (blk_cell BK207.out 1).trans rfl
 have hfz21_0 := blk_frozen BK207.out 0
 have hfz21_1 := blk_frozen BK207.out 1
 go_wp2_with (first | ((with_reducible refine gate_callee (f := 78) rfl ?_); refine goesL_ (some 17) rfl rfl Try.func78 (by kernel_rfl) rfl #[.int .i64 a0_0, .int .i64 a1_0, .int .i64 a2_0, .int .i64 a3_0] rfl (by (try simp only [List.map_toArray, List.map_cons, List.map_nil]); first | done | rfl | (simp only [List.length_drop, List.length_take]; rfl)) ?_; (with_reducible refine (wigeonref02_parted.calls a0_0 a1_0 a2_0 a3_0 true _ A10.out).mono ?_); rintro e w22 ⟨rfl, hb⟩; refine ⟨_, rfl, ?_⟩; have n0_ := am (blk_below (by (with_reducible repeat first|refine bN ?_ _|refine bD ?_|refine bA ?_ _);exact BK204.out) hb); have n1_ := am (blk_below (by (with_reducible repeat first|refine bN ?_ _|refine bD ?_|refine bA ?_ _);exact BK205.out) hb); have n2_ := am (blk_below (by (with_reducible repeat first|refine bN ?_ _|refine bD ?_|refine bA ?_ _);exact BK206.out) hb); have n3_ := am (blk_below (by (with_reducible repeat first|refine bN ?_ _|refine bD ?_|refine bA ?_ _);exact BK207.out) hb); have n4_ := am (below_step (by repeat first|(with_reducible first|exact HB.out|apply wA|apply wN|apply wD|refine wS ?_ GE204.out|refine wS ?_ GE205.out|refine wS ?_ GE206.out|refine wS ?_ GE207.out)|exact HB.out) hb); clear BK204; clear BK205; clear BK206; clear BK207; clear HB; have BK204 := n0_; have BK205 := n1_; have BK206 := n2_; have BK207 := n3_; have HB := n4_; clear n0_ n1_ n2_ n3_ n4_; (try clear hb); (try clear hb2); (try clear hk); (try clear hi)))
 go_meet
 case rel => exact ⟨_, (true), (by first | rfl | (simp; done) | (simp [*]; done)), H', ⟨by first | omega | exact Nat.le_refl _⟩, ⟨by (with_reducible repeat first|refine bN ?_ _|refine bD ?_|refine bA ?_ _);exact BK204.out⟩, ⟨by (with_reducible repeat first|refine bN ?_ _|refine bD ?_|refine bA ?_ _);exact BK205.out⟩, ⟨by (with_reducible repeat first|refine bN ?_ _|refine bD ?_|refine bA ?_ _);exact BK206.out⟩, ⟨by (with_reducible repeat first|refine bN ?_ _|refine bD ?_|refine bA ?_ _);exact BK207.out⟩, ⟨by repeat (first | (with_reducible first | exact HB.out | apply below_alloc | apply pw_below_drewN | apply below_drew1 | refine below_set ?_ GE204.out | refine below_set ?_ GE205.out | refine below_set ?_ GE206.out | refine below_set ?_ GE207.out) | exact HB.out)⟩⟩}
 replace c11 := Bool.eq_false_iff.mpr c11
 subst c11
 have H1 : ((wigeonref02_parted.f a0_1 a1_1 a2_1 a3_1).bind fun t209 => (wigeonref02_touch.j0 k t209 a0_0 a0_1 a1_0 a1_1 a2_0 a2_1 a3_0 a3_1)) = some r := by rw [if_neg (show ¬ (false = true) by decide)] at H; exact H
 clear H
 have H := H1
 clear H1
 replace H := Option.bind_eq_some_iff.mp H
 obtain ⟨t209, A230, H⟩ := H
 replace H : (wigeonref02_touch.j0 k t209 a0_0 a0_1 a1_0 a1_1 a2_0 a2_1 a3_0 a3_1) = some r := H
 have A23 := am A230
 clear A230
 have H' := am H
 clear H
 have hnb24 := NB204_205.out
 have hnc24 := NB205_204.out
 have hnb25 := NB204_206.out
 have hnc25 := NB206_204.out
 have hnb26 := NB204_207.out
 have hnc26 := NB207_204.out
 have hcz27_0 : w9.cell? ⟨gb204, 0, none⟩ = some (.int .i64 a0_0) := (blk_cell BK204.out 0).trans rfl
 have hcz27_1 : w9.cell? ⟨gb204, 1, none⟩ = some (.int .i64 a0_1) := (blk_cell BK204.out 1).trans rfl
 have hfz27_0 := blk_frozen BK204.out 0
 have hfz27_1 := blk_frozen BK204.out 1
 have hnb28 := NB205_206.out
 have hnc28 := NB206_205.out
 have hnb29 := NB205_207.out
 have hnc29 := NB207_205.out
 have hcz30_0 : w9.cell? ⟨gb205, 0, none⟩ = some (.int .i64 a1_0) := (blk_cell BK205.out 0).trans rfl
 have hcz30_1 : w9.cell? ⟨gb205, 1, none⟩ = some (.int .i64 a1_1) := (blk_cell BK205.out 1).trans rfl
 have hfz30_0 := blk_frozen BK205.out 0
 have hfz30_1 := blk_frozen BK205.out 1
 have hnb31 := NB206_207.out
 have hnc31 := NB207_206.out
 have hcz32_0 : w9.cell? ⟨gb206, 0, none⟩ = some (.int .i64 a2_0) := (blk_cell BK206.out 0).trans rfl
 have hcz32_1 : w9.cell? ⟨gb206, 1, none⟩ = some (.int .i64 a2_1) := (blk_cell BK206.out 1).trans rfl
 have hfz32_0 := blk_frozen BK206.out 0
 have hfz32_1 := blk_frozen BK206.out 1
 have hcz33_0 : w9.cell? ⟨gb207, 0, none⟩ = some (.int .i64 a3_0) := (blk_cell BK207.out 0).trans rfl
 have hcz33_1 : w9.cell? ⟨gb207, 1, none⟩ = some (.int .i64 a3_1) := (blk_cell BK207.out 1).trans rfl
 have hfz33_0 := blk_frozen BK207.out 0
 have hfz33_1 := blk_frozen BK207.out 1
 go_wp2_with (first | ((with_reducible refine gate_callee (f := 78) rfl ?_); refine goesL_ (some 17) rfl rfl Try.func78 (by kernel_rfl) rfl #[.int .i64 a0_0, .int .i64 a1_0, .int .i64 a2_0, .int .i64 a3_0] rfl (by (try simp only [List.map_toArray, List.map_cons, List.map_nil]); first | done | rfl | (simp only [List.length_drop, List.length_take]; rfl)) ?_; (with_reducible refine (wigeonref02_parted.calls a0_0 a1_0 a2_0 a3_0 false _ A10.out).mono ?_); rintro e w34 ⟨rfl, hb⟩; refine ⟨_, rfl, ?_⟩; have n0_ := am (blk_below (by (with_reducible repeat first|refine bN ?_ _|refine bD ?_|refine bA ?_ _);exact BK204.out) hb); have n1_ := am (blk_below (by (with_reducible repeat first|refine bN ?_ _|refine bD ?_|refine bA ?_ _);exact BK205.out) hb); have n2_ := am (blk_below (by (with_reducible repeat first|refine bN ?_ _|refine bD ?_|refine bA ?_ _);exact BK206.out) hb); have n3_ := am (blk_below (by (with_reducible repeat first|refine bN ?_ _|refine bD ?_|refine bA ?_ _);exact BK207.out) hb); have n4_ := am (below_step (by repeat first|(with_reducible first|exact HB.out|apply wA|apply wN|apply wD|refine wS ?_ GE204.out|refine wS ?_ GE205.out|refine wS ?_ GE206.out|refine wS ?_ GE207.out)|exact HB.out) hb); clear BK204; clear BK205; clear BK206; clear BK207; clear HB; have BK204 := n0_; have BK205 := n1_; have BK206 := n2_; have BK207 := n3_; have HB := n4_; clear n0_ n1_ n2_ n3_ n4_; (try clear hb); (try clear hb2); (try clear hk); (try clear hi); have hcz35_0 : w34.cell? ⟨gb204, 0, none⟩ = some (.int .i64 a0_0) := (blk_cell BK204.out 0).trans rfl; have hcz35_1 : w34.cell? ⟨gb204, 1, none⟩ = some (.int .i64 a0_1) := (blk_cell BK204.out 1).trans rfl; have hfz35_0 := blk_frozen BK204.out 0; have hfz35_1 := blk_frozen BK204.out 1; have hcz36_0 : w34.cell? ⟨gb205, 0, none⟩ = some (.int .i64 a1_0) := (blk_cell BK205.out 0).trans rfl; have hcz36_1 : w34.cell? ⟨gb205, 1, none⟩ = some (.int .i64 a1_1) := (blk_cell BK205.out 1).trans rfl; have hfz36_0 := blk_frozen BK205.out 0; have hfz36_1 := blk_frozen BK205.out 1; have hcz37_0 : w34.cell? ⟨gb206, 0, none⟩ = some (.int .i64 a2_0) := (blk_cell BK206.out 0).trans rfl; have hcz37_1 : w34.cell? ⟨gb206, 1, none⟩ = some (.int .i64 a2_1) := (blk_cell BK206.out 1).trans rfl; have hfz37_0 := blk_frozen BK206.out 0; have hfz37_1 := blk_frozen BK206.out 1; have hcz38_0 : w34.cell? ⟨gb207, 0, none⟩ = some (.int .i64 a3_0) := (blk_cell BK207.out 0).trans rfl; have hcz38_1 : w34.cell? ⟨gb207, 1, none⟩ = some (.int .i64 a3_1) := (blk_cell BK207.out 1).trans rfl; have hfz38_0 := blk_frozen BK207.out 0; have hfz38_1 := blk_frozen BK207.out 1) | (go_at_call 78; (with_reducible refine (wigeonref02_parted.calls a0_1 a1_1 a2_1 a3_1 t209 _ A23.out).mono ?_); rintro e w39 ⟨rfl, hb⟩; have n0_ := am (blk_below (by (with_reducible repeat first|refine bN ?_ _|refine bD ?_|refine bA ?_ _);exact BK204.out) hb); have n1_ := am (blk_below (by (with_reducible repeat first|refine bN ?_ _|refine bD ?_|refine bA ?_ _);exact BK205.out) hb); have n2_ := am (blk_below (by (with_reducible repeat first|refine bN ?_ _|refine bD ?_|refine bA ?_ _);exact BK206.out) hb); have n3_ := am (blk_below (by (with_reducible repeat first|refine bN ?_ _|refine bD ?_|refine bA ?_ _);exact BK207.out) hb); have n4_ := am (below_step (by repeat first|(with_reducible first|exact HB.out|apply wA|apply wN|apply wD|refine wS ?_ GE204.out|refine wS ?_ GE205.out|refine wS ?_ GE206.out|refine wS ?_ GE207.out)|exact HB.out) hb); clear BK204; clear BK205; clear BK206; clear BK207; clear HB; have BK204 := n0_; have BK205 := n1_; have BK206 := n2_; have BK207 := n3_; have HB := n4_; clear n0_ n1_ n2_ n3_ n4_; (try clear hb); (try clear hb2); (try clear hk); (try clear hi)))
 go_meet
 case rel => exact ⟨_, (t209), (by first | rfl | (simp; done) | (simp [*]; done)), H', ⟨by first | omega | exact Nat.le_refl _⟩, ⟨by (with_reducible repeat first|refine bN ?_ _|refine bD ?_|refine bA ?_ _);exact BK204.out⟩, ⟨by (with_reducible repeat first|refine bN ?_ _|refine bD ?_|refine bA ?_ _);exact BK205.out⟩, ⟨by (with_reducible repeat first|refine bN ?_ _|refine bD ?_|refine bA ?_ _);exact BK206.out⟩, ⟨by (with_reducible repeat first|refine bN ?_ _|refine bD ?_|refine bA ?_ _);exact BK207.out⟩, ⟨by repeat (first | (with_reducible first | exact HB.out | apply below_alloc | apply pw_below_drewN | apply below_drew1 | refine below_set ?_ GE204.out | refine below_set ?_ GE205.out | refine below_set ?_ GE206.out | refine below_set ?_ GE207.out) | exact HB.out)⟩⟩)
 clear HC5
 try clear c1; try clear c2; try clear p2; try clear c3; try clear c6; try clear c7; try clear c11; try clear c12; try clear c13; try clear c14; try clear c16; try clear c17; try clear c19; try clear c24; try clear c25; try clear c26; try clear c28; try clear c29; try clear c31; try clear hcz15_0; try clear hcz15_1; try clear hcz18_0; try clear hcz18_1; try clear hcz20_0; try clear hcz20_1; try clear hcz21_0; try clear hcz21_1; try clear hcz27_0; try clear hcz27_1; try clear hcz30_0; try clear hcz30_1; try clear hcz32_0; try clear hcz32_1; try clear hcz33_0; try clear hcz33_1; try clear hcz35_0; try clear hcz35_1; try clear hcz36_0; try clear hcz36_1; try clear hcz37_0; try clear hcz37_1; try clear hcz38_0; try clear hcz38_1; try clear hfz15_0; try clear hfz15_1; try clear hfz18_0; try clear hfz18_1; try clear hfz20_0; try clear hfz20_1; try clear hfz21_0; try clear hfz21_1; try clear hfz27_0; try clear hfz27_1; try clear hfz30_0; try clear hfz30_1; try clear hfz32_0; try clear hfz32_1; try clear hfz33_0; try clear hfz33_1; try clear hfz35_0; try clear hfz35_1; try clear hfz36_0; try clear hfz36_1; try clear hfz37_0; try clear hfz37_1; try clear hfz38_0; try clear hfz38_1
 obtain ⟨kq, x28_4, rfl, HA, HJ4, BK204, BK205, BK206, BK207, HB⟩ := hcut
 cases kq with
 | zero => exact absurd HA.out (by simp [wigeonref02_touch.j0])
 | succ kj4 =>
  have H := HA.out
  clear HA
  simp only [wigeonref02_touch.j0] at H
  by_cases c40 : x28_4 = true
  {
 subst c40
 have H1 : (some false) = some r := by rw [if_pos rfl] at H; exact H
 clear H
 have H := H1
 clear H1
 obtain rfl := Option.some.inj H
 go_wp2
 go_ret
 exact ⟨by first | rfl | (simp [errW_none, errW_some] <;> rfl) | (simp [*, errW_none, errW_some] <;> rfl), by repeat (first | (with_reducible first | exact HB.out | apply below_alloc | apply pw_below_drewN | apply below_drew1 | refine below_set ?_ GE204.out | refine below_set ?_ GE205.out | refine below_set ?_ GE206.out | refine below_set ?_ GE207.out) | exact HB.out)⟩}
  replace c40 := Bool.eq_false_iff.mpr c40
  subst c40
  have H1 : ((wigeonref02_side.f a0_0 a0_1 a1_0 a1_1 a2_0 a2_1).bind fun t210 => ((wigeonref02_side.f a0_0 a0_1 a1_0 a1_1 a3_0 a3_1).bind fun t211 => (if (wrap64 (t210 * t211)) ≤ 0 then ((wigeonref02_side.f a2_0 a2_1 a3_0 a3_1 a0_0 a0_1).bind fun t212 => ((wigeonref02_side.f a2_0 a2_1 a3_0 a3_1 a1_0 a1_1).bind fun t213 => (some (decide ((wrap64 (t212 * t213)) ≤ 0))))) else (some false)))) = some r := by rw [if_neg (show ¬ (false = true) by decide)] at H; exact H
  clear H
  have H := H1
  clear H1
  replace H := Option.bind_eq_some_iff.mp H
  obtain ⟨t210, A410, H⟩ := H
  replace H : ((wigeonref02_side.f a0_0 a0_1 a1_0 a1_1 a3_0 a3_1).bind fun t211 => (if (wrap64 (t210 * t211)) ≤ 0 then ((wigeonref02_side.f a2_0 a2_1 a3_0 a3_1 a0_0 a0_1).bind fun t212 => ((wigeonref02_side.f a2_0 a2_1 a3_0 a3_1 a1_0 a1_1).bind fun t213 => (some (decide ((wrap64 (t212 * t213)) ≤ 0))))) else (some false))) = some r := H
  have A41 := am A410
  clear A410
  replace H := Option.bind_eq_some_iff.mp H
  obtain ⟨t211, A420, H⟩ := H
  replace H : (if (wrap64 (t210 * t211)) ≤ 0 then ((wigeonref02_side.f a2_0 a2_1 a3_0 a3_1 a0_0 a0_1).bind fun t212 => ((wigeonref02_side.f a2_0 a2_1 a3_0 a3_1 a1_0 a1_1).bind fun t213 => (some (decide ((wrap64 (t212 * t213)) ≤ 0))))) else (some false)) = some r := H
  have A42 := am A420
  clear A420
  by_cases c43 : (wrap64 (t210 * t211)) ≤ 0
  {
 rw [if_pos c43] at H
 have c43b0 : decide ((wrap64 (t210 * t211)) ≤ 0) = true := decide_eq_true c43
 clear c43
 replace H := Option.bind_eq_some_iff.mp H
 obtain ⟨t212, A440, H⟩ := H
 replace H : ((wigeonref02_side.f a2_0 a2_1 a3_0 a3_1 a1_0 a1_1).bind fun t213 => (some (decide ((wrap64 (t212 * t213)) ≤ 0)))) = some r := H
 have A44 := am A440
 clear A440
 replace H := Option.bind_eq_some_iff.mp H
 obtain ⟨t213, A450, H⟩ := H
 replace H : (some (decide ((wrap64 (t212 * t213)) ≤ 0))) = some r := H
 have A45 := am A450
 clear A450
 obtain rfl := Option.some.inj H
 try go_wp2
 have n0_ := am (blk_drew BK204.out)
 have n1_ := am (blk_drew BK205.out)
 have n2_ := am (blk_drew BK206.out)
 have n3_ := am (blk_drew BK207.out)
 have n4_ := am (below_drew1 HB.out)
 clear BK204
 clear BK205
 clear BK206
 clear BK207
 clear HB
 have BK204 := n0_
 have BK205 := n1_
 have BK206 := n2_
 have BK207 := n3_
 have HB := n4_
 clear n0_ n1_ n2_ n3_ n4_
 refine start_ (n := 23) (S := fun w' => w'.cell? ⟨gb204, 0, none⟩ = some (.int .i64 a0_0) ∧ w'.cell? ⟨gb204, 1, none⟩ = some (.int .i64 a0_1) ∧ w'.cell? ⟨gb205, 0, none⟩ = some (.int .i64 a1_0) ∧ w'.cell? ⟨gb205, 1, none⟩ = some (.int .i64 a1_1) ∧ w'.cell? ⟨gb206, 0, none⟩ = some (.int .i64 a2_0) ∧ w'.cell? ⟨gb206, 1, none⟩ = some (.int .i64 a2_1) ∧ w'.cell? ⟨gb207, 0, none⟩ = some (.int .i64 a3_0) ∧ w'.cell? ⟨gb207, 1, none⟩ = some (.int .i64 a3_1)) (ds := []) #[F,F,F,F,F,F,F,F,F,F,F,F,F,F,F,F,F,F,F,F,F,F,F] (by kernel_rfl) rfl rfl ⟨(blk_cell BK204.out 0).trans rfl, (blk_cell BK204.out 1).trans rfl, (blk_cell BK205.out 0).trans rfl, (blk_cell BK205.out 1).trans rfl, (blk_cell BK206.out 0).trans rfl, (blk_cell BK206.out 1).trans rfl, (blk_cell BK207.out 0).trans rfl, (blk_cell BK207.out 1).trans rfl⟩ (fun hHeld => ?_); refine with_tabW wigeonref02_touch.tab3 wigeonref02_touch.bits3 (fun HT_ HW_ => ?_)
 generalize wc.drew = w46 at BK204 BK205 BK206 BK207 HB hHeld ⊢
 refine take_ (i := 0) (N := some 29) (v := ?_) (a' := ?_) #[T,F,F,F,F,F,F,F,F,F,F,F,F,F,F,F,F,F,F,F,F,F,F] rfl rfl (take_ofW HT_.out HW_.out (by kernel_rfl)) (fun _ _ _ h => h) (Or.inl ⟨by rfl, ?_⟩) hHeld ?_ ?_
 rotate_left;{
 rintro w' ⟨s0, s1, s2, s3, s4, s5, s6, s7⟩
 go_simp
 with_reducible rfl}
 rotate_left;{
 simp only [ap,sA,s0,s1,i64_w,i32_w]
 rfl}
 refine take_ (i := 1) (N := some 30) (v := ?_) (a' := ?_) #[T,T,F,F,F,F,F,F,F,F,F,F,F,F,F,F,F,F,F,F,F,F,F] rfl rfl (take_ofW HT_.out HW_.out (by kernel_rfl)) (fun _ _ _ h => h) (Or.inl ⟨by rfl, ?_⟩) hHeld ?_ ?_
 rotate_left;{
 rintro w' ⟨s0, s1, s2, s3, s4, s5, s6, s7⟩
 go_simp
 with_reducible rfl}
 rotate_left;{
 simp only [ap,sA,s0,s1,i64_w,i32_w]
 rfl}
 refine take_ (i := 2) (N := some 31) (v := ?_) (a' := ?_) #[T,T,T,F,F,F,F,F,F,F,F,F,F,F,F,F,F,F,F,F,F,F,F] rfl rfl (take_ofW HT_.out HW_.out (by kernel_rfl)) (fun _ _ _ h => h) (Or.inl ⟨by rfl, ?_⟩) hHeld ?_ ?_
 rotate_left;{
 rintro w' ⟨s0, s1, s2, s3, s4, s5, s6, s7⟩
 go_simp
 with_reducible rfl}
 rotate_left;{
 simp only [ap,sA,s0,s1,i64_w,i32_w]
 rfl}
 refine take_ (i := 4) (N := some 33) (v := ?_) (a' := ?_) #[T,T,T,F,T,F,F,F,F,F,F,F,F,F,F,F,F,F,F,F,F,F,F] rfl rfl (take_ofW HT_.out HW_.out (by kernel_rfl)) (fun _ _ _ h => h) (Or.inl ⟨by rfl, ?_⟩) hHeld ?_ ?_
 rotate_left;{
 rintro w' ⟨s0, s1, s2, s3, s4, s5, s6, s7⟩
 go_simp
 with_reducible rfl}
 rotate_left;{
 simp only [ap,sA,s0,s1,i64_w,i32_w]
 rfl}
 refine take_ (i := 5) (N := some 34) (v := ?_) (a' := ?_) #[T,T,T,F,T,T,F,F,F,F,F,F,F,F,F,F,F,F,F,F,F,F,F] rfl rfl (take_ofW HT_.out HW_.out (by kernel_rfl)) (fun _ _ _ h => h) (Or.inl ⟨by rfl, ?_⟩) hHeld ?_ ?_
 rotate_left;{
 rintro w' ⟨s0, s1, s2, s3, s4, s5, s6, s7⟩
 go_simp
 with_reducible rfl}
 rotate_left;{
 simp only [ap,sA,s0,s1,i64_w,i32_w]
 rfl}
 refine take_ (i := 6) (N := some 35) (v := ?_) (a' := ?_) #[T,T,T,F,T,T,T,F,F,F,F,F,F,F,F,F,F,F,F,F,F,F,F] rfl rfl (take_ofW HT_.out HW_.out (by kernel_rfl)) (fun _ _ _ h => h) (Or.inl ⟨by rfl, ?_⟩) hHeld ?_ ?_
 rotate_left;{
 rintro w' ⟨s0, s1, s2, s3, s4, s5, s6, s7⟩
 go_simp
 with_reducible rfl}
 rotate_left;{
 simp only [ap,sA,s0,s1,i64_w,i32_w]
 rfl}
 refine one_ (i := 3) (N := some 32) #[T,T,T,T,T,T,T,F,F,F,F,F,F,F,F,F,F,F,F,F,F,F,F] rfl rfl (one_of HT_.out (by kernel_rfl)) (by decide) (fun K hK => ?_)
 refine goes_ Try.func79 (by kernel_rfl) rfl #[.agg #[.int .i64 a0_0, .int .i64 a0_1], .agg #[.int .i64 a1_0, .int .i64 a1_1], .agg #[.int .i64 a2_0, .int .i64 a2_1]] (by rfl) rfl rfl (by (try simp only [List.map_toArray, List.map_cons, List.map_nil]); first | done | rfl | (simp only [List.length_drop, List.length_take]; rfl)) ?_
 with_reducible refine (wigeonref02_side.calls a0_0 a0_1 a1_0 a1_1 a2_0 a2_1 t210 _ A41.out).mono ?_
 rintro e w47 ⟨rfl, hb⟩
 refine ⟨_, rfl, ?_⟩
 have n0_ := am (blk_below (by (with_reducible repeat first|refine bN ?_ _|refine bD ?_|refine bA ?_ _);exact BK204.out) hb)
 have n1_ := am (blk_below (by (with_reducible repeat first|refine bN ?_ _|refine bD ?_|refine bA ?_ _);exact BK205.out) hb)
 have n2_ := am (blk_below (by (with_reducible repeat first|refine bN ?_ _|refine bD ?_|refine bA ?_ _);exact BK206.out) hb)
 have n3_ := am (blk_below (by (with_reducible repeat first|refine bN ?_ _|refine bD ?_|refine bA ?_ _);exact BK207.out) hb)
 have n4_ := am (below_step (by repeat first|(with_reducible first|exact HB.out|apply wA|apply wN|apply wD|refine wS ?_ GE204.out|refine wS ?_ GE205.out|refine wS ?_ GE206.out|refine wS ?_ GE207.out)|exact HB.out) hb)
 clear BK204
 clear BK205
 clear BK206
 clear BK207
 clear HB
 have BK204 := n0_
 have BK205 := n1_
 have BK206 := n2_
 have BK207 := n3_
 have HB := n4_
 clear n0_ n1_ n2_ n3_ n4_
 (try clear hb)
 (try clear hb2)
 (try clear hk)
 (try clear hi)
 refine hK.out _ _ ⟨(blk_cell BK204.out 0).trans rfl, (blk_cell BK204.out 1).trans rfl, (blk_cell BK205.out 0).trans rfl, (blk_cell BK205.out 1).trans rfl, (blk_cell BK206.out 0).trans rfl, (blk_cell BK206.out 1).trans rfl, (blk_cell BK207.out 0).trans rfl, (blk_cell BK207.out 1).trans rfl⟩ (fun hHeld => ?_)
 clear hK K
 refine norm_ (a' := ?_) ?_ ?_
 rotate_left;{
 show Act.put _ (some 32) _ = _
 simp only [ap,sA,s0,s1,i64_w,i32_w]
 rfl}
 refine one_ (i := 7) (N := some 36) #[T,T,T,T,T,T,T,T,F,F,F,F,F,F,F,F,F,F,F,F,F,F,F] rfl rfl (one_of HT_.out (by kernel_rfl)) (by decide) (fun K hK => ?_)
 refine goes_ Try.func79 (by kernel_rfl) rfl #[.agg #[.int .i64 a0_0, .int .i64 a0_1], .agg #[.int .i64 a1_0, .int .i64 a1_1], .agg #[.int .i64 a3_0, .int .i64 a3_1]] (by rfl) rfl rfl (by (try simp only [List.map_toArray, List.map_cons, List.map_nil]); first | done | rfl | (simp only [List.length_drop, List.length_take]; rfl)) ?_
 with_reducible refine (wigeonref02_side.calls a0_0 a0_1 a1_0 a1_1 a3_0 a3_1 t211 _ A42.out).mono ?_
 rintro e w48 ⟨rfl, hb⟩
 refine ⟨_, rfl, ?_⟩
 have n0_ := am (blk_below (by (with_reducible repeat first|refine bN ?_ _|refine bD ?_|refine bA ?_ _);exact BK204.out) hb)
 have n1_ := am (blk_below (by (with_reducible repeat first|refine bN ?_ _|refine bD ?_|refine bA ?_ _);exact BK205.out) hb)
 have n2_ := am (blk_below (by (with_reducible repeat first|refine bN ?_ _|refine bD ?_|refine bA ?_ _);exact BK206.out) hb)
 have n3_ := am (blk_below (by (with_reducible repeat first|refine bN ?_ _|refine bD ?_|refine bA ?_ _);exact BK207.out) hb)
 have n4_ := am (below_step (by repeat first|(with_reducible first|exact HB.out|apply wA|apply wN|apply wD|refine wS ?_ GE204.out|refine wS ?_ GE205.out|refine wS ?_ GE206.out|refine wS ?_ GE207.out)|exact HB.out) hb)
 clear BK204
 clear BK205
 clear BK206
 clear BK207
 clear HB
 have BK204 := n0_
 have BK205 := n1_
 have BK206 := n2_
 have BK207 := n3_
 have HB := n4_
 clear n0_ n1_ n2_ n3_ n4_
 (try clear hb)
 (try clear hb2)
 (try clear hk)
 (try clear hi)
 refine hK.out _ _ ⟨(blk_cell BK204.out 0).trans rfl, (blk_cell BK204.out 1).trans rfl, (blk_cell BK205.out 0).trans rfl, (blk_cell BK205.out 1).trans rfl, (blk_cell BK206.out 0).trans rfl, (blk_cell BK206.out 1).trans rfl, (blk_cell BK207.out 0).trans rfl, (blk_cell BK207.out 1).trans rfl⟩ (fun hHeld => ?_)
 clear hK K
 refine norm_ (a' := ?_) ?_ ?_
 rotate_left;{
 show Act.put _ (some 36) _ = _
 simp only [ap,sA,s0,s1,i64_w,i32_w]
 rfl}
 refine pure_ (i := 8) (N := some 37) (v := ?_) (a' := ?_) #[T,T,T,T,T,T,T,T,T,F,F,F,F,F,F,F,F,F,F,F,F,F,F] rfl rfl (any_of HT_.out (by kernel_rfl)) (fun _ _ _ h => h) (Or.inl ⟨by rfl, ?_⟩) ?_ ?_
 rotate_left;{
 intro w'
 go_simp
 with_reducible rfl}
 rotate_left;{
 simp only [ap,sA,s0,s1,i64_w,i32_w]
 rfl}
 refine pure_ (i := 9) (N := some 38) (v := ?_) (a' := ?_) #[T,T,T,T,T,T,T,T,T,T,F,F,F,F,F,F,F,F,F,F,F,F,F] rfl rfl (any_of HT_.out (by kernel_rfl)) (fun _ _ _ h => h) (Or.inl ⟨by rfl, ?_⟩) ?_ ?_
 rotate_left;{
 intro w'
 go_simp
 with_reducible rfl}
 rotate_left;{
 simp only [ap,sA,s0,s1,i64_w,i32_w]
 rfl}
 refine pure_ (i := 10) (N := some 39) (v := ?_) (a' := ?_) #[T,T,T,T,T,T,T,T,T,T,T,F,F,F,F,F,F,F,F,F,F,F,F] rfl rfl (any_of HT_.out (by kernel_rfl)) (fun _ _ _ h => h) (Or.inl ⟨by rfl, ?_⟩) ?_ ?_
 rotate_left;{
 intro w'
 go_simp
 with_reducible rfl}
 rotate_left;{
 simp only [ap,sA,s0,s1,i64_w,i32_w]
 rfl}
 refine take_ (i := 11) (N := some 40) (v := ?_) (a' := ?_) #[T,T,T,T,T,T,T,T,T,T,T,T,F,F,F,F,F,F,F,F,F,F,F] rfl rfl (take_ofW HT_.out HW_.out (by kernel_rfl)) (fun _ _ _ h => h) (Or.inl ⟨by rfl, ?_⟩) hHeld ?_ ?_
 rotate_left;{
 rintro w' ⟨s0, s1, s2, s3, s4, s5, s6, s7⟩
 go_simp
 with_reducible rfl}
 rotate_left;{
 simp only [ap,sA,s0,s1,i64_w,i32_w]
 rfl}
 refine take_ (i := 12) (N := some 41) (v := ?_) (a' := ?_) #[T,T,T,T,T,T,T,T,T,T,T,T,T,F,F,F,F,F,F,F,F,F,F] rfl rfl (take_ofW HT_.out HW_.out (by kernel_rfl)) (fun _ _ _ h => h) (Or.inl ⟨by rfl, ?_⟩) hHeld ?_ ?_
 rotate_left;{
 rintro w' ⟨s0, s1, s2, s3, s4, s5, s6, s7⟩
 go_simp
 with_reducible rfl}
 rotate_left;{
 simp only [ap,sA,s0,s1,i64_w,i32_w]
 rfl}
 refine take_ (i := 13) (N := some 42) (v := ?_) (a' := ?_) #[T,T,T,T,T,T,T,T,T,T,T,T,T,T,F,F,F,F,F,F,F,F,F] rfl rfl (take_ofW HT_.out HW_.out (by kernel_rfl)) (fun _ _ _ h => h) (Or.inl ⟨by rfl, ?_⟩) hHeld ?_ ?_
 rotate_left;{
 rintro w' ⟨s0, s1, s2, s3, s4, s5, s6, s7⟩
 go_simp
 with_reducible rfl}
 rotate_left;{
 simp only [ap,sA,s0,s1,i64_w,i32_w]
 rfl}
 refine take_ (i := 15) (N := some 44) (v := ?_) (a' := ?_) #[T,T,T,T,T,T,T,T,T,T,T,T,T,T,F,T,F,F,F,F,F,F,F] rfl rfl (take_ofW HT_.out HW_.out (by kernel_rfl)) (fun _ _ _ h => h) (Or.inl ⟨by rfl, ?_⟩) hHeld ?_ ?_
 rotate_left;{
 rintro w' ⟨s0, s1, s2, s3, s4, s5, s6, s7⟩
 go_simp
 with_reducible rfl}
 rotate_left;{
 simp only [ap,sA,s0,s1,i64_w,i32_w]
 rfl}
 refine take_ (i := 16) (N := some 45) (v := ?_) (a' := ?_) #[T,T,T,T,T,T,T,T,T,T,T,T,T,T,F,T,T,F,F,F,F,F,F] rfl rfl (take_ofW HT_.out HW_.out (by kernel_rfl)) (fun _ _ _ h => h) (Or.inl ⟨by rfl, ?_⟩) hHeld ?_ ?_
 rotate_left;{
 rintro w' ⟨s0, s1, s2, s3, s4, s5, s6, s7⟩
 go_simp
 with_reducible rfl}
 rotate_left;{
 simp only [ap,sA,s0,s1,i64_w,i32_w]
 rfl}
 refine take_ (i := 17) (N := some 46) (v := ?_) (a' := ?_) #[T,T,T,T,T,T,T,T,T,T,T,T,T,T,F,T,T,T,F,F,F,F,F] rfl rfl (take_ofW HT_.out HW_.out (by kernel_rfl)) (fun _ _ _ h => h) (Or.inl ⟨by rfl, ?_⟩) hHeld ?_ ?_
 rotate_left;{
 rintro w' ⟨s0, s1, s2, s3, s4, s5, s6, s7⟩
 go_simp
 with_reducible rfl}
 rotate_left;{
 simp only [ap,sA,s0,s1,i64_w,i32_w]
 rfl}
 refine one_ (i := 14) (N := some 43) #[T,T,T,T,T,T,T,T,T,T,T,T,T,T,T,T,T,T,F,F,F,F,F] rfl rfl (one_of HT_.out (by kernel_rfl)) (by decide) (fun K hK => ?_)
 refine goes_ Try.func79 (by kernel_rfl) rfl #[.agg #[.int .i64 a2_0, .int .i64 a2_1], .agg #[.int .i64 a3_0, .int .i64 a3_1], .agg #[.int .i64 a0_0, .int .i64 a0_1]] (by rfl) rfl rfl (by (try simp only [List.map_toArray, List.map_cons, List.map_nil]); first | done | rfl | (simp only [List.length_drop, List.length_take]; rfl)) ?_
 with_reducible refine (wigeonref02_side.calls a2_0 a2_1 a3_0 a3_1 a0_0 a0_1 t212 _ A44.out).mono ?_
 rintro e w49 ⟨rfl, hb⟩
 refine ⟨_, rfl, ?_⟩
 have n0_ := am (blk_below (by (with_reducible repeat first|refine bN ?_ _|refine bD ?_|refine bA ?_ _);exact BK204.out) hb)
 have n1_ := am (blk_below (by (with_reducible repeat first|refine bN ?_ _|refine bD ?_|refine bA ?_ _);exact BK205.out) hb)
 have n2_ := am (blk_below (by (with_reducible repeat first|refine bN ?_ _|refine bD ?_|refine bA ?_ _);exact BK206.out) hb)
 have n3_ := am (blk_below (by (with_reducible repeat first|refine bN ?_ _|refine bD ?_|refine bA ?_ _);exact BK207.out) hb)
 have n4_ := am (below_step (by repeat first|(with_reducible first|exact HB.out|apply wA|apply wN|apply wD|refine wS ?_ GE204.out|refine wS ?_ GE205.out|refine wS ?_ GE206.out|refine wS ?_ GE207.out)|exact HB.out) hb)
 clear BK204
 clear BK205
 clear BK206
 clear BK207
 clear HB
 have BK204 := n0_
 have BK205 := n1_
 have BK206 := n2_
 have BK207 := n3_
 have HB := n4_
 clear n0_ n1_ n2_ n3_ n4_
 (try clear hb)
 (try clear hb2)
 (try clear hk)
 (try clear hi)
 refine hK.out _ _ ⟨(blk_cell BK204.out 0).trans rfl, (blk_cell BK204.out 1).trans rfl, (blk_cell BK205.out 0).trans rfl, (blk_cell BK205.out 1).trans rfl, (blk_cell BK206.out 0).trans rfl, (blk_cell BK206.out 1).trans rfl, (blk_cell BK207.out 0).trans rfl, (blk_cell BK207.out 1).trans rfl⟩ (fun hHeld => ?_)
 clear hK K
 refine norm_ (a' := ?_) ?_ ?_
 rotate_left;{
 show Act.put _ (some 43) _ = _
 simp only [ap,sA,s0,s1,i64_w,i32_w]
 rfl}
 refine one_ (i := 18) (N := some 47) #[T,T,T,T,T,T,T,T,T,T,T,T,T,T,T,T,T,T,T,F,F,F,F] rfl rfl (one_of HT_.out (by kernel_rfl)) (by decide) (fun K hK => ?_)
 refine goes_ Try.func79 (by kernel_rfl) rfl #[.agg #[.int .i64 a2_0, .int .i64 a2_1], .agg #[.int .i64 a3_0, .int .i64 a3_1], .agg #[.int .i64 a1_0, .int .i64 a1_1]] (by rfl) rfl rfl (by (try simp only [List.map_toArray, List.map_cons, List.map_nil]); first | done | rfl | (simp only [List.length_drop, List.length_take]; rfl)) ?_
 with_reducible refine (wigeonref02_side.calls a2_0 a2_1 a3_0 a3_1 a1_0 a1_1 t213 _ A45.out).mono ?_
 rintro e w50 ⟨rfl, hb⟩
 refine ⟨_, rfl, ?_⟩
 have n0_ := am (blk_below (by (with_reducible repeat first|refine bN ?_ _|refine bD ?_|refine bA ?_ _);exact BK204.out) hb)
 have n1_ := am (blk_below (by (with_reducible repeat first|refine bN ?_ _|refine bD ?_|refine bA ?_ _);exact BK205.out) hb)
 have n2_ := am (blk_below (by (with_reducible repeat first|refine bN ?_ _|refine bD ?_|refine bA ?_ _);exact BK206.out) hb)
 have n3_ := am (blk_below (by (with_reducible repeat first|refine bN ?_ _|refine bD ?_|refine bA ?_ _);exact BK207.out) hb)
 have n4_ := am (below_step (by repeat first|(with_reducible first|exact HB.out|apply wA|apply wN|apply wD|refine wS ?_ GE204.out|refine wS ?_ GE205.out|refine wS ?_ GE206.out|refine wS ?_ GE207.out)|exact HB.out) hb)
 clear BK204
 clear BK205
 clear BK206
 clear BK207
 clear HB
 have BK204 := n0_
 have BK205 := n1_
 have BK206 := n2_
 have BK207 := n3_
 have HB := n4_
 clear n0_ n1_ n2_ n3_ n4_
 (try clear hb)
 (try clear hb2)
 (try clear hk)
 (try clear hi)
 refine hK.out _ _ ⟨(blk_cell BK204.out 0).trans rfl, (blk_cell BK204.out 1).trans rfl, (blk_cell BK205.out 0).trans rfl, (blk_cell BK205.out 1).trans rfl, (blk_cell BK206.out 0).trans rfl, (blk_cell BK206.out 1).trans rfl, (blk_cell BK207.out 0).trans rfl, (blk_cell BK207.out 1).trans rfl⟩ (fun hHeld => ?_)
 clear hK K
 refine norm_ (a' := ?_) ?_ ?_
 rotate_left;{
 show Act.put _ (some 47) _ = _
 simp only [ap,sA,s0,s1,i64_w,i32_w]
 rfl}
 refine pure_ (i := 19) (N := some 48) (v := ?_) (a' := ?_) #[T,T,T,T,T,T,T,T,T,T,T,T,T,T,T,T,T,T,T,T,F,F,F] rfl rfl (any_of HT_.out (by kernel_rfl)) (fun _ _ _ h => h) (Or.inl ⟨by rfl, ?_⟩) ?_ ?_
 rotate_left;{
 intro w'
 go_simp
 with_reducible rfl}
 rotate_left;{
 simp only [ap,sA,s0,s1,i64_w,i32_w]
 rfl}
 refine pure_ (i := 20) (N := some 49) (v := ?_) (a' := ?_) #[T,T,T,T,T,T,T,T,T,T,T,T,T,T,T,T,T,T,T,T,T,F,F] rfl rfl (any_of HT_.out (by kernel_rfl)) (fun _ _ _ h => h) (Or.inl ⟨by rfl, ?_⟩) ?_ ?_
 rotate_left;{
 intro w'
 go_simp
 with_reducible rfl}
 rotate_left;{
 simp only [ap,sA,s0,s1,i64_w,i32_w]
 rfl}
 refine pure_ (i := 21) (N := some 50) (v := ?_) (a' := ?_) #[T,T,T,T,T,T,T,T,T,T,T,T,T,T,T,T,T,T,T,T,T,T,F] rfl rfl (any_of HT_.out (by kernel_rfl)) (fun _ _ _ h => h) (Or.inl ⟨by rfl, ?_⟩) ?_ ?_
 rotate_left;{
 intro w'
 go_simp
 with_reducible rfl}
 rotate_left;{
 simp only [ap,sA,s0,s1,i64_w,i32_w]
 rfl}
 refine pure_ (i := 22) (N := some 8) (v := ?_) (a' := ?_) #[T,T,T,T,T,T,T,T,T,T,T,T,T,T,T,T,T,T,T,T,T,T,T] rfl rfl (any_of HT_.out (by kernel_rfl)) (fun _ _ _ h => h) (Or.inl ⟨by rfl, ?_⟩) ?_ ?_
 rotate_left;{
 intro w'
 go_simp
 with_reducible rfl}
 rotate_left;{
 simp only [ap,sA,s0,s1,i64_w,i32_w]
 rfl}
 refine done_ (done_of HT_.out (by kernel_rfl)) ?_
 try go_wp2
 go_ret
 exact ⟨by first | rfl | (simp [errW_none, errW_some] <;> rfl) | (simp [*, errW_none, errW_some] <;> rfl), by repeat (first | (with_reducible first | exact HB.out | apply below_alloc | apply pw_below_drewN | apply below_drew1 | refine below_set ?_ GE204.out | refine below_set ?_ GE205.out | refine below_set ?_ GE206.out | refine below_set ?_ GE207.out) | exact HB.out)⟩}
  rw [if_neg c43] at H
  have c43b0 : decide ((wrap64 (t210 * t211)) ≤ 0) = false := decide_eq_false c43
  clear c43
  obtain rfl := Option.some.inj H
  try go_wp2
  have n0_ := am (blk_drew BK204.out)
  have n1_ := am (blk_drew BK205.out)
  have n2_ := am (blk_drew BK206.out)
  have n3_ := am (blk_drew BK207.out)
  have n4_ := am (below_drew1 HB.out)
  clear BK204
  clear BK205
  clear BK206
  clear BK207
  clear HB
  have BK204 := n0_
  have BK205 := n1_
  have BK206 := n2_
  have BK207 := n3_
  have HB := n4_
  clear n0_ n1_ n2_ n3_ n4_
  refine start_ (n := 23) (S := fun w' => w'.cell? ⟨gb204, 0, none⟩ = some (.int .i64 a0_0) ∧ w'.cell? ⟨gb204, 1, none⟩ = some (.int .i64 a0_1) ∧ w'.cell? ⟨gb205, 0, none⟩ = some (.int .i64 a1_0) ∧ w'.cell? ⟨gb205, 1, none⟩ = some (.int .i64 a1_1) ∧ w'.cell? ⟨gb206, 0, none⟩ = some (.int .i64 a2_0) ∧ w'.cell? ⟨gb206, 1, none⟩ = some (.int .i64 a2_1) ∧ w'.cell? ⟨gb207, 0, none⟩ = some (.int .i64 a3_0) ∧ w'.cell? ⟨gb207, 1, none⟩ = some (.int .i64 a3_1)) (ds := []) #[F,F,F,F,F,F,F,F,F,F,F,F,F,F,F,F,F,F,F,F,F,F,F] (by kernel_rfl) rfl rfl ⟨(blk_cell BK204.out 0).trans rfl, (blk_cell BK204.out 1).trans rfl, (blk_cell BK205.out 0).trans rfl, (blk_cell BK205.out 1).trans rfl, (blk_cell BK206.out 0).trans rfl, (blk_cell BK206.out 1).trans rfl, (blk_cell BK207.out 0).trans rfl, (blk_cell BK207.out 1).trans rfl⟩ (fun hHeld => ?_); refine with_tabW wigeonref02_touch.tab3 wigeonref02_touch.bits3 (fun HT_ HW_ => ?_)
  generalize wc.drew = w51 at BK204 BK205 BK206 BK207 HB hHeld ⊢
  refine take_ (i := 0) (N := some 29) (v := ?_) (a' := ?_) #[T,F,F,F,F,F,F,F,F,F,F,F,F,F,F,F,F,F,F,F,F,F,F] rfl rfl (take_ofW HT_.out HW_.out (by kernel_rfl)) (fun _ _ _ h => h) (Or.inl ⟨by rfl, ?_⟩) hHeld ?_ ?_
  rotate_left;{
 rintro w' ⟨s0, s1, s2, s3, s4, s5, s6, s7⟩
 go_simp
 with_reducible rfl}
  rotate_left;{
 simp only [ap,sA,s0,s1,i64_w,i32_w]
 rfl}
  refine take_ (i := 1) (N := some 30) (v := ?_) (a' := ?_) #[T,T,F,F,F,F,F,F,F,F,F,F,F,F,F,F,F,F,F,F,F,F,F] rfl rfl (take_ofW HT_.out HW_.out (by kernel_rfl)) (fun _ _ _ h => h) (Or.inl ⟨by rfl, ?_⟩) hHeld ?_ ?_
  rotate_left;{
 rintro w' ⟨s0, s1, s2, s3, s4, s5, s6, s7⟩
 go_simp
 with_reducible rfl}
  rotate_left;{
 simp only [ap,sA,s0,s1,i64_w,i32_w]
 rfl}
  refine take_ (i := 2) (N := some 31) (v := ?_) (a' := ?_) #[T,T,T,F,F,F,F,F,F,F,F,F,F,F,F,F,F,F,F,F,F,F,F] rfl rfl (take_ofW HT_.out HW_.out (by kernel_rfl)) (fun _ _ _ h => h) (Or.inl ⟨by rfl, ?_⟩) hHeld ?_ ?_
  rotate_left;{
 rintro w' ⟨s0, s1, s2, s3, s4, s5, s6, s7⟩
 go_simp
 with_reducible rfl}
  rotate_left;{
 simp only [ap,sA,s0,s1,i64_w,i32_w]
 rfl}
  refine take_ (i := 4) (N := some 33) (v := ?_) (a' := ?_) #[T,T,T,F,T,F,F,F,F,F,F,F,F,F,F,F,F,F,F,F,F,F,F] rfl rfl (take_ofW HT_.out HW_.out (by kernel_rfl)) (fun _ _ _ h => h) (Or.inl ⟨by rfl, ?_⟩) hHeld ?_ ?_
  rotate_left;{
 rintro w' ⟨s0, s1, s2, s3, s4, s5, s6, s7⟩
 go_simp
 with_reducible rfl}
  rotate_left;{
 simp only [ap,sA,s0,s1,i64_w,i32_w]
 rfl}
  refine take_ (i := 5) (N := some 34) (v := ?_) (a' := ?_) #[T,T,T,F,T,T,F,F,F,F,F,F,F,F,F,F,F,F,F,F,F,F,F] rfl rfl (take_ofW HT_.out HW_.out (by kernel_rfl)) (fun _ _ _ h => h) (Or.inl ⟨by rfl, ?_⟩) hHeld ?_ ?_
  rotate_left;{
 rintro w' ⟨s0, s1, s2, s3, s4, s5, s6, s7⟩
 go_simp
 with_reducible rfl}
  rotate_left;{
 simp only [ap,sA,s0,s1,i64_w,i32_w]
 rfl}
  refine take_ (i := 6) (N := some 35) (v := ?_) (a' := ?_) #[T,T,T,F,T,T,T,F,F,F,F,F,F,F,F,F,F,F,F,F,F,F,F] rfl rfl (take_ofW HT_.out HW_.out (by kernel_rfl)) (fun _ _ _ h => h) (Or.inl ⟨by rfl, ?_⟩) hHeld ?_ ?_
  rotate_left;{
 rintro w' ⟨s0, s1, s2, s3, s4, s5, s6, s7⟩
 go_simp
 with_reducible rfl}
  rotate_left;{
 simp only [ap,sA,s0,s1,i64_w,i32_w]
 rfl}
  refine one_ (i := 3) (N := some 32) #[T,T,T,T,T,T,T,F,F,F,F,F,F,F,F,F,F,F,F,F,F,F,F] rfl rfl (one_of HT_.out (by kernel_rfl)) (by decide) (fun K hK => ?_)
  refine goes_ Try.func79 (by kernel_rfl) rfl #[.agg #[.int .i64 a0_0, .int .i64 a0_1], .agg #[.int .i64 a1_0, .int .i64 a1_1], .agg #[.int .i64 a2_0, .int .i64 a2_1]] (by rfl) rfl rfl (by (try simp only [List.map_toArray, List.map_cons, List.map_nil]); first | done | rfl | (simp only [List.length_drop, List.length_take]; rfl)) ?_
  with_reducible refine (wigeonref02_side.calls a0_0 a0_1 a1_0 a1_1 a2_0 a2_1 t210 _ A41.out).mono ?_
  rintro e w52 ⟨rfl, hb⟩
  refine ⟨_, rfl, ?_⟩
  have n0_ := am (blk_below (by (with_reducible repeat first|refine bN ?_ _|refine bD ?_|refine bA ?_ _);exact BK204.out) hb)
  have n1_ := am (blk_below (by (with_reducible repeat first|refine bN ?_ _|refine bD ?_|refine bA ?_ _);exact BK205.out) hb)
  have n2_ := am (blk_below (by (with_reducible repeat first|refine bN ?_ _|refine bD ?_|refine bA ?_ _);exact BK206.out) hb)
  have n3_ := am (blk_below (by (with_reducible repeat first|refine bN ?_ _|refine bD ?_|refine bA ?_ _);exact BK207.out) hb)
  have n4_ := am (below_step (by repeat first|(with_reducible first|exact HB.out|apply wA|apply wN|apply wD|refine wS ?_ GE204.out|refine wS ?_ GE205.out|refine wS ?_ GE206.out|refine wS ?_ GE207.out)|exact HB.out) hb)
  clear BK204
  clear BK205
  clear BK206
  clear BK207
  clear HB
  have BK204 := n0_
  have BK205 := n1_
  have BK206 := n2_
  have BK207 := n3_
  have HB := n4_
  clear n0_ n1_ n2_ n3_ n4_
  (try clear hb)
  (try clear hb2)
  (try clear hk)
  (try clear hi)
  refine hK.out _ _ ⟨(blk_cell BK204.out 0).trans rfl, (blk_cell BK204.out 1).trans rfl, (blk_cell BK205.out 0).trans rfl, (blk_cell BK205.out 1).trans rfl, (blk_cell BK206.out 0).trans rfl, (blk_cell BK206.out 1).trans rfl, (blk_cell BK207.out 0).trans rfl, (blk_cell BK207.out 1).trans rfl⟩ (fun hHeld => ?_)
  clear hK K
  refine norm_ (a' := ?_) ?_ ?_
  rotate_left;{
 show Act.put _ (some 32) _ = _
 simp only [ap,sA,s0,s1,i64_w,i32_w]
 rfl}
  refine one_ (i := 7) (N := some 36) #[T,T,T,T,T,T,T,T,F,F,F,F,F,F,F,F,F,F,F,F,F,F,F] rfl rfl (one_of HT_.out (by kernel_rfl)) (by decide) (fun K hK => ?_)
  refine goes_ Try.func79 (by kernel_rfl) rfl #[.agg #[.int .i64 a0_0, .int .i64 a0_1], .agg #[.int .i64 a1_0, .int .i64 a1_1], .agg #[.int .i64 a3_0, .int .i64 a3_1]] (by rfl) rfl rfl (by (try simp only [List.map_toArray, List.map_cons, List.map_nil]); first | done | rfl | (simp only [List.length_drop, List.length_take]; rfl)) ?_
  with_reducible refine (wigeonref02_side.calls a0_0 a0_1 a1_0 a1_1 a3_0 a3_1 t211 _ A42.out).mono ?_
  rintro e w53 ⟨rfl, hb⟩
  refine ⟨_, rfl, ?_⟩
  have n0_ := am (blk_below (by (with_reducible repeat first|refine bN ?_ _|refine bD ?_|refine bA ?_ _);exact BK204.out) hb)
  have n1_ := am (blk_below (by (with_reducible repeat first|refine bN ?_ _|refine bD ?_|refine bA ?_ _);exact BK205.out) hb)
  have n2_ := am (blk_below (by (with_reducible repeat first|refine bN ?_ _|refine bD ?_|refine bA ?_ _);exact BK206.out) hb)
  have n3_ := am (blk_below (by (with_reducible repeat first|refine bN ?_ _|refine bD ?_|refine bA ?_ _);exact BK207.out) hb)
  have n4_ := am (below_step (by repeat first|(with_reducible first|exact HB.out|apply wA|apply wN|apply wD|refine wS ?_ GE204.out|refine wS ?_ GE205.out|refine wS ?_ GE206.out|refine wS ?_ GE207.out)|exact HB.out) hb)
  clear BK204
  clear BK205
  clear BK206
  clear BK207
  clear HB
  have BK204 := n0_
  have BK205 := n1_
  have BK206 := n2_
  have BK207 := n3_
  have HB := n4_
  clear n0_ n1_ n2_ n3_ n4_
  (try clear hb)
  (try clear hb2)
  (try clear hk)
  (try clear hi)
  refine hK.out _ _ ⟨(blk_cell BK204.out 0).trans rfl, (blk_cell BK204.out 1).trans rfl, (blk_cell BK205.out 0).trans rfl, (blk_cell BK205.out 1).trans rfl, (blk_cell BK206.out 0).trans rfl, (blk_cell BK206.out 1).trans rfl, (blk_cell BK207.out 0).trans rfl, (blk_cell BK207.out 1).trans rfl⟩ (fun hHeld => ?_)
  clear hK K
  refine norm_ (a' := ?_) ?_ ?_
  rotate_left;{
 show Act.put _ (some 36) _ = _
 simp only [ap,sA,s0,s1,i64_w,i32_w]
 rfl}
  refine pure_ (i := 8) (N := some 37) (v := ?_) (a' := ?_) #[T,T,T,T,T,T,T,T,T,F,F,F,F,F,F,F,F,F,F,F,F,F,F] rfl rfl (any_of HT_.out (by kernel_rfl)) (fun _ _ _ h => h) (Or.inl ⟨by rfl, ?_⟩) ?_ ?_
  rotate_left;{
 intro w'
 go_simp
 with_reducible rfl}
  rotate_left;{
 simp only [ap,sA,s0,s1,i64_w,i32_w]
 rfl}
  refine pure_ (i := 9) (N := some 38) (v := ?_) (a' := ?_) #[T,T,T,T,T,T,T,T,T,T,F,F,F,F,F,F,F,F,F,F,F,F,F] rfl rfl (any_of HT_.out (by kernel_rfl)) (fun _ _ _ h => h) (Or.inl ⟨by rfl, ?_⟩) ?_ ?_
  rotate_left;{
 intro w'
 go_simp
 with_reducible rfl}
  rotate_left;{
 simp only [ap,sA,s0,s1,i64_w,i32_w]
 rfl}
  refine pure_ (i := 10) (N := some 39) (v := ?_) (a' := ?_) #[T,T,T,T,T,T,T,T,T,T,T,F,F,F,F,F,F,F,F,F,F,F,F] rfl rfl (any_of HT_.out (by kernel_rfl)) (fun _ _ _ h => h) (Or.inl ⟨by rfl, ?_⟩) ?_ ?_
  rotate_left;{
 intro w'
 go_simp
 with_reducible rfl}
  rotate_left;{
 simp only [ap,sA,s0,s1,i64_w,i32_w]
 rfl}
  refine pure_ (i := 11) (N := some 40) (v := undef) (a' := ?_) #[T,T,T,T,T,T,T,T,T,T,T,T,F,F,F,F,F,F,F,F,F,F,F] rfl rfl (any_of HT_.out (by kernel_rfl)) (fun _ _ _ h => h) (Or.inr ⟨by rfl, rfl⟩) ?_ ?_
  rotate_left;{
 simp only [ap,sA,s0,s1,i64_w,i32_w]
 rfl}
  refine pure_ (i := 12) (N := some 41) (v := undef) (a' := ?_) #[T,T,T,T,T,T,T,T,T,T,T,T,T,F,F,F,F,F,F,F,F,F,F] rfl rfl (any_of HT_.out (by kernel_rfl)) (fun _ _ _ h => h) (Or.inr ⟨by rfl, rfl⟩) ?_ ?_
  rotate_left;{
 simp only [ap,sA,s0,s1,i64_w,i32_w]
 rfl}
  refine pure_ (i := 13) (N := some 42) (v := undef) (a' := ?_) #[T,T,T,T,T,T,T,T,T,T,T,T,T,T,F,F,F,F,F,F,F,F,F] rfl rfl (any_of HT_.out (by kernel_rfl)) (fun _ _ _ h => h) (Or.inr ⟨by rfl, rfl⟩) ?_ ?_
  rotate_left;{
 simp only [ap,sA,s0,s1,i64_w,i32_w]
 rfl}
  refine pure_ (i := 14) (N := some 43) (v := undef) (a' := ?_) #[T,T,T,T,T,T,T,T,T,T,T,T,T,T,T,F,F,F,F,F,F,F,F] rfl rfl (any_of HT_.out (by kernel_rfl)) (fun _ _ _ h => h) (Or.inr ⟨by rfl, rfl⟩) ?_ ?_
  rotate_left;{
 simp only [ap,sA,s0,s1,i64_w,i32_w]
 rfl}
  refine pure_ (i := 15) (N := some 44) (v := undef) (a' := ?_) #[T,T,T,T,T,T,T,T,T,T,T,T,T,T,T,T,F,F,F,F,F,F,F] rfl rfl (any_of HT_.out (by kernel_rfl)) (fun _ _ _ h => h) (Or.inr ⟨by rfl, rfl⟩) ?_ ?_
  rotate_left;{
 simp only [ap,sA,s0,s1,i64_w,i32_w]
 rfl}
  refine pure_ (i := 16) (N := some 45) (v := undef) (a' := ?_) #[T,T,T,T,T,T,T,T,T,T,T,T,T,T,T,T,T,F,F,F,F,F,F] rfl rfl (any_of HT_.out (by kernel_rfl)) (fun _ _ _ h => h) (Or.inr ⟨by rfl, rfl⟩) ?_ ?_
  rotate_left;{
 simp only [ap,sA,s0,s1,i64_w,i32_w]
 rfl}
  refine pure_ (i := 17) (N := some 46) (v := undef) (a' := ?_) #[T,T,T,T,T,T,T,T,T,T,T,T,T,T,T,T,T,T,F,F,F,F,F] rfl rfl (any_of HT_.out (by kernel_rfl)) (fun _ _ _ h => h) (Or.inr ⟨by rfl, rfl⟩) ?_ ?_
  rotate_left;{
 simp only [ap,sA,s0,s1,i64_w,i32_w]
 rfl}
  refine pure_ (i := 18) (N := some 47) (v := undef) (a' := ?_) #[T,T,T,T,T,T,T,T,T,T,T,T,T,T,T,T,T,T,T,F,F,F,F] rfl rfl (any_of HT_.out (by kernel_rfl)) (fun _ _ _ h => h) (Or.inr ⟨by rfl, rfl⟩) ?_ ?_
  rotate_left;{
 simp only [ap,sA,s0,s1,i64_w,i32_w]
 rfl}
  refine pure_ (i := 19) (N := some 48) (v := undef) (a' := ?_) #[T,T,T,T,T,T,T,T,T,T,T,T,T,T,T,T,T,T,T,T,F,F,F] rfl rfl (any_of HT_.out (by kernel_rfl)) (fun _ _ _ h => h) (Or.inr ⟨by rfl, rfl⟩) ?_ ?_
  rotate_left;{
 simp only [ap,sA,s0,s1,i64_w,i32_w]
 rfl}
  refine pure_ (i := 20) (N := some 49) (v := undef) (a' := ?_) #[T,T,T,T,T,T,T,T,T,T,T,T,T,T,T,T,T,T,T,T,T,F,F] rfl rfl (any_of HT_.out (by kernel_rfl)) (fun _ _ _ h => h) (Or.inr ⟨by rfl, rfl⟩) ?_ ?_
  rotate_left;{
 simp only [ap,sA,s0,s1,i64_w,i32_w]
 rfl}
  refine pure_ (i := 21) (N := some 50) (v := ?_) (a' := ?_) #[T,T,T,T,T,T,T,T,T,T,T,T,T,T,T,T,T,T,T,T,T,T,F] rfl rfl (any_of HT_.out (by kernel_rfl)) (fun _ _ _ h => h) (Or.inl ⟨by rfl, ?_⟩) ?_ ?_
  rotate_left;{
 intro w'
 go_simp
 with_reducible rfl}
  rotate_left;{
 simp only [ap,sA,s0,s1,i64_w,i32_w]
 rfl}
  refine pure_ (i := 22) (N := some 8) (v := ?_) (a' := ?_) #[T,T,T,T,T,T,T,T,T,T,T,T,T,T,T,T,T,T,T,T,T,T,T] rfl rfl (any_of HT_.out (by kernel_rfl)) (fun _ _ _ h => h) (Or.inl ⟨by rfl, ?_⟩) ?_ ?_
  rotate_left;{
 intro w'
 go_simp
 with_reducible rfl}
  rotate_left;{
 simp only [ap,sA,s0,s1,i64_w,i32_w]
 rfl}
  refine done_ (done_of HT_.out (by kernel_rfl)) ?_
  try go_wp2
  go_ret
  exact ⟨by first | rfl | (simp [errW_none, errW_some] <;> rfl) | (simp [*, errW_none, errW_some] <;> rfl), by repeat (first | (with_reducible first | exact HB.out | apply below_alloc | apply pw_below_drewN | apply below_drew1 | refine below_set ?_ GE204.out | refine below_set ?_ GE205.out | refine below_set ?_ GE206.out | refine below_set ?_ GE207.out) | exact HB.out)⟩
end Go.Proofs.Ytieffjkplaajdaa.SW

