/- Of the text SWx30, what the row of ScreenReaches reaches. -/
import Derived.Test.YtieffjkplaajdaaZScreenReachesSWx0
import Derived.Test.YtieffjkplaajdaaZScreenReachesSWx2
import Derived.Test.YtieffjkplaajdaaZScreenReachesSWx13
import Derived.Test.YtieffjkplaajdaaZScreenReachesSWx28
import Derived.Test.YtieffjkplaajdaaZScreenReachesSWx29
namespace Go.Proofs.Ytieffjkplaajdaa.SW
open Go.RowKit Go.Proofs.YtieffjkplaajdaaW.PrintWords Go.Proofs.YtieffjkplaajdaaW.PrintLast Go.Proofs.YtieffjkplaajdaaW.PrintMore
open Go.Proofs.YtieffjkplaajdaaW.PrintWords renaming blk_drewN → bN, blk_drew → bD, blk_alloc → bA, below_alloc → wA, pw_below_drewN → wN, below_drew1 → wD, below_set → wS
open List renaming setIfInBounds_toArray → sA, set_cons_zero → s0, set_cons_succ → s1
open Act renaming put → ap
open Aside0 renaming mk → am
attribute [local go_sem] max2_int min2_int max_two min_two max_three min_three max_four min_four   -- for this text's walks alone
set_option linter.unusedVariables false
set_option linter.unusedSimpArgs false

def wigeonlaw02_ScreenReaches.j0 : Nat → List (S48) → Int → List (S25) → Bool → List (S25) → Int → Int → Int → Int → Int → Int → Int → Int → Option (Bool)
  | 0, _, _, _, _, _, _, _, _, _, _, _, _, _ => none
  | k + 1, x0, x2, x7, x48, x338000, x338001, x338002, x338003, x338004, x338005, x338006, x338007, x338008 => if x48 = true then (some false) else (if (x7.length : Int) = 0 then ((wigeonlaw02_known.f k).bind fun t349 => (some t349)) else (if (IntKind.u64.wrap ((x7.length : Int))) = 0 then (none) else (if 0 ≤ (wrap64 (Int.tmod (IntKind.u64.wrap (x2)) (IntKind.u64.wrap ((x7.length : Int))))) then (if (wrap64 (Int.tmod (IntKind.u64.wrap (x2)) (IntKind.u64.wrap ((x7.length : Int))))) < (x7.length : Int) then ((screen_Reach.f k x0 x338000 x338001 x338002 x338003 x338004 ((rd_T25 x7 (wrap64 (Int.tmod (IntKind.u64.wrap (x2)) (IntKind.u64.wrap ((x7.length : Int)))))).f0) ((rd_T25 x7 (wrap64 (Int.tmod (IntKind.u64.wrap (x2)) (IntKind.u64.wrap ((x7.length : Int)))))).f1)).bind fun bt351 => (if bt351.2 = 0 then ((wigeonref02_SamePoints.f k bt351.1 x7).bind fun t355 => (if t355 = true then ((wigeonlaw02_known.f k).bind fun t356 => (some t356)) else (some false))) else (some false))) else (none)) else (none))))
def wigeonlaw02_ScreenReaches.f (k : Nat) (l0 : List (S48)) (l1_0 : List (S25)) (a1_1 : Int) (a1_2 : Int) (a1_3 : Int) (a1_4 : Int) (a1_5 : Int) (a1_6 : Int) (a1_7 : Int) (a1_8 : Int) (a2 : Int) : Option (Bool) := (wigeonlaw02_Long.f l0 l1_0).bind fun t338 => (if t338 = true then ((wigeonlaw02_known.f k).bind fun t339 => (some t339)) else ((screen_Reach.f k l0 l1_0 a1_1 a1_2 a1_3 a1_4 a1_5 a1_6).bind fun bt340 => ((wigeonref02_Reach.f k l0 l1_0 a1_1 a1_2 a1_3 a1_4 a1_5 a1_6).bind fun bt344 => (if bt340.2 = bt344.2 then ((wigeonref02_SamePoints.f k bt340.1 bt344.1).bind fun t348 => (wigeonlaw02_ScreenReaches.j0 k l0 a2 bt340.1 (!t348) l1_0 a1_1 a1_2 a1_3 a1_4 a1_5 a1_6 a1_7 a1_8)) else (wigeonlaw02_ScreenReaches.j0 k l0 a2 bt340.1 true l1_0 a1_1 a1_2 a1_3 a1_4 a1_5 a1_6 a1_7 a1_8)))))
def wigeonlaw02_ScreenReaches.T9 : Bool × List (List Nat × List Nat) := (true, [([], []), ([], []), ([1], [1]), ([], []), ([3], [3]), ([], []), ([], []), ([6], [6]), ([], []), ([8], [8]), ([9], [9]), ([7, 10], [7, 10]), ([11], [11]), ([5, 12], [5, 12]), ([13], [13]), ([0, 2, 4, 14], [0, 2, 4, 14]), ([15], [15]), ([16], [16]), ([16], [16]), ([17, 15, 0, 1, 2, 3, 4, 5, 6, 7, 8, 9, 10, 11, 12, 13, 14, 15, 16, 17], [17]), ([18, 19, 0, 1, 2, 3, 4, 5, 6, 7, 8, 9, 10, 11, 12, 13, 14, 15, 16, 17, 18, 19], [18])])
def wigeonlaw02_ScreenReaches.B9 : List Nat := [0, 0, 2, 0, 8, 0, 0, 64, 0, 256, 768, 1984, 4032, 8160, 16352, 32767, 65535, 131071, 131071, 262143, 1048575]
theorem wigeonlaw02_ScreenReaches.tab9 : rtab .any (opsOf Try.f4 9) = wigeonlaw02_ScreenReaches.T9 := by kernel_rfl
theorem wigeonlaw02_ScreenReaches.bits9 : waitsOk wigeonlaw02_ScreenReaches.T9.2 wigeonlaw02_ScreenReaches.B9 = true := by kernel_rfl
open Bool renaming true → T, false → F
set_option maxHeartbeats 8000000 in
set_option maxRecDepth 100000 in
theorem wigeonlaw02_ScreenReaches.calls (k : Nat) (A0 : Option Addr) (c0 : Nat) (l0 : List (S48)) (A1_0 : Option Addr) (c1_0 : Nat) (l1_0 : List (S25)) (a1_1 : Int) (a1_2 : Int) (a1_3 : Int) (a1_4 : Int) (a1_5 : Int) (a1_6 : Int) (a1_7 : Int) (a1_8 : Int) (a2 : Int) (r : Bool) (w : World) (hr0 : Kd.C k48 w A0 l0.length l0) (hc0 : l0.length ≤ c0) (hr1_0 : Kd.C k25 w A1_0 l1_0.length l1_0) (hc1_0 : l1_0.length ≤ c1_0) (h : wigeonlaw02_ScreenReaches.f k l0 l1_0 a1_1 a1_2 a1_3 a1_4 a1_5 a1_6 a1_7 a1_8 a2 = some r) :
 Calls Try.prog 4 #[.slice A0 l0.length c0, .agg #[.slice A1_0 l1_0.length c1_0, .int .i64 a1_1, .int .i64 a1_2, .int .i64 a1_3, .int .i64 a1_4, .int .i64 a1_5, .int .i64 a1_6, .int .i64 a1_7, .int .i64 a1_8], .int .i64 a2] w fun e w' => e = .returned (.bool r) ∧ Below w.heap.size w w' := by
 have hu29 := Try.underlying29
 have hu27 := Try.underlying27
 have hu25 := Try.underlying25
 have HR0 := am hr0
 have HC0 := am hc0
 clear hr0 hc0
 have HR1_0 := am hr1_0
 have HC1_0 := am hc1_0
 clear hr1_0 hc1_0
 have HB := am (Below.refl w.heap.size w)
 have H : ((wigeonlaw02_Long.f l0 l1_0).bind fun t338 => (if t338 = true then ((wigeonlaw02_known.f k).bind fun t339 => (some t339)) else ((screen_Reach.f k l0 l1_0 a1_1 a1_2 a1_3 a1_4 a1_5 a1_6).bind fun bt340 => ((wigeonref02_Reach.f k l0 l1_0 a1_1 a1_2 a1_3 a1_4 a1_5 a1_6).bind fun bt344 => (if bt340.2 = bt344.2 then ((wigeonref02_SamePoints.f k bt340.1 bt344.1).bind fun t348 => (wigeonlaw02_ScreenReaches.j0 k l0 a2 bt340.1 (!t348) l1_0 a1_1 a1_2 a1_3 a1_4 a1_5 a1_6 a1_7 a1_8)) else (wigeonlaw02_ScreenReaches.j0 k l0 a2 bt340.1 true l1_0 a1_1 a1_2 a1_3 a1_4 a1_5 a1_6 a1_7 a1_8)))))) = some r := h
 clear h
 replace H := Option.bind_eq_some_iff.mp H
 obtain ⟨t338, A40, H⟩ := H
 replace H : (if t338 = true then ((wigeonlaw02_known.f k).bind fun t339 => (some t339)) else ((screen_Reach.f k l0 l1_0 a1_1 a1_2 a1_3 a1_4 a1_5 a1_6).bind fun bt340 => ((wigeonref02_Reach.f k l0 l1_0 a1_1 a1_2 a1_3 a1_4 a1_5 a1_6).bind fun bt344 => (if bt340.2 = bt344.2 then ((wigeonref02_SamePoints.f k bt340.1 bt344.1).bind fun t348 => (wigeonlaw02_ScreenReaches.j0 k l0 a2 bt340.1 (!t348) l1_0 a1_1 a1_2 a1_3 a1_4 a1_5 a1_6 a1_7 a1_8)) else (wigeonlaw02_ScreenReaches.j0 k l0 a2 bt340.1 true l1_0 a1_1 a1_2 a1_3 a1_4 a1_5 a1_6 a1_7 a1_8))))) = some r := H
 have A4 := am A40
 clear A40
 by_cases c5 : t338 = true
 {
 subst c5
 have H1 : ((wigeonlaw02_known.f k).bind fun t339 => (some t339)) = some r := by rw [if_pos rfl] at H; exact H
 clear H
 have H := H1
 clear H1
 replace H := Option.bind_eq_some_iff.mp H
 obtain ⟨t339, A60, H⟩ := H
 replace H : (some t339) = some r := H
 have A6 := am A60
 clear A60
 obtain rfl := Option.some.inj H
 go_enter Try.func4, Try.ntmps4
 go_wp2_with (first | ((with_reducible refine gate_dst (N := 4) rfl ?_); refine box_event ?hg (N := 4) ?hd (cs := #[.slice A1_0 l1_0.length c1_0, .int .i64 a1_1, .int .i64 a1_2, .int .i64 a1_3, .int .i64 a1_4, .int .i64 a1_5, .int .i64 a1_6, .int .i64 a1_7, .int .i64 a1_8]) (t := 29) ?hr ?_; (case hd => rfl); (case hg => rfl); (case hr => first | (go_simp; done) | (go_simp; rfl)); intro gb337 hg w7 hbox hb; have n0_ := am (below_step (by repeat first|(with_reducible first|exact HB.out|apply wA|apply wN|apply wD)|exact HB.out) hb); have n1_ := am (hbox); have n2_ := am ((by rw [hg]; exact (below_size (by repeat first|(with_reducible first|exact HB.out|apply wA|apply wN|apply wD)|exact HB.out)) : w.heap.size ≤ gb337)); have n3_ := am ((by rw [hg]; exact (below_size (by repeat first|(with_reducible first|exact HB.out|apply wA|apply wN|apply wD)|exact HB.out)) : w.heap.size ≤ gb337)); clear HB; have HB := n0_; have BK337 := n1_; have GW337 := n2_; have GE337 := n3_; clear n0_ n1_ n2_ n3_; clear hb hbox hg; have hcz8_0 : w7.cell? ⟨gb337, 0, none⟩ = some (.slice A1_0 l1_0.length c1_0) := (blk_cell BK337.out 0).trans rfl; have hcz8_1 : w7.cell? ⟨gb337, 1, none⟩ = some (.int .i64 a1_1) := (blk_cell BK337.out 1).trans rfl; have hcz8_2 : w7.cell? ⟨gb337, 2, none⟩ = some (.int .i64 a1_2) := (blk_cell BK337.out 2).trans rfl; have hcz8_3 : w7.cell? ⟨gb337, 3, none⟩ = some (.int .i64 a1_3) := (blk_cell BK337.out 3).trans rfl; have hcz8_4 : w7.cell? ⟨gb337, 4, none⟩ = some (.int .i64 a1_4) := (blk_cell BK337.out 4).trans rfl; have hcz8_5 : w7.cell? ⟨gb337, 5, none⟩ = some (.int .i64 a1_5) := (blk_cell BK337.out 5).trans rfl; have hcz8_6 : w7.cell? ⟨gb337, 6, none⟩ = some (.int .i64 a1_6) := (blk_cell BK337.out 6).trans rfl; have hcz8_7 : w7.cell? ⟨gb337, 7, none⟩ = some (.int .i64 a1_7) := (blk_cell BK337.out 7).trans rfl; have hcz8_8 : w7.cell? ⟨gb337, 8, none⟩ = some (.int .i64 a1_8) := (blk_cell BK337.out 8).trans rfl; have hfz8_0 := blk_frozen BK337.out 0; have hfz8_1 := blk_frozen BK337.out 1; have hfz8_2 := blk_frozen BK337.out 2; have hfz8_3 := blk_frozen BK337.out 3; have hfz8_4 := blk_frozen BK337.out 4; have hfz8_5 := blk_frozen BK337.out 5; have hfz8_6 := blk_frozen BK337.out 6; have hfz8_7 := blk_frozen BK337.out 7; have hfz8_8 := blk_frozen BK337.out 8) | ((with_reducible refine gate_callee (f := 7) rfl ?_); refine goesL_ (some 16) rfl rfl Try.func7 (by kernel_rfl) rfl #[.slice A0 l0.length c0, .slice A1_0 l1_0.length c1_0] rfl (by (try simp only [List.map_toArray, List.map_cons, List.map_nil]); first | done | rfl | (simp only [List.length_drop, List.length_take]; rfl)) ?_; (with_reducible refine (wigeonlaw02_Long.calls _ _ l0 _ _ l1_0 true _ ?side1 ?side2 ?side3 ?side4 A4.out).mono ?_); (case side1 => repeat (first | exact (Kd.C_below HR0.out HB.out) | (with_reducible refine Kd.C_alloc ?_ _) | (with_reducible refine Kd.C_drewN ?_ _) | (with_reducible refine Kd.C_drew ?_))); (case side2 => exact HC0.out); (case side3 => repeat (first | exact (Kd.C_below HR1_0.out HB.out) | (with_reducible refine Kd.C_alloc ?_ _) | (with_reducible refine Kd.C_drewN ?_ _) | (with_reducible refine Kd.C_drew ?_))); (case side4 => exact HC1_0.out); rintro e w' ⟨rfl, ⟨nd, rfl⟩⟩; refine ⟨_, rfl, ?_⟩) | ((with_reducible refine gate_callee (f := 8) rfl ?_); refine goesL_ (some 17) rfl rfl Try.func8 (by kernel_rfl) rfl #[] rfl (by (try simp only [List.map_toArray, List.map_cons, List.map_nil]); first | done | rfl | (simp only [List.length_drop, List.length_take]; rfl)) ?_; (with_reducible refine (wigeonlaw02_known.calls k  t339 _ A6.out).mono ?_); rintro e w9 ⟨rfl, hb⟩; refine ⟨_, rfl, ?_⟩; have n0_ := am (blk_below (by (with_reducible repeat first|refine bN ?_ _|refine bD ?_|refine bA ?_ _);exact BK337.out) hb); have n1_ := am (below_step (by repeat first|(with_reducible first|exact HB.out|apply wA|apply wN|apply wD|refine wS ?_ GE337.out)|exact HB.out) hb); clear BK337; clear HB; have BK337 := n0_; have HB := n1_; clear n0_ n1_; (try clear hb); (try clear hb2); (try clear hk); (try clear hi)))
 go_ret
 exact ⟨by first | rfl | (simp [errW_none, errW_some] <;> rfl) | (simp [*, errW_none, errW_some] <;> rfl), by repeat (first | (with_reducible first | exact HB.out | apply below_alloc | apply pw_below_drewN | apply below_drew1 | refine below_set ?_ GE337.out) | exact HB.out)⟩}
 replace c5 := Bool.eq_false_iff.mpr c5
 subst c5
 have H1 : ((screen_Reach.f k l0 l1_0 a1_1 a1_2 a1_3 a1_4 a1_5 a1_6).bind fun bt340 => ((wigeonref02_Reach.f k l0 l1_0 a1_1 a1_2 a1_3 a1_4 a1_5 a1_6).bind fun bt344 => (if bt340.2 = bt344.2 then ((wigeonref02_SamePoints.f k bt340.1 bt344.1).bind fun t348 => (wigeonlaw02_ScreenReaches.j0 k l0 a2 bt340.1 (!t348) l1_0 a1_1 a1_2 a1_3 a1_4 a1_5 a1_6 a1_7 a1_8)) else (wigeonlaw02_ScreenReaches.j0 k l0 a2 bt340.1 true l1_0 a1_1 a1_2 a1_3 a1_4 a1_5 a1_6 a1_7 a1_8)))) = some r := by rw [if_neg (show ¬ (false = true) by decide)] at H; exact H
 clear H
 have H := H1
 clear H1
 replace H := Option.bind_eq_some_iff.mp H
 obtain ⟨⟨t340, t343⟩, A100, H⟩ := H
 replace H : ((wigeonref02_Reach.f k l0 l1_0 a1_1 a1_2 a1_3 a1_4 a1_5 a1_6).bind fun bt344 => (if t343 = bt344.2 then ((wigeonref02_SamePoints.f k t340 bt344.1).bind fun t348 => (wigeonlaw02_ScreenReaches.j0 k l0 a2 t340 (!t348) l1_0 a1_1 a1_2 a1_3 a1_4 a1_5 a1_6 a1_7 a1_8)) else (wigeonlaw02_ScreenReaches.j0 k l0 a2 t340 true l1_0 a1_1 a1_2 a1_3 a1_4 a1_5 a1_6 a1_7 a1_8))) = some r := H
 have A10 := am A100
 clear A100
 replace H := Option.bind_eq_some_iff.mp H
 obtain ⟨⟨t344, t347⟩, A110, H⟩ := H
 replace H : (if t343 = t347 then ((wigeonref02_SamePoints.f k t340 t344).bind fun t348 => (wigeonlaw02_ScreenReaches.j0 k l0 a2 t340 (!t348) l1_0 a1_1 a1_2 a1_3 a1_4 a1_5 a1_6 a1_7 a1_8)) else (wigeonlaw02_ScreenReaches.j0 k l0 a2 t340 true l1_0 a1_1 a1_2 a1_3 a1_4 a1_5 a1_6 a1_7 a1_8)) = some r := H
 have A11 := am A110
 clear A110
 have HC12 := am H
 clear H
 go_enter Try.func4, Try.ntmps4
 go_upto_region 5 with (first | ((with_reducible refine gate_dst (N := 4) rfl ?_); refine box_event ?hg (N := 4) ?hd (cs := #[.slice A1_0 l1_0.length c1_0, .int .i64 a1_1, .int .i64 a1_2, .int .i64 a1_3, .int .i64 a1_4, .int .i64 a1_5, .int .i64 a1_6, .int .i64 a1_7, .int .i64 a1_8]) (t := 29) ?hr ?_; (case hd => rfl); (case hg => rfl); (case hr => first | (go_simp; done) | (go_simp; rfl)); intro gb337 hg w13 hbox hb; have n0_ := am (below_step (by repeat first|(with_reducible first|exact HB.out|apply wA|apply wN|apply wD)|exact HB.out) hb); have n1_ := am (hbox); have n2_ := am ((by rw [hg]; exact (below_size (by repeat first|(with_reducible first|exact HB.out|apply wA|apply wN|apply wD)|exact HB.out)) : w.heap.size ≤ gb337)); have n3_ := am ((by rw [hg]; exact (below_size (by repeat first|(with_reducible first|exact HB.out|apply wA|apply wN|apply wD)|exact HB.out)) : w.heap.size ≤ gb337)); clear HB; have HB := n0_; have BK337 := n1_; have GW337 := n2_; have GE337 := n3_; clear n0_ n1_ n2_ n3_; clear hb hbox hg; have hcz14_0 : w13.cell? ⟨gb337, 0, none⟩ = some (.slice A1_0 l1_0.length c1_0) := (blk_cell BK337.out 0).trans rfl; have hcz14_1 : w13.cell? ⟨gb337, 1, none⟩ = some (.int .i64 a1_1) := (blk_cell BK337.out 1).trans rfl; have hcz14_2 : w13.cell? ⟨gb337, 2, none⟩ = some (.int .i64 a1_2) := (blk_cell BK337.out 2).trans rfl; have hcz14_3 : w13.cell? ⟨gb337, 3, none⟩ = some (.int .i64 a1_3) := (blk_cell BK337.out 3).trans rfl; have hcz14_4 : w13.cell? ⟨gb337, 4, none⟩ = some (.int .i64 a1_4) := (blk_cell BK337.out 4).trans rfl; have hcz14_5 : w13.cell? ⟨gb337, 5, none⟩ = some (.int .i64 a1_5) := (blk_cell BK337.out 5).trans rfl; have hcz14_6 : w13.cell? ⟨gb337, 6, none⟩ = some (.int .i64 a1_6) := (blk_cell BK337.out 6).trans rfl; have hcz14_7 : w13.cell? ⟨gb337, 7, none⟩ = some (.int .i64 a1_7) := (blk_cell BK337.out 7).trans rfl; have hcz14_8 : w13.cell? ⟨gb337, 8, none⟩ = some (.int .i64 a1_8) := (blk_cell BK337.out 8).trans rfl; have hfz14_0 := blk_frozen BK337.out 0; have hfz14_1 := blk_frozen BK337.out 1; have hfz14_2 := blk_frozen BK337.out 2; have hfz14_3 := blk_frozen BK337.out 3; have hfz14_4 := blk_frozen BK337.out 4; have hfz14_5 := blk_frozen BK337.out 5; have hfz14_6 := blk_frozen BK337.out 6; have hfz14_7 := blk_frozen BK337.out 7; have hfz14_8 := blk_frozen BK337.out 8) | ((with_reducible refine gate_callee (f := 7) rfl ?_); refine goesL_ (some 16) rfl rfl Try.func7 (by kernel_rfl) rfl #[.slice A0 l0.length c0, .slice A1_0 l1_0.length c1_0] rfl (by (try simp only [List.map_toArray, List.map_cons, List.map_nil]); first | done | rfl | (simp only [List.length_drop, List.length_take]; rfl)) ?_; (with_reducible refine (wigeonlaw02_Long.calls _ _ l0 _ _ l1_0 false _ ?side1 ?side2 ?side3 ?side4 A4.out).mono ?_); (case side1 => repeat (first | exact (Kd.C_below HR0.out HB.out) | (with_reducible refine Kd.C_alloc ?_ _) | (with_reducible refine Kd.C_drewN ?_ _) | (with_reducible refine Kd.C_drew ?_))); (case side2 => exact HC0.out); (case side3 => repeat (first | exact (Kd.C_below HR1_0.out HB.out) | (with_reducible refine Kd.C_alloc ?_ _) | (with_reducible refine Kd.C_drewN ?_ _) | (with_reducible refine Kd.C_drew ?_))); (case side4 => exact HC1_0.out); rintro e w' ⟨rfl, ⟨nd, rfl⟩⟩; refine ⟨_, rfl, ?_⟩) | ((with_reducible refine gate_callee (f := 12) rfl ?_); refine goesL_ (some 26) rfl rfl Try.func12 (by kernel_rfl) rfl #[.slice A0 l0.length c0, .slice A1_0 l1_0.length c1_0, .agg #[.int .i64 a1_1, .int .i64 a1_2, .int .i64 a1_3, .int .i64 a1_4], .agg #[.int .i64 a1_5, .int .i64 a1_6]] rfl (by (try simp only [List.map_toArray, List.map_cons, List.map_nil]); first | done | rfl | (simp only [List.length_drop, List.length_take]; rfl)) ?_; (with_reducible refine (screen_Reach.calls k _ _ l0 _ _ l1_0 a1_1 a1_2 a1_3 a1_4 a1_5 a1_6 t340 t343 _ ?side1 ?side2 ?side3 ?side4 A10.out).mono ?_); (case side1 => repeat (first | exact (Kd.C_below HR0.out (by repeat first|(with_reducible first|exact HB.out|apply wA|apply wN|apply wD|refine wS ?_ GE337.out)|exact HB.out)) | (with_reducible refine Kd.C_alloc ?_ _) | (with_reducible refine Kd.C_drewN ?_ _) | (with_reducible refine Kd.C_drew ?_))); (case side2 => exact HC0.out); (case side3 => repeat (first | exact (Kd.C_below HR1_0.out (by repeat first|(with_reducible first|exact HB.out|apply wA|apply wN|apply wD|refine wS ?_ GE337.out)|exact HB.out)) | (with_reducible refine Kd.C_alloc ?_ _) | (with_reducible refine Kd.C_drewN ?_ _) | (with_reducible refine Kd.C_drew ?_))); (case side4 => exact HC1_0.out); rintro e w15 ⟨v341, rfl, ho0, hb⟩; refine ⟨_, rfl, ?_⟩; have n0_ := am (Kd.R_lower ho0 (below_size (by repeat first|(with_reducible first|exact HB.out|apply wA|apply wN|apply wD|refine wS ?_ GE337.out)|exact HB.out))); have n1_ := am (blk_below (by (with_reducible repeat first|refine bN ?_ _|refine bD ?_|refine bA ?_ _);exact BK337.out) hb); have n2_ := am (below_step (by repeat first|(with_reducible first|exact HB.out|apply wA|apply wN|apply wD|refine wS ?_ GE337.out)|exact HB.out) hb); clear BK337; clear HB; have HO342 := n0_; have BK337 := n1_; have HB := n2_; clear n0_ n1_ n2_; (try clear hb); (try clear hb2); (try clear hk); (try clear hi); (try clear ho0); have hcz16_0 : w15.cell? ⟨gb337, 0, none⟩ = some (.slice A1_0 l1_0.length c1_0) := (blk_cell BK337.out 0).trans rfl; have hcz16_1 : w15.cell? ⟨gb337, 1, none⟩ = some (.int .i64 a1_1) := (blk_cell BK337.out 1).trans rfl; have hcz16_2 : w15.cell? ⟨gb337, 2, none⟩ = some (.int .i64 a1_2) := (blk_cell BK337.out 2).trans rfl; have hcz16_3 : w15.cell? ⟨gb337, 3, none⟩ = some (.int .i64 a1_3) := (blk_cell BK337.out 3).trans rfl; have hcz16_4 : w15.cell? ⟨gb337, 4, none⟩ = some (.int .i64 a1_4) := (blk_cell BK337.out 4).trans rfl; have hcz16_5 : w15.cell? ⟨gb337, 5, none⟩ = some (.int .i64 a1_5) := (blk_cell BK337.out 5).trans rfl; have hcz16_6 : w15.cell? ⟨gb337, 6, none⟩ = some (.int .i64 a1_6) := (blk_cell BK337.out 6).trans rfl; have hcz16_7 : w15.cell? ⟨gb337, 7, none⟩ = some (.int .i64 a1_7) := (blk_cell BK337.out 7).trans rfl; have hcz16_8 : w15.cell? ⟨gb337, 8, none⟩ = some (.int .i64 a1_8) := (blk_cell BK337.out 8).trans rfl; have hfz16_0 := blk_frozen BK337.out 0; have hfz16_1 := blk_frozen BK337.out 1; have hfz16_2 := blk_frozen BK337.out 2; have hfz16_3 := blk_frozen BK337.out 3; have hfz16_4 := blk_frozen BK337.out 4; have hfz16_5 := blk_frozen BK337.out 5; have hfz16_6 := blk_frozen BK337.out 6; have hfz16_7 := blk_frozen BK337.out 7; have hfz16_8 := blk_frozen BK337.out 8) | ((with_reducible refine gate_callee (f := 13) rfl ?_); refine goesL_ (some 37) rfl rfl Try.func13 (by kernel_rfl) rfl #[.slice A0 l0.length c0, .slice A1_0 l1_0.length c1_0, .agg #[.int .i64 a1_1, .int .i64 a1_2, .int .i64 a1_3, .int .i64 a1_4], .agg #[.int .i64 a1_5, .int .i64 a1_6]] rfl (by (try simp only [List.map_toArray, List.map_cons, List.map_nil]); first | done | rfl | (simp only [List.length_drop, List.length_take]; rfl)) ?_; (with_reducible refine (wigeonref02_Reach.calls k _ _ l0 _ _ l1_0 a1_1 a1_2 a1_3 a1_4 a1_5 a1_6 t344 t347 _ ?side1 ?side2 ?side3 ?side4 A11.out).mono ?_); (case side1 => repeat (first | exact (Kd.C_below HR0.out HB.out) | (with_reducible refine Kd.C_alloc ?_ _) | (with_reducible refine Kd.C_drewN ?_ _) | (with_reducible refine Kd.C_drew ?_))); (case side2 => exact HC0.out); (case side3 => repeat (first | exact (Kd.C_below HR1_0.out HB.out) | (with_reducible refine Kd.C_alloc ?_ _) | (with_reducible refine Kd.C_drewN ?_ _) | (with_reducible refine Kd.C_drew ?_))); (case side4 => exact HC1_0.out); rintro e w17 ⟨v345, rfl, ho0, hb⟩; refine ⟨_, rfl, ?_⟩; have n0_ := am (Kd.R_elder' (by (with_reducible repeat first|apply Kd.R_alloc|apply Kd.R_drewN|apply Kd.R_drew);exact HO342.out) (Kd.R_base ho0) hb); have n1_ := am (Kd.R_lower (Kd.R_new' ho0 (Kd.R_lt (by (with_reducible repeat first|apply Kd.R_alloc|apply Kd.R_drewN|apply Kd.R_drew);exact HO342.out))) (below_size (by repeat first|(with_reducible first|exact HB.out|apply wA|apply wN|apply wD|refine wS ?_ GE337.out)|exact HB.out))); have n2_ := am (blk_below (by (with_reducible repeat first|refine bN ?_ _|refine bD ?_|refine bA ?_ _);exact BK337.out) hb); have n3_ := am (below_step (by repeat first|(with_reducible first|exact HB.out|apply wA|apply wN|apply wD|refine wS ?_ GE337.out)|exact HB.out) hb); clear HO342; clear BK337; clear HB; have HO342 := n0_; have HO346 := n1_; have BK337 := n2_; have HB := n3_; clear n0_ n1_ n2_ n3_; (try clear hb); (try clear hb2); (try clear hk); (try clear hi); (try clear ho0)))
 (try simp only [Act.put, List.setIfInBounds_toArray, List.set_cons_zero, List.set_cons_succ])
 go_cut [48] (fun v48 wc => ∃ (kq : Nat) (x48_11 : Bool), v48 = .bool x48_11 ∧ Aside0 (wigeonlaw02_ScreenReaches.j0 kq l0 a2 t340 x48_11 l1_0 a1_1 a1_2 a1_3 a1_4 a1_5 a1_6 a1_7 a1_8 = some r) ∧ Aside0 (kq ≤ k) ∧ Aside0 (Kd.R k25 25 wc w.heap.size (fun _ => True) v341 t340) ∧ Aside0 (wc.heap[gb337]? = some (.cells #[(.slice A1_0 l1_0.length c1_0), .int .i64 a1_1, .int .i64 a1_2, .int .i64 a1_3, .int .i64 a1_4, .int .i64 a1_5, .int .i64 a1_6, .int .i64 a1_7, .int .i64 a1_8] 29 (0, 0))) ∧ Aside0 (Below w.heap.size w wc))
 case first =>(
 have H := HC12.out
 clear HC12
 by_cases c18 : t343 = t347
 {
 rw [if_pos c18] at H
 have c18b0 : (t343 == t347) = true := beq_iff_eq.mpr c18
 have c18b1 : (t343 != t347) = false := bne_eq_false_iff_eq.mpr c18
 clear c18
 (first | rw [c18b0] | (simp only [i64_w, i32_w]; rw [c18b0]) | skip)
 replace H := Option.bind_eq_some_iff.mp H
 obtain ⟨t348, A190, H⟩ := H
 replace H : (wigeonlaw02_ScreenReaches.j0 k l0 a2 t340 (!t348) l1_0 a1_1 a1_2 a1_3 a1_4 a1_5 a1_6 a1_7 a1_8) = some r := H
 have A19 := am A190
 clear A190
 have H' := am H
 clear H
 obtain ⟨Ao20, co20, eo20⟩ := Kd.R_slice HO342.out
 subst eo20
 obtain ⟨Ao21, co21, eo21⟩ := Kd.R_slice HO346.out
 subst eo21
 go_wp2_with (first | (go_at_call 14; (with_reducible refine (wigeonref02_SamePoints.calls k _ _ t340 _ _ t344 t348 _ ?side1 ?side2 ?side3 ?side4 A19.out).mono ?_); (case side1 => repeat (first | exact (Kd.R_reads' HO342.out).2.2 | (with_reducible refine Kd.C_alloc ?_ _) | (with_reducible refine Kd.C_drewN ?_ _) | (with_reducible refine Kd.C_drew ?_))); (case side2 => exact (Kd.R_reads' HO342.out).2.1); (case side3 => repeat (first | exact (Kd.R_reads' HO346.out).2.2 | (with_reducible refine Kd.C_alloc ?_ _) | (with_reducible refine Kd.C_drewN ?_ _) | (with_reducible refine Kd.C_drew ?_))); (case side4 => exact (Kd.R_reads' HO346.out).2.1); rintro e w' ⟨rfl, ⟨nd, rfl⟩⟩))
 go_meet
 case rel => exact ⟨_, (!t348), (by first | rfl | (simp; done) | (simp [*]; done)), H', ⟨by first | omega | exact Nat.le_refl _⟩, ⟨by (with_reducible repeat first|apply Kd.R_alloc|apply Kd.R_drewN|apply Kd.R_drew);exact Kd.R_mono HO342.out (fun _ hk => trivial)⟩, ⟨by (with_reducible repeat first|refine bN ?_ _|refine bD ?_|refine bA ?_ _);exact BK337.out⟩, ⟨by repeat (first | (with_reducible first | exact HB.out | apply below_alloc | apply pw_below_drewN | apply below_drew1 | refine below_set ?_ GE337.out) | exact HB.out)⟩⟩}
 rw [if_neg c18] at H
 have c18b0 : (t343 == t347) = false := beq_eq_false_iff_ne.mpr c18
 have c18b1 : (t343 != t347) = true := bne_iff_ne.mpr c18
 (first | rw [c18b0] | (simp only [i64_w, i32_w]; rw [c18b0]) | skip)
 have H' := am H
 clear H
 go_wp2
 go_meet
 case rel => exact ⟨_, (true), (by first | rfl | (simp; done) | (simp [*]; done)), H', ⟨by first | omega | exact Nat.le_refl _⟩, ⟨by (with_reducible repeat first|apply Kd.R_alloc|apply Kd.R_drewN|apply Kd.R_drew);exact Kd.R_mono HO342.out (fun _ hk => trivial)⟩, ⟨by (with_reducible repeat first|refine bN ?_ _|refine bD ?_|refine bA ?_ _);exact BK337.out⟩, ⟨by repeat (first | (with_reducible first | exact HB.out | apply below_alloc | apply pw_below_drewN | apply below_drew1 | refine below_set ?_ GE337.out) | exact HB.out)⟩⟩)
 clear HC12
 try clear c1; try clear p2; try clear c4; try clear c5; try clear c7; try clear c8; try clear c12; try clear c13; try clear c18; try clear c18b0; try clear c18b1; try clear hcz14_0; try clear hcz14_1; try clear hcz14_2; try clear hcz14_3; try clear hcz14_4; try clear hcz14_5; try clear hcz14_6; try clear hcz14_7; try clear hcz14_8; try clear hcz16_0; try clear hcz16_1; try clear hcz16_2; try clear hcz16_3; try clear hcz16_4; try clear hcz16_5; try clear hcz16_6; try clear hcz16_7; try clear hcz16_8; try clear hcz8_0; try clear hcz8_1; try clear hcz8_2; try clear hcz8_3; try clear hcz8_4; try clear hcz8_5; try clear hcz8_6; try clear hcz8_7; try clear hcz8_8; try clear hfz14_0; try clear hfz14_1; try clear hfz14_2; try clear hfz14_3; try clear hfz14_4; try clear hfz14_5; try clear hfz14_6; try clear hfz14_7; try clear hfz14_8; try clear hfz16_0; try clear hfz16_1; try clear hfz16_2; try clear hfz16_3; try clear hfz16_4; try clear hfz16_5; try clear hfz16_6; try clear hfz16_7; try clear hfz16_8; try clear hfz8_0; try clear hfz8_1; try clear hfz8_2; try clear hfz8_3; try clear hfz8_4; try clear hfz8_5; try clear hfz8_6; try clear hfz8_7; try clear hfz8_8
 obtain ⟨kq, x48_11, rfl, HA, HJ11, HO_7, BK337, HB⟩ := hcut
 cases kq with
 | zero => exact absurd HA.out (by simp [wigeonlaw02_ScreenReaches.j0])
 | succ kj11 =>
  have H := HA.out
  clear HA
  simp only [wigeonlaw02_ScreenReaches.j0] at H
  by_cases c22 : x48_11 = true
  {
 subst c22
 have H1 : (some false) = some r := by rw [if_pos rfl] at H; exact H
 clear H
 have H := H1
 clear H1
 obtain rfl := Option.some.inj H
 go_wp2
 go_ret
 exact ⟨by first | rfl | (simp [errW_none, errW_some] <;> rfl) | (simp [*, errW_none, errW_some] <;> rfl), by repeat (first | (with_reducible first | exact HB.out | apply below_alloc | apply pw_below_drewN | apply below_drew1 | refine below_set ?_ GE337.out) | exact HB.out)⟩}
  replace c22 := Bool.eq_false_iff.mpr c22
  subst c22
  have H1 : (if (t340.length : Int) = 0 then ((wigeonlaw02_known.f kj11).bind fun t349 => (some t349)) else (if (IntKind.u64.wrap ((t340.length : Int))) = 0 then (none) else (if 0 ≤ (wrap64 (Int.tmod (IntKind.u64.wrap (a2)) (IntKind.u64.wrap ((t340.length : Int))))) then (if (wrap64 (Int.tmod (IntKind.u64.wrap (a2)) (IntKind.u64.wrap ((t340.length : Int))))) < (t340.length : Int) then ((screen_Reach.f kj11 l0 l1_0 a1_1 a1_2 a1_3 a1_4 ((rd_T25 t340 (wrap64 (Int.tmod (IntKind.u64.wrap (a2)) (IntKind.u64.wrap ((t340.length : Int)))))).f0) ((rd_T25 t340 (wrap64 (Int.tmod (IntKind.u64.wrap (a2)) (IntKind.u64.wrap ((t340.length : Int)))))).f1)).bind fun bt351 => (if bt351.2 = 0 then ((wigeonref02_SamePoints.f kj11 bt351.1 t340).bind fun t355 => (if t355 = true then ((wigeonlaw02_known.f kj11).bind fun t356 => (some t356)) else (some false))) else (some false))) else (none)) else (none)))) = some r := by rw [if_neg (show ¬ (false = true) by decide)] at H; exact H
  clear H
  have H := H1
  clear H1
  by_cases c23 : (t340.length : Int) = 0
  {
 rw [if_pos c23] at H
 have c23b0 : ((t340.length : Int) == 0) = true := beq_iff_eq.mpr c23
 have c23b1 : ((t340.length : Int) != 0) = false := bne_eq_false_iff_eq.mpr c23
 clear c23
 replace H := Option.bind_eq_some_iff.mp H
 obtain ⟨t349, A240, H⟩ := H
 replace H : (some t349) = some r := H
 have A24 := am A240
 clear A240
 obtain rfl := Option.some.inj H
 obtain ⟨Ao25, co25, eo25⟩ := Kd.R_slice HO_7.out
 subst eo25
 go_wp2_with (first | ((with_reducible refine gate_callee (f := 8) rfl ?_); refine goesL_ (some 52) rfl rfl Try.func8 (by kernel_rfl) rfl #[] rfl (by (try simp only [List.map_toArray, List.map_cons, List.map_nil]); first | done | rfl | (simp only [List.length_drop, List.length_take]; rfl)) ?_; (with_reducible refine (wigeonlaw02_known.calls kj11  t349 _ A24.out).mono ?_); rintro e w26 ⟨rfl, hb⟩; refine ⟨_, rfl, ?_⟩; have n0_ := am (Kd.R_below (by (with_reducible repeat first|apply Kd.R_alloc|apply Kd.R_drewN|apply Kd.R_drew);exact HO_7.out) hb); have n1_ := am (blk_below (by (with_reducible repeat first|refine bN ?_ _|refine bD ?_|refine bA ?_ _);exact BK337.out) hb); have n2_ := am (below_step (by repeat first|(with_reducible first|exact HB.out|apply wA|apply wN|apply wD|refine wS ?_ GE337.out)|exact HB.out) hb); clear HO_7; clear BK337; clear HB; have HO_7 := n0_; have BK337 := n1_; have HB := n2_; clear n0_ n1_ n2_; (try clear hb); (try clear hb2); (try clear hk); (try clear hi)))
 go_ret
 exact ⟨by first | rfl | (simp [errW_none, errW_some] <;> rfl) | (simp [*, errW_none, errW_some] <;> rfl), by repeat (first | (with_reducible first | exact HB.out | apply below_alloc | apply pw_below_drewN | apply below_drew1 | refine below_set ?_ GE337.out) | exact HB.out)⟩}
  rw [if_neg c23] at H
  have c23b0 : ((t340.length : Int) == 0) = false := beq_eq_false_iff_ne.mpr c23
  have c23b1 : ((t340.length : Int) != 0) = true := bne_iff_ne.mpr c23
  have c23b2 : ¬ (t340 = []) := fun h_ => c23 (by rw [h_]; rfl)
  by_cases c27 : (IntKind.u64.wrap ((t340.length : Int))) = 0
  {
 rw [if_pos c27] at H
 exact absurd H (by simp)}
  rw [if_neg c27] at H
  have c27b0 : ((IntKind.u64.wrap ((t340.length : Int))) == 0) = false := beq_eq_false_iff_ne.mpr c27
  have c27b1 : ((IntKind.u64.wrap ((t340.length : Int))) != 0) = true := bne_iff_ne.mpr c27
  obtain ⟨ji28, hji28⟩ : ∃ j_ : Int, (wrap64 (Int.tmod (IntKind.u64.wrap (a2)) (IntKind.u64.wrap ((t340.length : Int))))) = j_ := ⟨_, rfl⟩
  replace H : (if 0 ≤ (ji28) then (if (ji28) < (t340.length : Int) then ((screen_Reach.f kj11 l0 l1_0 a1_1 a1_2 a1_3 a1_4 ((rd_T25 t340 (ji28)).f0) ((rd_T25 t340 (ji28)).f1)).bind fun bt351 => (if bt351.2 = 0 then ((wigeonref02_SamePoints.f kj11 bt351.1 t340).bind fun t355 => (if t355 = true then ((wigeonlaw02_known.f kj11).bind fun t356 => (some t356)) else (some false))) else (some false))) else (none)) else (none)) = some r := by first | (rw [hji28] at H; exact H) | (simp only [hji28] at H ⊢; exact H)
  have hji28w : (IntKind.i64.wrap (Int.tmod (IntKind.u64.wrap (a2)) (IntKind.u64.wrap ((t340.length : Int))))) = ji28 := (i64_w _).trans hji28
  by_cases c29 : 0 ≤ (ji28)
  {
 rw [if_pos c29] at H
 have c29b0 : decide (0 ≤ (ji28)) = true := decide_eq_true c29
 clear c29
 by_cases c30 : (ji28) < (t340.length : Int)
 {
 rw [if_pos c30] at H
 have c30b0 : decide ((ji28) < (t340.length : Int)) = true := decide_eq_true c30
 clear c30
 replace H := Option.bind_eq_some_iff.mp H
 obtain ⟨⟨t351, t354⟩, A310, H⟩ := H
 replace H : (if t354 = 0 then ((wigeonref02_SamePoints.f kj11 t351 t340).bind fun t355 => (if t355 = true then ((wigeonlaw02_known.f kj11).bind fun t356 => (some t356)) else (some false))) else (some false)) = some r := H
 have A31 := am A310
 clear A310
 by_cases c32 : t354 = 0
 {
 rw [if_pos c32] at H
 have c32b0 : (t354 == 0) = true := beq_iff_eq.mpr c32
 have c32b1 : (t354 != 0) = false := bne_eq_false_iff_eq.mpr c32
 clear c32
 replace H := Option.bind_eq_some_iff.mp H
 obtain ⟨t355, A330, H⟩ := H
 replace H : (if t355 = true then ((wigeonlaw02_known.f kj11).bind fun t356 => (some t356)) else (some false)) = some r := H
 have A33 := am A330
 clear A330
 by_cases c34 : t355 = true
 {
 subst c34
 have H1 : ((wigeonlaw02_known.f kj11).bind fun t356 => (some t356)) = some r := by rw [if_pos rfl] at H; exact H
 clear H
 have H := H1
 clear H1
 replace H := Option.bind_eq_some_iff.mp H
 obtain ⟨t356, A350, H⟩ := H
 replace H : (some t356) = some r := H
 have A35 := am A350
 clear A350
 obtain rfl := Option.some.inj H
 obtain ⟨Ao36, co36, eo36⟩ := Kd.R_slice HO_7.out
 subst eo36
 try go_wp2
 have n0_ := am (Kd.R_drew HO_7.out)
 have n1_ := am (blk_drew BK337.out)
 have n2_ := am (below_drew1 HB.out)
 clear HO_7
 clear BK337
 clear HB
 have HO_7 := n0_
 have BK337 := n1_
 have HB := n2_
 clear n0_ n1_ n2_
 have p350 : 0 ≤ ((ji28) : Int) := of_decide_eq_true (by first | (with_reducible assumption) | assumption)
 have q350 : (ji28) < (t340.length : Int) := of_decide_eq_true (by first | (with_reducible assumption) | assumption)
 obtain ⟨ad350, e350, hx350_0, hx350_1⟩ := at_T25 (Kd.R_reads' HO_7.out).2.2 (ji28) p350 q350
 cases e350
 replace p350 := eq_true p350
 replace q350 := eq_true q350
 refine start_ (n := 21) (S := fun w' => w'.cell? ⟨gb337, 0, none⟩ = some (.slice A1_0 l1_0.length c1_0) ∧ w'.cell? ⟨gb337, 1, none⟩ = some (.int .i64 a1_1) ∧ w'.cell? ⟨gb337, 2, none⟩ = some (.int .i64 a1_2) ∧ w'.cell? ⟨gb337, 3, none⟩ = some (.int .i64 a1_3) ∧ w'.cell? ⟨gb337, 4, none⟩ = some (.int .i64 a1_4) ∧ w'.cell? ⟨gb337, 5, none⟩ = some (.int .i64 a1_5) ∧ w'.cell? ⟨gb337, 6, none⟩ = some (.int .i64 a1_6) ∧ w'.cell? ⟨gb337, 7, none⟩ = some (.int .i64 a1_7) ∧ w'.cell? ⟨gb337, 8, none⟩ = some (.int .i64 a1_8) ∧ w'.cell? (ad350.add (((ji28)).toNat * 2)) = some (.int .i64 ((rd_T25 t340 (ji28)).f0)) ∧ w'.cell? ⟨(ad350.add (((ji28)).toNat * 2)).block, (ad350.add (((ji28)).toNat * 2)).off + 1, none⟩ = some (.int .i64 ((rd_T25 t340 (ji28)).f1))) (ds := []) #[F,F,F,F,F,F,F,F,F,F,F,F,F,F,F,F,F,F,F,F,F] (by kernel_rfl) rfl rfl ⟨(blk_cell BK337.out 0).trans rfl, (blk_cell BK337.out 1).trans rfl, (blk_cell BK337.out 2).trans rfl, (blk_cell BK337.out 3).trans rfl, (blk_cell BK337.out 4).trans rfl, (blk_cell BK337.out 5).trans rfl, (blk_cell BK337.out 6).trans rfl, (blk_cell BK337.out 7).trans rfl, (blk_cell BK337.out 8).trans rfl, hx350_0, hx350_1⟩ (fun hHeld => ?_); refine with_tabW wigeonlaw02_ScreenReaches.tab9 wigeonlaw02_ScreenReaches.bits9 (fun HT_ HW_ => ?_)
 generalize wc.drew = w37 at HO_7 BK337 HB hx350_0 hx350_1 hHeld ⊢
 refine pure_ (i := 0) (N := some 54) (v := ?_) (a' := ?_) #[T,F,F,F,F,F,F,F,F,F,F,F,F,F,F,F,F,F,F,F,F] rfl rfl (any_of HT_.out (by kernel_rfl)) (fun _ _ _ h => h) (Or.inl ⟨by rfl, ?_⟩) ?_ ?_
 rotate_left;{
 intro w'
 go_simp
 with_reducible rfl}
 rotate_left;{
 simp only [ap,sA,s0,s1,i64_w,i32_w]
 rfl}
 refine pure_ (i := 1) (N := some 55) (v := ?_) (a' := ?_) #[T,T,F,F,F,F,F,F,F,F,F,F,F,F,F,F,F,F,F,F,F] rfl rfl (any_of HT_.out (by kernel_rfl)) (fun _ _ _ h => h) (Or.inl ⟨by rfl, ?_⟩) ?_ ?_
 rotate_left;{
 intro w'
 go_simp
 with_reducible rfl}
 rotate_left;{
 simp only [ap,sA,s0,s1,i64_w,i32_w]
 rfl}
 refine pure_ (i := 3) (N := some 57) (v := ?_) (a' := ?_) #[T,T,F,T,F,F,F,F,F,F,F,F,F,F,F,F,F,F,F,F,F] rfl rfl (any_of HT_.out (by kernel_rfl)) (fun _ _ _ h => h) (Or.inl ⟨by rfl, ?_⟩) ?_ ?_
 rotate_left;{
 intro w'
 go_simp
 with_reducible rfl}
 rotate_left;{
 simp only [ap,sA,s0,s1,i64_w,i32_w]
 rfl}
 refine pure_ (i := 5) (N := some 59) (v := ?_) (a' := ?_) #[T,T,F,T,F,T,F,F,F,F,F,F,F,F,F,F,F,F,F,F,F] rfl rfl (any_of HT_.out (by kernel_rfl)) (fun _ _ _ h => h) (Or.inl ⟨by rfl, ?_⟩) ?_ ?_
 rotate_left;{
 intro w'
 go_simp
 with_reducible rfl}
 rotate_left;{
 simp only [ap,sA,s0,s1,i64_w,i32_w]
 rfl}
 refine pure_ (i := 6) (N := some 60) (v := ?_) (a' := ?_) #[T,T,F,T,F,T,T,F,F,F,F,F,F,F,F,F,F,F,F,F,F] rfl rfl (any_of HT_.out (by kernel_rfl)) (fun _ _ _ h => h) (Or.inl ⟨by rfl, ?_⟩) ?_ ?_
 rotate_left;{
 intro w'
 go_simp
 with_reducible rfl}
 rotate_left;{
 simp only [ap,sA,s0,s1,i64_w,i32_w]
 rfl}
 refine pure_ (i := 7) (N := some 61) (v := ?_) (a' := ?_) #[T,T,F,T,F,T,T,T,F,F,F,F,F,F,F,F,F,F,F,F,F] rfl rfl (any_of HT_.out (by kernel_rfl)) (fun _ _ _ h => h) (Or.inl ⟨by rfl, ?_⟩) ?_ ?_
 rotate_left;{
 intro w'
 go_simp
 with_reducible rfl}
 rotate_left;{
 simp only [ap,sA,s0,s1,i64_w,i32_w]
 rfl}
 refine pure_ (i := 8) (N := some 62) (v := ?_) (a' := ?_) #[T,T,F,T,F,T,T,T,T,F,F,F,F,F,F,F,F,F,F,F,F] rfl rfl (any_of HT_.out (by kernel_rfl)) (fun _ _ _ h => h) (Or.inl ⟨by rfl, ?_⟩) ?_ ?_
 rotate_left;{
 intro w'
 go_simp
 with_reducible rfl}
 rotate_left;{
 simp only [ap,sA,s0,s1,i64_w,i32_w]
 rfl}
 refine pure_ (i := 9) (N := some 63) (v := ?_) (a' := ?_) #[T,T,F,T,F,T,T,T,T,T,F,F,F,F,F,F,F,F,F,F,F] rfl rfl (any_of HT_.out (by kernel_rfl)) (fun _ _ _ h => h) (Or.inl ⟨by rfl, ?_⟩) ?_ ?_
 rotate_left;{
 intro w'
 go_simp
 with_reducible rfl}
 rotate_left;{
 simp only [ap,sA,s0,s1,i64_w,i32_w]
 rfl}
 refine pure_ (i := 10) (N := some 64) (v := ?_) (a' := ?_) #[T,T,F,T,F,T,T,T,T,T,T,F,F,F,F,F,F,F,F,F,F] rfl rfl (any_of HT_.out (by kernel_rfl)) (fun _ _ _ h => h) (Or.inl ⟨by rfl, ?_⟩) ?_ ?_
 rotate_left;{
 intro w'
 go_simp
 with_reducible rfl}
 rotate_left;{
 simp only [ap,sA,s0,s1,i64_w,i32_w]
 rfl}
 refine pure_ (i := 11) (N := some 65) (v := ?_) (a' := ?_) #[T,T,F,T,F,T,T,T,T,T,T,T,F,F,F,F,F,F,F,F,F] rfl rfl (any_of HT_.out (by kernel_rfl)) (fun _ _ _ h => h) (Or.inl ⟨by rfl, ?_⟩) ?_ ?_
 rotate_left;{
 intro w'
 go_simp
 with_reducible rfl}
 rotate_left;{
 simp only [ap,sA,s0,s1,i64_w,i32_w]
 rfl}
 refine pure_ (i := 12) (N := some 66) (v := ?_) (a' := ?_) #[T,T,F,T,F,T,T,T,T,T,T,T,T,F,F,F,F,F,F,F,F] rfl rfl (any_of HT_.out (by kernel_rfl)) (fun _ _ _ h => h) (Or.inl ⟨by rfl, ?_⟩) ?_ ?_
 rotate_left;{
 intro w'
 go_simp
 with_reducible rfl}
 rotate_left;{
 simp only [ap,sA,s0,s1,i64_w,i32_w]
 rfl}
 refine pure_ (i := 13) (N := some 67) (v := ?_) (a' := ?_) #[T,T,F,T,F,T,T,T,T,T,T,T,T,T,F,F,F,F,F,F,F] rfl rfl (any_of HT_.out (by kernel_rfl)) (fun _ _ _ h => h) (Or.inl ⟨by rfl, ?_⟩) ?_ ?_
 rotate_left;{
 intro w'
 go_simp
 with_reducible rfl}
 rotate_left;{
 simp only [ap,sA,s0,s1,i64_w,i32_w]
 rfl}
 refine take_ (i := 2) (N := some 56) (v := ?_) (a' := ?_) #[T,T,T,T,F,T,T,T,T,T,T,T,T,T,F,F,F,F,F,F,F] rfl rfl (take_ofW HT_.out HW_.out (by kernel_rfl)) (fun _ _ _ h => h) (Or.inl ⟨by rfl, ?_⟩) hHeld ?_ ?_
 rotate_left;{
 rintro w' ⟨s0, s1, s2, s3, s4, s5, s6, s7, s8, s9, s10⟩
 go_simp
 with_reducible rfl}
 rotate_left;{
 simp only [ap,sA,s0,s1,i64_w,i32_w]
 rfl}
 refine take_ (i := 4) (N := some 58) (v := ?_) (a' := ?_) #[T,T,T,T,T,T,T,T,T,T,T,T,T,T,F,F,F,F,F,F,F] rfl rfl (take_ofW HT_.out HW_.out (by kernel_rfl)) (fun _ _ _ h => h) (Or.inl ⟨by rfl, ?_⟩) hHeld ?_ ?_
 rotate_left;{
 rintro w' ⟨s0, s1, s2, s3, s4, s5, s6, s7, s8, s9, s10⟩
 go_simp
 with_reducible rfl}
 rotate_left;{
 simp only [ap,sA,s0,s1,i64_w,i32_w]
 rfl}
 refine take_ (i := 14) (N := some 68) (v := ?_) (a' := ?_) #[T,T,T,T,T,T,T,T,T,T,T,T,T,T,T,F,F,F,F,F,F] rfl rfl (take_ofW HT_.out HW_.out (by kernel_rfl)) (fun _ _ _ h => h) (Or.inl ⟨by rfl, ?_⟩) hHeld ?_ ?_
 rotate_left;{
 rintro w' ⟨s0, s1, s2, s3, s4, s5, s6, s7, s8, s9, s10⟩
 go_simp
 with_reducible rfl}
 rotate_left;{
 simp only [ap,sA,s0,s1,i64_w,i32_w]
 rfl}
 refine one_ (i := 15) (N := some 69) #[T,T,T,T,T,T,T,T,T,T,T,T,T,T,T,T,F,F,F,F,F] rfl rfl (one_of HT_.out (by kernel_rfl)) (by decide) (fun K hK => ?_)
 refine goes_ Try.func12 (by kernel_rfl) rfl #[.slice A0 l0.length c0, .slice A1_0 l1_0.length c1_0, .agg #[.int .i64 a1_1, .int .i64 a1_2, .int .i64 a1_3, .int .i64 a1_4], .agg #[.int .i64 ((rd_T25 t340 (ji28)).f0), .int .i64 ((rd_T25 t340 (ji28)).f1)]] (by rfl) rfl rfl (by (try simp only [List.map_toArray, List.map_cons, List.map_nil]); first | done | (simp only [hji28]; rfl) | rfl | (simp only [List.length_drop, List.length_take]; rfl)) ?_
 with_reducible refine (screen_Reach.calls kj11 _ _ l0 _ _ l1_0 a1_1 a1_2 a1_3 a1_4 ((rd_T25 t340 (ji28)).f0) ((rd_T25 t340 (ji28)).f1) t351 t354 _ ?side1 ?side2 ?side3 ?side4 A31.out).mono ?_
 (case side1 => repeat (first | exact (Kd.C_below HR0.out HB.out) | (with_reducible refine Kd.C_alloc ?_ _) | (with_reducible refine Kd.C_drewN ?_ _) | (with_reducible refine Kd.C_drew ?_)))
 (case side2 => exact HC0.out)
 (case side3 => repeat (first | exact (Kd.C_below HR1_0.out HB.out) | (with_reducible refine Kd.C_alloc ?_ _) | (with_reducible refine Kd.C_drewN ?_ _) | (with_reducible refine Kd.C_drew ?_)))
 (case side4 => exact HC1_0.out)
 rintro e w38 ⟨v352, rfl, ho0, hb⟩
 have HS9_ := (hb.cell (World.block_lt_of_cell? _ _ (hHeld.2.2.2.2.2.2.2.2.2.1))).trans (hHeld.2.2.2.2.2.2.2.2.2.1)
 have HS10_ := (hb.cell (World.block_lt_of_cell? _ _ (hHeld.2.2.2.2.2.2.2.2.2.2))).trans (hHeld.2.2.2.2.2.2.2.2.2.2)
 refine ⟨_, rfl, ?_⟩
 have n0_ := am (Kd.R_elder' (by (with_reducible repeat first|apply Kd.R_alloc|apply Kd.R_drewN|apply Kd.R_drew);exact HO_7.out) (Kd.R_base ho0) hb)
 have n1_ := am (Kd.R_lower (Kd.R_new' ho0 (Kd.R_lt (by (with_reducible repeat first|apply Kd.R_alloc|apply Kd.R_drewN|apply Kd.R_drew);exact HO_7.out))) (below_size (by repeat first|(with_reducible first|exact HB.out|apply wA|apply wN|apply wD|refine wS ?_ GE337.out)|exact HB.out)))
 have n2_ := am (blk_below (by (with_reducible repeat first|refine bN ?_ _|refine bD ?_|refine bA ?_ _);exact BK337.out) hb)
 have n3_ := am (below_step (by repeat first|(with_reducible first|exact HB.out|apply wA|apply wN|apply wD|refine wS ?_ GE337.out)|exact HB.out) hb)
 clear HO_7
 clear BK337
 clear HB
 have HO_7 := n0_
 have HO353 := n1_
 have BK337 := n2_
 have HB := n3_
 clear n0_ n1_ n2_ n3_
 (try clear hb)
 (try clear hb2)
 (try clear hk)
 (try clear hi)
 (try clear ho0)
 refine hK.out _ _ ⟨(blk_cell BK337.out 0).trans rfl, (blk_cell BK337.out 1).trans rfl, (blk_cell BK337.out 2).trans rfl, (blk_cell BK337.out 3).trans rfl, (blk_cell BK337.out 4).trans rfl, (blk_cell BK337.out 5).trans rfl, (blk_cell BK337.out 6).trans rfl, (blk_cell BK337.out 7).trans rfl, (blk_cell BK337.out 8).trans rfl, HS9_, HS10_⟩ (fun hHeld => ?_)
 clear hK K
 refine norm_ (a' := ?_) ?_ ?_
 rotate_left;{
 show Act.put _ (some 69) _ = _
 simp only [ap,sA,s0,s1,i64_w,i32_w]
 rfl}
 refine pure_ (i := 16) (N := some 53) (v := ?_) (a' := ?_) #[T,T,T,T,T,T,T,T,T,T,T,T,T,T,T,T,T,F,F,F,F] rfl rfl (any_of HT_.out (by kernel_rfl)) (fun _ _ _ h => h) (Or.inl ⟨by rfl, ?_⟩) ?_ ?_
 rotate_left;{
 intro w'
 go_simp
 with_reducible rfl}
 rotate_left;{
 simp only [ap,sA,s0,s1,i64_w,i32_w]
 rfl}
 refine pure_ (i := 17) (N := some 70) (v := ?_) (a' := ?_) #[T,T,T,T,T,T,T,T,T,T,T,T,T,T,T,T,T,T,F,F,F] rfl rfl (any_of HT_.out (by kernel_rfl)) (fun _ _ _ h => h) (Or.inl ⟨by rfl, ?_⟩) ?_ ?_
 rotate_left;{
 intro w'
 go_simp
 with_reducible rfl}
 rotate_left;{
 simp only [ap,sA,s0,s1,i64_w,i32_w]
 rfl}
 refine pure_ (i := 18) (N := some 71) (v := ?_) (a' := ?_) #[T,T,T,T,T,T,T,T,T,T,T,T,T,T,T,T,T,T,T,F,F] rfl rfl (any_of HT_.out (by kernel_rfl)) (fun _ _ _ h => h) (Or.inl ⟨by rfl, ?_⟩) ?_ ?_
 rotate_left;{
 intro w'
 go_simp
 with_reducible rfl}
 rotate_left;{
 simp only [ap,sA,s0,s1,i64_w,i32_w]
 rfl}
 refine pure_ (i := 19) (N := some 11) (v := ?_) (a' := ?_) #[T,T,T,T,T,T,T,T,T,T,T,T,T,T,T,T,T,T,T,T,F] rfl rfl (any_of HT_.out (by kernel_rfl)) (fun _ _ _ h => h) (Or.inl ⟨by rfl, ?_⟩) ?_ ?_
 rotate_left;{
 intro w'
 go_simp
 with_reducible rfl}
 rotate_left;{
 simp only [ap,sA,s0,s1,i64_w,i32_w]
 rfl}
 refine pure_ (i := 20) (N := some 12) (v := ?_) (a' := ?_) #[T,T,T,T,T,T,T,T,T,T,T,T,T,T,T,T,T,T,T,T,T] rfl rfl (any_of HT_.out (by kernel_rfl)) (fun _ _ _ h => h) (Or.inl ⟨by rfl, ?_⟩) ?_ ?_
 rotate_left;{
 intro w'
 go_simp
 with_reducible rfl}
 rotate_left;{
 simp only [ap,sA,s0,s1,i64_w,i32_w]
 rfl}
 refine done_ (done_of HT_.out (by kernel_rfl)) ?_
 obtain ⟨Ao39, co39, eo39⟩ := Kd.R_slice HO353.out
 subst eo39
 try go_wp2_with (first | (go_at_call 14; (with_reducible refine (wigeonref02_SamePoints.calls kj11 _ _ t351 _ _ t340 true _ ?side1 ?side2 ?side3 ?side4 A33.out).mono ?_); (case side1 => repeat (first | exact (Kd.R_reads' HO353.out).2.2 | (with_reducible refine Kd.C_alloc ?_ _) | (with_reducible refine Kd.C_drewN ?_ _) | (with_reducible refine Kd.C_drew ?_))); (case side2 => exact (Kd.R_reads' HO353.out).2.1); (case side3 => repeat (first | exact (Kd.R_reads' HO_7.out).2.2 | (with_reducible refine Kd.C_alloc ?_ _) | (with_reducible refine Kd.C_drewN ?_ _) | (with_reducible refine Kd.C_drew ?_))); (case side4 => exact (Kd.R_reads' HO_7.out).2.1); rintro e w' ⟨rfl, ⟨nd, rfl⟩⟩) | (go_at_call 8; (with_reducible refine (wigeonlaw02_known.calls kj11  t356 _ A35.out).mono ?_); rintro e w40 ⟨rfl, hb⟩; have n0_ := am (Kd.R_below (by (with_reducible repeat first|apply Kd.R_alloc|apply Kd.R_drewN|apply Kd.R_drew);exact HO_7.out) hb); have n1_ := am (Kd.R_below (by (with_reducible repeat first|apply Kd.R_alloc|apply Kd.R_drewN|apply Kd.R_drew);exact HO353.out) hb); have n2_ := am (blk_below (by (with_reducible repeat first|refine bN ?_ _|refine bD ?_|refine bA ?_ _);exact BK337.out) hb); have n3_ := am (below_step (by repeat first|(with_reducible first|exact HB.out|apply wA|apply wN|apply wD|refine wS ?_ GE337.out)|exact HB.out) hb); clear HO_7; clear HO353; clear BK337; clear HB; have HO_7 := n0_; have HO353 := n1_; have BK337 := n2_; have HB := n3_; clear n0_ n1_ n2_ n3_; (try clear hb); (try clear hb2); (try clear hk); (try clear hi)))
 go_ret
 exact ⟨by first | rfl | (simp [errW_none, errW_some] <;> rfl) | (simp only [← hji28]; first | rfl | (simp [errW_none, errW_some] <;> rfl)) | (simp [*, errW_none, errW_some] <;> rfl), by repeat (first | (with_reducible first | exact HB.out | apply below_alloc | apply pw_below_drewN | apply below_drew1 | refine below_set ?_ GE337.out) | exact HB.out)⟩}
 replace c34 := Bool.eq_false_iff.mpr c34
 subst c34
 have H1 : (some false) = some r := by rw [if_neg (show ¬ (false = true) by decide)] at H; exact H
 clear H
 have H := H1
 clear H1
 obtain rfl := Option.some.inj H
 obtain ⟨Ao41, co41, eo41⟩ := Kd.R_slice HO_7.out
 subst eo41
 try go_wp2
 have n0_ := am (Kd.R_drew HO_7.out)
 have n1_ := am (blk_drew BK337.out)
 have n2_ := am (below_drew1 HB.out)
 clear HO_7
 clear BK337
 clear HB
 have HO_7 := n0_
 have BK337 := n1_
 have HB := n2_
 clear n0_ n1_ n2_
 have p350 : 0 ≤ ((ji28) : Int) := of_decide_eq_true (by first | (with_reducible assumption) | assumption)
 have q350 : (ji28) < (t340.length : Int) := of_decide_eq_true (by first | (with_reducible assumption) | assumption)
 obtain ⟨ad350, e350, hx350_0, hx350_1⟩ := at_T25 (Kd.R_reads' HO_7.out).2.2 (ji28) p350 q350
 cases e350
 replace p350 := eq_true p350
 replace q350 := eq_true q350
 refine start_ (n := 21) (S := fun w' => w'.cell? ⟨gb337, 0, none⟩ = some (.slice A1_0 l1_0.length c1_0) ∧ w'.cell? ⟨gb337, 1, none⟩ = some (.int .i64 a1_1) ∧ w'.cell? ⟨gb337, 2, none⟩ = some (.int .i64 a1_2) ∧ w'.cell? ⟨gb337, 3, none⟩ = some (.int .i64 a1_3) ∧ w'.cell? ⟨gb337, 4, none⟩ = some (.int .i64 a1_4) ∧ w'.cell? ⟨gb337, 5, none⟩ = some (.int .i64 a1_5) ∧ w'.cell? ⟨gb337, 6, none⟩ = some (.int .i64 a1_6) ∧ w'.cell? ⟨gb337, 7, none⟩ = some (.int .i64 a1_7) ∧ w'.cell? ⟨gb337, 8, none⟩ = some (.int .i64 a1_8) ∧ w'.cell? (ad350.add (((ji28)).toNat * 2)) = some (.int .i64 ((rd_T25 t340 (ji28)).f0)) ∧ w'.cell? ⟨(ad350.add (((ji28)).toNat * 2)).block, (ad350.add (((ji28)).toNat * 2)).off + 1, none⟩ = some (.int .i64 ((rd_T25 t340 (ji28)).f1))) (ds := []) #[F,F,F,F,F,F,F,F,F,F,F,F,F,F,F,F,F,F,F,F,F] (by kernel_rfl) rfl rfl ⟨(blk_cell BK337.out 0).trans rfl, (blk_cell BK337.out 1).trans rfl, (blk_cell BK337.out 2).trans rfl, (blk_cell BK337.out 3).trans rfl, (blk_cell BK337.out 4).trans rfl, (blk_cell BK337.out 5).trans rfl, (blk_cell BK337.out 6).trans rfl, (blk_cell BK337.out 7).trans rfl, (blk_cell BK337.out 8).trans rfl, hx350_0, hx350_1⟩ (fun hHeld => ?_); refine with_tabW wigeonlaw02_ScreenReaches.tab9 wigeonlaw02_ScreenReaches.bits9 (fun HT_ HW_ => ?_)
 generalize wc.drew = w42 at HO_7 BK337 HB hx350_0 hx350_1 hHeld ⊢
 refine pure_ (i := 0) (N := some 54) (v := ?_) (a' := ?_) #[T,F,F,F,F,F,F,F,F,F,F,F,F,F,F,F,F,F,F,F,F] rfl rfl (any_of HT_.out (by kernel_rfl)) (fun _ _ _ h => h) (Or.inl ⟨by rfl, ?_⟩) ?_ ?_
 rotate_left;{
 intro w'
 go_simp
 with_reducible rfl}
 rotate_left;{
 simp only [ap,sA,s0,s1,i64_w,i32_w]
 rfl}
 refine pure_ (i := 1) (N := some 55) (v := ?_) (a' := ?_) #[T,T,F,F,F,F,F,F,F,F,F,F,F,F,F,F,F,F,F,F,F] rfl rfl (any_of HT_.out (by kernel_rfl)) (fun _ _ _ h => h) (Or.inl ⟨by rfl, ?_⟩) ?_ ?_
 rotate_left;{
 intro w'
 go_simp
 with_reducible rfl}
 rotate_left;{
 simp only [ap,sA,s0,s1,i64_w,i32_w]
 rfl}
 refine pure_ (i := 3) (N := some 57) (v := ?_) (a' := ?_) #[T,T,F,T,F,F,F,F,F,F,F,F,F,F,F,F,F,F,F,F,F] rfl rfl (any_of HT_.out (by kernel_rfl)) (fun _ _ _ h => h) (Or.inl ⟨by rfl, ?_⟩) ?_ ?_
 rotate_left;{
 intro w'
 go_simp
 with_reducible rfl}
 rotate_left;{
 simp only [ap,sA,s0,s1,i64_w,i32_w]
 rfl}
 refine pure_ (i := 5) (N := some 59) (v := ?_) (a' := ?_) #[T,T,F,T,F,T,F,F,F,F,F,F,F,F,F,F,F,F,F,F,F] rfl rfl (any_of HT_.out (by kernel_rfl)) (fun _ _ _ h => h) (Or.inl ⟨by rfl, ?_⟩) ?_ ?_
 rotate_left;{
 intro w'
 go_simp
 with_reducible rfl}
 rotate_left;{
 simp only [ap,sA,s0,s1,i64_w,i32_w]
 rfl}
 refine pure_ (i := 6) (N := some 60) (v := ?_) (a' := ?_) #[T,T,F,T,F,T,T,F,F,F,F,F,F,F,F,F,F,F,F,F,F] rfl rfl (any_of HT_.out (by kernel_rfl)) (fun _ _ _ h => h) (Or.inl ⟨by rfl, ?_⟩) ?_ ?_
 rotate_left;{
 intro w'
 go_simp
 with_reducible rfl}
 rotate_left;{
 simp only [ap,sA,s0,s1,i64_w,i32_w]
 rfl}
 refine pure_ (i := 7) (N := some 61) (v := ?_) (a' := ?_) #[T,T,F,T,F,T,T,T,F,F,F,F,F,F,F,F,F,F,F,F,F] rfl rfl (any_of HT_.out (by kernel_rfl)) (fun _ _ _ h => h) (Or.inl ⟨by rfl, ?_⟩) ?_ ?_
 rotate_left;{
 intro w'
 go_simp
 with_reducible rfl}
 rotate_left;{
 simp only [ap,sA,s0,s1,i64_w,i32_w]
 rfl}
 refine pure_ (i := 8) (N := some 62) (v := ?_) (a' := ?_) #[T,T,F,T,F,T,T,T,T,F,F,F,F,F,F,F,F,F,F,F,F] rfl rfl (any_of HT_.out (by kernel_rfl)) (fun _ _ _ h => h) (Or.inl ⟨by rfl, ?_⟩) ?_ ?_
 rotate_left;{
 intro w'
 go_simp
 with_reducible rfl}
 rotate_left;{
 simp only [ap,sA,s0,s1,i64_w,i32_w]
 rfl}
 refine pure_ (i := 9) (N := some 63) (v := ?_) (a' := ?_) #[T,T,F,T,F,T,T,T,T,T,F,F,F,F,F,F,F,F,F,F,F] rfl rfl (any_of HT_.out (by kernel_rfl)) (fun _ _ _ h => h) (Or.inl ⟨by rfl, ?_⟩) ?_ ?_
 rotate_left;{
 intro w'
 go_simp
 with_reducible rfl}
 rotate_left;{
 simp only [ap,sA,s0,s1,i64_w,i32_w]
 rfl}
 refine pure_ (i := 10) (N := some 64) (v := ?_) (a' := ?_) #[T,T,F,T,F,T,T,T,T,T,T,F,F,F,F,F,F,F,F,F,F] rfl rfl (any_of HT_.out (by kernel_rfl)) (fun _ _ _ h => h) (Or.inl ⟨by rfl, ?_⟩) ?_ ?_
 rotate_left;{
 intro w'
 go_simp
 with_reducible rfl}
 rotate_left;{
 simp only [ap,sA,s0,s1,i64_w,i32_w]
 rfl}
 refine pure_ (i := 11) (N := some 65) (v := ?_) (a' := ?_) #[T,T,F,T,F,T,T,T,T,T,T,T,F,F,F,F,F,F,F,F,F] rfl rfl (any_of HT_.out (by kernel_rfl)) (fun _ _ _ h => h) (Or.inl ⟨by rfl, ?_⟩) ?_ ?_
 rotate_left;{
 intro w'
 go_simp
 with_reducible rfl}
 rotate_left;{
 simp only [ap,sA,s0,s1,i64_w,i32_w]
 rfl}
 refine pure_ (i := 12) (N := some 66) (v := ?_) (a' := ?_) #[T,T,F,T,F,T,T,T,T,T,T,T,T,F,F,F,F,F,F,F,F] rfl rfl (any_of HT_.out (by kernel_rfl)) (fun _ _ _ h => h) (Or.inl ⟨by rfl, ?_⟩) ?_ ?_
 rotate_left;{
 intro w'
 go_simp
 with_reducible rfl}
 rotate_left;{
 simp only [ap,sA,s0,s1,i64_w,i32_w]
 rfl}
 refine pure_ (i := 13) (N := some 67) (v := ?_) (a' := ?_) #[T,T,F,T,F,T,T,T,T,T,T,T,T,T,F,F,F,F,F,F,F] rfl rfl (any_of HT_.out (by kernel_rfl)) (fun _ _ _ h => h) (Or.inl ⟨by rfl, ?_⟩) ?_ ?_
 rotate_left;{
 intro w'
 go_simp
 with_reducible rfl}
 rotate_left;{
 simp only [ap,sA,s0,s1,i64_w,i32_w]
 rfl}
 refine take_ (i := 2) (N := some 56) (v := ?_) (a' := ?_) #[T,T,T,T,F,T,T,T,T,T,T,T,T,T,F,F,F,F,F,F,F] rfl rfl (take_ofW HT_.out HW_.out (by kernel_rfl)) (fun _ _ _ h => h) (Or.inl ⟨by rfl, ?_⟩) hHeld ?_ ?_
 rotate_left;{
 rintro w' ⟨s0, s1, s2, s3, s4, s5, s6, s7, s8, s9, s10⟩
 go_simp
 with_reducible rfl}
 rotate_left;{
 simp only [ap,sA,s0,s1,i64_w,i32_w]
 rfl}
 refine take_ (i := 4) (N := some 58) (v := ?_) (a' := ?_) #[T,T,T,T,T,T,T,T,T,T,T,T,T,T,F,F,F,F,F,F,F] rfl rfl (take_ofW HT_.out HW_.out (by kernel_rfl)) (fun _ _ _ h => h) (Or.inl ⟨by rfl, ?_⟩) hHeld ?_ ?_
 rotate_left;{
 rintro w' ⟨s0, s1, s2, s3, s4, s5, s6, s7, s8, s9, s10⟩
 go_simp
 with_reducible rfl}
 rotate_left;{
 simp only [ap,sA,s0,s1,i64_w,i32_w]
 rfl}
 refine take_ (i := 14) (N := some 68) (v := ?_) (a' := ?_) #[T,T,T,T,T,T,T,T,T,T,T,T,T,T,T,F,F,F,F,F,F] rfl rfl (take_ofW HT_.out HW_.out (by kernel_rfl)) (fun _ _ _ h => h) (Or.inl ⟨by rfl, ?_⟩) hHeld ?_ ?_
 rotate_left;{
 rintro w' ⟨s0, s1, s2, s3, s4, s5, s6, s7, s8, s9, s10⟩
 go_simp
 with_reducible rfl}
 rotate_left;{
 simp only [ap,sA,s0,s1,i64_w,i32_w]
 rfl}
 refine one_ (i := 15) (N := some 69) #[T,T,T,T,T,T,T,T,T,T,T,T,T,T,T,T,F,F,F,F,F] rfl rfl (one_of HT_.out (by kernel_rfl)) (by decide) (fun K hK => ?_)
 refine goes_ Try.func12 (by kernel_rfl) rfl #[.slice A0 l0.length c0, .slice A1_0 l1_0.length c1_0, .agg #[.int .i64 a1_1, .int .i64 a1_2, .int .i64 a1_3, .int .i64 a1_4], .agg #[.int .i64 ((rd_T25 t340 (ji28)).f0), .int .i64 ((rd_T25 t340 (ji28)).f1)]] (by rfl) rfl rfl (by (try simp only [List.map_toArray, List.map_cons, List.map_nil]); first | done | (simp only [hji28]; rfl) | rfl | (simp only [List.length_drop, List.length_take]; rfl)) ?_
 with_reducible refine (screen_Reach.calls kj11 _ _ l0 _ _ l1_0 a1_1 a1_2 a1_3 a1_4 ((rd_T25 t340 (ji28)).f0) ((rd_T25 t340 (ji28)).f1) t351 t354 _ ?side1 ?side2 ?side3 ?side4 A31.out).mono ?_
 (case side1 => repeat (first | exact (Kd.C_below HR0.out HB.out) | (with_reducible refine Kd.C_alloc ?_ _) | (with_reducible refine Kd.C_drewN ?_ _) | (with_reducible refine Kd.C_drew ?_)))
 (case side2 => exact HC0.out)
 (case side3 => repeat (first | exact (Kd.C_below HR1_0.out HB.out) | (with_reducible refine Kd.C_alloc ?_ _) | (with_reducible refine Kd.C_drewN ?_ _) | (with_reducible refine Kd.C_drew ?_)))
 (case side4 => exact HC1_0.out)
 rintro e w43 ⟨v352, rfl, ho0, hb⟩
 have HS9_ := (hb.cell (World.block_lt_of_cell? _ _ (hHeld.2.2.2.2.2.2.2.2.2.1))).trans (hHeld.2.2.2.2.2.2.2.2.2.1)
 have HS10_ := (hb.cell (World.block_lt_of_cell? _ _ (hHeld.2.2.2.2.2.2.2.2.2.2))).trans (hHeld.2.2.2.2.2.2.2.2.2.2)
 refine ⟨_, rfl, ?_⟩
 have n0_ := am (Kd.R_elder' (by (with_reducible repeat first|apply Kd.R_alloc|apply Kd.R_drewN|apply Kd.R_drew);exact HO_7.out) (Kd.R_base ho0) hb)
 have n1_ := am (Kd.R_lower (Kd.R_new' ho0 (Kd.R_lt (by (with_reducible repeat first|apply Kd.R_alloc|apply Kd.R_drewN|apply Kd.R_drew);exact HO_7.out))) (below_size (by repeat first|(with_reducible first|exact HB.out|apply wA|apply wN|apply wD|refine wS ?_ GE337.out)|exact HB.out)))
 have n2_ := am (blk_below (by (with_reducible repeat first|refine bN ?_ _|refine bD ?_|refine bA ?_ _);exact BK337.out) hb)
 have n3_ := am (below_step (by repeat first|(with_reducible first|exact HB.out|apply wA|apply wN|apply wD|refine wS ?_ GE337.out)|exact HB.out) hb)
 clear HO_7
 clear BK337
 clear HB
 have HO_7 := n0_
 have HO353 := n1_
 have BK337 := n2_
 have HB := n3_
 clear n0_ n1_ n2_ n3_
 (try clear hb)
 (try clear hb2)
 (try clear hk)
 (try clear hi)
 (try clear ho0)
 refine hK.out _ _ ⟨(blk_cell BK337.out 0).trans rfl, (blk_cell BK337.out 1).trans rfl, (blk_cell BK337.out 2).trans rfl, (blk_cell BK337.out 3).trans rfl, (blk_cell BK337.out 4).trans rfl, (blk_cell BK337.out 5).trans rfl, (blk_cell BK337.out 6).trans rfl, (blk_cell BK337.out 7).trans rfl, (blk_cell BK337.out 8).trans rfl, HS9_, HS10_⟩ (fun hHeld => ?_)
 clear hK K
 refine norm_ (a' := ?_) ?_ ?_
 rotate_left;{
 show Act.put _ (some 69) _ = _
 simp only [ap,sA,s0,s1,i64_w,i32_w]
 rfl}
 refine pure_ (i := 16) (N := some 53) (v := ?_) (a' := ?_) #[T,T,T,T,T,T,T,T,T,T,T,T,T,T,T,T,T,F,F,F,F] rfl rfl (any_of HT_.out (by kernel_rfl)) (fun _ _ _ h => h) (Or.inl ⟨by rfl, ?_⟩) ?_ ?_
 rotate_left;{
 intro w'
 go_simp
 with_reducible rfl}
 rotate_left;{
 simp only [ap,sA,s0,s1,i64_w,i32_w]
 rfl}
 refine pure_ (i := 17) (N := some 70) (v := ?_) (a' := ?_) #[T,T,T,T,T,T,T,T,T,T,T,T,T,T,T,T,T,T,F,F,F] rfl rfl (any_of HT_.out (by kernel_rfl)) (fun _ _ _ h => h) (Or.inl ⟨by rfl, ?_⟩) ?_ ?_
 rotate_left;{
 intro w'
 go_simp
 with_reducible rfl}
 rotate_left;{
 simp only [ap,sA,s0,s1,i64_w,i32_w]
 rfl}
 refine pure_ (i := 18) (N := some 71) (v := ?_) (a' := ?_) #[T,T,T,T,T,T,T,T,T,T,T,T,T,T,T,T,T,T,T,F,F] rfl rfl (any_of HT_.out (by kernel_rfl)) (fun _ _ _ h => h) (Or.inl ⟨by rfl, ?_⟩) ?_ ?_
 rotate_left;{
 intro w'
 go_simp
 with_reducible rfl}
 rotate_left;{
 simp only [ap,sA,s0,s1,i64_w,i32_w]
 rfl}
 refine pure_ (i := 19) (N := some 11) (v := ?_) (a' := ?_) #[T,T,T,T,T,T,T,T,T,T,T,T,T,T,T,T,T,T,T,T,F] rfl rfl (any_of HT_.out (by kernel_rfl)) (fun _ _ _ h => h) (Or.inl ⟨by rfl, ?_⟩) ?_ ?_
 rotate_left;{
 intro w'
 go_simp
 with_reducible rfl}
 rotate_left;{
 simp only [ap,sA,s0,s1,i64_w,i32_w]
 rfl}
 refine pure_ (i := 20) (N := some 12) (v := ?_) (a' := ?_) #[T,T,T,T,T,T,T,T,T,T,T,T,T,T,T,T,T,T,T,T,T] rfl rfl (any_of HT_.out (by kernel_rfl)) (fun _ _ _ h => h) (Or.inl ⟨by rfl, ?_⟩) ?_ ?_
 rotate_left;{
 intro w'
 go_simp
 with_reducible rfl}
 rotate_left;{
 simp only [ap,sA,s0,s1,i64_w,i32_w]
 rfl}
 refine done_ (done_of HT_.out (by kernel_rfl)) ?_
 obtain ⟨Ao44, co44, eo44⟩ := Kd.R_slice HO353.out
 subst eo44
 try go_wp2_with (first | (go_at_call 14; (with_reducible refine (wigeonref02_SamePoints.calls kj11 _ _ t351 _ _ t340 false _ ?side1 ?side2 ?side3 ?side4 A33.out).mono ?_); (case side1 => repeat (first | exact (Kd.R_reads' HO353.out).2.2 | (with_reducible refine Kd.C_alloc ?_ _) | (with_reducible refine Kd.C_drewN ?_ _) | (with_reducible refine Kd.C_drew ?_))); (case side2 => exact (Kd.R_reads' HO353.out).2.1); (case side3 => repeat (first | exact (Kd.R_reads' HO_7.out).2.2 | (with_reducible refine Kd.C_alloc ?_ _) | (with_reducible refine Kd.C_drewN ?_ _) | (with_reducible refine Kd.C_drew ?_))); (case side4 => exact (Kd.R_reads' HO_7.out).2.1); rintro e w' ⟨rfl, ⟨nd, rfl⟩⟩))
 go_ret
 exact ⟨by first | rfl | (simp [errW_none, errW_some] <;> rfl) | (simp only [← hji28]; first | rfl | (simp [errW_none, errW_some] <;> rfl)) | (simp [*, errW_none, errW_some] <;> rfl), by repeat (first | (with_reducible first | exact HB.out | apply below_alloc | apply pw_below_drewN | apply below_drew1 | refine below_set ?_ GE337.out) | exact HB.out)⟩}
 rw [if_neg c32] at H
 have c32b0 : (t354 == 0) = false := beq_eq_false_iff_ne.mpr c32
 have c32b1 : (t354 != 0) = true := bne_iff_ne.mpr c32
 obtain rfl := Option.some.inj H
 obtain ⟨Ao45, co45, eo45⟩ := Kd.R_slice HO_7.out
 subst eo45
 try go_wp2
 have n0_ := am (Kd.R_drew HO_7.out)
 have n1_ := am (blk_drew BK337.out)
 have n2_ := am (below_drew1 HB.out)
 clear HO_7
 clear BK337
 clear HB
 have HO_7 := n0_
 have BK337 := n1_
 have HB := n2_
 clear n0_ n1_ n2_
 have p350 : 0 ≤ ((ji28) : Int) := of_decide_eq_true (by first | (with_reducible assumption) | assumption)
 have q350 : (ji28) < (t340.length : Int) := of_decide_eq_true (by first | (with_reducible assumption) | assumption)
 obtain ⟨ad350, e350, hx350_0, hx350_1⟩ := at_T25 (Kd.R_reads' HO_7.out).2.2 (ji28) p350 q350
 cases e350
 replace p350 := eq_true p350
 replace q350 := eq_true q350
 refine start_ (n := 21) (S := fun w' => w'.cell? ⟨gb337, 0, none⟩ = some (.slice A1_0 l1_0.length c1_0) ∧ w'.cell? ⟨gb337, 1, none⟩ = some (.int .i64 a1_1) ∧ w'.cell? ⟨gb337, 2, none⟩ = some (.int .i64 a1_2) ∧ w'.cell? ⟨gb337, 3, none⟩ = some (.int .i64 a1_3) ∧ w'.cell? ⟨gb337, 4, none⟩ = some (.int .i64 a1_4) ∧ w'.cell? ⟨gb337, 5, none⟩ = some (.int .i64 a1_5) ∧ w'.cell? ⟨gb337, 6, none⟩ = some (.int .i64 a1_6) ∧ w'.cell? ⟨gb337, 7, none⟩ = some (.int .i64 a1_7) ∧ w'.cell? ⟨gb337, 8, none⟩ = some (.int .i64 a1_8) ∧ w'.cell? (ad350.add (((ji28)).toNat * 2)) = some (.int .i64 ((rd_T25 t340 (ji28)).f0)) ∧ w'.cell? ⟨(ad350.add (((ji28)).toNat * 2)).block, (ad350.add (((ji28)).toNat * 2)).off + 1, none⟩ = some (.int .i64 ((rd_T25 t340 (ji28)).f1))) (ds := []) #[F,F,F,F,F,F,F,F,F,F,F,F,F,F,F,F,F,F,F,F,F] (by kernel_rfl) rfl rfl ⟨(blk_cell BK337.out 0).trans rfl, (blk_cell BK337.out 1).trans rfl, (blk_cell BK337.out 2).trans rfl, (blk_cell BK337.out 3).trans rfl, (blk_cell BK337.out 4).trans rfl, (blk_cell BK337.out 5).trans rfl, (blk_cell BK337.out 6).trans rfl, (blk_cell BK337.out 7).trans rfl, (blk_cell BK337.out 8).trans rfl, hx350_0, hx350_1⟩ (fun hHeld => ?_); refine with_tabW wigeonlaw02_ScreenReaches.tab9 wigeonlaw02_ScreenReaches.bits9 (fun HT_ HW_ => ?_)
 generalize wc.drew = w46 at HO_7 BK337 HB hx350_0 hx350_1 hHeld ⊢
 refine pure_ (i := 0) (N := some 54) (v := ?_) (a' := ?_) #[T,F,F,F,F,F,F,F,F,F,F,F,F,F,F,F,F,F,F,F,F] rfl rfl (any_of HT_.out (by kernel_rfl)) (fun _ _ _ h => h) (Or.inl ⟨by rfl, ?_⟩) ?_ ?_
 rotate_left;{
 intro w'
 go_simp
 with_reducible rfl}
 rotate_left;{
 simp only [ap,sA,s0,s1,i64_w,i32_w]
 rfl}
 refine pure_ (i := 1) (N := some 55) (v := ?_) (a' := ?_) #[T,T,F,F,F,F,F,F,F,F,F,F,F,F,F,F,F,F,F,F,F] rfl rfl (any_of HT_.out (by kernel_rfl)) (fun _ _ _ h => h) (Or.inl ⟨by rfl, ?_⟩) ?_ ?_
 rotate_left;{
 intro w'
 go_simp
 with_reducible rfl}
 rotate_left;{
 simp only [ap,sA,s0,s1,i64_w,i32_w]
 rfl}
 refine pure_ (i := 3) (N := some 57) (v := ?_) (a' := ?_) #[T,T,F,T,F,F,F,F,F,F,F,F,F,F,F,F,F,F,F,F,F] rfl rfl (any_of HT_.out (by kernel_rfl)) (fun _ _ _ h => h) (Or.inl ⟨by rfl, ?_⟩) ?_ ?_
 rotate_left;{
 intro w'
 go_simp
 with_reducible rfl}
 rotate_left;{
 simp only [ap,sA,s0,s1,i64_w,i32_w]
 rfl}
 refine pure_ (i := 5) (N := some 59) (v := ?_) (a' := ?_) #[T,T,F,T,F,T,F,F,F,F,F,F,F,F,F,F,F,F,F,F,F] rfl rfl (any_of HT_.out (by kernel_rfl)) (fun _ _ _ h => h) (Or.inl ⟨by rfl, ?_⟩) ?_ ?_
 rotate_left;{
 intro w'
 go_simp
 with_reducible rfl}
 rotate_left;{
 simp only [ap,sA,s0,s1,i64_w,i32_w]
 rfl}
 refine pure_ (i := 6) (N := some 60) (v := ?_) (a' := ?_) #[T,T,F,T,F,T,T,F,F,F,F,F,F,F,F,F,F,F,F,F,F] rfl rfl (any_of HT_.out (by kernel_rfl)) (fun _ _ _ h => h) (Or.inl ⟨by rfl, ?_⟩) ?_ ?_
 rotate_left;{
 intro w'
 go_simp
 with_reducible rfl}
 rotate_left;{
 simp only [ap,sA,s0,s1,i64_w,i32_w]
 rfl}
 refine pure_ (i := 7) (N := some 61) (v := ?_) (a' := ?_) #[T,T,F,T,F,T,T,T,F,F,F,F,F,F,F,F,F,F,F,F,F] rfl rfl (any_of HT_.out (by kernel_rfl)) (fun _ _ _ h => h) (Or.inl ⟨by rfl, ?_⟩) ?_ ?_
 rotate_left;{
 intro w'
 go_simp
 with_reducible rfl}
 rotate_left;{
 simp only [ap,sA,s0,s1,i64_w,i32_w]
 rfl}
 refine pure_ (i := 8) (N := some 62) (v := ?_) (a' := ?_) #[T,T,F,T,F,T,T,T,T,F,F,F,F,F,F,F,F,F,F,F,F] rfl rfl (any_of HT_.out (by kernel_rfl)) (fun _ _ _ h => h) (Or.inl ⟨by rfl, ?_⟩) ?_ ?_
 rotate_left;{
 intro w'
 go_simp
 with_reducible rfl}
 rotate_left;{
 simp only [ap,sA,s0,s1,i64_w,i32_w]
 rfl}
 refine pure_ (i := 9) (N := some 63) (v := ?_) (a' := ?_) #[T,T,F,T,F,T,T,T,T,T,F,F,F,F,F,F,F,F,F,F,F] rfl rfl (any_of HT_.out (by kernel_rfl)) (fun _ _ _ h => h) (Or.inl ⟨by rfl, ?_⟩) ?_ ?_
 rotate_left;{
 intro w'
 go_simp
 with_reducible rfl}
 rotate_left;{
 simp only [ap,sA,s0,s1,i64_w,i32_w]
 rfl}
 refine pure_ (i := 10) (N := some 64) (v := ?_) (a' := ?_) #[T,T,F,T,F,T,T,T,T,T,T,F,F,F,F,F,F,F,F,F,F] rfl rfl (any_of HT_.out (by kernel_rfl)) (fun _ _ _ h => h) (Or.inl ⟨by rfl, ?_⟩) ?_ ?_
 rotate_left;{
 intro w'
 go_simp
 with_reducible rfl}
 rotate_left;{
 simp only [ap,sA,s0,s1,i64_w,i32_w]
 rfl}
 refine pure_ (i := 11) (N := some 65) (v := ?_) (a' := ?_) #[T,T,F,T,F,T,T,T,T,T,T,T,F,F,F,F,F,F,F,F,F] rfl rfl (any_of HT_.out (by kernel_rfl)) (fun _ _ _ h => h) (Or.inl ⟨by rfl, ?_⟩) ?_ ?_
 rotate_left;{
 intro w'
 go_simp
 with_reducible rfl}
 rotate_left;{
 simp only [ap,sA,s0,s1,i64_w,i32_w]
 rfl}
 refine pure_ (i := 12) (N := some 66) (v := ?_) (a' := ?_) #[T,T,F,T,F,T,T,T,T,T,T,T,T,F,F,F,F,F,F,F,F] rfl rfl (any_of HT_.out (by kernel_rfl)) (fun _ _ _ h => h) (Or.inl ⟨by rfl, ?_⟩) ?_ ?_
 rotate_left;{
 intro w'
 go_simp
 with_reducible rfl}
 rotate_left;{
 simp only [ap,sA,s0,s1,i64_w,i32_w]
 rfl}
 refine pure_ (i := 13) (N := some 67) (v := ?_) (a' := ?_) #[T,T,F,T,F,T,T,T,T,T,T,T,T,T,F,F,F,F,F,F,F] rfl rfl (any_of HT_.out (by kernel_rfl)) (fun _ _ _ h => h) (Or.inl ⟨by rfl, ?_⟩) ?_ ?_
 rotate_left;{
 intro w'
 go_simp
 with_reducible rfl}
 rotate_left;{
 simp only [ap,sA,s0,s1,i64_w,i32_w]
 rfl}
 refine take_ (i := 2) (N := some 56) (v := ?_) (a' := ?_) #[T,T,T,T,F,T,T,T,T,T,T,T,T,T,F,F,F,F,F,F,F] rfl rfl (take_ofW HT_.out HW_.out (by kernel_rfl)) (fun _ _ _ h => h) (Or.inl ⟨by rfl, ?_⟩) hHeld ?_ ?_
 rotate_left;{
 rintro w' ⟨s0, s1, s2, s3, s4, s5, s6, s7, s8, s9, s10⟩
 go_simp
 with_reducible rfl}
 rotate_left;{
 simp only [ap,sA,s0,s1,i64_w,i32_w]
 rfl}
 refine take_ (i := 4) (N := some 58) (v := ?_) (a' := ?_) #[T,T,T,T,T,T,T,T,T,T,T,T,T,T,F,F,F,F,F,F,F] rfl rfl (take_ofW HT_.out HW_.out (by kernel_rfl)) (fun _ _ _ h => h) (Or.inl ⟨by rfl, ?_⟩) hHeld ?_ ?_
 rotate_left;{
 rintro w' ⟨s0, s1, s2, s3, s4, s5, s6, s7, s8, s9, s10⟩
 go_simp
 with_reducible rfl}
 rotate_left;{
 simp only [ap,sA,s0,s1,i64_w,i32_w]
 rfl}
 refine take_ (i := 14) (N := some 68) (v := ?_) (a' := ?_) #[T,T,T,T,T,T,T,T,T,T,T,T,T,T,T,F,F,F,F,F,F] rfl rfl (take_ofW HT_.out HW_.out (by kernel_rfl)) (fun _ _ _ h => h) (Or.inl ⟨by rfl, ?_⟩) hHeld ?_ ?_
 rotate_left;{
 rintro w' ⟨s0, s1, s2, s3, s4, s5, s6, s7, s8, s9, s10⟩
 go_simp
 with_reducible rfl}
 rotate_left;{
 simp only [ap,sA,s0,s1,i64_w,i32_w]
 rfl}
 refine one_ (i := 15) (N := some 69) #[T,T,T,T,T,T,T,T,T,T,T,T,T,T,T,T,F,F,F,F,F] rfl rfl (one_of HT_.out (by kernel_rfl)) (by decide) (fun K hK => ?_)
 refine goes_ Try.func12 (by kernel_rfl) rfl #[.slice A0 l0.length c0, .slice A1_0 l1_0.length c1_0, .agg #[.int .i64 a1_1, .int .i64 a1_2, .int .i64 a1_3, .int .i64 a1_4], .agg #[.int .i64 ((rd_T25 t340 (ji28)).f0), .int .i64 ((rd_T25 t340 (ji28)).f1)]] (by rfl) rfl rfl (by (try simp only [List.map_toArray, List.map_cons, List.map_nil]); first | done | (simp only [hji28]; rfl) | rfl | (simp only [List.length_drop, List.length_take]; rfl)) ?_
 with_reducible refine (screen_Reach.calls kj11 _ _ l0 _ _ l1_0 a1_1 a1_2 a1_3 a1_4 ((rd_T25 t340 (ji28)).f0) ((rd_T25 t340 (ji28)).f1) t351 t354 _ ?side1 ?side2 ?side3 ?side4 A31.out).mono ?_
 (case side1 => repeat (first | exact (Kd.C_below HR0.out HB.out) | (with_reducible refine Kd.C_alloc ?_ _) | (with_reducible refine Kd.C_drewN ?_ _) | (with_reducible refine Kd.C_drew ?_)))
 (case side2 => exact HC0.out)
 (case side3 => repeat (first | exact (Kd.C_below HR1_0.out HB.out) | (with_reducible refine Kd.C_alloc ?_ _) | (with_reducible refine Kd.C_drewN ?_ _) | (with_reducible refine Kd.C_drew ?_)))
 (case side4 => exact HC1_0.out)
 rintro e w47 ⟨v352, rfl, ho0, hb⟩
 have HS9_ := (hb.cell (World.block_lt_of_cell? _ _ (hHeld.2.2.2.2.2.2.2.2.2.1))).trans (hHeld.2.2.2.2.2.2.2.2.2.1)
 have HS10_ := (hb.cell (World.block_lt_of_cell? _ _ (hHeld.2.2.2.2.2.2.2.2.2.2))).trans (hHeld.2.2.2.2.2.2.2.2.2.2)
 refine ⟨_, rfl, ?_⟩
 have n0_ := am (Kd.R_elder' (by (with_reducible repeat first|apply Kd.R_alloc|apply Kd.R_drewN|apply Kd.R_drew);exact HO_7.out) (Kd.R_base ho0) hb)
 have n1_ := am (Kd.R_lower (Kd.R_new' ho0 (Kd.R_lt (by (with_reducible repeat first|apply Kd.R_alloc|apply Kd.R_drewN|apply Kd.R_drew);exact HO_7.out))) (below_size (by repeat first|(with_reducible first|exact HB.out|apply wA|apply wN|apply wD|refine wS ?_ GE337.out)|exact HB.out)))
 have n2_ := am (blk_below (by (with_reducible repeat first|refine bN ?_ _|refine bD ?_|refine bA ?_ _);exact BK337.out) hb)
 have n3_ := am (below_step (by repeat first|(with_reducible first|exact HB.out|apply wA|apply wN|apply wD|refine wS ?_ GE337.out)|exact HB.out) hb)
 clear HO_7
 clear BK337
 clear HB
 have HO_7 := n0_
 have HO353 := n1_
 have BK337 := n2_
 have HB := n3_
 clear n0_ n1_ n2_ n3_
 (try clear hb)
 (try clear hb2)
 (try clear hk)
 (try clear hi)
 (try clear ho0)
 refine hK.out _ _ ⟨(blk_cell BK337.out 0).trans rfl, (blk_cell BK337.out 1).trans rfl, (blk_cell BK337.out 2).trans rfl, (blk_cell BK337.out 3).trans rfl, (blk_cell BK337.out 4).trans rfl, (blk_cell BK337.out 5).trans rfl, (blk_cell BK337.out 6).trans rfl, (blk_cell BK337.out 7).trans rfl, (blk_cell BK337.out 8).trans rfl, HS9_, HS10_⟩ (fun hHeld => ?_)
 clear hK K
 refine norm_ (a' := ?_) ?_ ?_
 rotate_left;{
 show Act.put _ (some 69) _ = _
 simp only [ap,sA,s0,s1,i64_w,i32_w]
 rfl}
 refine pure_ (i := 16) (N := some 53) (v := ?_) (a' := ?_) #[T,T,T,T,T,T,T,T,T,T,T,T,T,T,T,T,T,F,F,F,F] rfl rfl (any_of HT_.out (by kernel_rfl)) (fun _ _ _ h => h) (Or.inl ⟨by rfl, ?_⟩) ?_ ?_
 rotate_left;{
 intro w'
 go_simp
 with_reducible rfl}
 rotate_left;{
 simp only [ap,sA,s0,s1,i64_w,i32_w]
 rfl}
 refine pure_ (i := 17) (N := some 70) (v := ?_) (a' := ?_) #[T,T,T,T,T,T,T,T,T,T,T,T,T,T,T,T,T,T,F,F,F] rfl rfl (any_of HT_.out (by kernel_rfl)) (fun _ _ _ h => h) (Or.inl ⟨by rfl, ?_⟩) ?_ ?_
 rotate_left;{
 intro w'
 go_simp
 with_reducible rfl}
 rotate_left;{
 simp only [ap,sA,s0,s1,i64_w,i32_w]
 rfl}
 refine pure_ (i := 18) (N := some 71) (v := ?_) (a' := ?_) #[T,T,T,T,T,T,T,T,T,T,T,T,T,T,T,T,T,T,T,F,F] rfl rfl (any_of HT_.out (by kernel_rfl)) (fun _ _ _ h => h) (Or.inl ⟨by rfl, ?_⟩) ?_ ?_
 rotate_left;{
 intro w'
 go_simp
 with_reducible rfl}
 rotate_left;{
 simp only [ap,sA,s0,s1,i64_w,i32_w]
 rfl}
 refine pure_ (i := 19) (N := some 11) (v := ?_) (a' := ?_) #[T,T,T,T,T,T,T,T,T,T,T,T,T,T,T,T,T,T,T,T,F] rfl rfl (any_of HT_.out (by kernel_rfl)) (fun _ _ _ h => h) (Or.inl ⟨by rfl, ?_⟩) ?_ ?_
 rotate_left;{
 intro w'
 go_simp
 with_reducible rfl}
 rotate_left;{
 simp only [ap,sA,s0,s1,i64_w,i32_w]
 rfl}
 refine pure_ (i := 20) (N := some 12) (v := ?_) (a' := ?_) #[T,T,T,T,T,T,T,T,T,T,T,T,T,T,T,T,T,T,T,T,T] rfl rfl (any_of HT_.out (by kernel_rfl)) (fun _ _ _ h => h) (Or.inl ⟨by rfl, ?_⟩) ?_ ?_
 rotate_left;{
 intro w'
 go_simp
 with_reducible rfl}
 rotate_left;{
 simp only [ap,sA,s0,s1,i64_w,i32_w]
 rfl}
 refine done_ (done_of HT_.out (by kernel_rfl)) ?_
 try go_wp2
 go_ret
 exact ⟨by first | rfl | (simp [errW_none, errW_some] <;> rfl) | (simp only [← hji28]; first | rfl | (simp [errW_none, errW_some] <;> rfl)) | (simp [*, errW_none, errW_some] <;> rfl), by repeat (first | (with_reducible first | exact HB.out | apply below_alloc | apply pw_below_drewN | apply below_drew1 | refine below_set ?_ GE337.out) | exact HB.out)⟩}
 rw [if_neg c30] at H
 exact absurd H (by simp)}
  rw [if_neg c29] at H
  exact absurd H (by simp)
end Go.Proofs.Ytieffjkplaajdaa.SW

