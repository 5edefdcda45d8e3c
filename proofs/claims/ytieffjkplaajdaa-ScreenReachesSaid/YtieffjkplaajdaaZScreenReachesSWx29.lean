/- Of the text SWx29, what the row of ScreenReaches reaches. -/
import Derived.Test.YtieffjkplaajdaaZScreenReachesSWx0
import Derived.Test.YtieffjkplaajdaaZScreenReachesSWx1
import Derived.Test.YtieffjkplaajdaaZScreenReachesSWx19
import Derived.Test.YtieffjkplaajdaaZScreenReachesSWx23
namespace Go.Proofs.Ytieffjkplaajdaa.SW
open Go.RowKit Go.Proofs.YtieffjkplaajdaaW.PrintWords Go.Proofs.YtieffjkplaajdaaW.PrintLast Go.Proofs.YtieffjkplaajdaaW.PrintMore
open Go.Proofs.YtieffjkplaajdaaW.PrintWords renaming blk_drewN → bN, blk_drew → bD, blk_alloc → bA, below_alloc → wA, pw_below_drewN → wN, below_drew1 → wD, below_set → wS
open List renaming setIfInBounds_toArray → sA, set_cons_zero → s0, set_cons_succ → s1
open Act renaming put → ap
open Aside0 renaming mk → am
attribute [local go_sem] max2_int min2_int max_two min_two max_three min_three max_four min_four   -- for this text's walks alone
set_option linter.unusedVariables false
set_option linter.unusedSimpArgs false

attribute [local go_sem high] eqA25
def wigeonref02_Reach.l0 : Nat → List (S25) → List Int → List (S25) → Int → Option ((List (S25)) × Int)
  | 0, _, _, _, _ => none
  | k + 1, x11, x12, x13, x14 => if x14 < (x11.length : Int) then (if 0 ≤ x14 then (if x14 < (x12.length : Int) then (if (rd x12 x14) ≥ 0 then (if x13.length < 8796093022208 then (wigeonref02_Reach.l0 k x11 x12 (x13 ++ [(⟨(rd_T25 x11 x14).f0, (rd_T25 x11 x14).f1⟩ : S25)]) (wrap64 (x14 + 1))) else (none)) else (wigeonref02_Reach.l0 k x11 x12 x13 (wrap64 (x14 + 1)))) else (none)) else (none)) else (some (x13, 0))
def wigeonref02_Reach.f (k : Nat) (l0 : List (S48)) (l1 : List (S25)) (a2_0 : Int) (a2_1 : Int) (a2_2 : Int) (a2_3 : Int) (a3_0 : Int) (a3_1 : Int) : Option ((List (S25)) × Int) := (wigeonref02_placed.f k l0 l1 a2_0 a2_1 a2_2 a2_3 (([(⟨a3_0, a3_1⟩ : S25)] : List (S25)))).bind fun t323 => (if t323 = 0 then ((wigeonref02_distances.f k l0 l1 a2_0 a2_1 a2_2 a2_3 a3_0 a3_1).bind fun bt324 => (wigeonref02_Reach.l0 k bt324.1 bt324.2 ([] : List (S25)) 0)) else (some (([] : List (S25)), t323)))
open Bool renaming true → T, false → F
set_option maxHeartbeats 8000000 in
set_option maxRecDepth 100000 in
theorem wigeonref02_Reach.calls (k : Nat) (A0 : Option Addr) (c0 : Nat) (l0 : List (S48)) (A1 : Option Addr) (c1 : Nat) (l1 : List (S25)) (a2_0 : Int) (a2_1 : Int) (a2_2 : Int) (a2_3 : Int) (a3_0 : Int) (a3_1 : Int) (r1 : List (S25)) (r2 : Int) (w : World) (hr0 : Kd.C k48 w A0 l0.length l0) (hc0 : l0.length ≤ c0) (hr1 : Kd.C k25 w A1 l1.length l1) (hc1 : l1.length ≤ c1) (h : wigeonref02_Reach.f k l0 l1 a2_0 a2_1 a2_2 a2_3 a3_0 a3_1 = some (r1, r2)) :
 Calls Try.prog 13 #[.slice A0 l0.length c0, .slice A1 l1.length c1, .agg #[.int .i64 a2_0, .int .i64 a2_1, .int .i64 a2_2, .int .i64 a2_3], .agg #[.int .i64 a3_0, .int .i64 a3_1]] w fun e w' => ∃ v0_ : Value, e = .returned (.tuple #[v0_, .int .i64 r2]) ∧ Kd.R k25 25 w' w.heap.size (fun _ => True) v0_ r1 ∧ Below w.heap.size w w' := by
 have hu27 := Try.underlying27
 have hu25 := Try.underlying25
 have HR0 := am hr0
 have HC0 := am hc0
 clear hr0 hc0
 have HR1 := am hr1
 have HC1 := am hc1
 clear hr1 hc1
 have HB := am (Below.refl w.heap.size w)
 have H : ((wigeonref02_placed.f k l0 l1 a2_0 a2_1 a2_2 a2_3 (([(⟨a3_0, a3_1⟩ : S25)] : List (S25)))).bind fun t323 => (if t323 = 0 then ((wigeonref02_distances.f k l0 l1 a2_0 a2_1 a2_2 a2_3 a3_0 a3_1).bind fun bt324 => (wigeonref02_Reach.l0 k bt324.1 bt324.2 ([] : List (S25)) 0)) else (some (([] : List (S25)), t323)))) = some (r1, r2) := h
 clear h
 obtain ⟨y320, hy320⟩ : ∃ y_ : List (S25), y_ = (([(⟨a3_0, a3_1⟩ : S25)] : List (S25))) := ⟨_, rfl⟩
 replace H : ((wigeonref02_placed.f k l0 l1 a2_0 a2_1 a2_2 a2_3 y320).bind fun t323 => (if t323 = 0 then ((wigeonref02_distances.f k l0 l1 a2_0 a2_1 a2_2 a2_3 a3_0 a3_1).bind fun bt324 => (wigeonref02_Reach.l0 k bt324.1 bt324.2 ([] : List (S25)) 0)) else (some (([] : List (S25)), t323)))) = some (r1, r2) := by first | (rw [hy320]; with_reducible exact H) | (have H2_ := (Option.bind_some _ _).symm.trans H; rw [hy320]; with_reducible exact H2_) | (have H2_ := (Option.bind_some _ _).symm.trans H; with_reducible exact H2_) | with_reducible exact H | (rw [hy320]; exact H) | exact H
 have Ny320 := am hy320
 clear hy320
 replace H := Option.bind_eq_some_iff.mp H
 obtain ⟨t323, A50, H⟩ := H
 replace H : (if t323 = 0 then ((wigeonref02_distances.f k l0 l1 a2_0 a2_1 a2_2 a2_3 a3_0 a3_1).bind fun bt324 => (wigeonref02_Reach.l0 k bt324.1 bt324.2 ([] : List (S25)) 0)) else (some (([] : List (S25)), t323))) = some (r1, r2) := H
 have A5 := am A50
 clear A50
 by_cases c6 : t323 = 0
 {
 rw [if_pos c6] at H
 have c6b0 : (t323 == 0) = true := beq_iff_eq.mpr c6
 have c6b1 : (t323 != 0) = false := bne_eq_false_iff_eq.mpr c6
 clear c6
 replace H := Option.bind_eq_some_iff.mp H
 obtain ⟨⟨t324, t327⟩, A70, H⟩ := H
 replace H : (wigeonref02_Reach.l0 k t324 t327 ([] : List (S25)) 0) = some (r1, r2) := H
 have A7 := am A70
 clear A70
 have H' := am H
 clear H
 go_enter Try.func13, Try.ntmps13
 go_wp2_with (first | ((with_reducible refine gate_dst (N := 6) rfl ?_); refine box_event ?hg (N := 6) ?hd (cs := #[.int .i64 a2_0, .int .i64 a2_1, .int .i64 a2_2, .int .i64 a2_3]) (t := 27) ?hr ?_; (case hd => rfl); (case hg => rfl); (case hr => first | (go_simp; done) | (go_simp; rfl)); intro gb318 hg w8 hbox hb; have n0_ := am (below_step (by repeat first|(with_reducible first|exact HB.out|apply wA|apply wN|apply wD)|exact HB.out) hb); have n1_ := am (hbox); have n2_ := am ((by rw [hg]; exact (below_size (by repeat first|(with_reducible first|exact HB.out|apply wA|apply wN|apply wD)|exact HB.out)) : w.heap.size ≤ gb318)); have n3_ := am ((by rw [hg]; exact (below_size (by repeat first|(with_reducible first|exact HB.out|apply wA|apply wN|apply wD)|exact HB.out)) : w.heap.size ≤ gb318)); clear HB; have HB := n0_; have BK318 := n1_; have GW318 := n2_; have GE318 := n3_; clear n0_ n1_ n2_ n3_; clear hb hbox hg) | ((with_reducible refine gate_dst (N := 7) rfl ?_); refine box_event ?hg (N := 7) ?hd (cs := #[.int .i64 a3_0, .int .i64 a3_1]) (t := 25) ?hr ?_; (case hd => rfl); (case hg => rfl); (case hr => first | (go_simp; done) | (go_simp; rfl)); intro gb319 hg w9 hbox hb; have n0_ := am (blk_below (by (with_reducible repeat first|refine bN ?_ _|refine bD ?_|refine bA ?_ _);exact BK318.out) hb); have n1_ := am (below_step (by repeat first|(with_reducible first|exact HB.out|apply wA|apply wN|apply wD|refine wS ?_ GE318.out)|exact HB.out) hb); have n2_ := am (hbox); have n3_ := am ((by rw [hg]; exact (below_size (by repeat first|(with_reducible first|exact HB.out|apply wA|apply wN|apply wD|refine wS ?_ GE318.out)|exact HB.out)) : w.heap.size ≤ gb319)); have n4_ := am ((by rw [hg]; exact (below_size (by repeat first|(with_reducible first|exact HB.out|apply wA|apply wN|apply wD|refine wS ?_ GE318.out)|exact HB.out)) : w.heap.size ≤ gb319)); have n5_ := am ((by rw [hg]; exact Nat.ne_of_lt (blk_lt (by (with_reducible repeat first|refine bN ?_ _|refine bD ?_|refine bA ?_ _);exact BK318.out)) : gb318 ≠ gb319)); have n6_ := am ((by rw [hg]; exact Nat.ne_of_gt (blk_lt (by (with_reducible repeat first|refine bN ?_ _|refine bD ?_|refine bA ?_ _);exact BK318.out)) : gb319 ≠ gb318)); clear BK318; clear HB; have BK318 := n0_; have HB := n1_; have BK319 := n2_; have GW319 := n3_; have GE319 := n4_; have NB318_319 := n5_; have NB319_318 := n6_; clear n0_ n1_ n2_ n3_ n4_ n5_ n6_; clear hb hbox hg; have hnb10 := NB318_319.out; have hnc10 := NB319_318.out; have hcz11_0 : w9.cell? ⟨gb318, 0, none⟩ = some (.int .i64 a2_0) := (blk_cell BK318.out 0).trans rfl; have hcz11_1 : w9.cell? ⟨gb318, 1, none⟩ = some (.int .i64 a2_1) := (blk_cell BK318.out 1).trans rfl; have hcz11_2 : w9.cell? ⟨gb318, 2, none⟩ = some (.int .i64 a2_2) := (blk_cell BK318.out 2).trans rfl; have hcz11_3 : w9.cell? ⟨gb318, 3, none⟩ = some (.int .i64 a2_3) := (blk_cell BK318.out 3).trans rfl; have hfz11_0 := blk_frozen BK318.out 0; have hfz11_1 := blk_frozen BK318.out 1; have hfz11_2 := blk_frozen BK318.out 2; have hfz11_3 := blk_frozen BK318.out 3; have hcz12_0 : w9.cell? ⟨gb319, 0, none⟩ = some (.int .i64 a3_0) := (blk_cell BK319.out 0).trans rfl; have hcz12_1 : w9.cell? ⟨gb319, 1, none⟩ = some (.int .i64 a3_1) := (blk_cell BK319.out 1).trans rfl; have hfz12_0 := blk_frozen BK319.out 0; have hfz12_1 := blk_frozen BK319.out 1) | ((with_reducible refine gate_dst (N := 19) rfl ?_); refine Kd.R_lit k25 _ 25 ?hg (N := 19) ?hd (xs := ([(⟨a3_0, a3_1⟩ : S25)] : List (S25))) (inner := [.int .i64 a3_0, .int .i64 a3_1]) (ok := fun _ => True) (okp := fun _ => True) ?hr ?hp (fun _ hk => hk) trivial (Below.refl _ _) (Nat.le_refl _) (by simp) ?_; (case hd => rfl); (case hg => rfl); (case hr => first | (go_simp; done) | (go_simp; rfl)); (case hp => exact (Reps.c2 (show Kd.M k25 _ _ _ (⟨a3_0, a3_1⟩ : S25) [.int .i64 a3_0, .int .i64 a3_1] from (k25_mkM _ _ _ (⟨a3_0, a3_1⟩ : S25) )) (Reps.none _ _))); intro v321 w13 ho14 hb hg_ hnew_; clear hg_ hnew_; (first | rw [← Ny320.out] at ho14 | (simp only [Int.reduceToNat] at ho14; rw [← Ny320.out] at ho14)); have n0_ := am (Kd.R_lower (Kd.R_newB ho14 (by (with_reducible repeat first|refine bN ?_ _|refine bD ?_|refine bA ?_ _);exact BK319.out)) (below_size (by repeat first|(with_reducible first|exact HB.out|apply wA|apply wN|apply wD|refine wS ?_ GE318.out|refine wS ?_ GE319.out)|exact HB.out))); have n1_ := am (blk_below (by (with_reducible repeat first|refine bN ?_ _|refine bD ?_|refine bA ?_ _);exact BK318.out) hb); have n2_ := am (blk_below (by (with_reducible repeat first|refine bN ?_ _|refine bD ?_|refine bA ?_ _);exact BK319.out) hb); have n3_ := am (below_step (by repeat first|(with_reducible first|exact HB.out|apply wA|apply wN|apply wD|refine wS ?_ GE318.out|refine wS ?_ GE319.out)|exact HB.out) hb); clear BK318; clear BK319; clear HB; have HO322 := n0_; have BK318 := n1_; have BK319 := n2_; have HB := n3_; clear n0_ n1_ n2_ n3_; clear hb ho14; obtain ⟨Ao15, co15, eo15⟩ := Kd.R_slice HO322.out; subst eo15) | ((with_reducible refine gate_callee (f := 26) rfl ?_); refine goesL_ (some 20) rfl rfl Try.func26 (by kernel_rfl) rfl #[.slice A0 l0.length c0, .slice A1 l1.length c1, .agg #[.int .i64 a2_0, .int .i64 a2_1, .int .i64 a2_2, .int .i64 a2_3], .slice Ao15 y320.length co15] rfl (by (try simp only [List.map_toArray, List.map_cons, List.map_nil]); first | done | rfl | (simp only [List.length_drop, List.length_take]; rfl)) ?_; (with_reducible refine (wigeonref02_placed.calls k _ _ l0 _ _ l1 a2_0 a2_1 a2_2 a2_3 _ _ y320 t323 _ ?side1 ?side2 ?side3 ?side4 ?side5 ?side6 A5.out).mono ?_); (case side1 => repeat (first | exact (Kd.C_below HR0.out HB.out) | (with_reducible refine Kd.C_alloc ?_ _) | (with_reducible refine Kd.C_drewN ?_ _) | (with_reducible refine Kd.C_drew ?_))); (case side2 => exact HC0.out); (case side3 => repeat (first | exact (Kd.C_below HR1.out HB.out) | (with_reducible refine Kd.C_alloc ?_ _) | (with_reducible refine Kd.C_drewN ?_ _) | (with_reducible refine Kd.C_drew ?_))); (case side4 => exact HC1.out); (case side5 => repeat (first | exact (Kd.R_reads' HO322.out).2.2 | (with_reducible refine Kd.C_alloc ?_ _) | (with_reducible refine Kd.C_drewN ?_ _) | (with_reducible refine Kd.C_drew ?_))); (case side6 => exact (Kd.R_reads' HO322.out).2.1); rintro e w16 ⟨rfl, hb⟩; refine ⟨_, rfl, ?_⟩; have n0_ := am (Kd.R_below (by (with_reducible repeat first|apply Kd.R_alloc|apply Kd.R_drewN|apply Kd.R_drew);exact HO322.out) hb); have n1_ := am (blk_below (by (with_reducible repeat first|refine bN ?_ _|refine bD ?_|refine bA ?_ _);exact BK318.out) hb); have n2_ := am (blk_below (by (with_reducible repeat first|refine bN ?_ _|refine bD ?_|refine bA ?_ _);exact BK319.out) hb); have n3_ := am (below_step (by repeat first|(with_reducible first|exact HB.out|apply wA|apply wN|apply wD|refine wS ?_ GE318.out|refine wS ?_ GE319.out)|exact HB.out) hb); clear HO322; clear BK318; clear BK319; clear HB; have HO322 := n0_; have BK318 := n1_; have BK319 := n2_; have HB := n3_; clear n0_ n1_ n2_ n3_; (try clear hb); (try clear hb2); (try clear hk); (try clear hi); have hcz17_0 : w16.cell? ⟨gb318, 0, none⟩ = some (.int .i64 a2_0) := (blk_cell BK318.out 0).trans rfl; have hcz17_1 : w16.cell? ⟨gb318, 1, none⟩ = some (.int .i64 a2_1) := (blk_cell BK318.out 1).trans rfl; have hcz17_2 : w16.cell? ⟨gb318, 2, none⟩ = some (.int .i64 a2_2) := (blk_cell BK318.out 2).trans rfl; have hcz17_3 : w16.cell? ⟨gb318, 3, none⟩ = some (.int .i64 a2_3) := (blk_cell BK318.out 3).trans rfl; have hfz17_0 := blk_frozen BK318.out 0; have hfz17_1 := blk_frozen BK318.out 1; have hfz17_2 := blk_frozen BK318.out 2; have hfz17_3 := blk_frozen BK318.out 3; have hcz18_0 : w16.cell? ⟨gb319, 0, none⟩ = some (.int .i64 a3_0) := (blk_cell BK319.out 0).trans rfl; have hcz18_1 : w16.cell? ⟨gb319, 1, none⟩ = some (.int .i64 a3_1) := (blk_cell BK319.out 1).trans rfl; have hfz18_0 := blk_frozen BK319.out 0; have hfz18_1 := blk_frozen BK319.out 1) | ((with_reducible refine gate_callee (f := 27) rfl ?_); refine goesL_ (some 29) rfl rfl Try.func27 (by kernel_rfl) rfl #[.slice A0 l0.length c0, .slice A1 l1.length c1, .agg #[.int .i64 a2_0, .int .i64 a2_1, .int .i64 a2_2, .int .i64 a2_3], .agg #[.int .i64 a3_0, .int .i64 a3_1]] rfl (by (try simp only [List.map_toArray, List.map_cons, List.map_nil]); first | done | rfl | (simp only [List.length_drop, List.length_take]; rfl)) ?_; (with_reducible refine (wigeonref02_distances.calls k _ _ l0 _ _ l1 a2_0 a2_1 a2_2 a2_3 a3_0 a3_1 t324 t327 _ ?side1 ?side2 ?side3 ?side4 A7.out).mono ?_); (case side1 => repeat (first | exact (Kd.C_below HR0.out HB.out) | (with_reducible refine Kd.C_alloc ?_ _) | (with_reducible refine Kd.C_drewN ?_ _) | (with_reducible refine Kd.C_drew ?_))); (case side2 => exact HC0.out); (case side3 => repeat (first | exact (Kd.C_below HR1.out HB.out) | (with_reducible refine Kd.C_alloc ?_ _) | (with_reducible refine Kd.C_drewN ?_ _) | (with_reducible refine Kd.C_drew ?_))); (case side4 => exact HC1.out); rintro e w19 ⟨v325, v328, rfl, ho0, ho1, hb⟩; refine ⟨_, rfl, ?_⟩; have n0_ := am (Kd.R_elder' (by (with_reducible repeat first|apply Kd.R_alloc|apply Kd.R_drewN|apply Kd.R_drew);exact HO322.out) (Kd.R_base ho0) hb); have n1_ := am (Kd.R_lower (Kd.R_newB (Kd.R_new' ho0 (Kd.R_lt (by (with_reducible repeat first|apply Kd.R_alloc|apply Kd.R_drewN|apply Kd.R_drew);exact HO322.out))) (by (with_reducible repeat first|refine bN ?_ _|refine bD ?_|refine bA ?_ _);exact BK319.out)) (below_size (by repeat first|(with_reducible first|exact HB.out|apply wA|apply wN|apply wD|refine wS ?_ GE318.out|refine wS ?_ GE319.out)|exact HB.out))); have n2_ := am (Kd.R_lower ho1 (below_size (by repeat first|(with_reducible first|exact HB.out|apply wA|apply wN|apply wD|refine wS ?_ GE318.out|refine wS ?_ GE319.out)|exact HB.out))); have n3_ := am (blk_below (by (with_reducible repeat first|refine bN ?_ _|refine bD ?_|refine bA ?_ _);exact BK318.out) hb); have n4_ := am (blk_below (by (with_reducible repeat first|refine bN ?_ _|refine bD ?_|refine bA ?_ _);exact BK319.out) hb); have n5_ := am (below_step (by repeat first|(with_reducible first|exact HB.out|apply wA|apply wN|apply wD|refine wS ?_ GE318.out|refine wS ?_ GE319.out)|exact HB.out) hb); clear HO322; clear BK318; clear BK319; clear HB; have HO322 := n0_; have HO326 := n1_; have HO329 := n2_; have BK318 := n3_; have BK319 := n4_; have HB := n5_; clear n0_ n1_ n2_ n3_ n4_ n5_; (try clear hb); (try clear hb2); (try clear hk); (try clear hi); (try clear ho0); (try clear ho1)))
 go_loopg [13, 14] k (fun kq v13 v14 w' => ∃ (x13_1 : List (S25)) (x14_1 : Int), v14 = .int .i64 x14_1 ∧ Aside0 (wigeonref02_Reach.l0 kq t324 t327 x13_1 x14_1 = some (r1, r2)) ∧ Aside0 (kq ≤ k) ∧ Aside0 (Kd.R k25 25 w' w.heap.size (fun k_ => some k_ ≠ (v13 : Value).ownBlock ∧ k_ ≠ gb319) v325 t324) ∧ Aside0 (Kd.R (Kd.int .i64) 3 w' w.heap.size (fun _ => True) v328 t327) ∧ Aside0 (Kd.R k25 25 w' w.heap.size (fun k_ => some k_ ≠ (v325 : Value).ownBlock ∧ k_ ≠ gb319) v13 x13_1) ∧ Aside0 (w'.heap[gb318]? = some (.cells #[.int .i64 a2_0, .int .i64 a2_1, .int .i64 a2_2, .int .i64 a2_3] 27 (0, 0))) ∧ Aside0 (w'.heap[gb319]? = some (.cells #[.int .i64 a3_0, .int .i64 a3_1] 25 (0, 0))) ∧ Aside0 (Below w.heap.size w w'))
 case atStart => exact ⟨(([] : List (S25))), (0), (by first | rfl | (simp; done) | (simp [*]; done)), H', ⟨Nat.le_refl _⟩, ⟨by (with_reducible repeat first|apply Kd.R_alloc|apply Kd.R_drewN|apply Kd.R_drew);exact Kd.R_mono HO326.out (fun _ hk => ⟨(by simp [Value.ownBlock]), hk.2⟩)⟩, ⟨by (with_reducible repeat first|apply Kd.R_alloc|apply Kd.R_drewN|apply Kd.R_drew);exact HO329.out⟩, ⟨by first | exact Kd.R_nil _ _ _ _ _ | exact Kd.N_nil _ _ _ _ _ | exact Kd.V_nil _ _ _ _ _ | exact Kd.Q_nil _ _ _ _ _ | exact Kd.S_nil _ _ _ _ _⟩, ⟨by (with_reducible repeat first|refine bN ?_ _|refine bD ?_|refine bA ?_ _);exact BK318.out⟩, ⟨by (with_reducible repeat first|refine bN ?_ _|refine bD ?_|refine bA ?_ _);exact BK319.out⟩, ⟨by repeat (first | (with_reducible first | exact HB.out | apply below_alloc | apply pw_below_drewN | apply below_drew1 | refine below_set ?_ GE318.out | refine below_set ?_ GE319.out) | exact HB.out)⟩⟩
 case round =>(
 clear H'
 try clear c1; try clear c2; try clear p2; try clear c6; try clear c6b0; try clear c6b1; try clear c10; try clear c13; try clear hcz11_0; try clear hcz11_1; try clear hcz11_2; try clear hcz11_3; try clear hcz12_0; try clear hcz12_1; try clear hcz17_0; try clear hcz17_1; try clear hcz17_2; try clear hcz17_3; try clear hcz18_0; try clear hcz18_1; try clear hfz11_0; try clear hfz11_1; try clear hfz11_2; try clear hfz11_3; try clear hfz12_0; try clear hfz12_1; try clear hfz17_0; try clear hfz17_1; try clear hfz17_2; try clear hfz17_3; try clear hfz18_0; try clear hfz18_1
 obtain ⟨x13_1, x14_1, rfl, HA, HK1, HO_11, HO_12, HO_13, BK318, BK319, HB⟩ := hrel
 cases gk with
 | zero => exact absurd HA.out (by simp [wigeonref02_Reach.l0])
 | succ k1 =>
  have H := HA.out
  clear HA
  simp only [wigeonref02_Reach.l0] at H
  by_cases c20 : x14_1 < (t324.length : Int)
  {
 rw [if_pos c20] at H
 have c20b0 : decide (x14_1 < (t324.length : Int)) = true := decide_eq_true c20
 clear c20
 by_cases c21 : 0 ≤ x14_1
 {
 rw [if_pos c21] at H
 have c21b0 : decide (0 ≤ x14_1) = true := decide_eq_true c21
 clear c21
 by_cases c22 : x14_1 < (t327.length : Int)
 {
 rw [if_pos c22] at H
 have c22b0 : decide (x14_1 < (t327.length : Int)) = true := decide_eq_true c22
 clear c22
 by_cases c23 : (rd t327 x14_1) ≥ 0
 {
 rw [if_pos c23] at H
 have c23b0 : decide (0 ≤ (rd t327 x14_1)) = true := decide_eq_true c23
 clear c23
 by_cases c24 : x13_1.length < 8796093022208
 {
 rw [if_pos c24] at H
 have LMc24 := am c24
 clear c24
 obtain ⟨y332, hy332⟩ : ∃ y_ : List (S25), y_ = (x13_1 ++ [(⟨(rd_T25 t324 x14_1).f0, (rd_T25 t324 x14_1).f1⟩ : S25)]) := ⟨_, rfl⟩
 replace H : (wigeonref02_Reach.l0 k1 t324 t327 y332 (wrap64 (x14_1 + 1))) = some (r1, r2) := by first | (rw [hy332]; with_reducible exact H) | (have H2_ := (Option.bind_some _ _).symm.trans H; rw [hy332]; with_reducible exact H2_) | (have H2_ := (Option.bind_some _ _).symm.trans H; with_reducible exact H2_) | with_reducible exact H | (rw [hy332]; exact H) | exact H
 have Ny332 := am hy332
 clear hy332
 have H' := am H
 clear H
 obtain ⟨Ao25, co25, eo25⟩ := Kd.R_slice HO_11.out
 subst eo25
 obtain ⟨Ao26, co26, eo26⟩ := Kd.R_slice HO_12.out
 subst eo26
 have p330 : 0 ≤ (x14_1 : Int) := of_decide_eq_true (by first | (with_reducible assumption) | assumption)
 have q330 : x14_1 < (t327.length : Int) := of_decide_eq_true (by first | (with_reducible assumption) | assumption)
 obtain ⟨ad330, e330, hx330_0⟩ := Kd.at_int (Kd.R_reads' HO_12.out).2.2 x14_1 p330 q330
 cases e330
 replace p330 := eq_true p330
 replace q330 := eq_true q330
 have p331 : 0 ≤ (x14_1 : Int) := of_decide_eq_true (by first | (with_reducible assumption) | assumption)
 have q331 : x14_1 < (t324.length : Int) := of_decide_eq_true (by first | (with_reducible assumption) | assumption)
 obtain ⟨ad331, e331, hx331_0, hx331_1⟩ := at_T25 (Kd.R_reads' HO_11.out).2.2 x14_1 p331 q331
 cases e331
 replace p331 := eq_true p331
 replace q331 := eq_true q331
 go_wp2_with (first | ((with_reducible refine gate_builtin (b := .append) (xs := #[.tmp 43, .tmp 48]) rfl ?_); at_builtin; refine Kd.R_append k25 (w0 := w) w.heap.size rfl (.tmp 43) (.tmp 48) 23 25 (.agg #[(.int .i64 0), (.int .i64 0)]) 16 rfl Try.underlying23 info25 rfl (by decide) (by omega) u13 x13_1 (⟨(rd_T25 t324 x14_1).f0, (rd_T25 t324 x14_1).f1⟩ : S25) [.int .i64 ((rd_T25 t324 x14_1).f0), .int .i64 ((rd_T25 t324 x14_1).f1)] (fun k_ => some k_ ≠ (.slice (some ad331) t324.length co25 : Value).ownBlock ∧ k_ ≠ gb319) (fun _ => False) rfl rfl ?aP (fun _ hk => hk.elim) ?aF ?aO ?aB ?aS ?aL ?_; (case aP => exact k25_mkM _ _ _ (⟨(rd_T25 t324 x14_1).f0, (rd_T25 t324 x14_1).f1⟩ : S25)); (case aB => exact (by repeat first|(with_reducible first|exact HB.out|apply wA|apply wN|apply wD|refine wS ?_ GE318.out|refine wS ?_ GE319.out)|exact HB.out)); (case aF => exact (fun k_ hk => ⟨Kd.fresh' (Kd.R_lt (by (with_reducible repeat first|apply Kd.R_alloc|apply Kd.R_drewN|apply Kd.R_drew);exact HO_11.out)) k_ hk, Kd.freshB (by (with_reducible repeat first|refine bN ?_ _|refine bD ?_|refine bA ?_ _);exact BK319.out) k_ hk⟩)); (case aO => exact (by (with_reducible repeat first|apply Kd.R_alloc|apply Kd.R_drewN|apply Kd.R_drew);exact HO_13.out)); (case aS => exact (below_size (by repeat first|(with_reducible first|exact HB.out|apply wA|apply wN|apply wD|refine wS ?_ GE318.out|refine wS ?_ GE319.out)|exact HB.out))); (case aL => have := LMc24.out; omega); intro v333 w27 ho hb hg hat; rw [← Ny332.out] at ho; have n0_ := am (Kd.R_after (ok := (fun k_ => k_ ≠ gb319)) (by (with_reducible repeat first|apply Kd.R_alloc|apply Kd.R_drewN|apply Kd.R_drew);exact Kd.R_mono HO_11.out (fun _ hk => ⟨hk.2, hk.1⟩)) hg hat); have n1_ := am (Kd.R_over' (by (with_reducible repeat first|apply Kd.R_alloc|apply Kd.R_drewN|apply Kd.R_drew);exact HO_12.out) (Kd.R_typed (by (with_reducible repeat first|apply Kd.R_alloc|apply Kd.R_drewN|apply Kd.R_drew);exact HO_13.out)) (by decide) hg); have n2_ := am (blk_grown (by (with_reducible repeat first|refine bN ?_ _|refine bD ?_|refine bA ?_ _);exact BK318.out) hg (Kd.R_ne HO_13.out BK318.out (by decide))); have n3_ := am (blk_grown (by (with_reducible repeat first|refine bN ?_ _|refine bD ?_|refine bA ?_ _);exact BK319.out) hg (Kd.R_away HO_13.out (fun _ hk => hk.2))); have n4_ := am (hb); have n5_ := am (ho); clear HO_11; clear HO_12; clear BK318; clear BK319; clear HB; clear HO_13; have HO_11 := n0_; have HO_12 := n1_; have BK318 := n2_; have BK319 := n3_; have HB := n4_; have HO334 := n5_; clear n0_ n1_ n2_ n3_ n4_ n5_; clear ho hb hg hat))
 go_roundg k1
 case measure => have := HK1.out; omega
 case rel => exact ⟨(y332), (wrap64 (x14_1 + 1)), (by first | rfl | (simp; done) | (simp [*]; done)), H', ⟨by have := HK1.out; omega⟩, ⟨by (with_reducible repeat first|apply Kd.R_alloc|apply Kd.R_drewN|apply Kd.R_drew);exact Kd.R_mono HO_11.out (fun _ hk => ⟨hk.2, hk.1⟩)⟩, ⟨by (with_reducible repeat first|apply Kd.R_alloc|apply Kd.R_drewN|apply Kd.R_drew);exact HO_12.out⟩, ⟨by (with_reducible repeat first|apply Kd.R_alloc|apply Kd.R_drewN|apply Kd.R_drew);exact HO334.out⟩, ⟨by (with_reducible repeat first|refine bN ?_ _|refine bD ?_|refine bA ?_ _);exact BK318.out⟩, ⟨by (with_reducible repeat first|refine bN ?_ _|refine bD ?_|refine bA ?_ _);exact BK319.out⟩, ⟨by repeat (first | (with_reducible first | exact HB.out | apply below_alloc | apply pw_below_drewN | apply below_drew1 | refine below_set ?_ GE318.out | refine below_set ?_ GE319.out) | exact HB.out)⟩⟩}
 rw [if_neg c24] at H
 exact absurd H (by simp)}
 rw [if_neg c23] at H
 have c23b0 : decide (0 ≤ (rd t327 x14_1)) = false := decide_eq_false c23
 clear c23
 have H' := am H
 clear H
 obtain ⟨Ao28, co28, eo28⟩ := Kd.R_slice HO_11.out
 subst eo28
 obtain ⟨Ao29, co29, eo29⟩ := Kd.R_slice HO_12.out
 subst eo29
 have p330 : 0 ≤ (x14_1 : Int) := of_decide_eq_true (by first | (with_reducible assumption) | assumption)
 have q330 : x14_1 < (t327.length : Int) := of_decide_eq_true (by first | (with_reducible assumption) | assumption)
 obtain ⟨ad330, e330, hx330_0⟩ := Kd.at_int (Kd.R_reads' HO_12.out).2.2 x14_1 p330 q330
 cases e330
 replace p330 := eq_true p330
 replace q330 := eq_true q330
 go_wp2
 go_roundg k1
 case measure => have := HK1.out; omega
 case rel => exact ⟨(x13_1), (wrap64 (x14_1 + 1)), (by first | rfl | (simp; done) | (simp [*]; done)), H', ⟨by have := HK1.out; omega⟩, ⟨by (with_reducible repeat first|apply Kd.R_alloc|apply Kd.R_drewN|apply Kd.R_drew);exact HO_11.out⟩, ⟨by (with_reducible repeat first|apply Kd.R_alloc|apply Kd.R_drewN|apply Kd.R_drew);exact HO_12.out⟩, ⟨by (with_reducible repeat first|apply Kd.R_alloc|apply Kd.R_drewN|apply Kd.R_drew);exact HO_13.out⟩, ⟨by (with_reducible repeat first|refine bN ?_ _|refine bD ?_|refine bA ?_ _);exact BK318.out⟩, ⟨by (with_reducible repeat first|refine bN ?_ _|refine bD ?_|refine bA ?_ _);exact BK319.out⟩, ⟨by repeat (first | (with_reducible first | exact HB.out | apply below_alloc | apply pw_below_drewN | apply below_drew1 | refine below_set ?_ GE318.out | refine below_set ?_ GE319.out) | exact HB.out)⟩⟩}
 rw [if_neg c22] at H
 exact absurd H (by simp)}
 rw [if_neg c21] at H
 exact absurd H (by simp)}
  rw [if_neg c20] at H
  have c20b0 : decide (x14_1 < (t324.length : Int)) = false := decide_eq_false c20
  clear c20
  simp only [Option.some.injEq, Prod.mk.injEq] at H
  obtain ⟨rfl, rfl⟩ := H
  obtain ⟨Ao30, co30, eo30⟩ := Kd.R_slice HO_11.out
  subst eo30
  go_wp2
  go_ret2
  exact ⟨_, by first | rfl | (simp [errW_none, errW_some] <;> rfl) | (simp [*, errW_none, errW_some] <;> rfl), by (with_reducible repeat first|apply Kd.R_alloc|apply Kd.R_drewN|apply Kd.R_drew);exact Kd.R_mono HO_13.out (fun _ hk => trivial), by repeat (first | (with_reducible first | exact HB.out | apply below_alloc | apply pw_below_drewN | apply below_drew1 | refine below_set ?_ GE318.out | refine below_set ?_ GE319.out) | exact HB.out)⟩)}
 rw [if_neg c6] at H
 have c6b0 : (t323 == 0) = false := beq_eq_false_iff_ne.mpr c6
 have c6b1 : (t323 != 0) = true := bne_iff_ne.mpr c6
 simp only [Option.some.injEq, Prod.mk.injEq] at H
 obtain ⟨rfl, rfl⟩ := H
 go_enter Try.func13, Try.ntmps13
 go_wp2_with (first | ((with_reducible refine gate_dst (N := 6) rfl ?_); refine box_event ?hg (N := 6) ?hd (cs := #[.int .i64 a2_0, .int .i64 a2_1, .int .i64 a2_2, .int .i64 a2_3]) (t := 27) ?hr ?_; (case hd => rfl); (case hg => rfl); (case hr => first | (go_simp; done) | (go_simp; rfl)); intro gb318 hg w31 hbox hb; have n0_ := am (below_step (by repeat first|(with_reducible first|exact HB.out|apply wA|apply wN|apply wD)|exact HB.out) hb); have n1_ := am (hbox); have n2_ := am ((by rw [hg]; exact (below_size (by repeat first|(with_reducible first|exact HB.out|apply wA|apply wN|apply wD)|exact HB.out)) : w.heap.size ≤ gb318)); have n3_ := am ((by rw [hg]; exact (below_size (by repeat first|(with_reducible first|exact HB.out|apply wA|apply wN|apply wD)|exact HB.out)) : w.heap.size ≤ gb318)); clear HB; have HB := n0_; have BK318 := n1_; have GW318 := n2_; have GE318 := n3_; clear n0_ n1_ n2_ n3_; clear hb hbox hg) | ((with_reducible refine gate_dst (N := 7) rfl ?_); refine box_event ?hg (N := 7) ?hd (cs := #[.int .i64 a3_0, .int .i64 a3_1]) (t := 25) ?hr ?_; (case hd => rfl); (case hg => rfl); (case hr => first | (go_simp; done) | (go_simp; rfl)); intro gb319 hg w32 hbox hb; have n0_ := am (blk_below (by (with_reducible repeat first|refine bN ?_ _|refine bD ?_|refine bA ?_ _);exact BK318.out) hb); have n1_ := am (below_step (by repeat first|(with_reducible first|exact HB.out|apply wA|apply wN|apply wD|refine wS ?_ GE318.out)|exact HB.out) hb); have n2_ := am (hbox); have n3_ := am ((by rw [hg]; exact (below_size (by repeat first|(with_reducible first|exact HB.out|apply wA|apply wN|apply wD|refine wS ?_ GE318.out)|exact HB.out)) : w.heap.size ≤ gb319)); have n4_ := am ((by rw [hg]; exact (below_size (by repeat first|(with_reducible first|exact HB.out|apply wA|apply wN|apply wD|refine wS ?_ GE318.out)|exact HB.out)) : w.heap.size ≤ gb319)); have n5_ := am ((by rw [hg]; exact Nat.ne_of_lt (blk_lt (by (with_reducible repeat first|refine bN ?_ _|refine bD ?_|refine bA ?_ _);exact BK318.out)) : gb318 ≠ gb319)); have n6_ := am ((by rw [hg]; exact Nat.ne_of_gt (blk_lt (by (with_reducible repeat first|refine bN ?_ _|refine bD ?_|refine bA ?_ _);exact BK318.out)) : gb319 ≠ gb318)); clear BK318; clear HB; have BK318 := n0_; have HB := n1_; have BK319 := n2_; have GW319 := n3_; have GE319 := n4_; have NB318_319 := n5_; have NB319_318 := n6_; clear n0_ n1_ n2_ n3_ n4_ n5_ n6_; clear hb hbox hg; have hnb33 := NB318_319.out; have hnc33 := NB319_318.out; have hcz34_0 : w32.cell? ⟨gb318, 0, none⟩ = some (.int .i64 a2_0) := (blk_cell BK318.out 0).trans rfl; have hcz34_1 : w32.cell? ⟨gb318, 1, none⟩ = some (.int .i64 a2_1) := (blk_cell BK318.out 1).trans rfl; have hcz34_2 : w32.cell? ⟨gb318, 2, none⟩ = some (.int .i64 a2_2) := (blk_cell BK318.out 2).trans rfl; have hcz34_3 : w32.cell? ⟨gb318, 3, none⟩ = some (.int .i64 a2_3) := (blk_cell BK318.out 3).trans rfl; have hfz34_0 := blk_frozen BK318.out 0; have hfz34_1 := blk_frozen BK318.out 1; have hfz34_2 := blk_frozen BK318.out 2; have hfz34_3 := blk_frozen BK318.out 3; have hcz35_0 : w32.cell? ⟨gb319, 0, none⟩ = some (.int .i64 a3_0) := (blk_cell BK319.out 0).trans rfl; have hcz35_1 : w32.cell? ⟨gb319, 1, none⟩ = some (.int .i64 a3_1) := (blk_cell BK319.out 1).trans rfl; have hfz35_0 := blk_frozen BK319.out 0; have hfz35_1 := blk_frozen BK319.out 1) | ((with_reducible refine gate_dst (N := 19) rfl ?_); refine Kd.R_lit k25 _ 25 ?hg (N := 19) ?hd (xs := ([(⟨a3_0, a3_1⟩ : S25)] : List (S25))) (inner := [.int .i64 a3_0, .int .i64 a3_1]) (ok := fun _ => True) (okp := fun _ => True) ?hr ?hp (fun _ hk => hk) trivial (Below.refl _ _) (Nat.le_refl _) (by simp) ?_; (case hd => rfl); (case hg => rfl); (case hr => first | (go_simp; done) | (go_simp; rfl)); (case hp => exact (Reps.c2 (show Kd.M k25 _ _ _ (⟨a3_0, a3_1⟩ : S25) [.int .i64 a3_0, .int .i64 a3_1] from (k25_mkM _ _ _ (⟨a3_0, a3_1⟩ : S25) )) (Reps.none _ _))); intro v321 w36 ho37 hb hg_ hnew_; clear hg_ hnew_; (first | rw [← Ny320.out] at ho37 | (simp only [Int.reduceToNat] at ho37; rw [← Ny320.out] at ho37)); have n0_ := am (Kd.R_lower (Kd.R_newB ho37 (by (with_reducible repeat first|refine bN ?_ _|refine bD ?_|refine bA ?_ _);exact BK319.out)) (below_size (by repeat first|(with_reducible first|exact HB.out|apply wA|apply wN|apply wD|refine wS ?_ GE318.out|refine wS ?_ GE319.out)|exact HB.out))); have n1_ := am (blk_below (by (with_reducible repeat first|refine bN ?_ _|refine bD ?_|refine bA ?_ _);exact BK318.out) hb); have n2_ := am (blk_below (by (with_reducible repeat first|refine bN ?_ _|refine bD ?_|refine bA ?_ _);exact BK319.out) hb); have n3_ := am (below_step (by repeat first|(with_reducible first|exact HB.out|apply wA|apply wN|apply wD|refine wS ?_ GE318.out|refine wS ?_ GE319.out)|exact HB.out) hb); clear BK318; clear BK319; clear HB; have HO322 := n0_; have BK318 := n1_; have BK319 := n2_; have HB := n3_; clear n0_ n1_ n2_ n3_; clear hb ho37; obtain ⟨Ao38, co38, eo38⟩ := Kd.R_slice HO322.out; subst eo38) | ((with_reducible refine gate_callee (f := 26) rfl ?_); refine goesL_ (some 20) rfl rfl Try.func26 (by kernel_rfl) rfl #[.slice A0 l0.length c0, .slice A1 l1.length c1, .agg #[.int .i64 a2_0, .int .i64 a2_1, .int .i64 a2_2, .int .i64 a2_3], .slice Ao38 y320.length co38] rfl (by (try simp only [List.map_toArray, List.map_cons, List.map_nil]); first | done | rfl | (simp only [List.length_drop, List.length_take]; rfl)) ?_; (with_reducible refine (wigeonref02_placed.calls k _ _ l0 _ _ l1 a2_0 a2_1 a2_2 a2_3 _ _ y320 t323 _ ?side1 ?side2 ?side3 ?side4 ?side5 ?side6 A5.out).mono ?_); (case side1 => repeat (first | exact (Kd.C_below HR0.out HB.out) | (with_reducible refine Kd.C_alloc ?_ _) | (with_reducible refine Kd.C_drewN ?_ _) | (with_reducible refine Kd.C_drew ?_))); (case side2 => exact HC0.out); (case side3 => repeat (first | exact (Kd.C_below HR1.out HB.out) | (with_reducible refine Kd.C_alloc ?_ _) | (with_reducible refine Kd.C_drewN ?_ _) | (with_reducible refine Kd.C_drew ?_))); (case side4 => exact HC1.out); (case side5 => repeat (first | exact (Kd.R_reads' HO322.out).2.2 | (with_reducible refine Kd.C_alloc ?_ _) | (with_reducible refine Kd.C_drewN ?_ _) | (with_reducible refine Kd.C_drew ?_))); (case side6 => exact (Kd.R_reads' HO322.out).2.1); rintro e w39 ⟨rfl, hb⟩; refine ⟨_, rfl, ?_⟩; have n0_ := am (Kd.R_below (by (with_reducible repeat first|apply Kd.R_alloc|apply Kd.R_drewN|apply Kd.R_drew);exact HO322.out) hb); have n1_ := am (blk_below (by (with_reducible repeat first|refine bN ?_ _|refine bD ?_|refine bA ?_ _);exact BK318.out) hb); have n2_ := am (blk_below (by (with_reducible repeat first|refine bN ?_ _|refine bD ?_|refine bA ?_ _);exact BK319.out) hb); have n3_ := am (below_step (by repeat first|(with_reducible first|exact HB.out|apply wA|apply wN|apply wD|refine wS ?_ GE318.out|refine wS ?_ GE319.out)|exact HB.out) hb); clear HO322; clear BK318; clear BK319; clear HB; have HO322 := n0_; have BK318 := n1_; have BK319 := n2_; have HB := n3_; clear n0_ n1_ n2_ n3_; (try clear hb); (try clear hb2); (try clear hk); (try clear hi)))
 go_ret2
 exact ⟨_, by first | rfl | (simp [errW_none, errW_some] <;> rfl) | (simp [*, errW_none, errW_some] <;> rfl), by first | exact Kd.R_nil _ _ _ _ _ | exact Kd.N_nil _ _ _ _ _ | exact Kd.V_nil _ _ _ _ _ | exact Kd.Q_nil _ _ _ _ _ | exact Kd.S_nil _ _ _ _ _, by repeat (first | (with_reducible first | exact HB.out | apply below_alloc | apply pw_below_drewN | apply below_drew1 | refine below_set ?_ GE318.out | refine below_set ?_ GE319.out) | exact HB.out)⟩
def wigeonref02_SamePoints.l0 : Nat → List (S25) → List (S25) → Int → Option (Bool)
 | 0, _, _, _ => none
 | k + 1, x0, x1, x5 => if x5 < (x0.length : Int) then (if 0 ≤ x5 then (if x5 < (x1.length : Int) then (if (!(((rd_T25 x0 x5).f0) == ((rd_T25 x1 x5).f0)) || (!(((rd_T25 x0 x5).f1) == ((rd_T25 x1 x5).f1)))) = true then (some false) else (wigeonref02_SamePoints.l0 k x0 x1 (wrap64 (x5 + 1)))) else (none)) else (none)) else (some true)
def wigeonref02_SamePoints.f (k : Nat) (l0 : List (S25)) (l1 : List (S25)) : Option (Bool) := if (l0.length : Int) = (l1.length : Int) then (wigeonref02_SamePoints.l0 k l0 l1 0) else (some false)
set_option maxHeartbeats 8000000 in
set_option maxRecDepth 100000 in
theorem wigeonref02_SamePoints.calls (k : Nat) (A0 : Option Addr) (c0 : Nat) (l0 : List (S25)) (A1 : Option Addr) (c1 : Nat) (l1 : List (S25)) (r : Bool) (w : World) (hr0 : Kd.C k25 w A0 l0.length l0) (hc0 : l0.length ≤ c0) (hr1 : Kd.C k25 w A1 l1.length l1) (hc1 : l1.length ≤ c1) (h : wigeonref02_SamePoints.f k l0 l1 = some r) :
 Calls Try.prog 14 #[.slice A0 l0.length c0, .slice A1 l1.length c1] w fun e w' => e = .returned (.bool r) ∧ Drawn0 w w' := by
 have hu25 := Try.underlying25
 have HR0 := am hr0
 have HC0 := am hc0
 clear hr0 hc0
 have HR1 := am hr1
 have HC1 := am hc1
 clear hr1 hc1
 have H : (if (l0.length : Int) = (l1.length : Int) then (wigeonref02_SamePoints.l0 k l0 l1 0) else (some false)) = some r := h
 clear h
 by_cases c3 : (l0.length : Int) = (l1.length : Int)
 {
 rw [if_pos c3] at H
 have c3b0 : ((l0.length : Int) == (l1.length : Int)) = true := beq_iff_eq.mpr c3
 have c3b1 : ((l0.length : Int) != (l1.length : Int)) = false := bne_eq_false_iff_eq.mpr c3
 have c3b2 : (l0.length == l1.length) = true := by first | simpa using c3 | (simp at c3 ⊢; omega)
 clear c3
 have H' := am H
 clear H
 go_enter Try.func14, Try.ntmps14
 go_wp2
 repeat (go_quiet (fail); try go_wp2)
 go_loopg [5] k (fun kq v5 w' => ∃ (x5_1 : Int), v5 = .int .i64 x5_1 ∧ Aside0 (wigeonref02_SamePoints.l0 kq l0 l1 x5_1 = some r) ∧ Aside0 (kq ≤ k) ∧ Drawn0 w w')
 case atStart => exact ⟨(0), (by first | rfl | (simp; done) | (simp [*]; done)), H', ⟨Nat.le_refl _⟩, by repeat (first | exact Drawn0.refl _ | apply Drawn0.step)⟩
 case round =>(
 clear H'
 try clear c1; try clear p2; try clear c3; try clear c3b0; try clear c3b1; try clear c3b2
 obtain ⟨x5_1, rfl, HA, HK1, ⟨m1, rfl⟩⟩ := hrel
 cases gk with
 | zero => exact absurd HA.out (by simp [wigeonref02_SamePoints.l0])
 | succ k1 =>
  have H := HA.out
  clear HA
  simp only [wigeonref02_SamePoints.l0] at H
  by_cases c4 : x5_1 < (l0.length : Int)
  {
 rw [if_pos c4] at H
 have c4b0 : decide (x5_1 < (l0.length : Int)) = true := decide_eq_true c4
 clear c4
 by_cases c5 : 0 ≤ x5_1
 {
 rw [if_pos c5] at H
 have c5b0 : decide (0 ≤ x5_1) = true := decide_eq_true c5
 clear c5
 by_cases c6 : x5_1 < (l1.length : Int)
 {
 rw [if_pos c6] at H
 have c6b0 : decide (x5_1 < (l1.length : Int)) = true := decide_eq_true c6
 clear c6
 by_cases c7 : (!(((rd_T25 l0 x5_1).f0) == ((rd_T25 l1 x5_1).f0)) || (!(((rd_T25 l0 x5_1).f1) == ((rd_T25 l1 x5_1).f1)))) = true
 {
 rw [if_pos c7] at H
 have c7b0 : (!(((rd_T25 l0 x5_1).f0) == ((rd_T25 l1 x5_1).f0)) || (!(((rd_T25 l0 x5_1).f1) == ((rd_T25 l1 x5_1).f1)))) = true := c7
 clear c7
 obtain rfl := Option.some.inj H
 have p335 : 0 ≤ (x5_1 : Int) := of_decide_eq_true (by first | (with_reducible assumption) | assumption)
 have q335 : x5_1 < (l0.length : Int) := of_decide_eq_true (by first | (with_reducible assumption) | assumption)
 obtain ⟨ad335, e335, hx335_0, hx335_1⟩ := at_T25 HR0.out x5_1 p335 q335
 cases e335
 replace p335 := eq_true p335
 replace q335 := eq_true q335
 have p336 : 0 ≤ (x5_1 : Int) := of_decide_eq_true (by first | (with_reducible assumption) | assumption)
 have q336 : x5_1 < (l1.length : Int) := of_decide_eq_true (by first | (with_reducible assumption) | assumption)
 obtain ⟨ad336, e336, hx336_0, hx336_1⟩ := at_T25 HR1.out x5_1 p336 q336
 cases e336
 replace p336 := eq_true p336
 replace q336 := eq_true q336
 go_wp2
 repeat (go_quiet (fail); try go_wp2)
 go_ret
 exact ⟨by first | rfl | (simp; done) | (simp [*]; done) | (simp [IntKind.wrap_i64, wrap64]; done), by repeat (first | exact Drawn0.refl _ | apply Drawn0.step)⟩}
 rw [if_neg c7] at H
 have c7b0 : (!(((rd_T25 l0 x5_1).f0) == ((rd_T25 l1 x5_1).f0)) || (!(((rd_T25 l0 x5_1).f1) == ((rd_T25 l1 x5_1).f1)))) = false := by simpa using c7
 clear c7
 have H' := am H
 clear H
 have p335 : 0 ≤ (x5_1 : Int) := of_decide_eq_true (by first | (with_reducible assumption) | assumption)
 have q335 : x5_1 < (l0.length : Int) := of_decide_eq_true (by first | (with_reducible assumption) | assumption)
 obtain ⟨ad335, e335, hx335_0, hx335_1⟩ := at_T25 HR0.out x5_1 p335 q335
 cases e335
 replace p335 := eq_true p335
 replace q335 := eq_true q335
 have p336 : 0 ≤ (x5_1 : Int) := of_decide_eq_true (by first | (with_reducible assumption) | assumption)
 have q336 : x5_1 < (l1.length : Int) := of_decide_eq_true (by first | (with_reducible assumption) | assumption)
 obtain ⟨ad336, e336, hx336_0, hx336_1⟩ := at_T25 HR1.out x5_1 p336 q336
 cases e336
 replace p336 := eq_true p336
 replace q336 := eq_true q336
 go_wp2
 repeat (go_quiet (fail); try go_wp2)
 go_roundg k1
 case measure => have := HK1.out; omega
 case rel => exact ⟨(wrap64 (x5_1 + 1)), (by first | rfl | (simp; done) | (simp [*]; done)), H', ⟨by have := HK1.out; omega⟩, by repeat (first | exact Drawn0.refl _ | apply Drawn0.step)⟩}
 rw [if_neg c6] at H
 exact absurd H (by simp)}
 rw [if_neg c5] at H
 exact absurd H (by simp)}
  rw [if_neg c4] at H
  have c4b0 : decide (x5_1 < (l0.length : Int)) = false := decide_eq_false c4
  clear c4
  obtain rfl := Option.some.inj H
  go_wp2
  repeat (go_quiet (fail); try go_wp2)
  go_ret
  exact ⟨by first | rfl | (simp; done) | (simp [*]; done) | (simp [IntKind.wrap_i64, wrap64]; done), by repeat (first | exact Drawn0.refl _ | apply Drawn0.step)⟩)}
 rw [if_neg c3] at H
 have c3b0 : ((l0.length : Int) == (l1.length : Int)) = false := beq_eq_false_iff_ne.mpr c3
 have c3b1 : ((l0.length : Int) != (l1.length : Int)) = true := bne_iff_ne.mpr c3
 have c3b2 : (l0.length == l1.length) = false := by first | simpa using c3 | (simp at c3 ⊢; omega)
 obtain rfl := Option.some.inj H
 go_enter Try.func14, Try.ntmps14
 go_wp2
 repeat (go_quiet (fail); try go_wp2)
 go_ret
 exact ⟨by first | rfl | (simp; done) | (simp [*]; done) | (simp [IntKind.wrap_i64, wrap64]; done), by repeat (first | exact Drawn0.refl _ | apply Drawn0.step)⟩
end Go.Proofs.Ytieffjkplaajdaa.SW

