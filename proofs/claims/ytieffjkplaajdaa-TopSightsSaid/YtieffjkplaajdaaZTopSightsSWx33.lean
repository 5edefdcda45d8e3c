/- Of the text SWx33, what the row of TopSights reaches. -/
import Derived.Test.YtieffjkplaajdaaZTopSightsSWx0
import Derived.Test.YtieffjkplaajdaaZTopSightsSWx7
import Derived.Test.YtieffjkplaajdaaZTopSightsSWx14
namespace Go.Proofs.Ytieffjkplaajdaa.SW
open Go.RowKit Go.Proofs.YtieffjkplaajdaaW.PrintWords Go.Proofs.YtieffjkplaajdaaW.PrintLast Go.Proofs.YtieffjkplaajdaaW.PrintMore
open Go.Proofs.YtieffjkplaajdaaW.PrintWords renaming blk_drewN → bN, blk_drew → bD, blk_alloc → bA, below_alloc → wA, pw_below_drewN → wN, below_drew1 → wD, below_set → wS
open List renaming setIfInBounds_toArray → sA, set_cons_zero → s0, set_cons_succ → s1
open Act renaming put → ap
open Aside0 renaming mk → am
attribute [local go_sem] max2_int min2_int max_two min_two max_three min_three max_four min_four   -- for this text's walks alone
set_option linter.unusedVariables false
set_option linter.unusedSimpArgs false

def screen_Hidden.f (k : Nat) (l0 : List (S48)) (l1 : List (S25)) (a2_0 : Int) (a2_1 : Int) : Option (Bool × Int) := (screen_checked.f k l0 l1 (([(⟨a2_0, a2_1⟩ : S25)] : List (S25))) 0 0 0 0).bind fun t399 => (if t399 = 0 then ((screen_hidden.f l0 l1 a2_0 a2_1).bind fun t400 => (some (t400, 0))) else (some (false, t399)))
open Bool renaming true → T, false → F
set_option maxHeartbeats 8000000 in
set_option maxRecDepth 100000 in
theorem screen_Hidden.calls (k : Nat) (A0 : Option Addr) (c0 : Nat) (l0 : List (S48)) (A1 : Option Addr) (c1 : Nat) (l1 : List (S25)) (a2_0 : Int) (a2_1 : Int) (r1 : Bool) (r2 : Int) (w : World) (hr0 : Kd.C k48 w A0 l0.length l0) (hc0 : l0.length ≤ c0) (hr1 : Kd.C k25 w A1 l1.length l1) (hc1 : l1.length ≤ c1) (h : screen_Hidden.f k l0 l1 a2_0 a2_1 = some (r1, r2)) :
 Calls Try.prog 19 #[.slice A0 l0.length c0, .slice A1 l1.length c1, .agg #[.int .i64 a2_0, .int .i64 a2_1]] w fun e w' => e = .returned (.tuple #[.bool r1, .int .i64 r2]) ∧ Below w.heap.size w w' := by
 have hu25 := Try.underlying25
 have hu27 := Try.underlying27
 have HR0 := am hr0
 have HC0 := am hc0
 clear hr0 hc0
 have HR1 := am hr1
 have HC1 := am hc1
 clear hr1 hc1
 have HB := am (Below.refl w.heap.size w)
 have H : ((screen_checked.f k l0 l1 (([(⟨a2_0, a2_1⟩ : S25)] : List (S25))) 0 0 0 0).bind fun t399 => (if t399 = 0 then ((screen_hidden.f l0 l1 a2_0 a2_1).bind fun t400 => (some (t400, 0))) else (some (false, t399)))) = some (r1, r2) := h
 clear h
 obtain ⟨y396, hy396⟩ : ∃ y_ : List (S25), y_ = (([(⟨a2_0, a2_1⟩ : S25)] : List (S25))) := ⟨_, rfl⟩
 replace H : ((screen_checked.f k l0 l1 y396 0 0 0 0).bind fun t399 => (if t399 = 0 then ((screen_hidden.f l0 l1 a2_0 a2_1).bind fun t400 => (some (t400, 0))) else (some (false, t399)))) = some (r1, r2) := by first | (rw [hy396]; with_reducible exact H) | (have H2_ := (Option.bind_some _ _).symm.trans H; rw [hy396]; with_reducible exact H2_) | (have H2_ := (Option.bind_some _ _).symm.trans H; with_reducible exact H2_) | with_reducible exact H | (rw [hy396]; exact H) | exact H
 have Ny396 := am hy396
 clear hy396
 replace H := Option.bind_eq_some_iff.mp H
 obtain ⟨t399, A40, H⟩ := H
 replace H : (if t399 = 0 then ((screen_hidden.f l0 l1 a2_0 a2_1).bind fun t400 => (some (t400, 0))) else (some (false, t399))) = some (r1, r2) := H
 have A4 := am A40
 clear A40
 by_cases c5 : t399 = 0
 {
 rw [if_pos c5] at H
 have c5b0 : (t399 == 0) = true := beq_iff_eq.mpr c5
 have c5b1 : (t399 != 0) = false := bne_eq_false_iff_eq.mpr c5
 clear c5
 replace H := Option.bind_eq_some_iff.mp H
 obtain ⟨t400, A60, H⟩ := H
 replace H : (some (t400, 0)) = some (r1, r2) := H
 have A6 := am A60
 clear A60
 simp only [Option.some.injEq, Prod.mk.injEq] at H
 obtain ⟨rfl, rfl⟩ := H
 go_enter Try.func19, Try.ntmps19
 go_wp2_with (first | ((with_reducible refine gate_dst (N := 5) rfl ?_); refine box_event ?hg (N := 5) ?hd (cs := #[.int .i64 a2_0, .int .i64 a2_1]) (t := 25) ?hr ?_; (case hd => rfl); (case hg => rfl); (case hr => first | (go_simp; done) | (go_simp; rfl)); intro gb395 hg w7 hbox hb; have n0_ := am (below_step (by repeat first|(with_reducible first|exact HB.out|apply wA|apply wN|apply wD)|exact HB.out) hb); have n1_ := am (hbox); have n2_ := am ((by rw [hg]; exact (below_size (by repeat first|(with_reducible first|exact HB.out|apply wA|apply wN|apply wD)|exact HB.out)) : w.heap.size ≤ gb395)); have n3_ := am ((by rw [hg]; exact (below_size (by repeat first|(with_reducible first|exact HB.out|apply wA|apply wN|apply wD)|exact HB.out)) : w.heap.size ≤ gb395)); clear HB; have HB := n0_; have BK395 := n1_; have GW395 := n2_; have GE395 := n3_; clear n0_ n1_ n2_ n3_; clear hb hbox hg; have hcz8_0 : w7.cell? ⟨gb395, 0, none⟩ = some (.int .i64 a2_0) := (blk_cell BK395.out 0).trans rfl; have hcz8_1 : w7.cell? ⟨gb395, 1, none⟩ = some (.int .i64 a2_1) := (blk_cell BK395.out 1).trans rfl; have hfz8_0 := blk_frozen BK395.out 0; have hfz8_1 := blk_frozen BK395.out 1) | ((with_reducible refine gate_dst (N := 12) rfl ?_); refine Kd.R_lit k25 _ 25 ?hg (N := 12) ?hd (xs := ([(⟨a2_0, a2_1⟩ : S25)] : List (S25))) (inner := [.int .i64 a2_0, .int .i64 a2_1]) (ok := fun _ => True) (okp := fun _ => True) ?hr ?hp (fun _ hk => hk) trivial (Below.refl _ _) (Nat.le_refl _) (by simp) ?_; (case hd => rfl); (case hg => rfl); (case hr => first | (go_simp; done) | (go_simp; rfl)); (case hp => exact (Reps.c2 (show Kd.M k25 _ _ _ (⟨a2_0, a2_1⟩ : S25) [.int .i64 a2_0, .int .i64 a2_1] from (k25_mkM _ _ _ (⟨a2_0, a2_1⟩ : S25) )) (Reps.none _ _))); intro v397 w9 ho10 hb hg_ hnew_; clear hg_ hnew_; (first | rw [← Ny396.out] at ho10 | (simp only [Int.reduceToNat] at ho10; rw [← Ny396.out] at ho10)); have n0_ := am (Kd.R_lower (Kd.R_newB ho10 (by (with_reducible repeat first|refine bN ?_ _|refine bD ?_|refine bA ?_ _);exact BK395.out)) (below_size (by repeat first|(with_reducible first|exact HB.out|apply wA|apply wN|apply wD|refine wS ?_ GE395.out)|exact HB.out))); have n1_ := am (blk_below (by (with_reducible repeat first|refine bN ?_ _|refine bD ?_|refine bA ?_ _);exact BK395.out) hb); have n2_ := am (below_step (by repeat first|(with_reducible first|exact HB.out|apply wA|apply wN|apply wD|refine wS ?_ GE395.out)|exact HB.out) hb); clear BK395; clear HB; have HO398 := n0_; have BK395 := n1_; have HB := n2_; clear n0_ n1_ n2_; clear hb ho10; obtain ⟨Ao11, co11, eo11⟩ := Kd.R_slice HO398.out; subst eo11) | ((with_reducible refine gate_callee (f := 37) rfl ?_); refine goesL_ (some 14) rfl rfl Try.func37 (by kernel_rfl) rfl #[.slice A0 l0.length c0, .slice A1 l1.length c1, .slice Ao11 y396.length co11, .agg #[.int .i64 0, .int .i64 0, .int .i64 0, .int .i64 0]] rfl (by (try simp only [List.map_toArray, List.map_cons, List.map_nil]); first | done | rfl | (simp only [List.length_drop, List.length_take]; rfl)) ?_; (with_reducible refine (screen_checked.calls k _ _ l0 _ _ l1 _ _ y396 0 0 0 0 t399 _ ?side1 ?side2 ?side3 ?side4 ?side5 ?side6 A4.out).mono ?_); (case side1 => repeat (first | exact (Kd.C_below HR0.out HB.out) | (with_reducible refine Kd.C_alloc ?_ _) | (with_reducible refine Kd.C_drewN ?_ _) | (with_reducible refine Kd.C_drew ?_))); (case side2 => exact HC0.out); (case side3 => repeat (first | exact (Kd.C_below HR1.out HB.out) | (with_reducible refine Kd.C_alloc ?_ _) | (with_reducible refine Kd.C_drewN ?_ _) | (with_reducible refine Kd.C_drew ?_))); (case side4 => exact HC1.out); (case side5 => repeat (first | exact (Kd.R_reads' HO398.out).2.2 | (with_reducible refine Kd.C_alloc ?_ _) | (with_reducible refine Kd.C_drewN ?_ _) | (with_reducible refine Kd.C_drew ?_))); (case side6 => exact (Kd.R_reads' HO398.out).2.1); rintro e w12 ⟨rfl, hb⟩; refine ⟨_, rfl, ?_⟩; have n0_ := am (Kd.R_below (by (with_reducible repeat first|apply Kd.R_alloc|apply Kd.R_drewN|apply Kd.R_drew);exact HO398.out) hb); have n1_ := am (blk_below (by (with_reducible repeat first|refine bN ?_ _|refine bD ?_|refine bA ?_ _);exact BK395.out) hb); have n2_ := am (below_step (by repeat first|(with_reducible first|exact HB.out|apply wA|apply wN|apply wD|refine wS ?_ GE395.out)|exact HB.out) hb); clear HO398; clear BK395; clear HB; have HO398 := n0_; have BK395 := n1_; have HB := n2_; clear n0_ n1_ n2_; (try clear hb); (try clear hb2); (try clear hk); (try clear hi); have hcz13_0 : w12.cell? ⟨gb395, 0, none⟩ = some (.int .i64 a2_0) := (blk_cell BK395.out 0).trans rfl; have hcz13_1 : w12.cell? ⟨gb395, 1, none⟩ = some (.int .i64 a2_1) := (blk_cell BK395.out 1).trans rfl; have hfz13_0 := blk_frozen BK395.out 0; have hfz13_1 := blk_frozen BK395.out 1) | ((with_reducible refine gate_callee (f := 40) rfl ?_); refine goesL_ (some 21) rfl rfl Try.func40 (by kernel_rfl) rfl #[.slice A0 l0.length c0, .slice A1 l1.length c1, .agg #[.int .i64 a2_0, .int .i64 a2_1]] rfl (by (try simp only [List.map_toArray, List.map_cons, List.map_nil]); first | done | rfl | (simp only [List.length_drop, List.length_take]; rfl)) ?_; (with_reducible refine (screen_hidden.calls _ _ l0 _ _ l1 a2_0 a2_1 t400 _ ?side1 ?side2 ?side3 ?side4 A6.out).mono ?_); (case side1 => repeat (first | exact (Kd.C_below HR0.out HB.out) | (with_reducible refine Kd.C_alloc ?_ _) | (with_reducible refine Kd.C_drewN ?_ _) | (with_reducible refine Kd.C_drew ?_))); (case side2 => exact HC0.out); (case side3 => repeat (first | exact (Kd.C_below HR1.out HB.out) | (with_reducible refine Kd.C_alloc ?_ _) | (with_reducible refine Kd.C_drewN ?_ _) | (with_reducible refine Kd.C_drew ?_))); (case side4 => exact HC1.out); rintro e w14 ⟨rfl, hb⟩; refine ⟨_, rfl, ?_⟩; have n0_ := am (Kd.R_below (by (with_reducible repeat first|apply Kd.R_alloc|apply Kd.R_drewN|apply Kd.R_drew);exact HO398.out) hb); have n1_ := am (blk_below (by (with_reducible repeat first|refine bN ?_ _|refine bD ?_|refine bA ?_ _);exact BK395.out) hb); have n2_ := am (below_step (by repeat first|(with_reducible first|exact HB.out|apply wA|apply wN|apply wD|refine wS ?_ GE395.out)|exact HB.out) hb); clear HO398; clear BK395; clear HB; have HO398 := n0_; have BK395 := n1_; have HB := n2_; clear n0_ n1_ n2_; (try clear hb); (try clear hb2); (try clear hk); (try clear hi)))
 go_ret2
 exact ⟨by first | rfl | (simp [errW_none, errW_some] <;> rfl) | (simp [*, errW_none, errW_some] <;> rfl), by repeat (first | (with_reducible first | exact HB.out | apply below_alloc | apply pw_below_drewN | apply below_drew1 | refine below_set ?_ GE395.out) | exact HB.out)⟩}
 rw [if_neg c5] at H
 have c5b0 : (t399 == 0) = false := beq_eq_false_iff_ne.mpr c5
 have c5b1 : (t399 != 0) = true := bne_iff_ne.mpr c5
 simp only [Option.some.injEq, Prod.mk.injEq] at H
 obtain ⟨rfl, rfl⟩ := H
 go_enter Try.func19, Try.ntmps19
 go_wp2_with (first | ((with_reducible refine gate_dst (N := 5) rfl ?_); refine box_event ?hg (N := 5) ?hd (cs := #[.int .i64 a2_0, .int .i64 a2_1]) (t := 25) ?hr ?_; (case hd => rfl); (case hg => rfl); (case hr => first | (go_simp; done) | (go_simp; rfl)); intro gb395 hg w15 hbox hb; have n0_ := am (below_step (by repeat first|(with_reducible first|exact HB.out|apply wA|apply wN|apply wD)|exact HB.out) hb); have n1_ := am (hbox); have n2_ := am ((by rw [hg]; exact (below_size (by repeat first|(with_reducible first|exact HB.out|apply wA|apply wN|apply wD)|exact HB.out)) : w.heap.size ≤ gb395)); have n3_ := am ((by rw [hg]; exact (below_size (by repeat first|(with_reducible first|exact HB.out|apply wA|apply wN|apply wD)|exact HB.out)) : w.heap.size ≤ gb395)); clear HB; have HB := n0_; have BK395 := n1_; have GW395 := n2_; have GE395 := n3_; clear n0_ n1_ n2_ n3_; clear hb hbox hg; have hcz16_0 : w15.cell? ⟨gb395, 0, none⟩ = some (.int .i64 a2_0) := (blk_cell BK395.out 0).trans rfl; have hcz16_1 : w15.cell? ⟨gb395, 1, none⟩ = some (.int .i64 a2_1) := (blk_cell BK395.out 1).trans rfl; have hfz16_0 := blk_frozen BK395.out 0; have hfz16_1 := blk_frozen BK395.out 1) | ((with_reducible refine gate_dst (N := 12) rfl ?_); refine Kd.R_lit k25 _ 25 ?hg (N := 12) ?hd (xs := ([(⟨a2_0, a2_1⟩ : S25)] : List (S25))) (inner := [.int .i64 a2_0, .int .i64 a2_1]) (ok := fun _ => True) (okp := fun _ => True) ?hr ?hp (fun _ hk => hk) trivial (Below.refl _ _) (Nat.le_refl _) (by simp) ?_; (case hd => rfl); (case hg => rfl); (case hr => first | (go_simp; done) | (go_simp; rfl)); (case hp => exact (Reps.c2 (show Kd.M k25 _ _ _ (⟨a2_0, a2_1⟩ : S25) [.int .i64 a2_0, .int .i64 a2_1] from (k25_mkM _ _ _ (⟨a2_0, a2_1⟩ : S25) )) (Reps.none _ _))); intro v397 w17 ho18 hb hg_ hnew_; clear hg_ hnew_; (first | rw [← Ny396.out] at ho18 | (simp only [Int.reduceToNat] at ho18; rw [← Ny396.out] at ho18)); have n0_ := am (Kd.R_lower (Kd.R_newB ho18 (by (with_reducible repeat first|refine bN ?_ _|refine bD ?_|refine bA ?_ _);exact BK395.out)) (below_size (by repeat first|(with_reducible first|exact HB.out|apply wA|apply wN|apply wD|refine wS ?_ GE395.out)|exact HB.out))); have n1_ := am (blk_below (by (with_reducible repeat first|refine bN ?_ _|refine bD ?_|refine bA ?_ _);exact BK395.out) hb); have n2_ := am (below_step (by repeat first|(with_reducible first|exact HB.out|apply wA|apply wN|apply wD|refine wS ?_ GE395.out)|exact HB.out) hb); clear BK395; clear HB; have HO398 := n0_; have BK395 := n1_; have HB := n2_; clear n0_ n1_ n2_; clear hb ho18; obtain ⟨Ao19, co19, eo19⟩ := Kd.R_slice HO398.out; subst eo19) | ((with_reducible refine gate_callee (f := 37) rfl ?_); refine goesL_ (some 14) rfl rfl Try.func37 (by kernel_rfl) rfl #[.slice A0 l0.length c0, .slice A1 l1.length c1, .slice Ao19 y396.length co19, .agg #[.int .i64 0, .int .i64 0, .int .i64 0, .int .i64 0]] rfl (by (try simp only [List.map_toArray, List.map_cons, List.map_nil]); first | done | rfl | (simp only [List.length_drop, List.length_take]; rfl)) ?_; (with_reducible refine (screen_checked.calls k _ _ l0 _ _ l1 _ _ y396 0 0 0 0 t399 _ ?side1 ?side2 ?side3 ?side4 ?side5 ?side6 A4.out).mono ?_); (case side1 => repeat (first | exact (Kd.C_below HR0.out HB.out) | (with_reducible refine Kd.C_alloc ?_ _) | (with_reducible refine Kd.C_drewN ?_ _) | (with_reducible refine Kd.C_drew ?_))); (case side2 => exact HC0.out); (case side3 => repeat (first | exact (Kd.C_below HR1.out HB.out) | (with_reducible refine Kd.C_alloc ?_ _) | (with_reducible refine Kd.C_drewN ?_ _) | (with_reducible refine Kd.C_drew ?_))); (case side4 => exact HC1.out); (case side5 => repeat (first | exact (Kd.R_reads' HO398.out).2.2 | (with_reducible refine Kd.C_alloc ?_ _) | (with_reducible refine Kd.C_drewN ?_ _) | (with_reducible refine Kd.C_drew ?_))); (case side6 => exact (Kd.R_reads' HO398.out).2.1); rintro e w20 ⟨rfl, hb⟩; refine ⟨_, rfl, ?_⟩; have n0_ := am (Kd.R_below (by (with_reducible repeat first|apply Kd.R_alloc|apply Kd.R_drewN|apply Kd.R_drew);exact HO398.out) hb); have n1_ := am (blk_below (by (with_reducible repeat first|refine bN ?_ _|refine bD ?_|refine bA ?_ _);exact BK395.out) hb); have n2_ := am (below_step (by repeat first|(with_reducible first|exact HB.out|apply wA|apply wN|apply wD|refine wS ?_ GE395.out)|exact HB.out) hb); clear HO398; clear BK395; clear HB; have HO398 := n0_; have BK395 := n1_; have HB := n2_; clear n0_ n1_ n2_; (try clear hb); (try clear hb2); (try clear hk); (try clear hi)))
 go_ret2
 exact ⟨by first | rfl | (simp [errW_none, errW_some] <;> rfl) | (simp [*, errW_none, errW_some] <;> rfl), by repeat (first | (with_reducible first | exact HB.out | apply below_alloc | apply pw_below_drewN | apply below_drew1 | refine below_set ?_ GE395.out) | exact HB.out)⟩
mutual
def screen_Dark.l0 : Nat → List (S48) → List (S25) → Int → Int → Int → Int → Int → Int → Option (Int × Int)
 | 0, _, _, _, _, _, _, _, _ => none
 | k + 1, x0, x1, x9, x10, x402000, x402001, x402002, x402003 => if x10 ≤ x402002 then (screen_Dark.l1 k x0 x1 x9 x10 x402001 x402000 x402001 x402002 x402003) else (some (x9, 0))
def screen_Dark.l1 : Nat → List (S48) → List (S25) → Int → Int → Int → Int → Int → Int → Int → Option (Int × Int)
 | 0, _, _, _, _, _, _, _, _, _ => none
 | k + 1, x0, x1, x9, x10, x11, x402000, x402001, x402002, x402003 => if x11 ≤ x402003 then ((screen_hidden.f x0 x1 x10 x11).bind fun t403 => (if t403 = true then (screen_Dark.l1 k x0 x1 (wrap64 (x9 + 1)) x10 (wrap64 (x11 + 1)) x402000 x402001 x402002 x402003) else (screen_Dark.l1 k x0 x1 x9 x10 (wrap64 (x11 + 1)) x402000 x402001 x402002 x402003))) else (screen_Dark.l0 k x0 x1 x9 (wrap64 (x10 + 1)) x402000 x402001 x402002 x402003)
end
def screen_Dark.f (k : Nat) (l0 : List (S48)) (l1 : List (S25)) (a2_0 : Int) (a2_1 : Int) (a2_2 : Int) (a2_3 : Int) : Option (Int × Int) := (screen_checked.f k l0 l1 ([] : List (S25)) a2_0 a2_1 a2_2 a2_3).bind fun t402 => (if t402 = 0 then (screen_Dark.l0 k l0 l1 0 a2_0 a2_0 a2_1 a2_2 a2_3) else (some (0, t402)))
set_option maxHeartbeats 8000000 in
set_option maxRecDepth 100000 in
theorem screen_Dark.calls (k : Nat) (A0 : Option Addr) (c0 : Nat) (l0 : List (S48)) (A1 : Option Addr) (c1 : Nat) (l1 : List (S25)) (a2_0 : Int) (a2_1 : Int) (a2_2 : Int) (a2_3 : Int) (r1 : Int) (r2 : Int) (w : World) (hr0 : Kd.C k48 w A0 l0.length l0) (hc0 : l0.length ≤ c0) (hr1 : Kd.C k25 w A1 l1.length l1) (hc1 : l1.length ≤ c1) (h : screen_Dark.f k l0 l1 a2_0 a2_1 a2_2 a2_3 = some (r1, r2)) :
 Calls Try.prog 20 #[.slice A0 l0.length c0, .slice A1 l1.length c1, .agg #[.int .i64 a2_0, .int .i64 a2_1, .int .i64 a2_2, .int .i64 a2_3]] w fun e w' => e = .returned (.tuple #[.int .i64 r1, .int .i64 r2]) ∧ Below w.heap.size w w' := by
 have hu27 := Try.underlying27
 have hu25 := Try.underlying25
 have HR0 := am hr0
 have HC0 := am hc0
 clear hr0 hc0
 have HR1 := am hr1
 have HC1 := am hc1
 clear hr1 hc1
 have HB := am (Below.refl w.heap.size w)
 have H : ((screen_checked.f k l0 l1 ([] : List (S25)) a2_0 a2_1 a2_2 a2_3).bind fun t402 => (if t402 = 0 then (screen_Dark.l0 k l0 l1 0 a2_0 a2_0 a2_1 a2_2 a2_3) else (some (0, t402)))) = some (r1, r2) := h
 clear h
 replace H := Option.bind_eq_some_iff.mp H
 obtain ⟨t402, A40, H⟩ := H
 replace H : (if t402 = 0 then (screen_Dark.l0 k l0 l1 0 a2_0 a2_0 a2_1 a2_2 a2_3) else (some (0, t402))) = some (r1, r2) := H
 have A4 := am A40
 clear A40
 by_cases c5 : t402 = 0
 {
 rw [if_pos c5] at H
 have c5b0 : (t402 == 0) = true := beq_iff_eq.mpr c5
 have c5b1 : (t402 != 0) = false := bne_eq_false_iff_eq.mpr c5
 clear c5
 have H' := am H
 clear H
 go_enter Try.func20, Try.ntmps20
 go_wp2_with (first | ((with_reducible refine gate_dst (N := 5) rfl ?_); refine box_event ?hg (N := 5) ?hd (cs := #[.int .i64 a2_0, .int .i64 a2_1, .int .i64 a2_2, .int .i64 a2_3]) (t := 27) ?hr ?_; (case hd => rfl); (case hg => rfl); (case hr => first | (go_simp; done) | (go_simp; rfl)); intro gb401 hg w6 hbox hb; have n0_ := am (below_step (by repeat first|(with_reducible first|exact HB.out|apply wA|apply wN|apply wD)|exact HB.out) hb); have n1_ := am (hbox); have n2_ := am ((by rw [hg]; exact (below_size (by repeat first|(with_reducible first|exact HB.out|apply wA|apply wN|apply wD)|exact HB.out)) : w.heap.size ≤ gb401)); have n3_ := am ((by rw [hg]; exact (below_size (by repeat first|(with_reducible first|exact HB.out|apply wA|apply wN|apply wD)|exact HB.out)) : w.heap.size ≤ gb401)); clear HB; have HB := n0_; have BK401 := n1_; have GW401 := n2_; have GE401 := n3_; clear n0_ n1_ n2_ n3_; clear hb hbox hg; have hcz7_0 : w6.cell? ⟨gb401, 0, none⟩ = some (.int .i64 a2_0) := (blk_cell BK401.out 0).trans rfl; have hcz7_1 : w6.cell? ⟨gb401, 1, none⟩ = some (.int .i64 a2_1) := (blk_cell BK401.out 1).trans rfl; have hcz7_2 : w6.cell? ⟨gb401, 2, none⟩ = some (.int .i64 a2_2) := (blk_cell BK401.out 2).trans rfl; have hcz7_3 : w6.cell? ⟨gb401, 3, none⟩ = some (.int .i64 a2_3) := (blk_cell BK401.out 3).trans rfl; have hfz7_0 := blk_frozen BK401.out 0; have hfz7_1 := blk_frozen BK401.out 1; have hfz7_2 := blk_frozen BK401.out 2; have hfz7_3 := blk_frozen BK401.out 3) | ((with_reducible refine gate_callee (f := 37) rfl ?_); refine goesL_ (some 15) rfl rfl Try.func37 (by kernel_rfl) rfl #[.slice A0 l0.length c0, .slice A1 l1.length c1, .slice none 0 0, .agg #[.int .i64 a2_0, .int .i64 a2_1, .int .i64 a2_2, .int .i64 a2_3]] rfl (by (try simp only [List.map_toArray, List.map_cons, List.map_nil]); first | done | rfl | (simp only [List.length_drop, List.length_take]; rfl)) ?_; (refine (screen_checked.calls k _ _ l0 _ _ l1 _ _ ([] : List (S25)) a2_0 a2_1 a2_2 a2_3 t402 _ ?side1 ?side2 ?side3 ?side4 ?side5 ?side6 A4.out).mono ?_); (case side1 => repeat (first | exact (Kd.C_below HR0.out HB.out) | (with_reducible refine Kd.C_alloc ?_ _) | (with_reducible refine Kd.C_drewN ?_ _) | (with_reducible refine Kd.C_drew ?_))); (case side2 => exact HC0.out); (case side3 => repeat (first | exact (Kd.C_below HR1.out HB.out) | (with_reducible refine Kd.C_alloc ?_ _) | (with_reducible refine Kd.C_drewN ?_ _) | (with_reducible refine Kd.C_drew ?_))); (case side4 => exact HC1.out); (case side5 => exact Kd.C_nil _ _); (case side6 => exact Nat.le_refl _); rintro e w8 ⟨rfl, hb⟩; refine ⟨_, rfl, ?_⟩; have n0_ := am (blk_below (by (with_reducible repeat first|refine bN ?_ _|refine bD ?_|refine bA ?_ _);exact BK401.out) hb); have n1_ := am (below_step (by repeat first|(with_reducible first|exact HB.out|apply wA|apply wN|apply wD|refine wS ?_ GE401.out)|exact HB.out) hb); clear BK401; clear HB; have BK401 := n0_; have HB := n1_; clear n0_ n1_; (try clear hb); (try clear hb2); (try clear hk); (try clear hi); have hcz9_0 : w8.cell? ⟨gb401, 0, none⟩ = some (.int .i64 a2_0) := (blk_cell BK401.out 0).trans rfl; have hcz9_1 : w8.cell? ⟨gb401, 1, none⟩ = some (.int .i64 a2_1) := (blk_cell BK401.out 1).trans rfl; have hcz9_2 : w8.cell? ⟨gb401, 2, none⟩ = some (.int .i64 a2_2) := (blk_cell BK401.out 2).trans rfl; have hcz9_3 : w8.cell? ⟨gb401, 3, none⟩ = some (.int .i64 a2_3) := (blk_cell BK401.out 3).trans rfl; have hfz9_0 := blk_frozen BK401.out 0; have hfz9_1 := blk_frozen BK401.out 1; have hfz9_2 := blk_frozen BK401.out 2; have hfz9_3 := blk_frozen BK401.out 3))
 go_loopg [9, 10] k (fun kq v9 v10 w' => ∃ (x9_1 : Int) (x10_1 : Int), v9 = .int .i64 x9_1 ∧ v10 = .int .i64 x10_1 ∧ Aside0 (screen_Dark.l0 kq l0 l1 x9_1 x10_1 a2_0 a2_1 a2_2 a2_3 = some (r1, r2)) ∧ Aside0 (kq ≤ k) ∧ Aside0 (w'.heap[gb401]? = some (.cells #[.int .i64 a2_0, .int .i64 a2_1, .int .i64 a2_2, .int .i64 a2_3] 27 (0, 0))) ∧ Aside0 (Below w.heap.size w w'))
 case atStart => exact ⟨(0), (a2_0), (by first | rfl | (simp; done) | (simp [*]; done)), (by first | rfl | (simp; done) | (simp [*]; done)), H', ⟨Nat.le_refl _⟩, ⟨by (with_reducible repeat first|refine bN ?_ _|refine bD ?_|refine bA ?_ _);exact BK401.out⟩, ⟨by repeat (first | (with_reducible first | exact HB.out | apply below_alloc | apply pw_below_drewN | apply below_drew1 | refine below_set ?_ GE401.out) | exact HB.out)⟩⟩
 case round =>(
 clear H'
 try clear c1; try clear c2; try clear p2; try clear c3; try clear c5; try clear c5b0; try clear c5b1; try clear hcz7_0; try clear hcz7_1; try clear hcz7_2; try clear hcz7_3; try clear hcz9_0; try clear hcz9_1; try clear hcz9_2; try clear hcz9_3; try clear hfz7_0; try clear hfz7_1; try clear hfz7_2; try clear hfz7_3; try clear hfz9_0; try clear hfz9_1; try clear hfz9_2; try clear hfz9_3
 obtain ⟨x9_1, x10_1, rfl, rfl, HA, HK1, BK401, HB⟩ := hrel
 cases gk with
 | zero => exact absurd HA.out (by simp [screen_Dark.l0])
 | succ k1 =>
  have H := HA.out
  clear HA
  simp only [screen_Dark.l0] at H
  by_cases c10 : x10_1 ≤ a2_2
  {
 rw [if_pos c10] at H
 have c10b0 : decide (x10_1 ≤ a2_2) = true := decide_eq_true c10
 clear c10
 have H' := am H
 clear H
 have hcz11_0 : wr.cell? ⟨gb401, 0, none⟩ = some (.int .i64 a2_0) := (blk_cell BK401.out 0).trans rfl
 have hcz11_1 : wr.cell? ⟨gb401, 1, none⟩ = some (.int .i64 a2_1) := (blk_cell BK401.out 1).trans rfl
 have hcz11_2 : wr.cell? ⟨gb401, 2, none⟩ = some (.int .i64 a2_2) := (blk_cell BK401.out 2).trans rfl
 have hcz11_3 : wr.cell? ⟨gb401, 3, none⟩ = some (.int .i64 a2_3) := (blk_cell BK401.out 3).trans rfl
 have hfz11_0 := blk_frozen BK401.out 0
 have hfz11_1 := blk_frozen BK401.out 1
 have hfz11_2 := blk_frozen BK401.out 2
 have hfz11_3 := blk_frozen BK401.out 3
 go_wp2
 go_loopg [9, 11] k1 (fun kq v9 v11 w' => ∃ (x9_2 : Int) (x11_2 : Int), v9 = .int .i64 x9_2 ∧ v11 = .int .i64 x11_2 ∧ Aside0 (screen_Dark.l1 kq l0 l1 x9_2 x10_1 x11_2 a2_0 a2_1 a2_2 a2_3 = some (r1, r2)) ∧ Aside0 (kq ≤ k1) ∧ Aside0 (w'.heap[gb401]? = some (.cells #[.int .i64 a2_0, .int .i64 a2_1, .int .i64 a2_2, .int .i64 a2_3] 27 (0, 0))) ∧ Aside0 (Below w.heap.size w w'))
 case atStart => exact ⟨(x9_1), (a2_1), (by first | rfl | (simp; done) | (simp [*]; done)), (by first | rfl | (simp; done) | (simp [*]; done)), H', ⟨Nat.le_refl _⟩, ⟨by (with_reducible repeat first|refine bN ?_ _|refine bD ?_|refine bA ?_ _);exact BK401.out⟩, ⟨by repeat (first | (with_reducible first | exact HB.out | apply below_alloc | apply pw_below_drewN | apply below_drew1 | refine below_set ?_ GE401.out) | exact HB.out)⟩⟩
 case round =>(
 clear H'
 try clear c1; try clear c2; try clear p2; try clear c3; try clear c5; try clear c5b0; try clear c5b1; try clear c10; try clear c10b0; try clear hcz11_0; try clear hcz11_1; try clear hcz11_2; try clear hcz11_3; try clear hcz7_0; try clear hcz7_1; try clear hcz7_2; try clear hcz7_3; try clear hcz9_0; try clear hcz9_1; try clear hcz9_2; try clear hcz9_3; try clear hfz11_0; try clear hfz11_1; try clear hfz11_2; try clear hfz11_3; try clear hfz7_0; try clear hfz7_1; try clear hfz7_2; try clear hfz7_3; try clear hfz9_0; try clear hfz9_1; try clear hfz9_2; try clear hfz9_3; try clear p2
 obtain ⟨x9_2, x11_2, rfl, rfl, HA, HK2, BK401, HB⟩ := hrel
 cases gk with
 | zero => exact absurd HA.out (by simp [screen_Dark.l1])
 | succ k2 =>
  have H := HA.out
  clear HA
  simp only [screen_Dark.l1] at H
  by_cases c12 : x11_2 ≤ a2_3
  {
 rw [if_pos c12] at H
 have c12b0 : decide (x11_2 ≤ a2_3) = true := decide_eq_true c12
 clear c12
 replace H := Option.bind_eq_some_iff.mp H
 obtain ⟨t403, A130, H⟩ := H
 replace H : (if t403 = true then (screen_Dark.l1 k2 l0 l1 (wrap64 (x9_2 + 1)) x10_1 (wrap64 (x11_2 + 1)) a2_0 a2_1 a2_2 a2_3) else (screen_Dark.l1 k2 l0 l1 x9_2 x10_1 (wrap64 (x11_2 + 1)) a2_0 a2_1 a2_2 a2_3)) = some (r1, r2) := H
 have A13 := am A130
 clear A130
 by_cases c14 : t403 = true
 {
 subst c14
 have H1 : (screen_Dark.l1 k2 l0 l1 (wrap64 (x9_2 + 1)) x10_1 (wrap64 (x11_2 + 1)) a2_0 a2_1 a2_2 a2_3) = some (r1, r2) := by rw [if_pos rfl] at H; exact H
 clear H
 have H := H1
 clear H1
 have H' := am H
 clear H
 have hcz15_0 : wr.cell? ⟨gb401, 0, none⟩ = some (.int .i64 a2_0) := (blk_cell BK401.out 0).trans rfl
 have hcz15_1 : wr.cell? ⟨gb401, 1, none⟩ = some (.int .i64 a2_1) := (blk_cell BK401.out 1).trans rfl
 have hcz15_2 : wr.cell? ⟨gb401, 2, none⟩ = some (.int .i64 a2_2) := (blk_cell BK401.out 2).trans rfl
 have hcz15_3 : wr.cell? ⟨gb401, 3, none⟩ = some (.int .i64 a2_3) := (blk_cell BK401.out 3).trans rfl
 have hfz15_0 := blk_frozen BK401.out 0
 have hfz15_1 := blk_frozen BK401.out 1
 have hfz15_2 := blk_frozen BK401.out 2
 have hfz15_3 := blk_frozen BK401.out 3
 go_wp2_with (first | ((with_reducible refine gate_callee (f := 40) rfl ?_); refine goesL_ (some 44) rfl rfl Try.func40 (by kernel_rfl) rfl #[.slice A0 l0.length c0, .slice A1 l1.length c1, .agg #[.int .i64 x10_1, .int .i64 x11_2]] rfl (by (try simp only [List.map_toArray, List.map_cons, List.map_nil]); first | done | rfl | (simp only [List.length_drop, List.length_take]; rfl)) ?_; (with_reducible refine (screen_hidden.calls _ _ l0 _ _ l1 x10_1 x11_2 true _ ?side1 ?side2 ?side3 ?side4 A13.out).mono ?_); (case side1 => repeat (first | exact (Kd.C_below HR0.out HB.out) | (with_reducible refine Kd.C_alloc ?_ _) | (with_reducible refine Kd.C_drewN ?_ _) | (with_reducible refine Kd.C_drew ?_))); (case side2 => exact HC0.out); (case side3 => repeat (first | exact (Kd.C_below HR1.out HB.out) | (with_reducible refine Kd.C_alloc ?_ _) | (with_reducible refine Kd.C_drewN ?_ _) | (with_reducible refine Kd.C_drew ?_))); (case side4 => exact HC1.out); rintro e w16 ⟨rfl, hb⟩; refine ⟨_, rfl, ?_⟩; have n0_ := am (blk_below (by (with_reducible repeat first|refine bN ?_ _|refine bD ?_|refine bA ?_ _);exact BK401.out) hb); have n1_ := am (below_step (by repeat first|(with_reducible first|exact HB.out|apply wA|apply wN|apply wD|refine wS ?_ GE401.out)|exact HB.out) hb); clear BK401; clear HB; have BK401 := n0_; have HB := n1_; clear n0_ n1_; (try clear hb); (try clear hb2); (try clear hk); (try clear hi)))
 go_roundg k2
 case measure => have := HK1.out; have := HK2.out; omega
 case rel => exact ⟨(wrap64 (x9_2 + 1)), (wrap64 (x11_2 + 1)), (by first | rfl | (simp; done) | (simp [*]; done)), (by first | rfl | (simp; done) | (simp [*]; done)), H', ⟨by have := HK1.out; have := HK2.out; omega⟩, ⟨by (with_reducible repeat first|refine bN ?_ _|refine bD ?_|refine bA ?_ _);exact BK401.out⟩, ⟨by repeat (first | (with_reducible first | exact HB.out | apply below_alloc | apply pw_below_drewN | apply below_drew1 | refine below_set ?_ GE401.out) | exact HB.out)⟩⟩}
 replace c14 := Bool.eq_false_iff.mpr c14
 subst c14
 have H1 : (screen_Dark.l1 k2 l0 l1 x9_2 x10_1 (wrap64 (x11_2 + 1)) a2_0 a2_1 a2_2 a2_3) = some (r1, r2) := by rw [if_neg (show ¬ (false = true) by decide)] at H; exact H
 clear H
 have H := H1
 clear H1
 have H' := am H
 clear H
 have hcz17_0 : wr.cell? ⟨gb401, 0, none⟩ = some (.int .i64 a2_0) := (blk_cell BK401.out 0).trans rfl
 have hcz17_1 : wr.cell? ⟨gb401, 1, none⟩ = some (.int .i64 a2_1) := (blk_cell BK401.out 1).trans rfl
 have hcz17_2 : wr.cell? ⟨gb401, 2, none⟩ = some (.int .i64 a2_2) := (blk_cell BK401.out 2).trans rfl
 have hcz17_3 : wr.cell? ⟨gb401, 3, none⟩ = some (.int .i64 a2_3) := (blk_cell BK401.out 3).trans rfl
 have hfz17_0 := blk_frozen BK401.out 0
 have hfz17_1 := blk_frozen BK401.out 1
 have hfz17_2 := blk_frozen BK401.out 2
 have hfz17_3 := blk_frozen BK401.out 3
 go_wp2_with (first | ((with_reducible refine gate_callee (f := 40) rfl ?_); refine goesL_ (some 44) rfl rfl Try.func40 (by kernel_rfl) rfl #[.slice A0 l0.length c0, .slice A1 l1.length c1, .agg #[.int .i64 x10_1, .int .i64 x11_2]] rfl (by (try simp only [List.map_toArray, List.map_cons, List.map_nil]); first | done | rfl | (simp only [List.length_drop, List.length_take]; rfl)) ?_; (with_reducible refine (screen_hidden.calls _ _ l0 _ _ l1 x10_1 x11_2 false _ ?side1 ?side2 ?side3 ?side4 A13.out).mono ?_); (case side1 => repeat (first | exact (Kd.C_below HR0.out HB.out) | (with_reducible refine Kd.C_alloc ?_ _) | (with_reducible refine Kd.C_drewN ?_ _) | (with_reducible refine Kd.C_drew ?_))); (case side2 => exact HC0.out); (case side3 => repeat (first | exact (Kd.C_below HR1.out HB.out) | (with_reducible refine Kd.C_alloc ?_ _) | (with_reducible refine Kd.C_drewN ?_ _) | (with_reducible refine Kd.C_drew ?_))); (case side4 => exact HC1.out); rintro e w18 ⟨rfl, hb⟩; refine ⟨_, rfl, ?_⟩; have n0_ := am (blk_below (by (with_reducible repeat first|refine bN ?_ _|refine bD ?_|refine bA ?_ _);exact BK401.out) hb); have n1_ := am (below_step (by repeat first|(with_reducible first|exact HB.out|apply wA|apply wN|apply wD|refine wS ?_ GE401.out)|exact HB.out) hb); clear BK401; clear HB; have BK401 := n0_; have HB := n1_; clear n0_ n1_; (try clear hb); (try clear hb2); (try clear hk); (try clear hi)))
 go_roundg k2
 case measure => have := HK1.out; have := HK2.out; omega
 case rel => exact ⟨(x9_2), (wrap64 (x11_2 + 1)), (by first | rfl | (simp; done) | (simp [*]; done)), (by first | rfl | (simp; done) | (simp [*]; done)), H', ⟨by have := HK1.out; have := HK2.out; omega⟩, ⟨by (with_reducible repeat first|refine bN ?_ _|refine bD ?_|refine bA ?_ _);exact BK401.out⟩, ⟨by repeat (first | (with_reducible first | exact HB.out | apply below_alloc | apply pw_below_drewN | apply below_drew1 | refine below_set ?_ GE401.out) | exact HB.out)⟩⟩}
  rw [if_neg c12] at H
  have c12b0 : decide (x11_2 ≤ a2_3) = false := decide_eq_false c12
  clear c12
  have H' := am H
  clear H
  have hcz19_0 : wr.cell? ⟨gb401, 0, none⟩ = some (.int .i64 a2_0) := (blk_cell BK401.out 0).trans rfl
  have hcz19_1 : wr.cell? ⟨gb401, 1, none⟩ = some (.int .i64 a2_1) := (blk_cell BK401.out 1).trans rfl
  have hcz19_2 : wr.cell? ⟨gb401, 2, none⟩ = some (.int .i64 a2_2) := (blk_cell BK401.out 2).trans rfl
  have hcz19_3 : wr.cell? ⟨gb401, 3, none⟩ = some (.int .i64 a2_3) := (blk_cell BK401.out 3).trans rfl
  have hfz19_0 := blk_frozen BK401.out 0
  have hfz19_1 := blk_frozen BK401.out 1
  have hfz19_2 := blk_frozen BK401.out 2
  have hfz19_3 := blk_frozen BK401.out 3
  go_wp2
  go_roundg k2
  case measure => have := HK1.out; have := HK2.out; omega
  case rel => exact ⟨(x9_2), (wrap64 (x10_1 + 1)), (by first | rfl | (simp; done) | (simp [*]; done)), (by first | rfl | (simp; done) | (simp [*]; done)), H', ⟨by have := HK1.out; have := HK2.out; omega⟩, ⟨by (with_reducible repeat first|refine bN ?_ _|refine bD ?_|refine bA ?_ _);exact BK401.out⟩, ⟨by repeat (first | (with_reducible first | exact HB.out | apply below_alloc | apply pw_below_drewN | apply below_drew1 | refine below_set ?_ GE401.out) | exact HB.out)⟩⟩)}
  rw [if_neg c10] at H
  have c10b0 : decide (x10_1 ≤ a2_2) = false := decide_eq_false c10
  clear c10
  simp only [Option.some.injEq, Prod.mk.injEq] at H
  obtain ⟨rfl, rfl⟩ := H
  have hcz20_0 : wr.cell? ⟨gb401, 0, none⟩ = some (.int .i64 a2_0) := (blk_cell BK401.out 0).trans rfl
  have hcz20_1 : wr.cell? ⟨gb401, 1, none⟩ = some (.int .i64 a2_1) := (blk_cell BK401.out 1).trans rfl
  have hcz20_2 : wr.cell? ⟨gb401, 2, none⟩ = some (.int .i64 a2_2) := (blk_cell BK401.out 2).trans rfl
  have hcz20_3 : wr.cell? ⟨gb401, 3, none⟩ = some (.int .i64 a2_3) := (blk_cell BK401.out 3).trans rfl
  have hfz20_0 := blk_frozen BK401.out 0
  have hfz20_1 := blk_frozen BK401.out 1
  have hfz20_2 := blk_frozen BK401.out 2
  have hfz20_3 := blk_frozen BK401.out 3
  go_wp2
  go_ret2
  exact ⟨by first | rfl | (simp [errW_none, errW_some] <;> rfl) | (simp [*, errW_none, errW_some] <;> rfl), by repeat (first | (with_reducible first | exact HB.out | apply below_alloc | apply pw_below_drewN | apply below_drew1 | refine below_set ?_ GE401.out) | exact HB.out)⟩)}
 rw [if_neg c5] at H
 have c5b0 : (t402 == 0) = false := beq_eq_false_iff_ne.mpr c5
 have c5b1 : (t402 != 0) = true := bne_iff_ne.mpr c5
 simp only [Option.some.injEq, Prod.mk.injEq] at H
 obtain ⟨rfl, rfl⟩ := H
 go_enter Try.func20, Try.ntmps20
 go_wp2_with (first | ((with_reducible refine gate_dst (N := 5) rfl ?_); refine box_event ?hg (N := 5) ?hd (cs := #[.int .i64 a2_0, .int .i64 a2_1, .int .i64 a2_2, .int .i64 a2_3]) (t := 27) ?hr ?_; (case hd => rfl); (case hg => rfl); (case hr => first | (go_simp; done) | (go_simp; rfl)); intro gb401 hg w21 hbox hb; have n0_ := am (below_step (by repeat first|(with_reducible first|exact HB.out|apply wA|apply wN|apply wD)|exact HB.out) hb); have n1_ := am (hbox); have n2_ := am ((by rw [hg]; exact (below_size (by repeat first|(with_reducible first|exact HB.out|apply wA|apply wN|apply wD)|exact HB.out)) : w.heap.size ≤ gb401)); have n3_ := am ((by rw [hg]; exact (below_size (by repeat first|(with_reducible first|exact HB.out|apply wA|apply wN|apply wD)|exact HB.out)) : w.heap.size ≤ gb401)); clear HB; have HB := n0_; have BK401 := n1_; have GW401 := n2_; have GE401 := n3_; clear n0_ n1_ n2_ n3_; clear hb hbox hg; have hcz22_0 : w21.cell? ⟨gb401, 0, none⟩ = some (.int .i64 a2_0) := (blk_cell BK401.out 0).trans rfl; have hcz22_1 : w21.cell? ⟨gb401, 1, none⟩ = some (.int .i64 a2_1) := (blk_cell BK401.out 1).trans rfl; have hcz22_2 : w21.cell? ⟨gb401, 2, none⟩ = some (.int .i64 a2_2) := (blk_cell BK401.out 2).trans rfl; have hcz22_3 : w21.cell? ⟨gb401, 3, none⟩ = some (.int .i64 a2_3) := (blk_cell BK401.out 3).trans rfl; have hfz22_0 := blk_frozen BK401.out 0; have hfz22_1 := blk_frozen BK401.out 1; have hfz22_2 := blk_frozen BK401.out 2; have hfz22_3 := blk_frozen BK401.out 3) | ((with_reducible refine gate_callee (f := 37) rfl ?_); refine goesL_ (some 15) rfl rfl Try.func37 (by kernel_rfl) rfl #[.slice A0 l0.length c0, .slice A1 l1.length c1, .slice none 0 0, .agg #[.int .i64 a2_0, .int .i64 a2_1, .int .i64 a2_2, .int .i64 a2_3]] rfl (by (try simp only [List.map_toArray, List.map_cons, List.map_nil]); first | done | rfl | (simp only [List.length_drop, List.length_take]; rfl)) ?_; (refine (screen_checked.calls k _ _ l0 _ _ l1 _ _ ([] : List (S25)) a2_0 a2_1 a2_2 a2_3 t402 _ ?side1 ?side2 ?side3 ?side4 ?side5 ?side6 A4.out).mono ?_); (case side1 => repeat (first | exact (Kd.C_below HR0.out HB.out) | (with_reducible refine Kd.C_alloc ?_ _) | (with_reducible refine Kd.C_drewN ?_ _) | (with_reducible refine Kd.C_drew ?_))); (case side2 => exact HC0.out); (case side3 => repeat (first | exact (Kd.C_below HR1.out HB.out) | (with_reducible refine Kd.C_alloc ?_ _) | (with_reducible refine Kd.C_drewN ?_ _) | (with_reducible refine Kd.C_drew ?_))); (case side4 => exact HC1.out); (case side5 => exact Kd.C_nil _ _); (case side6 => exact Nat.le_refl _); rintro e w23 ⟨rfl, hb⟩; refine ⟨_, rfl, ?_⟩; have n0_ := am (blk_below (by (with_reducible repeat first|refine bN ?_ _|refine bD ?_|refine bA ?_ _);exact BK401.out) hb); have n1_ := am (below_step (by repeat first|(with_reducible first|exact HB.out|apply wA|apply wN|apply wD|refine wS ?_ GE401.out)|exact HB.out) hb); clear BK401; clear HB; have BK401 := n0_; have HB := n1_; clear n0_ n1_; (try clear hb); (try clear hb2); (try clear hk); (try clear hi)))
 go_ret2
 exact ⟨by first | rfl | (simp [errW_none, errW_some] <;> rfl) | (simp [*, errW_none, errW_some] <;> rfl), by repeat (first | (with_reducible first | exact HB.out | apply below_alloc | apply pw_below_drewN | apply below_drew1 | refine below_set ?_ GE401.out) | exact HB.out)⟩
def screen_Turn_1.f (a0_0 : Int) (a0_1 : Int) : Option (Int × Int) := some (wrap64 (-a0_1), a0_0)
set_option maxHeartbeats 8000000 in
set_option maxRecDepth 100000 in
theorem screen_Turn_1.calls (a0_0 : Int) (a0_1 : Int) (r1 : Int) (r2 : Int) (w : World) (h : screen_Turn_1.f a0_0 a0_1 = some (r1, r2)) :
 Calls Try.prog 44 #[.agg #[.int .i64 a0_0, .int .i64 a0_1]] w fun e w' => e = .returned (.agg #[.int .i64 r1, .int .i64 r2]) ∧ Below w.heap.size w w' := by
 have hu25 := Try.underlying25
 have HB := am (Below.refl w.heap.size w)
 have H : (some (wrap64 (-a0_1), a0_0)) = some (r1, r2) := h
 clear h
 simp only [Option.some.injEq, Prod.mk.injEq] at H
 obtain ⟨rfl, rfl⟩ := H
 go_enter Try.func44, Try.ntmps44
 go_wp2_with (first | ((with_reducible refine gate_dst (N := 1) rfl ?_); refine box_event ?hg (N := 1) ?hd (cs := #[.int .i64 a0_0, .int .i64 a0_1]) (t := 25) ?hr ?_; (case hd => rfl); (case hg => rfl); (case hr => first | (go_simp; done) | (go_simp; rfl)); intro gb404 hg w2 hbox hb; have n0_ := am (below_step (by repeat first|(with_reducible first|exact HB.out|apply wA|apply wN|apply wD)|exact HB.out) hb); have n1_ := am (hbox); have n2_ := am ((by rw [hg]; exact (below_size (by repeat first|(with_reducible first|exact HB.out|apply wA|apply wN|apply wD)|exact HB.out)) : w.heap.size ≤ gb404)); have n3_ := am ((by rw [hg]; exact (below_size (by repeat first|(with_reducible first|exact HB.out|apply wA|apply wN|apply wD)|exact HB.out)) : w.heap.size ≤ gb404)); clear HB; have HB := n0_; have BK404 := n1_; have GW404 := n2_; have GE404 := n3_; clear n0_ n1_ n2_ n3_; clear hb hbox hg) | ((with_reducible refine gate_dst (N := 2) rfl ?_); refine box_event ?hg (N := 2) ?hd (cs := #[.int .i64 0, .int .i64 0]) (t := 25) ?hr ?_; (case hd => rfl); (case hg => rfl); (case hr => first | (go_simp; done) | (go_simp; rfl)); intro gb405 hg w3 hbox hb; have n0_ := am (blk_below (by (with_reducible repeat first|refine bN ?_ _|refine bD ?_|refine bA ?_ _);exact BK404.out) hb); have n1_ := am (below_step (by repeat first|(with_reducible first|exact HB.out|apply wA|apply wN|apply wD|refine wS ?_ GE404.out)|exact HB.out) hb); have n2_ := am (hbox); have n3_ := am ((by rw [hg]; exact (below_size (by repeat first|(with_reducible first|exact HB.out|apply wA|apply wN|apply wD|refine wS ?_ GE404.out)|exact HB.out)) : w.heap.size ≤ gb405)); have n4_ := am ((by rw [hg]; exact (below_size (by repeat first|(with_reducible first|exact HB.out|apply wA|apply wN|apply wD|refine wS ?_ GE404.out)|exact HB.out)) : w.heap.size ≤ gb405)); have n5_ := am ((by rw [hg]; exact Nat.ne_of_lt (blk_lt (by (with_reducible repeat first|refine bN ?_ _|refine bD ?_|refine bA ?_ _);exact BK404.out)) : gb404 ≠ gb405)); have n6_ := am ((by rw [hg]; exact Nat.ne_of_gt (blk_lt (by (with_reducible repeat first|refine bN ?_ _|refine bD ?_|refine bA ?_ _);exact BK404.out)) : gb405 ≠ gb404)); clear BK404; clear HB; have BK404 := n0_; have HB := n1_; have BK405 := n2_; have GW405 := n3_; have GE405 := n4_; have NB404_405 := n5_; have NB405_404 := n6_; clear n0_ n1_ n2_ n3_ n4_ n5_ n6_; clear hb hbox hg; have hnb4 := NB404_405.out; have hnc4 := NB405_404.out; have hcz5_0 : w3.cell? ⟨gb404, 0, none⟩ = some (.int .i64 a0_0) := (blk_cell BK404.out 0).trans rfl; have hcz5_1 : w3.cell? ⟨gb404, 1, none⟩ = some (.int .i64 a0_1) := (blk_cell BK404.out 1).trans rfl; have hfz5_0 := blk_frozen BK404.out 0; have hfz5_1 := blk_frozen BK404.out 1; have hcz6_0 : w3.cell? ⟨gb405, 0, none⟩ = some (.int .i64 0) := (blk_cell BK405.out 0).trans rfl; have hcz6_1 : w3.cell? ⟨gb405, 1, none⟩ = some (.int .i64 0) := (blk_cell BK405.out 1).trans rfl; have hfz6_0 := blk_frozen BK405.out 0; have hfz6_1 := blk_frozen BK405.out 1))
 refine bodyPost_ret (results_cell_row rfl _ _ gb405 25 #[.int .i64 (wrap64 (-a0_1)), .int .i64 a0_0] (0, 0) _ rfl (by (with_reducible repeat first|refine bN ?_ _|refine bD ?_|refine bA ?_ _);refine blk_put (cs := #[.int .i64 (wrap64 (-a0_1)), .int .i64 0]) ?_ 1 _ rfl; (with_reducible repeat first|refine bN ?_ _|refine bD ?_|refine bA ?_ _);refine blk_put (cs := #[.int .i64 0, .int .i64 0]) ?_ 0 _ rfl; (with_reducible repeat first|refine bN ?_ _|refine bD ?_|refine bA ?_ _);exact BK405.out) Try.underlying25 rfl (by kernel_rfl)) rfl ?_
 exact ⟨by first | rfl | (simp [errW_none, errW_some] <;> rfl) | (simp [*, errW_none, errW_some] <;> rfl), by repeat (first | (with_reducible first | exact HB.out | apply below_alloc | apply pw_below_drewN | apply below_drew1 | refine below_set ?_ GE404.out | refine below_set ?_ GE405.out) | exact HB.out)⟩
end Go.Proofs.Ytieffjkplaajdaa.SW

