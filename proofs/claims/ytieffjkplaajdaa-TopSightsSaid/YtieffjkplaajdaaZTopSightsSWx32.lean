/- Of the text SWx32, what the row of TopSights reaches. -/
import Derived.Test.YtieffjkplaajdaaZTopSightsSWx0
import Derived.Test.YtieffjkplaajdaaZTopSightsSWx7
import Derived.Test.YtieffjkplaajdaaZTopSightsSWx12
import Derived.Test.YtieffjkplaajdaaZTopSightsSWx13
import Derived.Test.YtieffjkplaajdaaZTopSightsSWx14
import Derived.Test.YtieffjkplaajdaaZTopSightsSWx31
namespace Go.Proofs.Ytieffjkplaajdaa.SW
open Go.RowKit Go.Proofs.YtieffjkplaajdaaW.PrintWords Go.Proofs.YtieffjkplaajdaaW.PrintLast Go.Proofs.YtieffjkplaajdaaW.PrintMore
open Go.Proofs.YtieffjkplaajdaaW.PrintWords renaming blk_drewN → bN, blk_drew → bD, blk_alloc → bA, below_alloc → wA, pw_below_drewN → wN, below_drew1 → wD, below_set → wS
open List renaming setIfInBounds_toArray → sA, set_cons_zero → s0, set_cons_succ → s1
open Act renaming put → ap
open Aside0 renaming mk → am
attribute [local go_sem] max2_int min2_int max_two min_two max_three min_three max_four min_four   -- for this text's walks alone
set_option linter.unusedVariables false
set_option linter.unusedSimpArgs false

def screen_CheckWay.l0 : Nat → List (S48) → List (S25) → List (S25) → List (S25) → Int → Int → Int → Int → Int → Int → Option (Int × Int)
  | 0, _, _, _, _, _, _, _, _, _, _ => none
  | k + 1, x0, x1, x3, x23, x24, x25, x386000, x386001, x386002, x386003 => if x25 < x24 then (if 0 ≤ x25 then (if x25 < (x23.length : Int) then ((screen_inside.f x386000 x386001 x386002 x386003 ((rd_T25 x23 x25).f0) ((rd_T25 x23 x25).f1)).bind fun t389 => (if t389 = true then ((screen_hidden.f x0 x1 ((rd_T25 x23 x25).f0) ((rd_T25 x23 x25).f1)).bind fun t390 => (if t390 = true then (if x25 = 0 then (screen_CheckWay.l0 k x0 x1 x3 x23 x24 (wrap64 (x25 + 1)) x386000 x386001 x386002 x386003) else (if 0 ≤ (wrap64 (x25 - 1)) then (if (wrap64 (x25 - 1)) < (x3.length : Int) then ((screen_isStep.f ((rd_T25 x3 (wrap64 (x25 - 1))).f0) ((rd_T25 x3 (wrap64 (x25 - 1))).f1) ((rd_T25 x23 x25).f0) ((rd_T25 x23 x25).f1)).bind fun t392 => (if t392 = true then ((screen_sees.f x0 ((rd_T25 x3 (wrap64 (x25 - 1))).f0) ((rd_T25 x3 (wrap64 (x25 - 1))).f1) ((rd_T25 x23 x25).f0) ((rd_T25 x23 x25).f1)).bind fun t394 => (if t394 = true then (screen_CheckWay.l0 k x0 x1 x3 x23 x24 (wrap64 (x25 + 1)) x386000 x386001 x386002 x386003) else (some (x25, 12)))) else (some (x25, 13)))) else (none)) else (none))) else (some (x25, 11)))) else (some (x25, 1)))) else (none)) else (none)) else (some (wrap64 ((x3.length : Int) - 1), 0))
def screen_CheckWay.f (k : Nat) (l0 : List (S48)) (l1 : List (S25)) (a2_0 : Int) (a2_1 : Int) (a2_2 : Int) (a2_3 : Int) (l3 : List (S25)) : Option (Int × Int) := (screen_checked.f k l0 l1 ([] : List (S25)) a2_0 a2_1 a2_2 a2_3).bind fun t386 => (if t386 = 0 then (if (l3.length : Int) = 0 then (some (0, 13)) else (screen_CheckWay.l0 k l0 l1 l3 l3 (l3.length : Int) 0 a2_0 a2_1 a2_2 a2_3)) else (some (0, t386)))
def screen_CheckWay.T14 : Bool × List (List Nat × List Nat) := (true, [([], []), ([], []), ([1], [1]), ([0, 2], [0, 2]), ([3], [3]), ([], []), ([4, 5], [4, 5]), ([6], [6]), ([7, 6], [7])])
def screen_CheckWay.B14 : List Nat := [0, 0, 2, 7, 15, 0, 63, 127, 255]
theorem screen_CheckWay.tab14 : rtab .any (opsOf Try.f18 14) = screen_CheckWay.T14 := by kernel_rfl
theorem screen_CheckWay.bits14 : waitsOk screen_CheckWay.T14.2 screen_CheckWay.B14 = true := by kernel_rfl
def screen_CheckWay.T16 : Bool × List (List Nat × List Nat) := (true, [([], []), ([], []), ([], []), ([2], [2]), ([1, 3], [1, 3]), ([4], [4]), ([], []), ([0, 5, 6], [0, 5, 6]), ([7], [7]), ([8, 7], [8])])
def screen_CheckWay.B16 : List Nat := [0, 0, 0, 4, 14, 30, 0, 127, 255, 511]
theorem screen_CheckWay.tab16 : rtab .any (opsOf Try.f18 16) = screen_CheckWay.T16 := by kernel_rfl
theorem screen_CheckWay.bits16 : waitsOk screen_CheckWay.T16.2 screen_CheckWay.B16 = true := by kernel_rfl
open Bool renaming true → T, false → F
set_option maxHeartbeats 8000000 in
set_option maxRecDepth 100000 in
theorem screen_CheckWay.calls (k : Nat) (A0 : Option Addr) (c0 : Nat) (l0 : List (S48)) (A1 : Option Addr) (c1 : Nat) (l1 : List (S25)) (a2_0 : Int) (a2_1 : Int) (a2_2 : Int) (a2_3 : Int) (A3 : Option Addr) (c3 : Nat) (l3 : List (S25)) (r1 : Int) (r2 : Int) (w : World) (hr0 : Kd.C k48 w A0 l0.length l0) (hc0 : l0.length ≤ c0) (hr1 : Kd.C k25 w A1 l1.length l1) (hc1 : l1.length ≤ c1) (hr3 : Kd.C k25 w A3 l3.length l3) (hc3 : l3.length ≤ c3) (h : screen_CheckWay.f k l0 l1 a2_0 a2_1 a2_2 a2_3 l3 = some (r1, r2)) :
 Calls Try.prog 18 #[.slice A0 l0.length c0, .slice A1 l1.length c1, .agg #[.int .i64 a2_0, .int .i64 a2_1, .int .i64 a2_2, .int .i64 a2_3], .slice A3 l3.length c3] w fun e w' => e = .returned (.tuple #[.int .i64 r1, .int .i64 r2]) ∧ Below w.heap.size w w' := by
 have hu27 := Try.underlying27
 have hu25 := Try.underlying25
 have HR0 := am hr0
 have HC0 := am hc0
 clear hr0 hc0
 have HR1 := am hr1
 have HC1 := am hc1
 clear hr1 hc1
 have HR3 := am hr3
 have HC3 := am hc3
 clear hr3 hc3
 have HB := am (Below.refl w.heap.size w)
 have H : ((screen_checked.f k l0 l1 ([] : List (S25)) a2_0 a2_1 a2_2 a2_3).bind fun t386 => (if t386 = 0 then (if (l3.length : Int) = 0 then (some (0, 13)) else (screen_CheckWay.l0 k l0 l1 l3 l3 (l3.length : Int) 0 a2_0 a2_1 a2_2 a2_3)) else (some (0, t386)))) = some (r1, r2) := h
 clear h
 replace H := Option.bind_eq_some_iff.mp H
 obtain ⟨t386, A50, H⟩ := H
 replace H : (if t386 = 0 then (if (l3.length : Int) = 0 then (some (0, 13)) else (screen_CheckWay.l0 k l0 l1 l3 l3 (l3.length : Int) 0 a2_0 a2_1 a2_2 a2_3)) else (some (0, t386))) = some (r1, r2) := H
 have A5 := am A50
 clear A50
 by_cases c6 : t386 = 0
 {
 rw [if_pos c6] at H
 have c6b0 : (t386 == 0) = true := beq_iff_eq.mpr c6
 have c6b1 : (t386 != 0) = false := bne_eq_false_iff_eq.mpr c6
 clear c6
 by_cases c7 : (l3.length : Int) = 0
 {
 rw [if_pos c7] at H
 have c7b0 : ((l3.length : Int) == 0) = true := beq_iff_eq.mpr c7
 have c7b1 : ((l3.length : Int) != 0) = false := bne_eq_false_iff_eq.mpr c7
 clear c7
 simp only [Option.some.injEq, Prod.mk.injEq] at H
 obtain ⟨rfl, rfl⟩ := H
 go_enter Try.func18, Try.ntmps18
 go_wp2_with (first | ((with_reducible refine gate_dst (N := 6) rfl ?_); refine box_event ?hg (N := 6) ?hd (cs := #[.int .i64 a2_0, .int .i64 a2_1, .int .i64 a2_2, .int .i64 a2_3]) (t := 27) ?hr ?_; (case hd => rfl); (case hg => rfl); (case hr => first | (go_simp; done) | (go_simp; rfl)); intro gb385 hg w8 hbox hb; have n0_ := am (below_step (by repeat first|(with_reducible first|exact HB.out|apply wA|apply wN|apply wD)|exact HB.out) hb); have n1_ := am (hbox); have n2_ := am ((by rw [hg]; exact (below_size (by repeat first|(with_reducible first|exact HB.out|apply wA|apply wN|apply wD)|exact HB.out)) : w.heap.size ≤ gb385)); have n3_ := am ((by rw [hg]; exact (below_size (by repeat first|(with_reducible first|exact HB.out|apply wA|apply wN|apply wD)|exact HB.out)) : w.heap.size ≤ gb385)); clear HB; have HB := n0_; have BK385 := n1_; have GW385 := n2_; have GE385 := n3_; clear n0_ n1_ n2_ n3_; clear hb hbox hg; have hcz9_0 : w8.cell? ⟨gb385, 0, none⟩ = some (.int .i64 a2_0) := (blk_cell BK385.out 0).trans rfl; have hcz9_1 : w8.cell? ⟨gb385, 1, none⟩ = some (.int .i64 a2_1) := (blk_cell BK385.out 1).trans rfl; have hcz9_2 : w8.cell? ⟨gb385, 2, none⟩ = some (.int .i64 a2_2) := (blk_cell BK385.out 2).trans rfl; have hcz9_3 : w8.cell? ⟨gb385, 3, none⟩ = some (.int .i64 a2_3) := (blk_cell BK385.out 3).trans rfl; have hfz9_0 := blk_frozen BK385.out 0; have hfz9_1 := blk_frozen BK385.out 1; have hfz9_2 := blk_frozen BK385.out 2; have hfz9_3 := blk_frozen BK385.out 3) | ((with_reducible refine gate_callee (f := 37) rfl ?_); refine goesL_ (some 16) rfl rfl Try.func37 (by kernel_rfl) rfl #[.slice A0 l0.length c0, .slice A1 l1.length c1, .slice none 0 0, .agg #[.int .i64 a2_0, .int .i64 a2_1, .int .i64 a2_2, .int .i64 a2_3]] rfl (by (try simp only [List.map_toArray, List.map_cons, List.map_nil]); first | done | rfl | (simp only [List.length_drop, List.length_take]; rfl)) ?_; (refine (screen_checked.calls k _ _ l0 _ _ l1 _ _ ([] : List (S25)) a2_0 a2_1 a2_2 a2_3 t386 _ ?side1 ?side2 ?side3 ?side4 ?side5 ?side6 A5.out).mono ?_); (case side1 => repeat (first | exact (Kd.C_below HR0.out HB.out) | (with_reducible refine Kd.C_alloc ?_ _) | (with_reducible refine Kd.C_drewN ?_ _) | (with_reducible refine Kd.C_drew ?_))); (case side2 => exact HC0.out); (case side3 => repeat (first | exact (Kd.C_below HR1.out HB.out) | (with_reducible refine Kd.C_alloc ?_ _) | (with_reducible refine Kd.C_drewN ?_ _) | (with_reducible refine Kd.C_drew ?_))); (case side4 => exact HC1.out); (case side5 => exact Kd.C_nil _ _); (case side6 => exact Nat.le_refl _); rintro e w10 ⟨rfl, hb⟩; refine ⟨_, rfl, ?_⟩; have n0_ := am (blk_below (g := gb385) (o := .cells #[.int .i64 a2_0, .int .i64 a2_1, .int .i64 a2_2, .int .i64 a2_3] 27 (0, 0)) (by (with_reducible repeat first|refine bN ?_ _|refine bD ?_|refine bA ?_ _);exact BK385.out) hb); have n1_ := am (below_step (by repeat first|(with_reducible first|exact HB.out|apply wA|apply wN|apply wD|refine wS ?_ GE385.out)|exact HB.out) hb); clear BK385; clear HB; have BK385 := n0_; have HB := n1_; clear n0_ n1_; (try clear hb); (try clear hb2); (try clear hk); (try clear hi)))
 go_ret2
 exact ⟨by first | rfl | (simp [errW_none, errW_some] <;> rfl) | (simp [*, errW_none, errW_some] <;> rfl), by repeat (first | (with_reducible first | exact HB.out | apply below_alloc | apply pw_below_drewN | apply below_drew1 | refine below_set ?_ GE385.out) | exact HB.out)⟩}
 rw [if_neg c7] at H
 have c7b0 : ((l3.length : Int) == 0) = false := beq_eq_false_iff_ne.mpr c7
 have c7b1 : ((l3.length : Int) != 0) = true := bne_iff_ne.mpr c7
 have c7b2 : ¬ (l3 = []) := fun h_ => c7 (by rw [h_]; rfl)
 have H' := am H
 clear H
 go_enter Try.func18, Try.ntmps18
 go_wp2_with (first | ((with_reducible refine gate_dst (N := 6) rfl ?_); refine box_event ?hg (N := 6) ?hd (cs := #[.int .i64 a2_0, .int .i64 a2_1, .int .i64 a2_2, .int .i64 a2_3]) (t := 27) ?hr ?_; (case hd => rfl); (case hg => rfl); (case hr => first | (go_simp; done) | (go_simp; rfl)); intro gb385 hg w11 hbox hb; have n0_ := am (below_step (by repeat first|(with_reducible first|exact HB.out|apply wA|apply wN|apply wD)|exact HB.out) hb); have n1_ := am (hbox); have n2_ := am ((by rw [hg]; exact (below_size (by repeat first|(with_reducible first|exact HB.out|apply wA|apply wN|apply wD)|exact HB.out)) : w.heap.size ≤ gb385)); have n3_ := am ((by rw [hg]; exact (below_size (by repeat first|(with_reducible first|exact HB.out|apply wA|apply wN|apply wD)|exact HB.out)) : w.heap.size ≤ gb385)); clear HB; have HB := n0_; have BK385 := n1_; have GW385 := n2_; have GE385 := n3_; clear n0_ n1_ n2_ n3_; clear hb hbox hg; have hcz12_0 : w11.cell? ⟨gb385, 0, none⟩ = some (.int .i64 a2_0) := (blk_cell BK385.out 0).trans rfl; have hcz12_1 : w11.cell? ⟨gb385, 1, none⟩ = some (.int .i64 a2_1) := (blk_cell BK385.out 1).trans rfl; have hcz12_2 : w11.cell? ⟨gb385, 2, none⟩ = some (.int .i64 a2_2) := (blk_cell BK385.out 2).trans rfl; have hcz12_3 : w11.cell? ⟨gb385, 3, none⟩ = some (.int .i64 a2_3) := (blk_cell BK385.out 3).trans rfl; have hfz12_0 := blk_frozen BK385.out 0; have hfz12_1 := blk_frozen BK385.out 1; have hfz12_2 := blk_frozen BK385.out 2; have hfz12_3 := blk_frozen BK385.out 3) | ((with_reducible refine gate_callee (f := 37) rfl ?_); refine goesL_ (some 16) rfl rfl Try.func37 (by kernel_rfl) rfl #[.slice A0 l0.length c0, .slice A1 l1.length c1, .slice none 0 0, .agg #[.int .i64 a2_0, .int .i64 a2_1, .int .i64 a2_2, .int .i64 a2_3]] rfl (by (try simp only [List.map_toArray, List.map_cons, List.map_nil]); first | done | rfl | (simp only [List.length_drop, List.length_take]; rfl)) ?_; (refine (screen_checked.calls k _ _ l0 _ _ l1 _ _ ([] : List (S25)) a2_0 a2_1 a2_2 a2_3 t386 _ ?side1 ?side2 ?side3 ?side4 ?side5 ?side6 A5.out).mono ?_); (case side1 => repeat (first | exact (Kd.C_below HR0.out HB.out) | (with_reducible refine Kd.C_alloc ?_ _) | (with_reducible refine Kd.C_drewN ?_ _) | (with_reducible refine Kd.C_drew ?_))); (case side2 => exact HC0.out); (case side3 => repeat (first | exact (Kd.C_below HR1.out HB.out) | (with_reducible refine Kd.C_alloc ?_ _) | (with_reducible refine Kd.C_drewN ?_ _) | (with_reducible refine Kd.C_drew ?_))); (case side4 => exact HC1.out); (case side5 => exact Kd.C_nil _ _); (case side6 => exact Nat.le_refl _); rintro e w13 ⟨rfl, hb⟩; refine ⟨_, rfl, ?_⟩; have n0_ := am (blk_below (g := gb385) (o := .cells #[.int .i64 a2_0, .int .i64 a2_1, .int .i64 a2_2, .int .i64 a2_3] 27 (0, 0)) (by (with_reducible repeat first|refine bN ?_ _|refine bD ?_|refine bA ?_ _);exact BK385.out) hb); have n1_ := am (below_step (by repeat first|(with_reducible first|exact HB.out|apply wA|apply wN|apply wD|refine wS ?_ GE385.out)|exact HB.out) hb); clear BK385; clear HB; have BK385 := n0_; have HB := n1_; clear n0_ n1_; (try clear hb); (try clear hb2); (try clear hk); (try clear hi)))
 go_loopg [25] k (fun kq v25 w' => ∃ (x25_1 : Int), v25 = .int .i64 x25_1 ∧ Aside0 (screen_CheckWay.l0 kq l0 l1 l3 l3 (l3.length : Int) x25_1 a2_0 a2_1 a2_2 a2_3 = some (r1, r2)) ∧ Aside0 (kq ≤ k) ∧ Aside0 (w'.heap[gb385]? = some (.cells #[.int .i64 a2_0, .int .i64 a2_1, .int .i64 a2_2, .int .i64 a2_3] 27 (0, 0))) ∧ Aside0 (Below w.heap.size w w'))
 case atStart => exact ⟨(0), (by first | rfl | (simp; done) | (simp [*]; done)), H', ⟨Nat.le_refl _⟩, ⟨by (with_reducible repeat first|refine bN ?_ _|refine bD ?_|refine bA ?_ _);exact BK385.out⟩, ⟨by repeat (first | (with_reducible first | exact HB.out | apply below_alloc | apply pw_below_drewN | apply below_drew1 | refine below_set ?_ GE385.out) | exact HB.out)⟩⟩
 case round =>(
 clear H'
 try clear c1; try clear p2; try clear c3; try clear c6; try clear c6b0; try clear c6b1; try clear c7; try clear c7b0; try clear c7b1; try clear c7b2; try clear hcz12_0; try clear hcz12_1; try clear hcz12_2; try clear hcz12_3; try clear hcz9_0; try clear hcz9_1; try clear hcz9_2; try clear hcz9_3; try clear hfz12_0; try clear hfz12_1; try clear hfz12_2; try clear hfz12_3; try clear hfz9_0; try clear hfz9_1; try clear hfz9_2; try clear hfz9_3
 obtain ⟨x25_1, rfl, HA, HK1, BK385, HB⟩ := hrel
 cases gk with
 | zero => exact absurd HA.out (by simp [screen_CheckWay.l0])
 | succ k1 =>
  have H := HA.out
  clear HA
  simp only [screen_CheckWay.l0] at H
  by_cases c14 : x25_1 < (l3.length : Int)
  {
 rw [if_pos c14] at H
 have c14b0 : decide (x25_1 < (l3.length : Int)) = true := decide_eq_true c14
 clear c14
 by_cases c15 : 0 ≤ x25_1
 {
 rw [if_pos c15] at H
 have c15b0 : decide (0 ≤ x25_1) = true := decide_eq_true c15
 clear c15
 by_cases c16 : x25_1 < (l3.length : Int)
 {
 rw [if_pos c16] at H
 have c16b0 : decide (x25_1 < (l3.length : Int)) = true := decide_eq_true c16
 clear c16
 replace H := Option.bind_eq_some_iff.mp H
 obtain ⟨t389, A170, H⟩ := H
 replace H : (if t389 = true then ((screen_hidden.f l0 l1 ((rd_T25 l3 x25_1).f0) ((rd_T25 l3 x25_1).f1)).bind fun t390 => (if t390 = true then (if x25_1 = 0 then (screen_CheckWay.l0 k1 l0 l1 l3 l3 (l3.length : Int) (wrap64 (x25_1 + 1)) a2_0 a2_1 a2_2 a2_3) else (if 0 ≤ (wrap64 (x25_1 - 1)) then (if (wrap64 (x25_1 - 1)) < (l3.length : Int) then ((screen_isStep.f ((rd_T25 l3 (wrap64 (x25_1 - 1))).f0) ((rd_T25 l3 (wrap64 (x25_1 - 1))).f1) ((rd_T25 l3 x25_1).f0) ((rd_T25 l3 x25_1).f1)).bind fun t392 => (if t392 = true then ((screen_sees.f l0 ((rd_T25 l3 (wrap64 (x25_1 - 1))).f0) ((rd_T25 l3 (wrap64 (x25_1 - 1))).f1) ((rd_T25 l3 x25_1).f0) ((rd_T25 l3 x25_1).f1)).bind fun t394 => (if t394 = true then (screen_CheckWay.l0 k1 l0 l1 l3 l3 (l3.length : Int) (wrap64 (x25_1 + 1)) a2_0 a2_1 a2_2 a2_3) else (some (x25_1, 12)))) else (some (x25_1, 13)))) else (none)) else (none))) else (some (x25_1, 11)))) else (some (x25_1, 1))) = some (r1, r2) := H
 have A17 := am A170
 clear A170
 by_cases c18 : t389 = true
 {
 subst c18
 have H1 : ((screen_hidden.f l0 l1 ((rd_T25 l3 x25_1).f0) ((rd_T25 l3 x25_1).f1)).bind fun t390 => (if t390 = true then (if x25_1 = 0 then (screen_CheckWay.l0 k1 l0 l1 l3 l3 (l3.length : Int) (wrap64 (x25_1 + 1)) a2_0 a2_1 a2_2 a2_3) else (if 0 ≤ (wrap64 (x25_1 - 1)) then (if (wrap64 (x25_1 - 1)) < (l3.length : Int) then ((screen_isStep.f ((rd_T25 l3 (wrap64 (x25_1 - 1))).f0) ((rd_T25 l3 (wrap64 (x25_1 - 1))).f1) ((rd_T25 l3 x25_1).f0) ((rd_T25 l3 x25_1).f1)).bind fun t392 => (if t392 = true then ((screen_sees.f l0 ((rd_T25 l3 (wrap64 (x25_1 - 1))).f0) ((rd_T25 l3 (wrap64 (x25_1 - 1))).f1) ((rd_T25 l3 x25_1).f0) ((rd_T25 l3 x25_1).f1)).bind fun t394 => (if t394 = true then (screen_CheckWay.l0 k1 l0 l1 l3 l3 (l3.length : Int) (wrap64 (x25_1 + 1)) a2_0 a2_1 a2_2 a2_3) else (some (x25_1, 12)))) else (some (x25_1, 13)))) else (none)) else (none))) else (some (x25_1, 11)))) = some (r1, r2) := by rw [if_pos rfl] at H; exact H
 clear H
 have H := H1
 clear H1
 replace H := Option.bind_eq_some_iff.mp H
 obtain ⟨t390, A190, H⟩ := H
 replace H : (if t390 = true then (if x25_1 = 0 then (screen_CheckWay.l0 k1 l0 l1 l3 l3 (l3.length : Int) (wrap64 (x25_1 + 1)) a2_0 a2_1 a2_2 a2_3) else (if 0 ≤ (wrap64 (x25_1 - 1)) then (if (wrap64 (x25_1 - 1)) < (l3.length : Int) then ((screen_isStep.f ((rd_T25 l3 (wrap64 (x25_1 - 1))).f0) ((rd_T25 l3 (wrap64 (x25_1 - 1))).f1) ((rd_T25 l3 x25_1).f0) ((rd_T25 l3 x25_1).f1)).bind fun t392 => (if t392 = true then ((screen_sees.f l0 ((rd_T25 l3 (wrap64 (x25_1 - 1))).f0) ((rd_T25 l3 (wrap64 (x25_1 - 1))).f1) ((rd_T25 l3 x25_1).f0) ((rd_T25 l3 x25_1).f1)).bind fun t394 => (if t394 = true then (screen_CheckWay.l0 k1 l0 l1 l3 l3 (l3.length : Int) (wrap64 (x25_1 + 1)) a2_0 a2_1 a2_2 a2_3) else (some (x25_1, 12)))) else (some (x25_1, 13)))) else (none)) else (none))) else (some (x25_1, 11))) = some (r1, r2) := H
 have A19 := am A190
 clear A190
 by_cases c20 : t390 = true
 {
 subst c20
 have H1 : (if x25_1 = 0 then (screen_CheckWay.l0 k1 l0 l1 l3 l3 (l3.length : Int) (wrap64 (x25_1 + 1)) a2_0 a2_1 a2_2 a2_3) else (if 0 ≤ (wrap64 (x25_1 - 1)) then (if (wrap64 (x25_1 - 1)) < (l3.length : Int) then ((screen_isStep.f ((rd_T25 l3 (wrap64 (x25_1 - 1))).f0) ((rd_T25 l3 (wrap64 (x25_1 - 1))).f1) ((rd_T25 l3 x25_1).f0) ((rd_T25 l3 x25_1).f1)).bind fun t392 => (if t392 = true then ((screen_sees.f l0 ((rd_T25 l3 (wrap64 (x25_1 - 1))).f0) ((rd_T25 l3 (wrap64 (x25_1 - 1))).f1) ((rd_T25 l3 x25_1).f0) ((rd_T25 l3 x25_1).f1)).bind fun t394 => (if t394 = true then (screen_CheckWay.l0 k1 l0 l1 l3 l3 (l3.length : Int) (wrap64 (x25_1 + 1)) a2_0 a2_1 a2_2 a2_3) else (some (x25_1, 12)))) else (some (x25_1, 13)))) else (none)) else (none))) = some (r1, r2) := by rw [if_pos rfl] at H; exact H
 clear H
 have H := H1
 clear H1
 by_cases c21 : x25_1 = 0
 {
 rw [if_pos c21] at H
 have c21b0 : (x25_1 == 0) = true := beq_iff_eq.mpr c21
 have c21b1 : (x25_1 != 0) = false := bne_eq_false_iff_eq.mpr c21
 clear c21
 have H' := am H
 clear H
 have p387 : 0 ≤ (x25_1 : Int) := of_decide_eq_true (by first | (with_reducible assumption) | assumption)
 have q387 : x25_1 < (l3.length : Int) := of_decide_eq_true (by first | (with_reducible assumption) | assumption)
 obtain ⟨ad387, e387, hx387_0, hx387_1⟩ := at_T25 HR3.out x25_1 p387 q387
 cases e387
 replace hx387_0 := (HB.out.cell (World.block_lt_of_cell? w _ hx387_0)).trans hx387_0
 replace hx387_1 := (HB.out.cell (World.block_lt_of_cell? w _ hx387_1)).trans hx387_1
 replace p387 := eq_true p387
 replace q387 := eq_true q387
 go_wp2_with (first | ((with_reducible refine gate_dst (N := 12) rfl ?_); refine box_event ?hg (N := 12) ?hd (cs := #[.int .i64 0, .int .i64 0]) (t := 25) ?hr ?_; (case hd => rfl); (case hg => rfl); (case hr => first | (go_simp; done) | (go_simp; rfl)); intro gb388 hg w22 hbox hb; have n0_ := am (blk_below (g := gb385) (o := .cells #[.int .i64 a2_0, .int .i64 a2_1, .int .i64 a2_2, .int .i64 a2_3] 27 (0, 0)) (by (with_reducible repeat first|refine bN ?_ _|refine bD ?_|refine bA ?_ _);exact BK385.out) hb); have n1_ := am (below_step (by repeat first|(with_reducible first|exact HB.out|apply wA|apply wN|apply wD|refine wS ?_ GE385.out)|exact HB.out) hb); have n2_ := am (hbox); have n3_ := am ((by rw [hg]; exact (below_size (by repeat first|(with_reducible first|exact HB.out|apply wA|apply wN|apply wD|refine wS ?_ GE385.out)|exact HB.out)) : w.heap.size ≤ gb388)); have n4_ := am ((by rw [hg]; exact (below_size (by repeat first|(with_reducible first|exact HB.out|apply wA|apply wN|apply wD|refine wS ?_ GE385.out)|exact HB.out)) : w.heap.size ≤ gb388)); have n5_ := am ((by rw [hg]; exact Nat.ne_of_lt (blk_lt (g := gb385) (o := .cells #[.int .i64 a2_0, .int .i64 a2_1, .int .i64 a2_2, .int .i64 a2_3] 27 (0, 0)) (by (with_reducible repeat first|refine bN ?_ _|refine bD ?_|refine bA ?_ _);exact BK385.out)) : gb385 ≠ gb388)); have n6_ := am ((by rw [hg]; exact Nat.ne_of_gt (blk_lt (g := gb385) (o := .cells #[.int .i64 a2_0, .int .i64 a2_1, .int .i64 a2_2, .int .i64 a2_3] 27 (0, 0)) (by (with_reducible repeat first|refine bN ?_ _|refine bD ?_|refine bA ?_ _);exact BK385.out)) : gb388 ≠ gb385)); clear BK385; clear HB; have BK385 := n0_; have HB := n1_; have BK388 := n2_; have GW388 := n3_; have GE388 := n4_; have NB385_388 := n5_; have NB388_385 := n6_; clear n0_ n1_ n2_ n3_ n4_ n5_ n6_; clear hb hbox hg; have hnb23 := NB388_385.out; have hnc23 := NB385_388.out; have hcz24_0 : w22.cell? ⟨gb388, 0, none⟩ = some (.int .i64 0) := (blk_cell BK388.out 0).trans rfl; have hcz24_1 : w22.cell? ⟨gb388, 1, none⟩ = some (.int .i64 0) := (blk_cell BK388.out 1).trans rfl; have hfz24_0 := blk_frozen BK388.out 0; have hfz24_1 := blk_frozen BK388.out 1; have hcz25_0 : w22.cell? ⟨gb385, 0, none⟩ = some (.int .i64 a2_0) := (blk_cell BK385.out 0).trans rfl; have hcz25_1 : w22.cell? ⟨gb385, 1, none⟩ = some (.int .i64 a2_1) := (blk_cell BK385.out 1).trans rfl; have hcz25_2 : w22.cell? ⟨gb385, 2, none⟩ = some (.int .i64 a2_2) := (blk_cell BK385.out 2).trans rfl; have hcz25_3 : w22.cell? ⟨gb385, 3, none⟩ = some (.int .i64 a2_3) := (blk_cell BK385.out 3).trans rfl; have hfz25_0 := blk_frozen BK385.out 0; have hfz25_1 := blk_frozen BK385.out 1; have hfz25_2 := blk_frozen BK385.out 2; have hfz25_3 := blk_frozen BK385.out 3) | ((with_reducible refine gate_callee (f := 39) rfl ?_); refine goesL_ (some 33) rfl rfl Try.func39 (by kernel_rfl) rfl #[.agg #[.int .i64 a2_0, .int .i64 a2_1, .int .i64 a2_2, .int .i64 a2_3], .agg #[.int .i64 ((rd_T25 l3 x25_1).f0), .int .i64 ((rd_T25 l3 x25_1).f1)]] rfl (by (try simp only [List.map_toArray, List.map_cons, List.map_nil]); first | done | rfl | (simp only [List.length_drop, List.length_take]; rfl)) ?_; (with_reducible refine (screen_inside.calls a2_0 a2_1 a2_2 a2_3 ((rd_T25 l3 x25_1).f0) ((rd_T25 l3 x25_1).f1) true _ A17.out).mono ?_); rintro e w26 ⟨rfl, hb⟩; refine ⟨_, rfl, ?_⟩; have n0_ := am (blk_below (g := gb385) (o := .cells #[.int .i64 a2_0, .int .i64 a2_1, .int .i64 a2_2, .int .i64 a2_3] 27 (0, 0)) (by (with_reducible repeat first|refine bN ?_ _|refine bD ?_|refine bA ?_ _);refine blk_far ?_ NB385_388.out _; (with_reducible repeat first|refine bN ?_ _|refine bD ?_|refine bA ?_ _);refine blk_far ?_ NB385_388.out _; (with_reducible repeat first|refine bN ?_ _|refine bD ?_|refine bA ?_ _);exact BK385.out) hb); have n1_ := am (blk_below (g := gb388) (o := .cells #[.int .i64 ((rd_T25 l3 x25_1).f0), .int .i64 ((rd_T25 l3 x25_1).f1)] 25 (0, 0)) (by (with_reducible repeat first|refine bN ?_ _|refine bD ?_|refine bA ?_ _);refine blk_put (cs := #[.int .i64 ((rd_T25 l3 x25_1).f0), .int .i64 0]) ?_ 1 _ rfl; (with_reducible repeat first|refine bN ?_ _|refine bD ?_|refine bA ?_ _);refine blk_put (cs := #[.int .i64 0, .int .i64 0]) ?_ 0 _ rfl; (with_reducible repeat first|refine bN ?_ _|refine bD ?_|refine bA ?_ _);exact BK388.out) hb); have n2_ := am (below_step (by repeat first|(with_reducible first|exact HB.out|apply wA|apply wN|apply wD|refine wS ?_ GE385.out|refine wS ?_ GE388.out)|exact HB.out) hb); clear BK385; clear BK388; clear HB; have BK385 := n0_; have BK388 := n1_; have HB := n2_; clear n0_ n1_ n2_; (try clear hb); (try clear hb2); (try clear hk); (try clear hi); have hcz27_0 : w26.cell? ⟨gb388, 0, none⟩ = some (.int .i64 ((rd_T25 l3 x25_1).f0)) := (blk_cell BK388.out 0).trans rfl; have hcz27_1 : w26.cell? ⟨gb388, 1, none⟩ = some (.int .i64 ((rd_T25 l3 x25_1).f1)) := (blk_cell BK388.out 1).trans rfl; have hfz27_0 := blk_frozen BK388.out 0; have hfz27_1 := blk_frozen BK388.out 1) | ((with_reducible refine gate_callee (f := 40) rfl ?_); refine goesL_ (some 40) rfl rfl Try.func40 (by kernel_rfl) rfl #[.slice A0 l0.length c0, .slice A1 l1.length c1, .agg #[.int .i64 ((rd_T25 l3 x25_1).f0), .int .i64 ((rd_T25 l3 x25_1).f1)]] rfl (by (try simp only [List.map_toArray, List.map_cons, List.map_nil]); first | done | rfl | (simp only [List.length_drop, List.length_take]; rfl)) ?_; (with_reducible refine (screen_hidden.calls _ _ l0 _ _ l1 ((rd_T25 l3 x25_1).f0) ((rd_T25 l3 x25_1).f1) true _ ?side1 ?side2 ?side3 ?side4 A19.out).mono ?_); (case side1 => repeat (first | exact (Kd.C_below HR0.out HB.out) | (with_reducible refine Kd.C_alloc ?_ _) | (with_reducible refine Kd.C_drewN ?_ _) | (with_reducible refine Kd.C_drew ?_))); (case side2 => exact HC0.out); (case side3 => repeat (first | exact (Kd.C_below HR1.out HB.out) | (with_reducible refine Kd.C_alloc ?_ _) | (with_reducible refine Kd.C_drewN ?_ _) | (with_reducible refine Kd.C_drew ?_))); (case side4 => exact HC1.out); rintro e w28 ⟨rfl, hb⟩; refine ⟨_, rfl, ?_⟩; have n0_ := am (blk_below (g := gb385) (o := .cells #[.int .i64 a2_0, .int .i64 a2_1, .int .i64 a2_2, .int .i64 a2_3] 27 (0, 0)) (by (with_reducible repeat first|refine bN ?_ _|refine bD ?_|refine bA ?_ _);exact BK385.out) hb); have n1_ := am (blk_below (g := gb388) (o := .cells #[.int .i64 ((rd_T25 l3 x25_1).f0), .int .i64 ((rd_T25 l3 x25_1).f1)] 25 (0, 0)) (by (with_reducible repeat first|refine bN ?_ _|refine bD ?_|refine bA ?_ _);exact BK388.out) hb); have n2_ := am (below_step (by repeat first|(with_reducible first|exact HB.out|apply wA|apply wN|apply wD|refine wS ?_ GE385.out|refine wS ?_ GE388.out)|exact HB.out) hb); clear BK385; clear BK388; clear HB; have BK385 := n0_; have BK388 := n1_; have HB := n2_; clear n0_ n1_ n2_; (try clear hb); (try clear hb2); (try clear hk); (try clear hi)))
 go_roundg k1
 case measure => have := HK1.out; omega
 case rel => exact ⟨(wrap64 (x25_1 + 1)), (by first | rfl | (simp; done) | (simp [*]; done)), H', ⟨by have := HK1.out; omega⟩, ⟨by (with_reducible repeat first|refine bN ?_ _|refine bD ?_|refine bA ?_ _);exact BK385.out⟩, ⟨by repeat (first | (with_reducible first | exact HB.out | apply below_alloc | apply pw_below_drewN | apply below_drew1 | refine below_set ?_ GE385.out | refine below_set ?_ GE388.out) | exact HB.out)⟩⟩}
 rw [if_neg c21] at H
 have c21b0 : (x25_1 == 0) = false := beq_eq_false_iff_ne.mpr c21
 have c21b1 : (x25_1 != 0) = true := bne_iff_ne.mpr c21
 obtain ⟨ji29, hji29⟩ : ∃ j_ : Int, (wrap64 (x25_1 - 1)) = j_ := ⟨_, rfl⟩
 replace H : (if 0 ≤ (ji29) then (if (ji29) < (l3.length : Int) then ((screen_isStep.f ((rd_T25 l3 (ji29)).f0) ((rd_T25 l3 (ji29)).f1) ((rd_T25 l3 x25_1).f0) ((rd_T25 l3 x25_1).f1)).bind fun t392 => (if t392 = true then ((screen_sees.f l0 ((rd_T25 l3 (ji29)).f0) ((rd_T25 l3 (ji29)).f1) ((rd_T25 l3 x25_1).f0) ((rd_T25 l3 x25_1).f1)).bind fun t394 => (if t394 = true then (screen_CheckWay.l0 k1 l0 l1 l3 l3 (l3.length : Int) (wrap64 (x25_1 + 1)) a2_0 a2_1 a2_2 a2_3) else (some (x25_1, 12)))) else (some (x25_1, 13)))) else (none)) else (none)) = some (r1, r2) := by first | (rw [hji29] at H; exact H) | (simp only [hji29] at H ⊢; exact H)
 (try rw [hji29] at A17)
 (try rw [hji29] at A19)
 have hji29w : (IntKind.i64.wrap (x25_1 - 1)) = ji29 := (i64_w _).trans hji29
 by_cases c30 : 0 ≤ (ji29)
 {
 rw [if_pos c30] at H
 have c30b0 : decide (0 ≤ (ji29)) = true := decide_eq_true c30
 clear c30
 by_cases c31 : (ji29) < (l3.length : Int)
 {
 rw [if_pos c31] at H
 have c31b0 : decide ((ji29) < (l3.length : Int)) = true := decide_eq_true c31
 clear c31
 replace H := Option.bind_eq_some_iff.mp H
 obtain ⟨t392, A320, H⟩ := H
 replace H : (if t392 = true then ((screen_sees.f l0 ((rd_T25 l3 (ji29)).f0) ((rd_T25 l3 (ji29)).f1) ((rd_T25 l3 x25_1).f0) ((rd_T25 l3 x25_1).f1)).bind fun t394 => (if t394 = true then (screen_CheckWay.l0 k1 l0 l1 l3 l3 (l3.length : Int) (wrap64 (x25_1 + 1)) a2_0 a2_1 a2_2 a2_3) else (some (x25_1, 12)))) else (some (x25_1, 13))) = some (r1, r2) := H
 have A32 := am A320
 clear A320
 by_cases c33 : t392 = true
 {
 subst c33
 have H1 : ((screen_sees.f l0 ((rd_T25 l3 (ji29)).f0) ((rd_T25 l3 (ji29)).f1) ((rd_T25 l3 x25_1).f0) ((rd_T25 l3 x25_1).f1)).bind fun t394 => (if t394 = true then (screen_CheckWay.l0 k1 l0 l1 l3 l3 (l3.length : Int) (wrap64 (x25_1 + 1)) a2_0 a2_1 a2_2 a2_3) else (some (x25_1, 12)))) = some (r1, r2) := by rw [if_pos rfl] at H; exact H
 clear H
 have H := H1
 clear H1
 replace H := Option.bind_eq_some_iff.mp H
 obtain ⟨t394, A340, H⟩ := H
 replace H : (if t394 = true then (screen_CheckWay.l0 k1 l0 l1 l3 l3 (l3.length : Int) (wrap64 (x25_1 + 1)) a2_0 a2_1 a2_2 a2_3) else (some (x25_1, 12))) = some (r1, r2) := H
 have A34 := am A340
 clear A340
 by_cases c35 : t394 = true
 {
 subst c35
 have H1 : (screen_CheckWay.l0 k1 l0 l1 l3 l3 (l3.length : Int) (wrap64 (x25_1 + 1)) a2_0 a2_1 a2_2 a2_3) = some (r1, r2) := by rw [if_pos rfl] at H; exact H
 clear H
 have H := H1
 clear H1
 have H' := am H
 clear H
 have p387 : 0 ≤ (x25_1 : Int) := of_decide_eq_true (by first | (with_reducible assumption) | assumption)
 have q387 : x25_1 < (l3.length : Int) := of_decide_eq_true (by first | (with_reducible assumption) | assumption)
 obtain ⟨ad387, e387, hx387_0, hx387_1⟩ := at_T25 HR3.out x25_1 p387 q387
 cases e387
 replace hx387_0 := (HB.out.cell (World.block_lt_of_cell? w _ hx387_0)).trans hx387_0
 replace hx387_1 := (HB.out.cell (World.block_lt_of_cell? w _ hx387_1)).trans hx387_1
 replace p387 := eq_true p387
 replace q387 := eq_true q387
 try go_wp2_with (first | ((with_reducible refine gate_dst (N := 12) rfl ?_); refine box_event ?hg (N := 12) ?hd (cs := #[.int .i64 0, .int .i64 0]) (t := 25) ?hr ?_; (case hd => rfl); (case hg => rfl); (case hr => first | (go_simp; done) | (go_simp; rfl)); intro gb388 hg w36 hbox hb; have n0_ := am (blk_below (g := gb385) (o := .cells #[.int .i64 a2_0, .int .i64 a2_1, .int .i64 a2_2, .int .i64 a2_3] 27 (0, 0)) (by (with_reducible repeat first|refine bN ?_ _|refine bD ?_|refine bA ?_ _);exact BK385.out) hb); have n1_ := am (below_step (by repeat first|(with_reducible first|exact HB.out|apply wA|apply wN|apply wD|refine wS ?_ GE385.out)|exact HB.out) hb); have n2_ := am (hbox); have n3_ := am ((by rw [hg]; exact (below_size (by repeat first|(with_reducible first|exact HB.out|apply wA|apply wN|apply wD|refine wS ?_ GE385.out)|exact HB.out)) : w.heap.size ≤ gb388)); have n4_ := am ((by rw [hg]; exact (below_size (by repeat first|(with_reducible first|exact HB.out|apply wA|apply wN|apply wD|refine wS ?_ GE385.out)|exact HB.out)) : w.heap.size ≤ gb388)); have n5_ := am ((by rw [hg]; exact Nat.ne_of_lt (blk_lt (g := gb385) (o := .cells #[.int .i64 a2_0, .int .i64 a2_1, .int .i64 a2_2, .int .i64 a2_3] 27 (0, 0)) (by (with_reducible repeat first|refine bN ?_ _|refine bD ?_|refine bA ?_ _);exact BK385.out)) : gb385 ≠ gb388)); have n6_ := am ((by rw [hg]; exact Nat.ne_of_gt (blk_lt (g := gb385) (o := .cells #[.int .i64 a2_0, .int .i64 a2_1, .int .i64 a2_2, .int .i64 a2_3] 27 (0, 0)) (by (with_reducible repeat first|refine bN ?_ _|refine bD ?_|refine bA ?_ _);exact BK385.out)) : gb388 ≠ gb385)); clear BK385; clear HB; have BK385 := n0_; have HB := n1_; have BK388 := n2_; have GW388 := n3_; have GE388 := n4_; have NB385_388 := n5_; have NB388_385 := n6_; clear n0_ n1_ n2_ n3_ n4_ n5_ n6_; clear hb hbox hg; have hnb37 := NB388_385.out; have hnc37 := NB385_388.out; have hcz38_0 : w36.cell? ⟨gb388, 0, none⟩ = some (.int .i64 0) := (blk_cell BK388.out 0).trans rfl; have hcz38_1 : w36.cell? ⟨gb388, 1, none⟩ = some (.int .i64 0) := (blk_cell BK388.out 1).trans rfl; have hfz38_0 := blk_frozen BK388.out 0; have hfz38_1 := blk_frozen BK388.out 1; have hcz39_0 : w36.cell? ⟨gb385, 0, none⟩ = some (.int .i64 a2_0) := (blk_cell BK385.out 0).trans rfl; have hcz39_1 : w36.cell? ⟨gb385, 1, none⟩ = some (.int .i64 a2_1) := (blk_cell BK385.out 1).trans rfl; have hcz39_2 : w36.cell? ⟨gb385, 2, none⟩ = some (.int .i64 a2_2) := (blk_cell BK385.out 2).trans rfl; have hcz39_3 : w36.cell? ⟨gb385, 3, none⟩ = some (.int .i64 a2_3) := (blk_cell BK385.out 3).trans rfl; have hfz39_0 := blk_frozen BK385.out 0; have hfz39_1 := blk_frozen BK385.out 1; have hfz39_2 := blk_frozen BK385.out 2; have hfz39_3 := blk_frozen BK385.out 3) | ((with_reducible refine gate_callee (f := 39) rfl ?_); refine goesL_ (some 33) rfl rfl Try.func39 (by kernel_rfl) rfl #[.agg #[.int .i64 a2_0, .int .i64 a2_1, .int .i64 a2_2, .int .i64 a2_3], .agg #[.int .i64 ((rd_T25 l3 x25_1).f0), .int .i64 ((rd_T25 l3 x25_1).f1)]] rfl (by (try simp only [List.map_toArray, List.map_cons, List.map_nil]); first | done | rfl | (simp only [List.length_drop, List.length_take]; rfl)) ?_; (with_reducible refine (screen_inside.calls a2_0 a2_1 a2_2 a2_3 ((rd_T25 l3 x25_1).f0) ((rd_T25 l3 x25_1).f1) true _ A17.out).mono ?_); rintro e w40 ⟨rfl, hb⟩; refine ⟨_, rfl, ?_⟩; have n0_ := am (blk_below (g := gb385) (o := .cells #[.int .i64 a2_0, .int .i64 a2_1, .int .i64 a2_2, .int .i64 a2_3] 27 (0, 0)) (by (with_reducible repeat first|refine bN ?_ _|refine bD ?_|refine bA ?_ _);refine blk_far ?_ NB385_388.out _; (with_reducible repeat first|refine bN ?_ _|refine bD ?_|refine bA ?_ _);refine blk_far ?_ NB385_388.out _; (with_reducible repeat first|refine bN ?_ _|refine bD ?_|refine bA ?_ _);exact BK385.out) hb); have n1_ := am (blk_below (g := gb388) (o := .cells #[.int .i64 ((rd_T25 l3 x25_1).f0), .int .i64 ((rd_T25 l3 x25_1).f1)] 25 (0, 0)) (by (with_reducible repeat first|refine bN ?_ _|refine bD ?_|refine bA ?_ _);refine blk_put (cs := #[.int .i64 ((rd_T25 l3 x25_1).f0), .int .i64 0]) ?_ 1 _ rfl; (with_reducible repeat first|refine bN ?_ _|refine bD ?_|refine bA ?_ _);refine blk_put (cs := #[.int .i64 0, .int .i64 0]) ?_ 0 _ rfl; (with_reducible repeat first|refine bN ?_ _|refine bD ?_|refine bA ?_ _);exact BK388.out) hb); have n2_ := am (below_step (by repeat first|(with_reducible first|exact HB.out|apply wA|apply wN|apply wD|refine wS ?_ GE385.out|refine wS ?_ GE388.out)|exact HB.out) hb); clear BK385; clear BK388; clear HB; have BK385 := n0_; have BK388 := n1_; have HB := n2_; clear n0_ n1_ n2_; (try clear hb); (try clear hb2); (try clear hk); (try clear hi); have hcz41_0 : w40.cell? ⟨gb388, 0, none⟩ = some (.int .i64 ((rd_T25 l3 x25_1).f0)) := (blk_cell BK388.out 0).trans rfl; have hcz41_1 : w40.cell? ⟨gb388, 1, none⟩ = some (.int .i64 ((rd_T25 l3 x25_1).f1)) := (blk_cell BK388.out 1).trans rfl; have hfz41_0 := blk_frozen BK388.out 0; have hfz41_1 := blk_frozen BK388.out 1) | ((with_reducible refine gate_callee (f := 40) rfl ?_); refine goesL_ (some 40) rfl rfl Try.func40 (by kernel_rfl) rfl #[.slice A0 l0.length c0, .slice A1 l1.length c1, .agg #[.int .i64 ((rd_T25 l3 x25_1).f0), .int .i64 ((rd_T25 l3 x25_1).f1)]] rfl (by (try simp only [List.map_toArray, List.map_cons, List.map_nil]); first | done | rfl | (simp only [List.length_drop, List.length_take]; rfl)) ?_; (with_reducible refine (screen_hidden.calls _ _ l0 _ _ l1 ((rd_T25 l3 x25_1).f0) ((rd_T25 l3 x25_1).f1) true _ ?side1 ?side2 ?side3 ?side4 A19.out).mono ?_); (case side1 => repeat (first | exact (Kd.C_below HR0.out HB.out) | (with_reducible refine Kd.C_alloc ?_ _) | (with_reducible refine Kd.C_drewN ?_ _) | (with_reducible refine Kd.C_drew ?_))); (case side2 => exact HC0.out); (case side3 => repeat (first | exact (Kd.C_below HR1.out HB.out) | (with_reducible refine Kd.C_alloc ?_ _) | (with_reducible refine Kd.C_drewN ?_ _) | (with_reducible refine Kd.C_drew ?_))); (case side4 => exact HC1.out); rintro e w42 ⟨rfl, hb⟩; refine ⟨_, rfl, ?_⟩; have n0_ := am (blk_below (g := gb385) (o := .cells #[.int .i64 a2_0, .int .i64 a2_1, .int .i64 a2_2, .int .i64 a2_3] 27 (0, 0)) (by (with_reducible repeat first|refine bN ?_ _|refine bD ?_|refine bA ?_ _);exact BK385.out) hb); have n1_ := am (blk_below (g := gb388) (o := .cells #[.int .i64 ((rd_T25 l3 x25_1).f0), .int .i64 ((rd_T25 l3 x25_1).f1)] 25 (0, 0)) (by (with_reducible repeat first|refine bN ?_ _|refine bD ?_|refine bA ?_ _);exact BK388.out) hb); have n2_ := am (below_step (by repeat first|(with_reducible first|exact HB.out|apply wA|apply wN|apply wD|refine wS ?_ GE385.out|refine wS ?_ GE388.out)|exact HB.out) hb); clear BK385; clear BK388; clear HB; have BK385 := n0_; have BK388 := n1_; have HB := n2_; clear n0_ n1_ n2_; (try clear hb); (try clear hb2); (try clear hk); (try clear hi)))
 have n0_ := am (blk_drew BK385.out)
 have n1_ := am (blk_drew BK388.out)
 have n2_ := am (below_drew1 HB.out)
 clear BK385
 clear BK388
 clear HB
 have BK385 := n0_
 have BK388 := n1_
 have HB := n2_
 clear n0_ n1_ n2_
 have p391 : 0 ≤ ((ji29) : Int) := of_decide_eq_true (by first | (with_reducible assumption) | assumption)
 have q391 : (ji29) < (l3.length : Int) := of_decide_eq_true (by first | (with_reducible assumption) | assumption)
 obtain ⟨ad391, e391, hx391_0, hx391_1⟩ := at_T25 HR3.out (ji29) p391 q391
 have hw391_1 := hx391_1
 have hw391_0 := hx391_0
 obtain rfl : ad387 = ad391 := (by injection e391)
 replace hx391_0 := (HB.out.cell (World.block_lt_of_cell? w _ hx391_0)).trans hx391_0
 replace hx391_1 := (HB.out.cell (World.block_lt_of_cell? w _ hx391_1)).trans hx391_1
 replace p391 := eq_true p391
 replace q391 := eq_true q391
 refine start_ (n := 9) (S := fun w' => w'.cell? ⟨gb388, 0, none⟩ = some (.int .i64 ((rd_T25 l3 x25_1).f0)) ∧ w'.cell? ⟨gb388, 1, none⟩ = some (.int .i64 ((rd_T25 l3 x25_1).f1)) ∧ w'.cell? (ad387.add (((ji29)).toNat * 2)) = some (.int .i64 ((rd_T25 l3 (ji29)).f0)) ∧ w'.cell? ⟨(ad387.add (((ji29)).toNat * 2)).block, (ad387.add (((ji29)).toNat * 2)).off + 1, none⟩ = some (.int .i64 ((rd_T25 l3 (ji29)).f1))) (ds := []) #[F,F,F,F,F,F,F,F,F] (by kernel_rfl) rfl rfl ⟨(blk_cell BK388.out 0).trans rfl, (blk_cell BK388.out 1).trans rfl, ((HB.out.cell (World.block_lt_of_cell? w _ hw391_0)).trans hw391_0), ((HB.out.cell (World.block_lt_of_cell? w _ hw391_1)).trans hw391_1)⟩ (fun hHeld => ?_); refine with_tabW screen_CheckWay.tab14 screen_CheckWay.bits14 (fun HT_ HW_ => ?_)
 generalize w42.drew = w43 at BK385 BK388 HB hx391_0 hx391_1 hHeld ⊢
 refine pure_ (i := 0) (N := some 47) (v := ?_) (a' := ?_) #[T,F,F,F,F,F,F,F,F] rfl rfl (any_of HT_.out (by kernel_rfl)) (fun _ _ _ h => h) (Or.inl ⟨by rfl, ?_⟩) ?_ ?_
 rotate_left;{
 intro w'
 go_simp
 with_reducible rfl}
 rotate_left;{
 simp only [ap,sA,s0,s1,i64_w,i32_w]
 rfl}
 refine pure_ (i := 1) (N := some 48) (v := ?_) (a' := ?_) #[T,T,F,F,F,F,F,F,F] rfl rfl (any_of HT_.out (by kernel_rfl)) (fun _ _ _ h => h) (Or.inl ⟨by rfl, ?_⟩) ?_ ?_
 rotate_left;{
 intro w'
 go_simp
 with_reducible rfl}
 rotate_left;{
 simp only [ap,sA,s0,s1,i64_w,i32_w]
 rfl}
 refine pure_ (i := 2) (N := some 49) (v := ?_) (a' := ?_) #[T,T,T,F,F,F,F,F,F] rfl rfl (any_of HT_.out (by kernel_rfl)) (fun _ _ _ h => h) (Or.inl ⟨by rfl, ?_⟩) ?_ ?_
 rotate_left;{
 intro w'
 go_simp
 with_reducible rfl}
 rotate_left;{
 simp only [ap,sA,s0,s1,i64_w,i32_w]
 rfl}
 refine pure_ (i := 3) (N := some 50) (v := ?_) (a' := ?_) #[T,T,T,T,F,F,F,F,F] rfl rfl (any_of HT_.out (by kernel_rfl)) (fun _ _ _ h => h) (Or.inl ⟨by rfl, ?_⟩) ?_ ?_
 rotate_left;{
 intro w'
 go_simp
 with_reducible rfl}
 rotate_left;{
 simp only [ap,sA,s0,s1,i64_w,i32_w]
 rfl}
 refine take_ (i := 4) (N := some 51) (v := ?_) (a' := ?_) #[T,T,T,T,T,F,F,F,F] rfl rfl (take_ofW HT_.out HW_.out (by kernel_rfl)) (fun _ _ _ h => h) (Or.inl ⟨by rfl, ?_⟩) hHeld ?_ ?_
 rotate_left;{
 rintro w' ⟨s0, s1, s2, s3⟩
 go_simp
 with_reducible rfl}
 rotate_left;{
 simp only [ap,sA,s0,s1,i64_w,i32_w]
 rfl}
 refine take_ (i := 5) (N := some 52) (v := ?_) (a' := ?_) #[T,T,T,T,T,T,F,F,F] rfl rfl (take_ofW HT_.out HW_.out (by kernel_rfl)) (fun _ _ _ h => h) (Or.inl ⟨by rfl, ?_⟩) hHeld ?_ ?_
 rotate_left;{
 rintro w' ⟨s0, s1, s2, s3⟩
 go_simp
 with_reducible rfl}
 rotate_left;{
 simp only [ap,sA,s0,s1,i64_w,i32_w]
 rfl}
 refine one_ (i := 6) (N := some 53) #[T,T,T,T,T,T,T,F,F] rfl rfl (one_of HT_.out (by kernel_rfl)) (by decide) (fun K hK => ?_)
 refine goes_ Try.func41 (by kernel_rfl) rfl #[.agg #[.int .i64 ((rd_T25 l3 (ji29)).f0), .int .i64 ((rd_T25 l3 (ji29)).f1)], .agg #[.int .i64 ((rd_T25 l3 x25_1).f0), .int .i64 ((rd_T25 l3 x25_1).f1)]] (by rfl) rfl rfl (by (try simp only [List.map_toArray, List.map_cons, List.map_nil]); first | done | (simp only [hji29]; rfl) | rfl | (simp only [List.length_drop, List.length_take]; rfl)) ?_
 with_reducible refine (screen_isStep.calls ((rd_T25 l3 (ji29)).f0) ((rd_T25 l3 (ji29)).f1) ((rd_T25 l3 x25_1).f0) ((rd_T25 l3 x25_1).f1) true _ A32.out).mono ?_
 rintro e w44 ⟨rfl, hb⟩
 refine ⟨_, rfl, ?_⟩
 have n0_ := am (blk_below (g := gb385) (o := .cells #[.int .i64 a2_0, .int .i64 a2_1, .int .i64 a2_2, .int .i64 a2_3] 27 (0, 0)) (by (with_reducible repeat first|refine bN ?_ _|refine bD ?_|refine bA ?_ _);exact BK385.out) hb)
 have n1_ := am (blk_below (g := gb388) (o := .cells #[.int .i64 ((rd_T25 l3 x25_1).f0), .int .i64 ((rd_T25 l3 x25_1).f1)] 25 (0, 0)) (by (with_reducible repeat first|refine bN ?_ _|refine bD ?_|refine bA ?_ _);exact BK388.out) hb)
 have n2_ := am (below_step (by repeat first|(with_reducible first|exact HB.out|apply wA|apply wN|apply wD|refine wS ?_ GE385.out|refine wS ?_ GE388.out)|exact HB.out) hb)
 clear BK385
 clear BK388
 clear HB
 have BK385 := n0_
 have BK388 := n1_
 have HB := n2_
 clear n0_ n1_ n2_
 (try clear hb)
 (try clear hb2)
 (try clear hk)
 (try clear hi)
 refine hK.out _ _ ⟨(blk_cell BK388.out 0).trans rfl, (blk_cell BK388.out 1).trans rfl, ((HB.out.cell (World.block_lt_of_cell? w _ hw391_0)).trans hw391_0), ((HB.out.cell (World.block_lt_of_cell? w _ hw391_1)).trans hw391_1)⟩ (fun hHeld => ?_)
 clear hK K
 refine norm_ (a' := ?_) ?_ ?_
 rotate_left;{
 show Act.put _ (some 53) _ = _
 simp only [ap,sA,s0,s1,i64_w,i32_w]
 rfl}
 refine pure_ (i := 7) (N := some 54) (v := ?_) (a' := ?_) #[T,T,T,T,T,T,T,T,F] rfl rfl (any_of HT_.out (by kernel_rfl)) (fun _ _ _ h => h) (Or.inl ⟨by rfl, ?_⟩) ?_ ?_
 rotate_left;{
 intro w'
 go_simp
 with_reducible rfl}
 rotate_left;{
 simp only [ap,sA,s0,s1,i64_w,i32_w]
 rfl}
 refine pure_ (i := 8) (N := some 46) (v := ?_) (a' := ?_) #[T,T,T,T,T,T,T,T,T] rfl rfl (any_of HT_.out (by kernel_rfl)) (fun _ _ _ h => h) (Or.inl ⟨by rfl, ?_⟩) ?_ ?_
 rotate_left;{
 intro w'
 go_simp
 with_reducible rfl}
 rotate_left;{
 simp only [ap,sA,s0,s1,i64_w,i32_w]
 rfl}
 refine done_ (done_of HT_.out (by kernel_rfl)) ?_
 try go_wp2
 have n0_ := am (blk_drew BK385.out)
 have n1_ := am (blk_drew BK388.out)
 have n2_ := am (below_drew1 HB.out)
 clear BK385
 clear BK388
 clear HB
 have BK385 := n0_
 have BK388 := n1_
 have HB := n2_
 clear n0_ n1_ n2_
 have p393 : 0 ≤ ((ji29) : Int) := of_decide_eq_true (by first | (with_reducible assumption) | assumption)
 have q393 : (ji29) < (l3.length : Int) := of_decide_eq_true (by first | (with_reducible assumption) | assumption)
 obtain ⟨ad393, e393, hx393_0, hx393_1⟩ := at_T25 HR3.out (ji29) p393 q393
 have hw393_1 := hx393_1
 have hw393_0 := hx393_0
 obtain rfl : ad387 = ad393 := (by injection e393)
 replace hx393_0 := (HB.out.cell (World.block_lt_of_cell? w _ hx393_0)).trans hx393_0
 replace hx393_1 := (HB.out.cell (World.block_lt_of_cell? w _ hx393_1)).trans hx393_1
 replace p393 := eq_true p393
 replace q393 := eq_true q393
 refine start_ (n := 10) (S := fun w' => w'.cell? ⟨gb388, 0, none⟩ = some (.int .i64 ((rd_T25 l3 x25_1).f0)) ∧ w'.cell? ⟨gb388, 1, none⟩ = some (.int .i64 ((rd_T25 l3 x25_1).f1)) ∧ w'.cell? (ad387.add (((ji29)).toNat * 2)) = some (.int .i64 ((rd_T25 l3 (ji29)).f0)) ∧ w'.cell? ⟨(ad387.add (((ji29)).toNat * 2)).block, (ad387.add (((ji29)).toNat * 2)).off + 1, none⟩ = some (.int .i64 ((rd_T25 l3 (ji29)).f1))) (ds := []) #[F,F,F,F,F,F,F,F,F,F] (by kernel_rfl) rfl rfl ⟨(blk_cell BK388.out 0).trans rfl, (blk_cell BK388.out 1).trans rfl, ((HB.out.cell (World.block_lt_of_cell? w _ hw393_0)).trans hw393_0), ((HB.out.cell (World.block_lt_of_cell? w _ hw393_1)).trans hw393_1)⟩ (fun hHeld => ?_); refine with_tabW screen_CheckWay.tab16 screen_CheckWay.bits16 (fun HT_ HW_ => ?_)
 generalize w44.drew = w45 at BK385 BK388 HB hx393_0 hx393_1 hHeld ⊢
 refine pure_ (i := 0) (N := some 57) (v := ?_) (a' := ?_) #[T,F,F,F,F,F,F,F,F,F] rfl rfl (any_of HT_.out (by kernel_rfl)) (fun _ _ _ h => h) (Or.inl ⟨by rfl, ?_⟩) ?_ ?_
 rotate_left;{
 intro w'
 go_simp
 with_reducible rfl}
 rotate_left;{
 simp only [ap,sA,s0,s1,i64_w,i32_w]
 rfl}
 refine pure_ (i := 1) (N := some 58) (v := ?_) (a' := ?_) #[T,T,F,F,F,F,F,F,F,F] rfl rfl (any_of HT_.out (by kernel_rfl)) (fun _ _ _ h => h) (Or.inl ⟨by rfl, ?_⟩) ?_ ?_
 rotate_left;{
 intro w'
 go_simp
 with_reducible rfl}
 rotate_left;{
 simp only [ap,sA,s0,s1,i64_w,i32_w]
 rfl}
 refine pure_ (i := 2) (N := some 59) (v := ?_) (a' := ?_) #[T,T,T,F,F,F,F,F,F,F] rfl rfl (any_of HT_.out (by kernel_rfl)) (fun _ _ _ h => h) (Or.inl ⟨by rfl, ?_⟩) ?_ ?_
 rotate_left;{
 intro w'
 go_simp
 with_reducible rfl}
 rotate_left;{
 simp only [ap,sA,s0,s1,i64_w,i32_w]
 rfl}
 refine pure_ (i := 3) (N := some 60) (v := ?_) (a' := ?_) #[T,T,T,T,F,F,F,F,F,F] rfl rfl (any_of HT_.out (by kernel_rfl)) (fun _ _ _ h => h) (Or.inl ⟨by rfl, ?_⟩) ?_ ?_
 rotate_left;{
 intro w'
 go_simp
 with_reducible rfl}
 rotate_left;{
 simp only [ap,sA,s0,s1,i64_w,i32_w]
 rfl}
 refine pure_ (i := 4) (N := some 61) (v := ?_) (a' := ?_) #[T,T,T,T,T,F,F,F,F,F] rfl rfl (any_of HT_.out (by kernel_rfl)) (fun _ _ _ h => h) (Or.inl ⟨by rfl, ?_⟩) ?_ ?_
 rotate_left;{
 intro w'
 go_simp
 with_reducible rfl}
 rotate_left;{
 simp only [ap,sA,s0,s1,i64_w,i32_w]
 rfl}
 refine take_ (i := 5) (N := some 62) (v := ?_) (a' := ?_) #[T,T,T,T,T,T,F,F,F,F] rfl rfl (take_ofW HT_.out HW_.out (by kernel_rfl)) (fun _ _ _ h => h) (Or.inl ⟨by rfl, ?_⟩) hHeld ?_ ?_
 rotate_left;{
 rintro w' ⟨s0, s1, s2, s3⟩
 go_simp
 with_reducible rfl}
 rotate_left;{
 simp only [ap,sA,s0,s1,i64_w,i32_w]
 rfl}
 refine take_ (i := 6) (N := some 63) (v := ?_) (a' := ?_) #[T,T,T,T,T,T,T,F,F,F] rfl rfl (take_ofW HT_.out HW_.out (by kernel_rfl)) (fun _ _ _ h => h) (Or.inl ⟨by rfl, ?_⟩) hHeld ?_ ?_
 rotate_left;{
 rintro w' ⟨s0, s1, s2, s3⟩
 go_simp
 with_reducible rfl}
 rotate_left;{
 simp only [ap,sA,s0,s1,i64_w,i32_w]
 rfl}
 refine one_ (i := 7) (N := some 64) #[T,T,T,T,T,T,T,T,F,F] rfl rfl (one_of HT_.out (by kernel_rfl)) (by decide) (fun K hK => ?_)
 refine goes_ Try.func38 (by kernel_rfl) rfl #[.slice A0 l0.length c0, .agg #[.int .i64 ((rd_T25 l3 (ji29)).f0), .int .i64 ((rd_T25 l3 (ji29)).f1)], .agg #[.int .i64 ((rd_T25 l3 x25_1).f0), .int .i64 ((rd_T25 l3 x25_1).f1)]] (by rfl) rfl rfl (by (try simp only [List.map_toArray, List.map_cons, List.map_nil]); first | done | (simp only [hji29]; rfl) | rfl | (simp only [List.length_drop, List.length_take]; rfl)) ?_
 with_reducible refine (screen_sees.calls _ _ l0 ((rd_T25 l3 (ji29)).f0) ((rd_T25 l3 (ji29)).f1) ((rd_T25 l3 x25_1).f0) ((rd_T25 l3 x25_1).f1) true _ ?side1 ?side2 A34.out).mono ?_
 (case side1 => repeat (first | exact (Kd.C_below HR0.out HB.out) | (with_reducible refine Kd.C_alloc ?_ _) | (with_reducible refine Kd.C_drewN ?_ _) | (with_reducible refine Kd.C_drew ?_)))
 (case side2 => exact HC0.out)
 rintro e w46 ⟨rfl, hb⟩
 refine ⟨_, rfl, ?_⟩
 have n0_ := am (blk_below (g := gb385) (o := .cells #[.int .i64 a2_0, .int .i64 a2_1, .int .i64 a2_2, .int .i64 a2_3] 27 (0, 0)) (by (with_reducible repeat first|refine bN ?_ _|refine bD ?_|refine bA ?_ _);exact BK385.out) hb)
 have n1_ := am (blk_below (g := gb388) (o := .cells #[.int .i64 ((rd_T25 l3 x25_1).f0), .int .i64 ((rd_T25 l3 x25_1).f1)] 25 (0, 0)) (by (with_reducible repeat first|refine bN ?_ _|refine bD ?_|refine bA ?_ _);exact BK388.out) hb)
 have n2_ := am (below_step (by repeat first|(with_reducible first|exact HB.out|apply wA|apply wN|apply wD|refine wS ?_ GE385.out|refine wS ?_ GE388.out)|exact HB.out) hb)
 clear BK385
 clear BK388
 clear HB
 have BK385 := n0_
 have BK388 := n1_
 have HB := n2_
 clear n0_ n1_ n2_
 (try clear hb)
 (try clear hb2)
 (try clear hk)
 (try clear hi)
 refine hK.out _ _ ⟨(blk_cell BK388.out 0).trans rfl, (blk_cell BK388.out 1).trans rfl, ((HB.out.cell (World.block_lt_of_cell? w _ hw393_0)).trans hw393_0), ((HB.out.cell (World.block_lt_of_cell? w _ hw393_1)).trans hw393_1)⟩ (fun hHeld => ?_)
 clear hK K
 refine norm_ (a' := ?_) ?_ ?_
 rotate_left;{
 show Act.put _ (some 64) _ = _
 simp only [ap,sA,s0,s1,i64_w,i32_w]
 rfl}
 refine pure_ (i := 8) (N := some 65) (v := ?_) (a' := ?_) #[T,T,T,T,T,T,T,T,T,F] rfl rfl (any_of HT_.out (by kernel_rfl)) (fun _ _ _ h => h) (Or.inl ⟨by rfl, ?_⟩) ?_ ?_
 rotate_left;{
 intro w'
 go_simp
 with_reducible rfl}
 rotate_left;{
 simp only [ap,sA,s0,s1,i64_w,i32_w]
 rfl}
 refine pure_ (i := 9) (N := some 56) (v := ?_) (a' := ?_) #[T,T,T,T,T,T,T,T,T,T] rfl rfl (any_of HT_.out (by kernel_rfl)) (fun _ _ _ h => h) (Or.inl ⟨by rfl, ?_⟩) ?_ ?_
 rotate_left;{
 intro w'
 go_simp
 with_reducible rfl}
 rotate_left;{
 simp only [ap,sA,s0,s1,i64_w,i32_w]
 rfl}
 refine done_ (done_of HT_.out (by kernel_rfl)) ?_
 try go_wp2
 go_roundg k1
 case measure => have := HK1.out; omega
 case rel => exact ⟨(wrap64 (x25_1 + 1)), (by first | rfl | (simp; done) | (simp [*]; done)), H', ⟨by have := HK1.out; omega⟩, ⟨by (with_reducible repeat first|refine bN ?_ _|refine bD ?_|refine bA ?_ _);exact BK385.out⟩, ⟨by repeat (first | (with_reducible first | exact HB.out | apply below_alloc | apply pw_below_drewN | apply below_drew1 | refine below_set ?_ GE385.out | refine below_set ?_ GE388.out) | exact HB.out)⟩⟩}
 replace c35 := Bool.eq_false_iff.mpr c35
 subst c35
 have H1 : (some (x25_1, 12)) = some (r1, r2) := by rw [if_neg (show ¬ (false = true) by decide)] at H; exact H
 clear H
 have H := H1
 clear H1
 simp only [Option.some.injEq, Prod.mk.injEq] at H
 obtain ⟨rfl, rfl⟩ := H
 have p387 : 0 ≤ (x25_1 : Int) := of_decide_eq_true (by first | (with_reducible assumption) | assumption)
 have q387 : x25_1 < (l3.length : Int) := of_decide_eq_true (by first | (with_reducible assumption) | assumption)
 obtain ⟨ad387, e387, hx387_0, hx387_1⟩ := at_T25 HR3.out x25_1 p387 q387
 cases e387
 replace hx387_0 := (HB.out.cell (World.block_lt_of_cell? w _ hx387_0)).trans hx387_0
 replace hx387_1 := (HB.out.cell (World.block_lt_of_cell? w _ hx387_1)).trans hx387_1
 replace p387 := eq_true p387
 replace q387 := eq_true q387
 try go_wp2_with (first | ((with_reducible refine gate_dst (N := 12) rfl ?_); refine box_event ?hg (N := 12) ?hd (cs := #[.int .i64 0, .int .i64 0]) (t := 25) ?hr ?_; (case hd => rfl); (case hg => rfl); (case hr => first | (go_simp; done) | (go_simp; rfl)); intro gb388 hg w47 hbox hb; have n0_ := am (blk_below (g := gb385) (o := .cells #[.int .i64 a2_0, .int .i64 a2_1, .int .i64 a2_2, .int .i64 a2_3] 27 (0, 0)) (by (with_reducible repeat first|refine bN ?_ _|refine bD ?_|refine bA ?_ _);exact BK385.out) hb); have n1_ := am (below_step (by repeat first|(with_reducible first|exact HB.out|apply wA|apply wN|apply wD|refine wS ?_ GE385.out)|exact HB.out) hb); have n2_ := am (hbox); have n3_ := am ((by rw [hg]; exact (below_size (by repeat first|(with_reducible first|exact HB.out|apply wA|apply wN|apply wD|refine wS ?_ GE385.out)|exact HB.out)) : w.heap.size ≤ gb388)); have n4_ := am ((by rw [hg]; exact (below_size (by repeat first|(with_reducible first|exact HB.out|apply wA|apply wN|apply wD|refine wS ?_ GE385.out)|exact HB.out)) : w.heap.size ≤ gb388)); have n5_ := am ((by rw [hg]; exact Nat.ne_of_lt (blk_lt (g := gb385) (o := .cells #[.int .i64 a2_0, .int .i64 a2_1, .int .i64 a2_2, .int .i64 a2_3] 27 (0, 0)) (by (with_reducible repeat first|refine bN ?_ _|refine bD ?_|refine bA ?_ _);exact BK385.out)) : gb385 ≠ gb388)); have n6_ := am ((by rw [hg]; exact Nat.ne_of_gt (blk_lt (g := gb385) (o := .cells #[.int .i64 a2_0, .int .i64 a2_1, .int .i64 a2_2, .int .i64 a2_3] 27 (0, 0)) (by (with_reducible repeat first|refine bN ?_ _|refine bD ?_|refine bA ?_ _);exact BK385.out)) : gb388 ≠ gb385)); clear BK385; clear HB; have BK385 := n0_; have HB := n1_; have BK388 := n2_; have GW388 := n3_; have GE388 := n4_; have NB385_388 := n5_; have NB388_385 := n6_; clear n0_ n1_ n2_ n3_ n4_ n5_ n6_; clear hb hbox hg; have hnb48 := NB388_385.out; have hnc48 := NB385_388.out; have hcz49_0 : w47.cell? ⟨gb388, 0, none⟩ = some (.int .i64 0) := (blk_cell BK388.out 0).trans rfl; have hcz49_1 : w47.cell? ⟨gb388, 1, none⟩ = some (.int .i64 0) := (blk_cell BK388.out 1).trans rfl; have hfz49_0 := blk_frozen BK388.out 0; have hfz49_1 := blk_frozen BK388.out 1; have hcz50_0 : w47.cell? ⟨gb385, 0, none⟩ = some (.int .i64 a2_0) := (blk_cell BK385.out 0).trans rfl; have hcz50_1 : w47.cell? ⟨gb385, 1, none⟩ = some (.int .i64 a2_1) := (blk_cell BK385.out 1).trans rfl; have hcz50_2 : w47.cell? ⟨gb385, 2, none⟩ = some (.int .i64 a2_2) := (blk_cell BK385.out 2).trans rfl; have hcz50_3 : w47.cell? ⟨gb385, 3, none⟩ = some (.int .i64 a2_3) := (blk_cell BK385.out 3).trans rfl; have hfz50_0 := blk_frozen BK385.out 0; have hfz50_1 := blk_frozen BK385.out 1; have hfz50_2 := blk_frozen BK385.out 2; have hfz50_3 := blk_frozen BK385.out 3) | ((with_reducible refine gate_callee (f := 39) rfl ?_); refine goesL_ (some 33) rfl rfl Try.func39 (by kernel_rfl) rfl #[.agg #[.int .i64 a2_0, .int .i64 a2_1, .int .i64 a2_2, .int .i64 a2_3], .agg #[.int .i64 ((rd_T25 l3 x25_1).f0), .int .i64 ((rd_T25 l3 x25_1).f1)]] rfl (by (try simp only [List.map_toArray, List.map_cons, List.map_nil]); first | done | rfl | (simp only [List.length_drop, List.length_take]; rfl)) ?_; (with_reducible refine (screen_inside.calls a2_0 a2_1 a2_2 a2_3 ((rd_T25 l3 x25_1).f0) ((rd_T25 l3 x25_1).f1) true _ A17.out).mono ?_); rintro e w51 ⟨rfl, hb⟩; refine ⟨_, rfl, ?_⟩; have n0_ := am (blk_below (g := gb385) (o := .cells #[.int .i64 a2_0, .int .i64 a2_1, .int .i64 a2_2, .int .i64 a2_3] 27 (0, 0)) (by (with_reducible repeat first|refine bN ?_ _|refine bD ?_|refine bA ?_ _);refine blk_far ?_ NB385_388.out _; (with_reducible repeat first|refine bN ?_ _|refine bD ?_|refine bA ?_ _);refine blk_far ?_ NB385_388.out _; (with_reducible repeat first|refine bN ?_ _|refine bD ?_|refine bA ?_ _);exact BK385.out) hb); have n1_ := am (blk_below (g := gb388) (o := .cells #[.int .i64 ((rd_T25 l3 x25_1).f0), .int .i64 ((rd_T25 l3 x25_1).f1)] 25 (0, 0)) (by (with_reducible repeat first|refine bN ?_ _|refine bD ?_|refine bA ?_ _);refine blk_put (cs := #[.int .i64 ((rd_T25 l3 x25_1).f0), .int .i64 0]) ?_ 1 _ rfl; (with_reducible repeat first|refine bN ?_ _|refine bD ?_|refine bA ?_ _);refine blk_put (cs := #[.int .i64 0, .int .i64 0]) ?_ 0 _ rfl; (with_reducible repeat first|refine bN ?_ _|refine bD ?_|refine bA ?_ _);exact BK388.out) hb); have n2_ := am (below_step (by repeat first|(with_reducible first|exact HB.out|apply wA|apply wN|apply wD|refine wS ?_ GE385.out|refine wS ?_ GE388.out)|exact HB.out) hb); clear BK385; clear BK388; clear HB; have BK385 := n0_; have BK388 := n1_; have HB := n2_; clear n0_ n1_ n2_; (try clear hb); (try clear hb2); (try clear hk); (try clear hi); have hcz52_0 : w51.cell? ⟨gb388, 0, none⟩ = some (.int .i64 ((rd_T25 l3 x25_1).f0)) := (blk_cell BK388.out 0).trans rfl; have hcz52_1 : w51.cell? ⟨gb388, 1, none⟩ = some (.int .i64 ((rd_T25 l3 x25_1).f1)) := (blk_cell BK388.out 1).trans rfl; have hfz52_0 := blk_frozen BK388.out 0; have hfz52_1 := blk_frozen BK388.out 1) | ((with_reducible refine gate_callee (f := 40) rfl ?_); refine goesL_ (some 40) rfl rfl Try.func40 (by kernel_rfl) rfl #[.slice A0 l0.length c0, .slice A1 l1.length c1, .agg #[.int .i64 ((rd_T25 l3 x25_1).f0), .int .i64 ((rd_T25 l3 x25_1).f1)]] rfl (by (try simp only [List.map_toArray, List.map_cons, List.map_nil]); first | done | rfl | (simp only [List.length_drop, List.length_take]; rfl)) ?_; (with_reducible refine (screen_hidden.calls _ _ l0 _ _ l1 ((rd_T25 l3 x25_1).f0) ((rd_T25 l3 x25_1).f1) true _ ?side1 ?side2 ?side3 ?side4 A19.out).mono ?_); (case side1 => repeat (first | exact (Kd.C_below HR0.out HB.out) | (with_reducible refine Kd.C_alloc ?_ _) | (with_reducible refine Kd.C_drewN ?_ _) | (with_reducible refine Kd.C_drew ?_))); (case side2 => exact HC0.out); (case side3 => repeat (first | exact (Kd.C_below HR1.out HB.out) | (with_reducible refine Kd.C_alloc ?_ _) | (with_reducible refine Kd.C_drewN ?_ _) | (with_reducible refine Kd.C_drew ?_))); (case side4 => exact HC1.out); rintro e w53 ⟨rfl, hb⟩; refine ⟨_, rfl, ?_⟩; have n0_ := am (blk_below (g := gb385) (o := .cells #[.int .i64 a2_0, .int .i64 a2_1, .int .i64 a2_2, .int .i64 a2_3] 27 (0, 0)) (by (with_reducible repeat first|refine bN ?_ _|refine bD ?_|refine bA ?_ _);exact BK385.out) hb); have n1_ := am (blk_below (g := gb388) (o := .cells #[.int .i64 ((rd_T25 l3 x25_1).f0), .int .i64 ((rd_T25 l3 x25_1).f1)] 25 (0, 0)) (by (with_reducible repeat first|refine bN ?_ _|refine bD ?_|refine bA ?_ _);exact BK388.out) hb); have n2_ := am (below_step (by repeat first|(with_reducible first|exact HB.out|apply wA|apply wN|apply wD|refine wS ?_ GE385.out|refine wS ?_ GE388.out)|exact HB.out) hb); clear BK385; clear BK388; clear HB; have BK385 := n0_; have BK388 := n1_; have HB := n2_; clear n0_ n1_ n2_; (try clear hb); (try clear hb2); (try clear hk); (try clear hi)))
 have n0_ := am (blk_drew BK385.out)
 have n1_ := am (blk_drew BK388.out)
 have n2_ := am (below_drew1 HB.out)
 clear BK385
 clear BK388
 clear HB
 have BK385 := n0_
 have BK388 := n1_
 have HB := n2_
 clear n0_ n1_ n2_
 have p391 : 0 ≤ ((ji29) : Int) := of_decide_eq_true (by first | (with_reducible assumption) | assumption)
 have q391 : (ji29) < (l3.length : Int) := of_decide_eq_true (by first | (with_reducible assumption) | assumption)
 obtain ⟨ad391, e391, hx391_0, hx391_1⟩ := at_T25 HR3.out (ji29) p391 q391
 have hw391_1 := hx391_1
 have hw391_0 := hx391_0
 obtain rfl : ad387 = ad391 := (by injection e391)
 replace hx391_0 := (HB.out.cell (World.block_lt_of_cell? w _ hx391_0)).trans hx391_0
 replace hx391_1 := (HB.out.cell (World.block_lt_of_cell? w _ hx391_1)).trans hx391_1
 replace p391 := eq_true p391
 replace q391 := eq_true q391
 refine start_ (n := 9) (S := fun w' => w'.cell? ⟨gb388, 0, none⟩ = some (.int .i64 ((rd_T25 l3 x25_1).f0)) ∧ w'.cell? ⟨gb388, 1, none⟩ = some (.int .i64 ((rd_T25 l3 x25_1).f1)) ∧ w'.cell? (ad387.add (((ji29)).toNat * 2)) = some (.int .i64 ((rd_T25 l3 (ji29)).f0)) ∧ w'.cell? ⟨(ad387.add (((ji29)).toNat * 2)).block, (ad387.add (((ji29)).toNat * 2)).off + 1, none⟩ = some (.int .i64 ((rd_T25 l3 (ji29)).f1))) (ds := []) #[F,F,F,F,F,F,F,F,F] (by kernel_rfl) rfl rfl ⟨(blk_cell BK388.out 0).trans rfl, (blk_cell BK388.out 1).trans rfl, ((HB.out.cell (World.block_lt_of_cell? w _ hw391_0)).trans hw391_0), ((HB.out.cell (World.block_lt_of_cell? w _ hw391_1)).trans hw391_1)⟩ (fun hHeld => ?_); refine with_tabW screen_CheckWay.tab14 screen_CheckWay.bits14 (fun HT_ HW_ => ?_)
 generalize w53.drew = w54 at BK385 BK388 HB hx391_0 hx391_1 hHeld ⊢
 refine pure_ (i := 0) (N := some 47) (v := ?_) (a' := ?_) #[T,F,F,F,F,F,F,F,F] rfl rfl (any_of HT_.out (by kernel_rfl)) (fun _ _ _ h => h) (Or.inl ⟨by rfl, ?_⟩) ?_ ?_
 rotate_left;{
 intro w'
 go_simp
 with_reducible rfl}
 rotate_left;{
 simp only [ap,sA,s0,s1,i64_w,i32_w]
 rfl}
 refine pure_ (i := 1) (N := some 48) (v := ?_) (a' := ?_) #[T,T,F,F,F,F,F,F,F] rfl rfl (any_of HT_.out (by kernel_rfl)) (fun _ _ _ h => h) (Or.inl ⟨by rfl, ?_⟩) ?_ ?_
 rotate_left;{
 intro w'
 go_simp
 with_reducible rfl}
 rotate_left;{
 simp only [ap,sA,s0,s1,i64_w,i32_w]
 rfl}
 refine pure_ (i := 2) (N := some 49) (v := ?_) (a' := ?_) #[T,T,T,F,F,F,F,F,F] rfl rfl (any_of HT_.out (by kernel_rfl)) (fun _ _ _ h => h) (Or.inl ⟨by rfl, ?_⟩) ?_ ?_
 rotate_left;{
 intro w'
 go_simp
 with_reducible rfl}
 rotate_left;{
 simp only [ap,sA,s0,s1,i64_w,i32_w]
 rfl}
 refine pure_ (i := 3) (N := some 50) (v := ?_) (a' := ?_) #[T,T,T,T,F,F,F,F,F] rfl rfl (any_of HT_.out (by kernel_rfl)) (fun _ _ _ h => h) (Or.inl ⟨by rfl, ?_⟩) ?_ ?_
 rotate_left;{
 intro w'
 go_simp
 with_reducible rfl}
 rotate_left;{
 simp only [ap,sA,s0,s1,i64_w,i32_w]
 rfl}
 refine take_ (i := 4) (N := some 51) (v := ?_) (a' := ?_) #[T,T,T,T,T,F,F,F,F] rfl rfl (take_ofW HT_.out HW_.out (by kernel_rfl)) (fun _ _ _ h => h) (Or.inl ⟨by rfl, ?_⟩) hHeld ?_ ?_
 rotate_left;{
 rintro w' ⟨s0, s1, s2, s3⟩
 go_simp
 with_reducible rfl}
 rotate_left;{
 simp only [ap,sA,s0,s1,i64_w,i32_w]
 rfl}
 refine take_ (i := 5) (N := some 52) (v := ?_) (a' := ?_) #[T,T,T,T,T,T,F,F,F] rfl rfl (take_ofW HT_.out HW_.out (by kernel_rfl)) (fun _ _ _ h => h) (Or.inl ⟨by rfl, ?_⟩) hHeld ?_ ?_
 rotate_left;{
 rintro w' ⟨s0, s1, s2, s3⟩
 go_simp
 with_reducible rfl}
 rotate_left;{
 simp only [ap,sA,s0,s1,i64_w,i32_w]
 rfl}
 refine one_ (i := 6) (N := some 53) #[T,T,T,T,T,T,T,F,F] rfl rfl (one_of HT_.out (by kernel_rfl)) (by decide) (fun K hK => ?_)
 refine goes_ Try.func41 (by kernel_rfl) rfl #[.agg #[.int .i64 ((rd_T25 l3 (ji29)).f0), .int .i64 ((rd_T25 l3 (ji29)).f1)], .agg #[.int .i64 ((rd_T25 l3 x25_1).f0), .int .i64 ((rd_T25 l3 x25_1).f1)]] (by rfl) rfl rfl (by (try simp only [List.map_toArray, List.map_cons, List.map_nil]); first | done | (simp only [hji29]; rfl) | rfl | (simp only [List.length_drop, List.length_take]; rfl)) ?_
 with_reducible refine (screen_isStep.calls ((rd_T25 l3 (ji29)).f0) ((rd_T25 l3 (ji29)).f1) ((rd_T25 l3 x25_1).f0) ((rd_T25 l3 x25_1).f1) true _ A32.out).mono ?_
 rintro e w55 ⟨rfl, hb⟩
 refine ⟨_, rfl, ?_⟩
 have n0_ := am (blk_below (g := gb385) (o := .cells #[.int .i64 a2_0, .int .i64 a2_1, .int .i64 a2_2, .int .i64 a2_3] 27 (0, 0)) (by (with_reducible repeat first|refine bN ?_ _|refine bD ?_|refine bA ?_ _);exact BK385.out) hb)
 have n1_ := am (blk_below (g := gb388) (o := .cells #[.int .i64 ((rd_T25 l3 x25_1).f0), .int .i64 ((rd_T25 l3 x25_1).f1)] 25 (0, 0)) (by (with_reducible repeat first|refine bN ?_ _|refine bD ?_|refine bA ?_ _);exact BK388.out) hb)
 have n2_ := am (below_step (by repeat first|(with_reducible first|exact HB.out|apply wA|apply wN|apply wD|refine wS ?_ GE385.out|refine wS ?_ GE388.out)|exact HB.out) hb)
 clear BK385
 clear BK388
 clear HB
 have BK385 := n0_
 have BK388 := n1_
 have HB := n2_
 clear n0_ n1_ n2_
 (try clear hb)
 (try clear hb2)
 (try clear hk)
 (try clear hi)
 refine hK.out _ _ ⟨(blk_cell BK388.out 0).trans rfl, (blk_cell BK388.out 1).trans rfl, ((HB.out.cell (World.block_lt_of_cell? w _ hw391_0)).trans hw391_0), ((HB.out.cell (World.block_lt_of_cell? w _ hw391_1)).trans hw391_1)⟩ (fun hHeld => ?_)
 clear hK K
 refine norm_ (a' := ?_) ?_ ?_
 rotate_left;{
 show Act.put _ (some 53) _ = _
 simp only [ap,sA,s0,s1,i64_w,i32_w]
 rfl}
 refine pure_ (i := 7) (N := some 54) (v := ?_) (a' := ?_) #[T,T,T,T,T,T,T,T,F] rfl rfl (any_of HT_.out (by kernel_rfl)) (fun _ _ _ h => h) (Or.inl ⟨by rfl, ?_⟩) ?_ ?_
 rotate_left;{
 intro w'
 go_simp
 with_reducible rfl}
 rotate_left;{
 simp only [ap,sA,s0,s1,i64_w,i32_w]
 rfl}
 refine pure_ (i := 8) (N := some 46) (v := ?_) (a' := ?_) #[T,T,T,T,T,T,T,T,T] rfl rfl (any_of HT_.out (by kernel_rfl)) (fun _ _ _ h => h) (Or.inl ⟨by rfl, ?_⟩) ?_ ?_
 rotate_left;{
 intro w'
 go_simp
 with_reducible rfl}
 rotate_left;{
 simp only [ap,sA,s0,s1,i64_w,i32_w]
 rfl}
 refine done_ (done_of HT_.out (by kernel_rfl)) ?_
 try go_wp2
 have n0_ := am (blk_drew BK385.out)
 have n1_ := am (blk_drew BK388.out)
 have n2_ := am (below_drew1 HB.out)
 clear BK385
 clear BK388
 clear HB
 have BK385 := n0_
 have BK388 := n1_
 have HB := n2_
 clear n0_ n1_ n2_
 have p393 : 0 ≤ ((ji29) : Int) := of_decide_eq_true (by first | (with_reducible assumption) | assumption)
 have q393 : (ji29) < (l3.length : Int) := of_decide_eq_true (by first | (with_reducible assumption) | assumption)
 obtain ⟨ad393, e393, hx393_0, hx393_1⟩ := at_T25 HR3.out (ji29) p393 q393
 have hw393_1 := hx393_1
 have hw393_0 := hx393_0
 obtain rfl : ad387 = ad393 := (by injection e393)
 replace hx393_0 := (HB.out.cell (World.block_lt_of_cell? w _ hx393_0)).trans hx393_0
 replace hx393_1 := (HB.out.cell (World.block_lt_of_cell? w _ hx393_1)).trans hx393_1
 replace p393 := eq_true p393
 replace q393 := eq_true q393
 refine start_ (n := 10) (S := fun w' => w'.cell? ⟨gb388, 0, none⟩ = some (.int .i64 ((rd_T25 l3 x25_1).f0)) ∧ w'.cell? ⟨gb388, 1, none⟩ = some (.int .i64 ((rd_T25 l3 x25_1).f1)) ∧ w'.cell? (ad387.add (((ji29)).toNat * 2)) = some (.int .i64 ((rd_T25 l3 (ji29)).f0)) ∧ w'.cell? ⟨(ad387.add (((ji29)).toNat * 2)).block, (ad387.add (((ji29)).toNat * 2)).off + 1, none⟩ = some (.int .i64 ((rd_T25 l3 (ji29)).f1))) (ds := []) #[F,F,F,F,F,F,F,F,F,F] (by kernel_rfl) rfl rfl ⟨(blk_cell BK388.out 0).trans rfl, (blk_cell BK388.out 1).trans rfl, ((HB.out.cell (World.block_lt_of_cell? w _ hw393_0)).trans hw393_0), ((HB.out.cell (World.block_lt_of_cell? w _ hw393_1)).trans hw393_1)⟩ (fun hHeld => ?_); refine with_tabW screen_CheckWay.tab16 screen_CheckWay.bits16 (fun HT_ HW_ => ?_)
 generalize w55.drew = w56 at BK385 BK388 HB hx393_0 hx393_1 hHeld ⊢
 refine pure_ (i := 0) (N := some 57) (v := ?_) (a' := ?_) #[T,F,F,F,F,F,F,F,F,F] rfl rfl (any_of HT_.out (by kernel_rfl)) (fun _ _ _ h => h) (Or.inl ⟨by rfl, ?_⟩) ?_ ?_
 rotate_left;{
 intro w'
 go_simp
 with_reducible rfl}
 rotate_left;{
 simp only [ap,sA,s0,s1,i64_w,i32_w]
 rfl}
 refine pure_ (i := 1) (N := some 58) (v := ?_) (a' := ?_) #[T,T,F,F,F,F,F,F,F,F] rfl rfl (any_of HT_.out (by kernel_rfl)) (fun _ _ _ h => h) (Or.inl ⟨by rfl, ?_⟩) ?_ ?_
 rotate_left;{
 intro w'
 go_simp
 with_reducible rfl}
 rotate_left;{
 simp only [ap,sA,s0,s1,i64_w,i32_w]
 rfl}
 refine pure_ (i := 2) (N := some 59) (v := ?_) (a' := ?_) #[T,T,T,F,F,F,F,F,F,F] rfl rfl (any_of HT_.out (by kernel_rfl)) (fun _ _ _ h => h) (Or.inl ⟨by rfl, ?_⟩) ?_ ?_
 rotate_left;{
 intro w'
 go_simp
 with_reducible rfl}
 rotate_left;{
 simp only [ap,sA,s0,s1,i64_w,i32_w]
 rfl}
 refine pure_ (i := 3) (N := some 60) (v := ?_) (a' := ?_) #[T,T,T,T,F,F,F,F,F,F] rfl rfl (any_of HT_.out (by kernel_rfl)) (fun _ _ _ h => h) (Or.inl ⟨by rfl, ?_⟩) ?_ ?_
 rotate_left;{
 intro w'
 go_simp
 with_reducible rfl}
 rotate_left;{
 simp only [ap,sA,s0,s1,i64_w,i32_w]
 rfl}
 refine pure_ (i := 4) (N := some 61) (v := ?_) (a' := ?_) #[T,T,T,T,T,F,F,F,F,F] rfl rfl (any_of HT_.out (by kernel_rfl)) (fun _ _ _ h => h) (Or.inl ⟨by rfl, ?_⟩) ?_ ?_
 rotate_left;{
 intro w'
 go_simp
 with_reducible rfl}
 rotate_left;{
 simp only [ap,sA,s0,s1,i64_w,i32_w]
 rfl}
 refine take_ (i := 5) (N := some 62) (v := ?_) (a' := ?_) #[T,T,T,T,T,T,F,F,F,F] rfl rfl (take_ofW HT_.out HW_.out (by kernel_rfl)) (fun _ _ _ h => h) (Or.inl ⟨by rfl, ?_⟩) hHeld ?_ ?_
 rotate_left;{
 rintro w' ⟨s0, s1, s2, s3⟩
 go_simp
 with_reducible rfl}
 rotate_left;{
 simp only [ap,sA,s0,s1,i64_w,i32_w]
 rfl}
 refine take_ (i := 6) (N := some 63) (v := ?_) (a' := ?_) #[T,T,T,T,T,T,T,F,F,F] rfl rfl (take_ofW HT_.out HW_.out (by kernel_rfl)) (fun _ _ _ h => h) (Or.inl ⟨by rfl, ?_⟩) hHeld ?_ ?_
 rotate_left;{
 rintro w' ⟨s0, s1, s2, s3⟩
 go_simp
 with_reducible rfl}
 rotate_left;{
 simp only [ap,sA,s0,s1,i64_w,i32_w]
 rfl}
 refine one_ (i := 7) (N := some 64) #[T,T,T,T,T,T,T,T,F,F] rfl rfl (one_of HT_.out (by kernel_rfl)) (by decide) (fun K hK => ?_)
 refine goes_ Try.func38 (by kernel_rfl) rfl #[.slice A0 l0.length c0, .agg #[.int .i64 ((rd_T25 l3 (ji29)).f0), .int .i64 ((rd_T25 l3 (ji29)).f1)], .agg #[.int .i64 ((rd_T25 l3 x25_1).f0), .int .i64 ((rd_T25 l3 x25_1).f1)]] (by rfl) rfl rfl (by (try simp only [List.map_toArray, List.map_cons, List.map_nil]); first | done | (simp only [hji29]; rfl) | rfl | (simp only [List.length_drop, List.length_take]; rfl)) ?_
 with_reducible refine (screen_sees.calls _ _ l0 ((rd_T25 l3 (ji29)).f0) ((rd_T25 l3 (ji29)).f1) ((rd_T25 l3 x25_1).f0) ((rd_T25 l3 x25_1).f1) false _ ?side1 ?side2 A34.out).mono ?_
 (case side1 => repeat (first | exact (Kd.C_below HR0.out HB.out) | (with_reducible refine Kd.C_alloc ?_ _) | (with_reducible refine Kd.C_drewN ?_ _) | (with_reducible refine Kd.C_drew ?_)))
 (case side2 => exact HC0.out)
 rintro e w57 ⟨rfl, hb⟩
 refine ⟨_, rfl, ?_⟩
 have n0_ := am (blk_below (g := gb385) (o := .cells #[.int .i64 a2_0, .int .i64 a2_1, .int .i64 a2_2, .int .i64 a2_3] 27 (0, 0)) (by (with_reducible repeat first|refine bN ?_ _|refine bD ?_|refine bA ?_ _);exact BK385.out) hb)
 have n1_ := am (blk_below (g := gb388) (o := .cells #[.int .i64 ((rd_T25 l3 x25_1).f0), .int .i64 ((rd_T25 l3 x25_1).f1)] 25 (0, 0)) (by (with_reducible repeat first|refine bN ?_ _|refine bD ?_|refine bA ?_ _);exact BK388.out) hb)
 have n2_ := am (below_step (by repeat first|(with_reducible first|exact HB.out|apply wA|apply wN|apply wD|refine wS ?_ GE385.out|refine wS ?_ GE388.out)|exact HB.out) hb)
 clear BK385
 clear BK388
 clear HB
 have BK385 := n0_
 have BK388 := n1_
 have HB := n2_
 clear n0_ n1_ n2_
 (try clear hb)
 (try clear hb2)
 (try clear hk)
 (try clear hi)
 refine hK.out _ _ ⟨(blk_cell BK388.out 0).trans rfl, (blk_cell BK388.out 1).trans rfl, ((HB.out.cell (World.block_lt_of_cell? w _ hw393_0)).trans hw393_0), ((HB.out.cell (World.block_lt_of_cell? w _ hw393_1)).trans hw393_1)⟩ (fun hHeld => ?_)
 clear hK K
 refine norm_ (a' := ?_) ?_ ?_
 rotate_left;{
 show Act.put _ (some 64) _ = _
 simp only [ap,sA,s0,s1,i64_w,i32_w]
 rfl}
 refine pure_ (i := 8) (N := some 65) (v := ?_) (a' := ?_) #[T,T,T,T,T,T,T,T,T,F] rfl rfl (any_of HT_.out (by kernel_rfl)) (fun _ _ _ h => h) (Or.inl ⟨by rfl, ?_⟩) ?_ ?_
 rotate_left;{
 intro w'
 go_simp
 with_reducible rfl}
 rotate_left;{
 simp only [ap,sA,s0,s1,i64_w,i32_w]
 rfl}
 refine pure_ (i := 9) (N := some 56) (v := ?_) (a' := ?_) #[T,T,T,T,T,T,T,T,T,T] rfl rfl (any_of HT_.out (by kernel_rfl)) (fun _ _ _ h => h) (Or.inl ⟨by rfl, ?_⟩) ?_ ?_
 rotate_left;{
 intro w'
 go_simp
 with_reducible rfl}
 rotate_left;{
 simp only [ap,sA,s0,s1,i64_w,i32_w]
 rfl}
 refine done_ (done_of HT_.out (by kernel_rfl)) ?_
 try go_wp2
 go_ret2
 exact ⟨by first | rfl | (simp [errW_none, errW_some] <;> rfl) | (simp only [← hji29]; first | rfl | (simp [errW_none, errW_some] <;> rfl)) | (simp [*, errW_none, errW_some] <;> rfl), by repeat (first | (with_reducible first | exact HB.out | apply below_alloc | apply pw_below_drewN | apply below_drew1 | refine below_set ?_ GE385.out | refine below_set ?_ GE388.out) | exact HB.out)⟩}
 replace c33 := Bool.eq_false_iff.mpr c33
 subst c33
 have H1 : (some (x25_1, 13)) = some (r1, r2) := by rw [if_neg (show ¬ (false = true) by decide)] at H; exact H
 clear H
 have H := H1
 clear H1
 simp only [Option.some.injEq, Prod.mk.injEq] at H
 obtain ⟨rfl, rfl⟩ := H
 have p387 : 0 ≤ (x25_1 : Int) := of_decide_eq_true (by first | (with_reducible assumption) | assumption)
 have q387 : x25_1 < (l3.length : Int) := of_decide_eq_true (by first | (with_reducible assumption) | assumption)
 obtain ⟨ad387, e387, hx387_0, hx387_1⟩ := at_T25 HR3.out x25_1 p387 q387
 cases e387
 replace hx387_0 := (HB.out.cell (World.block_lt_of_cell? w _ hx387_0)).trans hx387_0
 replace hx387_1 := (HB.out.cell (World.block_lt_of_cell? w _ hx387_1)).trans hx387_1
 replace p387 := eq_true p387
 replace q387 := eq_true q387
 try go_wp2_with (first | ((with_reducible refine gate_dst (N := 12) rfl ?_); refine box_event ?hg (N := 12) ?hd (cs := #[.int .i64 0, .int .i64 0]) (t := 25) ?hr ?_; (case hd => rfl); (case hg => rfl); (case hr => first | (go_simp; done) | (go_simp; rfl)); intro gb388 hg w58 hbox hb; have n0_ := am (blk_below (g := gb385) (o := .cells #[.int .i64 a2_0, .int .i64 a2_1, .int .i64 a2_2, .int .i64 a2_3] 27 (0, 0)) (by (with_reducible repeat first|refine bN ?_ _|refine bD ?_|refine bA ?_ _);exact BK385.out) hb); have n1_ := am (below_step (by repeat first|(with_reducible first|exact HB.out|apply wA|apply wN|apply wD|refine wS ?_ GE385.out)|exact HB.out) hb); have n2_ := am (hbox); have n3_ := am ((by rw [hg]; exact (below_size (by repeat first|(with_reducible first|exact HB.out|apply wA|apply wN|apply wD|refine wS ?_ GE385.out)|exact HB.out)) : w.heap.size ≤ gb388)); have n4_ := am ((by rw [hg]; exact (below_size (by repeat first|(with_reducible first|exact HB.out|apply wA|apply wN|apply wD|refine wS ?_ GE385.out)|exact HB.out)) : w.heap.size ≤ gb388)); have n5_ := am ((by rw [hg]; exact Nat.ne_of_lt (blk_lt (g := gb385) (o := .cells #[.int .i64 a2_0, .int .i64 a2_1, .int .i64 a2_2, .int .i64 a2_3] 27 (0, 0)) (by (with_reducible repeat first|refine bN ?_ _|refine bD ?_|refine bA ?_ _);exact BK385.out)) : gb385 ≠ gb388)); have n6_ := am ((by rw [hg]; exact Nat.ne_of_gt (blk_lt (g := gb385) (o := .cells #[.int .i64 a2_0, .int .i64 a2_1, .int .i64 a2_2, .int .i64 a2_3] 27 (0, 0)) (by (with_reducible repeat first|refine bN ?_ _|refine bD ?_|refine bA ?_ _);exact BK385.out)) : gb388 ≠ gb385)); clear BK385; clear HB; have BK385 := n0_; have HB := n1_; have BK388 := n2_; have GW388 := n3_; have GE388 := n4_; have NB385_388 := n5_; have NB388_385 := n6_; clear n0_ n1_ n2_ n3_ n4_ n5_ n6_; clear hb hbox hg; have hnb59 := NB388_385.out; have hnc59 := NB385_388.out; have hcz60_0 : w58.cell? ⟨gb388, 0, none⟩ = some (.int .i64 0) := (blk_cell BK388.out 0).trans rfl; have hcz60_1 : w58.cell? ⟨gb388, 1, none⟩ = some (.int .i64 0) := (blk_cell BK388.out 1).trans rfl; have hfz60_0 := blk_frozen BK388.out 0; have hfz60_1 := blk_frozen BK388.out 1; have hcz61_0 : w58.cell? ⟨gb385, 0, none⟩ = some (.int .i64 a2_0) := (blk_cell BK385.out 0).trans rfl; have hcz61_1 : w58.cell? ⟨gb385, 1, none⟩ = some (.int .i64 a2_1) := (blk_cell BK385.out 1).trans rfl; have hcz61_2 : w58.cell? ⟨gb385, 2, none⟩ = some (.int .i64 a2_2) := (blk_cell BK385.out 2).trans rfl; have hcz61_3 : w58.cell? ⟨gb385, 3, none⟩ = some (.int .i64 a2_3) := (blk_cell BK385.out 3).trans rfl; have hfz61_0 := blk_frozen BK385.out 0; have hfz61_1 := blk_frozen BK385.out 1; have hfz61_2 := blk_frozen BK385.out 2; have hfz61_3 := blk_frozen BK385.out 3) | ((with_reducible refine gate_callee (f := 39) rfl ?_); refine goesL_ (some 33) rfl rfl Try.func39 (by kernel_rfl) rfl #[.agg #[.int .i64 a2_0, .int .i64 a2_1, .int .i64 a2_2, .int .i64 a2_3], .agg #[.int .i64 ((rd_T25 l3 x25_1).f0), .int .i64 ((rd_T25 l3 x25_1).f1)]] rfl (by (try simp only [List.map_toArray, List.map_cons, List.map_nil]); first | done | rfl | (simp only [List.length_drop, List.length_take]; rfl)) ?_; (with_reducible refine (screen_inside.calls a2_0 a2_1 a2_2 a2_3 ((rd_T25 l3 x25_1).f0) ((rd_T25 l3 x25_1).f1) true _ A17.out).mono ?_); rintro e w62 ⟨rfl, hb⟩; refine ⟨_, rfl, ?_⟩; have n0_ := am (blk_below (g := gb385) (o := .cells #[.int .i64 a2_0, .int .i64 a2_1, .int .i64 a2_2, .int .i64 a2_3] 27 (0, 0)) (by (with_reducible repeat first|refine bN ?_ _|refine bD ?_|refine bA ?_ _);refine blk_far ?_ NB385_388.out _; (with_reducible repeat first|refine bN ?_ _|refine bD ?_|refine bA ?_ _);refine blk_far ?_ NB385_388.out _; (with_reducible repeat first|refine bN ?_ _|refine bD ?_|refine bA ?_ _);exact BK385.out) hb); have n1_ := am (blk_below (g := gb388) (o := .cells #[.int .i64 ((rd_T25 l3 x25_1).f0), .int .i64 ((rd_T25 l3 x25_1).f1)] 25 (0, 0)) (by (with_reducible repeat first|refine bN ?_ _|refine bD ?_|refine bA ?_ _);refine blk_put (cs := #[.int .i64 ((rd_T25 l3 x25_1).f0), .int .i64 0]) ?_ 1 _ rfl; (with_reducible repeat first|refine bN ?_ _|refine bD ?_|refine bA ?_ _);refine blk_put (cs := #[.int .i64 0, .int .i64 0]) ?_ 0 _ rfl; (with_reducible repeat first|refine bN ?_ _|refine bD ?_|refine bA ?_ _);exact BK388.out) hb); have n2_ := am (below_step (by repeat first|(with_reducible first|exact HB.out|apply wA|apply wN|apply wD|refine wS ?_ GE385.out|refine wS ?_ GE388.out)|exact HB.out) hb); clear BK385; clear BK388; clear HB; have BK385 := n0_; have BK388 := n1_; have HB := n2_; clear n0_ n1_ n2_; (try clear hb); (try clear hb2); (try clear hk); (try clear hi); have hcz63_0 : w62.cell? ⟨gb388, 0, none⟩ = some (.int .i64 ((rd_T25 l3 x25_1).f0)) := (blk_cell BK388.out 0).trans rfl; have hcz63_1 : w62.cell? ⟨gb388, 1, none⟩ = some (.int .i64 ((rd_T25 l3 x25_1).f1)) := (blk_cell BK388.out 1).trans rfl; have hfz63_0 := blk_frozen BK388.out 0; have hfz63_1 := blk_frozen BK388.out 1) | ((with_reducible refine gate_callee (f := 40) rfl ?_); refine goesL_ (some 40) rfl rfl Try.func40 (by kernel_rfl) rfl #[.slice A0 l0.length c0, .slice A1 l1.length c1, .agg #[.int .i64 ((rd_T25 l3 x25_1).f0), .int .i64 ((rd_T25 l3 x25_1).f1)]] rfl (by (try simp only [List.map_toArray, List.map_cons, List.map_nil]); first | done | rfl | (simp only [List.length_drop, List.length_take]; rfl)) ?_; (with_reducible refine (screen_hidden.calls _ _ l0 _ _ l1 ((rd_T25 l3 x25_1).f0) ((rd_T25 l3 x25_1).f1) true _ ?side1 ?side2 ?side3 ?side4 A19.out).mono ?_); (case side1 => repeat (first | exact (Kd.C_below HR0.out HB.out) | (with_reducible refine Kd.C_alloc ?_ _) | (with_reducible refine Kd.C_drewN ?_ _) | (with_reducible refine Kd.C_drew ?_))); (case side2 => exact HC0.out); (case side3 => repeat (first | exact (Kd.C_below HR1.out HB.out) | (with_reducible refine Kd.C_alloc ?_ _) | (with_reducible refine Kd.C_drewN ?_ _) | (with_reducible refine Kd.C_drew ?_))); (case side4 => exact HC1.out); rintro e w64 ⟨rfl, hb⟩; refine ⟨_, rfl, ?_⟩; have n0_ := am (blk_below (g := gb385) (o := .cells #[.int .i64 a2_0, .int .i64 a2_1, .int .i64 a2_2, .int .i64 a2_3] 27 (0, 0)) (by (with_reducible repeat first|refine bN ?_ _|refine bD ?_|refine bA ?_ _);exact BK385.out) hb); have n1_ := am (blk_below (g := gb388) (o := .cells #[.int .i64 ((rd_T25 l3 x25_1).f0), .int .i64 ((rd_T25 l3 x25_1).f1)] 25 (0, 0)) (by (with_reducible repeat first|refine bN ?_ _|refine bD ?_|refine bA ?_ _);exact BK388.out) hb); have n2_ := am (below_step (by repeat first|(with_reducible first|exact HB.out|apply wA|apply wN|apply wD|refine wS ?_ GE385.out|refine wS ?_ GE388.out)|exact HB.out) hb); clear BK385; clear BK388; clear HB; have BK385 := n0_; have BK388 := n1_; have HB := n2_; clear n0_ n1_ n2_; (try clear hb); (try clear hb2); (try clear hk); (try clear hi)))
 have n0_ := am (blk_drew BK385.out)
 have n1_ := am (blk_drew BK388.out)
 have n2_ := am (below_drew1 HB.out)
 clear BK385
 clear BK388
 clear HB
 have BK385 := n0_
 have BK388 := n1_
 have HB := n2_
 clear n0_ n1_ n2_
 have p391 : 0 ≤ ((ji29) : Int) := of_decide_eq_true (by first | (with_reducible assumption) | assumption)
 have q391 : (ji29) < (l3.length : Int) := of_decide_eq_true (by first | (with_reducible assumption) | assumption)
 obtain ⟨ad391, e391, hx391_0, hx391_1⟩ := at_T25 HR3.out (ji29) p391 q391
 have hw391_1 := hx391_1
 have hw391_0 := hx391_0
 obtain rfl : ad387 = ad391 := (by injection e391)
 replace hx391_0 := (HB.out.cell (World.block_lt_of_cell? w _ hx391_0)).trans hx391_0
 replace hx391_1 := (HB.out.cell (World.block_lt_of_cell? w _ hx391_1)).trans hx391_1
 replace p391 := eq_true p391
 replace q391 := eq_true q391
 refine start_ (n := 9) (S := fun w' => w'.cell? ⟨gb388, 0, none⟩ = some (.int .i64 ((rd_T25 l3 x25_1).f0)) ∧ w'.cell? ⟨gb388, 1, none⟩ = some (.int .i64 ((rd_T25 l3 x25_1).f1)) ∧ w'.cell? (ad387.add (((ji29)).toNat * 2)) = some (.int .i64 ((rd_T25 l3 (ji29)).f0)) ∧ w'.cell? ⟨(ad387.add (((ji29)).toNat * 2)).block, (ad387.add (((ji29)).toNat * 2)).off + 1, none⟩ = some (.int .i64 ((rd_T25 l3 (ji29)).f1))) (ds := []) #[F,F,F,F,F,F,F,F,F] (by kernel_rfl) rfl rfl ⟨(blk_cell BK388.out 0).trans rfl, (blk_cell BK388.out 1).trans rfl, ((HB.out.cell (World.block_lt_of_cell? w _ hw391_0)).trans hw391_0), ((HB.out.cell (World.block_lt_of_cell? w _ hw391_1)).trans hw391_1)⟩ (fun hHeld => ?_); refine with_tabW screen_CheckWay.tab14 screen_CheckWay.bits14 (fun HT_ HW_ => ?_)
 generalize w64.drew = w65 at BK385 BK388 HB hx391_0 hx391_1 hHeld ⊢
 refine pure_ (i := 0) (N := some 47) (v := ?_) (a' := ?_) #[T,F,F,F,F,F,F,F,F] rfl rfl (any_of HT_.out (by kernel_rfl)) (fun _ _ _ h => h) (Or.inl ⟨by rfl, ?_⟩) ?_ ?_
 rotate_left;{
 intro w'
 go_simp
 with_reducible rfl}
 rotate_left;{
 simp only [ap,sA,s0,s1,i64_w,i32_w]
 rfl}
 refine pure_ (i := 1) (N := some 48) (v := ?_) (a' := ?_) #[T,T,F,F,F,F,F,F,F] rfl rfl (any_of HT_.out (by kernel_rfl)) (fun _ _ _ h => h) (Or.inl ⟨by rfl, ?_⟩) ?_ ?_
 rotate_left;{
 intro w'
 go_simp
 with_reducible rfl}
 rotate_left;{
 simp only [ap,sA,s0,s1,i64_w,i32_w]
 rfl}
 refine pure_ (i := 2) (N := some 49) (v := ?_) (a' := ?_) #[T,T,T,F,F,F,F,F,F] rfl rfl (any_of HT_.out (by kernel_rfl)) (fun _ _ _ h => h) (Or.inl ⟨by rfl, ?_⟩) ?_ ?_
 rotate_left;{
 intro w'
 go_simp
 with_reducible rfl}
 rotate_left;{
 simp only [ap,sA,s0,s1,i64_w,i32_w]
 rfl}
 refine pure_ (i := 3) (N := some 50) (v := ?_) (a' := ?_) #[T,T,T,T,F,F,F,F,F] rfl rfl (any_of HT_.out (by kernel_rfl)) (fun _ _ _ h => h) (Or.inl ⟨by rfl, ?_⟩) ?_ ?_
 rotate_left;{
 intro w'
 go_simp
 with_reducible rfl}
 rotate_left;{
 simp only [ap,sA,s0,s1,i64_w,i32_w]
 rfl}
 refine take_ (i := 4) (N := some 51) (v := ?_) (a' := ?_) #[T,T,T,T,T,F,F,F,F] rfl rfl (take_ofW HT_.out HW_.out (by kernel_rfl)) (fun _ _ _ h => h) (Or.inl ⟨by rfl, ?_⟩) hHeld ?_ ?_
 rotate_left;{
 rintro w' ⟨s0, s1, s2, s3⟩
 go_simp
 with_reducible rfl}
 rotate_left;{
 simp only [ap,sA,s0,s1,i64_w,i32_w]
 rfl}
 refine take_ (i := 5) (N := some 52) (v := ?_) (a' := ?_) #[T,T,T,T,T,T,F,F,F] rfl rfl (take_ofW HT_.out HW_.out (by kernel_rfl)) (fun _ _ _ h => h) (Or.inl ⟨by rfl, ?_⟩) hHeld ?_ ?_
 rotate_left;{
 rintro w' ⟨s0, s1, s2, s3⟩
 go_simp
 with_reducible rfl}
 rotate_left;{
 simp only [ap,sA,s0,s1,i64_w,i32_w]
 rfl}
 refine one_ (i := 6) (N := some 53) #[T,T,T,T,T,T,T,F,F] rfl rfl (one_of HT_.out (by kernel_rfl)) (by decide) (fun K hK => ?_)
 refine goes_ Try.func41 (by kernel_rfl) rfl #[.agg #[.int .i64 ((rd_T25 l3 (ji29)).f0), .int .i64 ((rd_T25 l3 (ji29)).f1)], .agg #[.int .i64 ((rd_T25 l3 x25_1).f0), .int .i64 ((rd_T25 l3 x25_1).f1)]] (by rfl) rfl rfl (by (try simp only [List.map_toArray, List.map_cons, List.map_nil]); first | done | (simp only [hji29]; rfl) | rfl | (simp only [List.length_drop, List.length_take]; rfl)) ?_
 with_reducible refine (screen_isStep.calls ((rd_T25 l3 (ji29)).f0) ((rd_T25 l3 (ji29)).f1) ((rd_T25 l3 x25_1).f0) ((rd_T25 l3 x25_1).f1) false _ A32.out).mono ?_
 rintro e w66 ⟨rfl, hb⟩
 refine ⟨_, rfl, ?_⟩
 have n0_ := am (blk_below (g := gb385) (o := .cells #[.int .i64 a2_0, .int .i64 a2_1, .int .i64 a2_2, .int .i64 a2_3] 27 (0, 0)) (by (with_reducible repeat first|refine bN ?_ _|refine bD ?_|refine bA ?_ _);exact BK385.out) hb)
 have n1_ := am (blk_below (g := gb388) (o := .cells #[.int .i64 ((rd_T25 l3 x25_1).f0), .int .i64 ((rd_T25 l3 x25_1).f1)] 25 (0, 0)) (by (with_reducible repeat first|refine bN ?_ _|refine bD ?_|refine bA ?_ _);exact BK388.out) hb)
 have n2_ := am (below_step (by repeat first|(with_reducible first|exact HB.out|apply wA|apply wN|apply wD|refine wS ?_ GE385.out|refine wS ?_ GE388.out)|exact HB.out) hb)
 clear BK385
 clear BK388
 clear HB
 have BK385 := n0_
 have BK388 := n1_
 have HB := n2_
 clear n0_ n1_ n2_
 (try clear hb)
 (try clear hb2)
 (try clear hk)
 (try clear hi)
 refine hK.out _ _ ⟨(blk_cell BK388.out 0).trans rfl, (blk_cell BK388.out 1).trans rfl, ((HB.out.cell (World.block_lt_of_cell? w _ hw391_0)).trans hw391_0), ((HB.out.cell (World.block_lt_of_cell? w _ hw391_1)).trans hw391_1)⟩ (fun hHeld => ?_)
 clear hK K
 refine norm_ (a' := ?_) ?_ ?_
 rotate_left;{
 show Act.put _ (some 53) _ = _
 simp only [ap,sA,s0,s1,i64_w,i32_w]
 rfl}
 refine pure_ (i := 7) (N := some 54) (v := ?_) (a' := ?_) #[T,T,T,T,T,T,T,T,F] rfl rfl (any_of HT_.out (by kernel_rfl)) (fun _ _ _ h => h) (Or.inl ⟨by rfl, ?_⟩) ?_ ?_
 rotate_left;{
 intro w'
 go_simp
 with_reducible rfl}
 rotate_left;{
 simp only [ap,sA,s0,s1,i64_w,i32_w]
 rfl}
 refine pure_ (i := 8) (N := some 46) (v := ?_) (a' := ?_) #[T,T,T,T,T,T,T,T,T] rfl rfl (any_of HT_.out (by kernel_rfl)) (fun _ _ _ h => h) (Or.inl ⟨by rfl, ?_⟩) ?_ ?_
 rotate_left;{
 intro w'
 go_simp
 with_reducible rfl}
 rotate_left;{
 simp only [ap,sA,s0,s1,i64_w,i32_w]
 rfl}
 refine done_ (done_of HT_.out (by kernel_rfl)) ?_
 try go_wp2
 go_ret2
 exact ⟨by first | rfl | (simp [errW_none, errW_some] <;> rfl) | (simp only [← hji29]; first | rfl | (simp [errW_none, errW_some] <;> rfl)) | (simp [*, errW_none, errW_some] <;> rfl), by repeat (first | (with_reducible first | exact HB.out | apply below_alloc | apply pw_below_drewN | apply below_drew1 | refine below_set ?_ GE385.out | refine below_set ?_ GE388.out) | exact HB.out)⟩}
 rw [if_neg c31] at H
 exact absurd H (by simp)}
 rw [if_neg c30] at H
 exact absurd H (by simp)}
 replace c20 := Bool.eq_false_iff.mpr c20
 subst c20
 have H1 : (some (x25_1, 11)) = some (r1, r2) := by rw [if_neg (show ¬ (false = true) by decide)] at H; exact H
 clear H
 have H := H1
 clear H1
 simp only [Option.some.injEq, Prod.mk.injEq] at H
 obtain ⟨rfl, rfl⟩ := H
 have p387 : 0 ≤ (x25_1 : Int) := of_decide_eq_true (by first | (with_reducible assumption) | assumption)
 have q387 : x25_1 < (l3.length : Int) := of_decide_eq_true (by first | (with_reducible assumption) | assumption)
 obtain ⟨ad387, e387, hx387_0, hx387_1⟩ := at_T25 HR3.out x25_1 p387 q387
 cases e387
 replace hx387_0 := (HB.out.cell (World.block_lt_of_cell? w _ hx387_0)).trans hx387_0
 replace hx387_1 := (HB.out.cell (World.block_lt_of_cell? w _ hx387_1)).trans hx387_1
 replace p387 := eq_true p387
 replace q387 := eq_true q387
 go_wp2_with (first | ((with_reducible refine gate_dst (N := 12) rfl ?_); refine box_event ?hg (N := 12) ?hd (cs := #[.int .i64 0, .int .i64 0]) (t := 25) ?hr ?_; (case hd => rfl); (case hg => rfl); (case hr => first | (go_simp; done) | (go_simp; rfl)); intro gb388 hg w67 hbox hb; have n0_ := am (blk_below (g := gb385) (o := .cells #[.int .i64 a2_0, .int .i64 a2_1, .int .i64 a2_2, .int .i64 a2_3] 27 (0, 0)) (by (with_reducible repeat first|refine bN ?_ _|refine bD ?_|refine bA ?_ _);exact BK385.out) hb); have n1_ := am (below_step (by repeat first|(with_reducible first|exact HB.out|apply wA|apply wN|apply wD|refine wS ?_ GE385.out)|exact HB.out) hb); have n2_ := am (hbox); have n3_ := am ((by rw [hg]; exact (below_size (by repeat first|(with_reducible first|exact HB.out|apply wA|apply wN|apply wD|refine wS ?_ GE385.out)|exact HB.out)) : w.heap.size ≤ gb388)); have n4_ := am ((by rw [hg]; exact (below_size (by repeat first|(with_reducible first|exact HB.out|apply wA|apply wN|apply wD|refine wS ?_ GE385.out)|exact HB.out)) : w.heap.size ≤ gb388)); have n5_ := am ((by rw [hg]; exact Nat.ne_of_lt (blk_lt (g := gb385) (o := .cells #[.int .i64 a2_0, .int .i64 a2_1, .int .i64 a2_2, .int .i64 a2_3] 27 (0, 0)) (by (with_reducible repeat first|refine bN ?_ _|refine bD ?_|refine bA ?_ _);exact BK385.out)) : gb385 ≠ gb388)); have n6_ := am ((by rw [hg]; exact Nat.ne_of_gt (blk_lt (g := gb385) (o := .cells #[.int .i64 a2_0, .int .i64 a2_1, .int .i64 a2_2, .int .i64 a2_3] 27 (0, 0)) (by (with_reducible repeat first|refine bN ?_ _|refine bD ?_|refine bA ?_ _);exact BK385.out)) : gb388 ≠ gb385)); clear BK385; clear HB; have BK385 := n0_; have HB := n1_; have BK388 := n2_; have GW388 := n3_; have GE388 := n4_; have NB385_388 := n5_; have NB388_385 := n6_; clear n0_ n1_ n2_ n3_ n4_ n5_ n6_; clear hb hbox hg; have hnb68 := NB388_385.out; have hnc68 := NB385_388.out; have hcz69_0 : w67.cell? ⟨gb388, 0, none⟩ = some (.int .i64 0) := (blk_cell BK388.out 0).trans rfl; have hcz69_1 : w67.cell? ⟨gb388, 1, none⟩ = some (.int .i64 0) := (blk_cell BK388.out 1).trans rfl; have hfz69_0 := blk_frozen BK388.out 0; have hfz69_1 := blk_frozen BK388.out 1; have hcz70_0 : w67.cell? ⟨gb385, 0, none⟩ = some (.int .i64 a2_0) := (blk_cell BK385.out 0).trans rfl; have hcz70_1 : w67.cell? ⟨gb385, 1, none⟩ = some (.int .i64 a2_1) := (blk_cell BK385.out 1).trans rfl; have hcz70_2 : w67.cell? ⟨gb385, 2, none⟩ = some (.int .i64 a2_2) := (blk_cell BK385.out 2).trans rfl; have hcz70_3 : w67.cell? ⟨gb385, 3, none⟩ = some (.int .i64 a2_3) := (blk_cell BK385.out 3).trans rfl; have hfz70_0 := blk_frozen BK385.out 0; have hfz70_1 := blk_frozen BK385.out 1; have hfz70_2 := blk_frozen BK385.out 2; have hfz70_3 := blk_frozen BK385.out 3) | ((with_reducible refine gate_callee (f := 39) rfl ?_); refine goesL_ (some 33) rfl rfl Try.func39 (by kernel_rfl) rfl #[.agg #[.int .i64 a2_0, .int .i64 a2_1, .int .i64 a2_2, .int .i64 a2_3], .agg #[.int .i64 ((rd_T25 l3 x25_1).f0), .int .i64 ((rd_T25 l3 x25_1).f1)]] rfl (by (try simp only [List.map_toArray, List.map_cons, List.map_nil]); first | done | rfl | (simp only [List.length_drop, List.length_take]; rfl)) ?_; (with_reducible refine (screen_inside.calls a2_0 a2_1 a2_2 a2_3 ((rd_T25 l3 x25_1).f0) ((rd_T25 l3 x25_1).f1) true _ A17.out).mono ?_); rintro e w71 ⟨rfl, hb⟩; refine ⟨_, rfl, ?_⟩; have n0_ := am (blk_below (g := gb385) (o := .cells #[.int .i64 a2_0, .int .i64 a2_1, .int .i64 a2_2, .int .i64 a2_3] 27 (0, 0)) (by (with_reducible repeat first|refine bN ?_ _|refine bD ?_|refine bA ?_ _);refine blk_far ?_ NB385_388.out _; (with_reducible repeat first|refine bN ?_ _|refine bD ?_|refine bA ?_ _);refine blk_far ?_ NB385_388.out _; (with_reducible repeat first|refine bN ?_ _|refine bD ?_|refine bA ?_ _);exact BK385.out) hb); have n1_ := am (blk_below (g := gb388) (o := .cells #[.int .i64 ((rd_T25 l3 x25_1).f0), .int .i64 ((rd_T25 l3 x25_1).f1)] 25 (0, 0)) (by (with_reducible repeat first|refine bN ?_ _|refine bD ?_|refine bA ?_ _);refine blk_put (cs := #[.int .i64 ((rd_T25 l3 x25_1).f0), .int .i64 0]) ?_ 1 _ rfl; (with_reducible repeat first|refine bN ?_ _|refine bD ?_|refine bA ?_ _);refine blk_put (cs := #[.int .i64 0, .int .i64 0]) ?_ 0 _ rfl; (with_reducible repeat first|refine bN ?_ _|refine bD ?_|refine bA ?_ _);exact BK388.out) hb); have n2_ := am (below_step (by repeat first|(with_reducible first|exact HB.out|apply wA|apply wN|apply wD|refine wS ?_ GE385.out|refine wS ?_ GE388.out)|exact HB.out) hb); clear BK385; clear BK388; clear HB; have BK385 := n0_; have BK388 := n1_; have HB := n2_; clear n0_ n1_ n2_; (try clear hb); (try clear hb2); (try clear hk); (try clear hi); have hcz72_0 : w71.cell? ⟨gb388, 0, none⟩ = some (.int .i64 ((rd_T25 l3 x25_1).f0)) := (blk_cell BK388.out 0).trans rfl; have hcz72_1 : w71.cell? ⟨gb388, 1, none⟩ = some (.int .i64 ((rd_T25 l3 x25_1).f1)) := (blk_cell BK388.out 1).trans rfl; have hfz72_0 := blk_frozen BK388.out 0; have hfz72_1 := blk_frozen BK388.out 1) | ((with_reducible refine gate_callee (f := 40) rfl ?_); refine goesL_ (some 40) rfl rfl Try.func40 (by kernel_rfl) rfl #[.slice A0 l0.length c0, .slice A1 l1.length c1, .agg #[.int .i64 ((rd_T25 l3 x25_1).f0), .int .i64 ((rd_T25 l3 x25_1).f1)]] rfl (by (try simp only [List.map_toArray, List.map_cons, List.map_nil]); first | done | rfl | (simp only [List.length_drop, List.length_take]; rfl)) ?_; (with_reducible refine (screen_hidden.calls _ _ l0 _ _ l1 ((rd_T25 l3 x25_1).f0) ((rd_T25 l3 x25_1).f1) false _ ?side1 ?side2 ?side3 ?side4 A19.out).mono ?_); (case side1 => repeat (first | exact (Kd.C_below HR0.out HB.out) | (with_reducible refine Kd.C_alloc ?_ _) | (with_reducible refine Kd.C_drewN ?_ _) | (with_reducible refine Kd.C_drew ?_))); (case side2 => exact HC0.out); (case side3 => repeat (first | exact (Kd.C_below HR1.out HB.out) | (with_reducible refine Kd.C_alloc ?_ _) | (with_reducible refine Kd.C_drewN ?_ _) | (with_reducible refine Kd.C_drew ?_))); (case side4 => exact HC1.out); rintro e w73 ⟨rfl, hb⟩; refine ⟨_, rfl, ?_⟩; have n0_ := am (blk_below (g := gb385) (o := .cells #[.int .i64 a2_0, .int .i64 a2_1, .int .i64 a2_2, .int .i64 a2_3] 27 (0, 0)) (by (with_reducible repeat first|refine bN ?_ _|refine bD ?_|refine bA ?_ _);exact BK385.out) hb); have n1_ := am (blk_below (g := gb388) (o := .cells #[.int .i64 ((rd_T25 l3 x25_1).f0), .int .i64 ((rd_T25 l3 x25_1).f1)] 25 (0, 0)) (by (with_reducible repeat first|refine bN ?_ _|refine bD ?_|refine bA ?_ _);exact BK388.out) hb); have n2_ := am (below_step (by repeat first|(with_reducible first|exact HB.out|apply wA|apply wN|apply wD|refine wS ?_ GE385.out|refine wS ?_ GE388.out)|exact HB.out) hb); clear BK385; clear BK388; clear HB; have BK385 := n0_; have BK388 := n1_; have HB := n2_; clear n0_ n1_ n2_; (try clear hb); (try clear hb2); (try clear hk); (try clear hi)))
 go_ret2
 exact ⟨by first | rfl | (simp [errW_none, errW_some] <;> rfl) | (simp [*, errW_none, errW_some] <;> rfl), by repeat (first | (with_reducible first | exact HB.out | apply below_alloc | apply pw_below_drewN | apply below_drew1 | refine below_set ?_ GE385.out | refine below_set ?_ GE388.out) | exact HB.out)⟩}
 replace c18 := Bool.eq_false_iff.mpr c18
 subst c18
 have H1 : (some (x25_1, 1)) = some (r1, r2) := by rw [if_neg (show ¬ (false = true) by decide)] at H; exact H
 clear H
 have H := H1
 clear H1
 simp only [Option.some.injEq, Prod.mk.injEq] at H
 obtain ⟨rfl, rfl⟩ := H
 have p387 : 0 ≤ (x25_1 : Int) := of_decide_eq_true (by first | (with_reducible assumption) | assumption)
 have q387 : x25_1 < (l3.length : Int) := of_decide_eq_true (by first | (with_reducible assumption) | assumption)
 obtain ⟨ad387, e387, hx387_0, hx387_1⟩ := at_T25 HR3.out x25_1 p387 q387
 cases e387
 replace hx387_0 := (HB.out.cell (World.block_lt_of_cell? w _ hx387_0)).trans hx387_0
 replace hx387_1 := (HB.out.cell (World.block_lt_of_cell? w _ hx387_1)).trans hx387_1
 replace p387 := eq_true p387
 replace q387 := eq_true q387
 go_wp2_with (first | ((with_reducible refine gate_dst (N := 12) rfl ?_); refine box_event ?hg (N := 12) ?hd (cs := #[.int .i64 0, .int .i64 0]) (t := 25) ?hr ?_; (case hd => rfl); (case hg => rfl); (case hr => first | (go_simp; done) | (go_simp; rfl)); intro gb388 hg w74 hbox hb; have n0_ := am (blk_below (g := gb385) (o := .cells #[.int .i64 a2_0, .int .i64 a2_1, .int .i64 a2_2, .int .i64 a2_3] 27 (0, 0)) (by (with_reducible repeat first|refine bN ?_ _|refine bD ?_|refine bA ?_ _);exact BK385.out) hb); have n1_ := am (below_step (by repeat first|(with_reducible first|exact HB.out|apply wA|apply wN|apply wD|refine wS ?_ GE385.out)|exact HB.out) hb); have n2_ := am (hbox); have n3_ := am ((by rw [hg]; exact (below_size (by repeat first|(with_reducible first|exact HB.out|apply wA|apply wN|apply wD|refine wS ?_ GE385.out)|exact HB.out)) : w.heap.size ≤ gb388)); have n4_ := am ((by rw [hg]; exact (below_size (by repeat first|(with_reducible first|exact HB.out|apply wA|apply wN|apply wD|refine wS ?_ GE385.out)|exact HB.out)) : w.heap.size ≤ gb388)); have n5_ := am ((by rw [hg]; exact Nat.ne_of_lt (blk_lt (g := gb385) (o := .cells #[.int .i64 a2_0, .int .i64 a2_1, .int .i64 a2_2, .int .i64 a2_3] 27 (0, 0)) (by (with_reducible repeat first|refine bN ?_ _|refine bD ?_|refine bA ?_ _);exact BK385.out)) : gb385 ≠ gb388)); have n6_ := am ((by rw [hg]; exact Nat.ne_of_gt (blk_lt (g := gb385) (o := .cells #[.int .i64 a2_0, .int .i64 a2_1, .int .i64 a2_2, .int .i64 a2_3] 27 (0, 0)) (by (with_reducible repeat first|refine bN ?_ _|refine bD ?_|refine bA ?_ _);exact BK385.out)) : gb388 ≠ gb385)); clear BK385; clear HB; have BK385 := n0_; have HB := n1_; have BK388 := n2_; have GW388 := n3_; have GE388 := n4_; have NB385_388 := n5_; have NB388_385 := n6_; clear n0_ n1_ n2_ n3_ n4_ n5_ n6_; clear hb hbox hg; have hnb75 := NB388_385.out; have hnc75 := NB385_388.out; have hcz76_0 : w74.cell? ⟨gb388, 0, none⟩ = some (.int .i64 0) := (blk_cell BK388.out 0).trans rfl; have hcz76_1 : w74.cell? ⟨gb388, 1, none⟩ = some (.int .i64 0) := (blk_cell BK388.out 1).trans rfl; have hfz76_0 := blk_frozen BK388.out 0; have hfz76_1 := blk_frozen BK388.out 1; have hcz77_0 : w74.cell? ⟨gb385, 0, none⟩ = some (.int .i64 a2_0) := (blk_cell BK385.out 0).trans rfl; have hcz77_1 : w74.cell? ⟨gb385, 1, none⟩ = some (.int .i64 a2_1) := (blk_cell BK385.out 1).trans rfl; have hcz77_2 : w74.cell? ⟨gb385, 2, none⟩ = some (.int .i64 a2_2) := (blk_cell BK385.out 2).trans rfl; have hcz77_3 : w74.cell? ⟨gb385, 3, none⟩ = some (.int .i64 a2_3) := (blk_cell BK385.out 3).trans rfl; have hfz77_0 := blk_frozen BK385.out 0; have hfz77_1 := blk_frozen BK385.out 1; have hfz77_2 := blk_frozen BK385.out 2; have hfz77_3 := blk_frozen BK385.out 3) | ((with_reducible refine gate_callee (f := 39) rfl ?_); refine goesL_ (some 33) rfl rfl Try.func39 (by kernel_rfl) rfl #[.agg #[.int .i64 a2_0, .int .i64 a2_1, .int .i64 a2_2, .int .i64 a2_3], .agg #[.int .i64 ((rd_T25 l3 x25_1).f0), .int .i64 ((rd_T25 l3 x25_1).f1)]] rfl (by (try simp only [List.map_toArray, List.map_cons, List.map_nil]); first | done | rfl | (simp only [List.length_drop, List.length_take]; rfl)) ?_; (with_reducible refine (screen_inside.calls a2_0 a2_1 a2_2 a2_3 ((rd_T25 l3 x25_1).f0) ((rd_T25 l3 x25_1).f1) false _ A17.out).mono ?_); rintro e w78 ⟨rfl, hb⟩; refine ⟨_, rfl, ?_⟩; have n0_ := am (blk_below (g := gb385) (o := .cells #[.int .i64 a2_0, .int .i64 a2_1, .int .i64 a2_2, .int .i64 a2_3] 27 (0, 0)) (by (with_reducible repeat first|refine bN ?_ _|refine bD ?_|refine bA ?_ _);refine blk_far ?_ NB385_388.out _; (with_reducible repeat first|refine bN ?_ _|refine bD ?_|refine bA ?_ _);refine blk_far ?_ NB385_388.out _; (with_reducible repeat first|refine bN ?_ _|refine bD ?_|refine bA ?_ _);exact BK385.out) hb); have n1_ := am (blk_below (g := gb388) (o := .cells #[.int .i64 ((rd_T25 l3 x25_1).f0), .int .i64 ((rd_T25 l3 x25_1).f1)] 25 (0, 0)) (by (with_reducible repeat first|refine bN ?_ _|refine bD ?_|refine bA ?_ _);refine blk_put (cs := #[.int .i64 ((rd_T25 l3 x25_1).f0), .int .i64 0]) ?_ 1 _ rfl; (with_reducible repeat first|refine bN ?_ _|refine bD ?_|refine bA ?_ _);refine blk_put (cs := #[.int .i64 0, .int .i64 0]) ?_ 0 _ rfl; (with_reducible repeat first|refine bN ?_ _|refine bD ?_|refine bA ?_ _);exact BK388.out) hb); have n2_ := am (below_step (by repeat first|(with_reducible first|exact HB.out|apply wA|apply wN|apply wD|refine wS ?_ GE385.out|refine wS ?_ GE388.out)|exact HB.out) hb); clear BK385; clear BK388; clear HB; have BK385 := n0_; have BK388 := n1_; have HB := n2_; clear n0_ n1_ n2_; (try clear hb); (try clear hb2); (try clear hk); (try clear hi)))
 go_ret2
 exact ⟨by first | rfl | (simp [errW_none, errW_some] <;> rfl) | (simp [*, errW_none, errW_some] <;> rfl), by repeat (first | (with_reducible first | exact HB.out | apply below_alloc | apply pw_below_drewN | apply below_drew1 | refine below_set ?_ GE385.out | refine below_set ?_ GE388.out) | exact HB.out)⟩}
 rw [if_neg c16] at H
 exact absurd H (by simp)}
 rw [if_neg c15] at H
 exact absurd H (by simp)}
  rw [if_neg c14] at H
  have c14b0 : decide (x25_1 < (l3.length : Int)) = false := decide_eq_false c14
  clear c14
  simp only [Option.some.injEq, Prod.mk.injEq] at H
  obtain ⟨rfl, rfl⟩ := H
  go_wp2
  go_ret2
  exact ⟨by first | rfl | (simp [errW_none, errW_some] <;> rfl) | (simp [*, errW_none, errW_some] <;> rfl), by repeat (first | (with_reducible first | exact HB.out | apply below_alloc | apply pw_below_drewN | apply below_drew1 | refine below_set ?_ GE385.out) | exact HB.out)⟩)}
 rw [if_neg c6] at H
 have c6b0 : (t386 == 0) = false := beq_eq_false_iff_ne.mpr c6
 have c6b1 : (t386 != 0) = true := bne_iff_ne.mpr c6
 simp only [Option.some.injEq, Prod.mk.injEq] at H
 obtain ⟨rfl, rfl⟩ := H
 go_enter Try.func18, Try.ntmps18
 go_wp2_with (first | ((with_reducible refine gate_dst (N := 6) rfl ?_); refine box_event ?hg (N := 6) ?hd (cs := #[.int .i64 a2_0, .int .i64 a2_1, .int .i64 a2_2, .int .i64 a2_3]) (t := 27) ?hr ?_; (case hd => rfl); (case hg => rfl); (case hr => first | (go_simp; done) | (go_simp; rfl)); intro gb385 hg w79 hbox hb; have n0_ := am (below_step (by repeat first|(with_reducible first|exact HB.out|apply wA|apply wN|apply wD)|exact HB.out) hb); have n1_ := am (hbox); have n2_ := am ((by rw [hg]; exact (below_size (by repeat first|(with_reducible first|exact HB.out|apply wA|apply wN|apply wD)|exact HB.out)) : w.heap.size ≤ gb385)); have n3_ := am ((by rw [hg]; exact (below_size (by repeat first|(with_reducible first|exact HB.out|apply wA|apply wN|apply wD)|exact HB.out)) : w.heap.size ≤ gb385)); clear HB; have HB := n0_; have BK385 := n1_; have GW385 := n2_; have GE385 := n3_; clear n0_ n1_ n2_ n3_; clear hb hbox hg; have hcz80_0 : w79.cell? ⟨gb385, 0, none⟩ = some (.int .i64 a2_0) := (blk_cell BK385.out 0).trans rfl; have hcz80_1 : w79.cell? ⟨gb385, 1, none⟩ = some (.int .i64 a2_1) := (blk_cell BK385.out 1).trans rfl; have hcz80_2 : w79.cell? ⟨gb385, 2, none⟩ = some (.int .i64 a2_2) := (blk_cell BK385.out 2).trans rfl; have hcz80_3 : w79.cell? ⟨gb385, 3, none⟩ = some (.int .i64 a2_3) := (blk_cell BK385.out 3).trans rfl; have hfz80_0 := blk_frozen BK385.out 0; have hfz80_1 := blk_frozen BK385.out 1; have hfz80_2 := blk_frozen BK385.out 2; have hfz80_3 := blk_frozen BK385.out 3) | ((with_reducible refine gate_callee (f := 37) rfl ?_); refine goesL_ (some 16) rfl rfl Try.func37 (by kernel_rfl) rfl #[.slice A0 l0.length c0, .slice A1 l1.length c1, .slice none 0 0, .agg #[.int .i64 a2_0, .int .i64 a2_1, .int .i64 a2_2, .int .i64 a2_3]] rfl (by (try simp only [List.map_toArray, List.map_cons, List.map_nil]); first | done | rfl | (simp only [List.length_drop, List.length_take]; rfl)) ?_; (refine (screen_checked.calls k _ _ l0 _ _ l1 _ _ ([] : List (S25)) a2_0 a2_1 a2_2 a2_3 t386 _ ?side1 ?side2 ?side3 ?side4 ?side5 ?side6 A5.out).mono ?_); (case side1 => repeat (first | exact (Kd.C_below HR0.out HB.out) | (with_reducible refine Kd.C_alloc ?_ _) | (with_reducible refine Kd.C_drewN ?_ _) | (with_reducible refine Kd.C_drew ?_))); (case side2 => exact HC0.out); (case side3 => repeat (first | exact (Kd.C_below HR1.out HB.out) | (with_reducible refine Kd.C_alloc ?_ _) | (with_reducible refine Kd.C_drewN ?_ _) | (with_reducible refine Kd.C_drew ?_))); (case side4 => exact HC1.out); (case side5 => exact Kd.C_nil _ _); (case side6 => exact Nat.le_refl _); rintro e w81 ⟨rfl, hb⟩; refine ⟨_, rfl, ?_⟩; have n0_ := am (blk_below (g := gb385) (o := .cells #[.int .i64 a2_0, .int .i64 a2_1, .int .i64 a2_2, .int .i64 a2_3] 27 (0, 0)) (by (with_reducible repeat first|refine bN ?_ _|refine bD ?_|refine bA ?_ _);exact BK385.out) hb); have n1_ := am (below_step (by repeat first|(with_reducible first|exact HB.out|apply wA|apply wN|apply wD|refine wS ?_ GE385.out)|exact HB.out) hb); clear BK385; clear HB; have BK385 := n0_; have HB := n1_; clear n0_ n1_; (try clear hb); (try clear hb2); (try clear hk); (try clear hi)))
 go_ret2
 exact ⟨by first | rfl | (simp [errW_none, errW_some] <;> rfl) | (simp [*, errW_none, errW_some] <;> rfl), by repeat (first | (with_reducible first | exact HB.out | apply below_alloc | apply pw_below_drewN | apply below_drew1 | refine below_set ?_ GE385.out) | exact HB.out)⟩
end Go.Proofs.Ytieffjkplaajdaa.SW

