/- Of the text SWx22, what the row of ScreenSteps reaches. -/
import Derived.Test.YtieffjkplaajdaaZScreenStepsSWx0
import Derived.Test.YtieffjkplaajdaaZScreenStepsSWx21
namespace Go.Proofs.Ytieffjkplaajdaa.SW
open Go.RowKit Go.Proofs.YtieffjkplaajdaaW.PrintWords Go.Proofs.YtieffjkplaajdaaW.PrintLast Go.Proofs.YtieffjkplaajdaaW.PrintMore
open Go.Proofs.YtieffjkplaajdaaW.PrintWords renaming blk_drewN → bN, blk_drew → bD, blk_alloc → bA, below_alloc → wA, pw_below_drewN → wN, below_drew1 → wD, below_set → wS
open List renaming setIfInBounds_toArray → sA, set_cons_zero → s0, set_cons_succ → s1
open Act renaming put → ap
open Aside0 renaming mk → am
attribute [local go_sem] max2_int min2_int max_two min_two max_three min_three max_four min_four   -- for this text's walks alone
set_option linter.unusedVariables false
set_option linter.unusedSimpArgs false

mutual
def wigeonref02_dark.l0 : Nat → List (S48) → List (S25) → List (S25) → Int → Int → Int → Int → Int → Option ((List (S25)))
  | 0, _, _, _, _, _, _, _, _ => none
  | k + 1, x0, x1, x7, x8, x234000, x234001, x234002, x234003 => if x8 ≤ x234002 then (wigeonref02_dark.l1 k x0 x1 x7 x8 x234001 x234000 x234001 x234002 x234003) else (some x7)
def wigeonref02_dark.l1 : Nat → List (S48) → List (S25) → List (S25) → Int → Int → Int → Int → Int → Int → Option ((List (S25)))
  | 0, _, _, _, _, _, _, _, _, _ => none
  | k + 1, x0, x1, x7, x8, x9, x234000, x234001, x234002, x234003 => if x9 ≤ x234003 then ((wigeonref02_seers.f k x0 x1 x8 x9).bind fun t234 => (if (t234.length : Int) = 0 then (if x7.length < 8796093022208 then (wigeonref02_dark.l1 k x0 x1 (x7 ++ [(⟨x8, x9⟩ : S25)]) x8 (wrap64 (x9 + 1)) x234000 x234001 x234002 x234003) else (none)) else (wigeonref02_dark.l1 k x0 x1 x7 x8 (wrap64 (x9 + 1)) x234000 x234001 x234002 x234003))) else (wigeonref02_dark.l0 k x0 x1 x7 (wrap64 (x8 + 1)) x234000 x234001 x234002 x234003)
end
def wigeonref02_dark.f (k : Nat) (l0 : List (S48)) (l1 : List (S25)) (a2_0 : Int) (a2_1 : Int) (a2_2 : Int) (a2_3 : Int) : Option ((List (S25))) := wigeonref02_dark.l0 k l0 l1 ([] : List (S25)) a2_0 a2_0 a2_1 a2_2 a2_3
open Bool renaming true → T, false → F
set_option maxHeartbeats 8000000 in
set_option maxRecDepth 100000 in
theorem wigeonref02_dark.calls (k : Nat) (A0 : Option Addr) (c0 : Nat) (l0 : List (S48)) (A1 : Option Addr) (c1 : Nat) (l1 : List (S25)) (a2_0 : Int) (a2_1 : Int) (a2_2 : Int) (a2_3 : Int) (r : List (S25)) (w : World) (hr0 : Kd.C k48 w A0 l0.length l0) (hc0 : l0.length ≤ c0) (hr1 : Kd.C k25 w A1 l1.length l1) (hc1 : l1.length ≤ c1) (h : wigeonref02_dark.f k l0 l1 a2_0 a2_1 a2_2 a2_3 = some r) :
 Calls Try.prog 45 #[.slice A0 l0.length c0, .slice A1 l1.length c1, .agg #[.int .i64 a2_0, .int .i64 a2_1, .int .i64 a2_2, .int .i64 a2_3]] w fun e w' => ∃ v0_ : Value, e = .returned (v0_) ∧ Kd.R k25 25 w' w.heap.size (fun _ => True) v0_ r ∧ Below w.heap.size w w' := by
 have hu27 := Try.underlying27
 have hu25 := Try.underlying25
 have HR0 := am hr0
 have HC0 := am hc0
 clear hr0 hc0
 have HR1 := am hr1
 have HC1 := am hc1
 clear hr1 hc1
 have HB := am (Below.refl w.heap.size w)
 have H : (wigeonref02_dark.l0 k l0 l1 ([] : List (S25)) a2_0 a2_0 a2_1 a2_2 a2_3) = some r := h
 clear h
 have H' := am H
 clear H
 go_enter Try.func45, Try.ntmps45
 go_wp2_with (first | ((with_reducible refine gate_dst (N := 5) rfl ?_); refine box_event ?hg (N := 5) ?hd (cs := #[.int .i64 a2_0, .int .i64 a2_1, .int .i64 a2_2, .int .i64 a2_3]) (t := 27) ?hr ?_; (case hd => rfl); (case hg => rfl); (case hr => first | (go_simp; done) | (go_simp; rfl)); intro gb233 hg w4 hbox hb; have n0_ := am (below_step (by repeat first|(with_reducible first|exact HB.out|apply wA|apply wN|apply wD)|exact HB.out) hb); have n1_ := am (hbox); have n2_ := am ((by rw [hg]; exact (below_size (by repeat first|(with_reducible first|exact HB.out|apply wA|apply wN|apply wD)|exact HB.out)) : w.heap.size ≤ gb233)); have n3_ := am ((by rw [hg]; exact (below_size (by repeat first|(with_reducible first|exact HB.out|apply wA|apply wN|apply wD)|exact HB.out)) : w.heap.size ≤ gb233)); clear HB; have HB := n0_; have BK233 := n1_; have GW233 := n2_; have GE233 := n3_; clear n0_ n1_ n2_ n3_; clear hb hbox hg; have hcz5_0 : w4.cell? ⟨gb233, 0, none⟩ = some (.int .i64 a2_0) := (blk_cell BK233.out 0).trans rfl; have hcz5_1 : w4.cell? ⟨gb233, 1, none⟩ = some (.int .i64 a2_1) := (blk_cell BK233.out 1).trans rfl; have hcz5_2 : w4.cell? ⟨gb233, 2, none⟩ = some (.int .i64 a2_2) := (blk_cell BK233.out 2).trans rfl; have hcz5_3 : w4.cell? ⟨gb233, 3, none⟩ = some (.int .i64 a2_3) := (blk_cell BK233.out 3).trans rfl; have hfz5_0 := blk_frozen BK233.out 0; have hfz5_1 := blk_frozen BK233.out 1; have hfz5_2 := blk_frozen BK233.out 2; have hfz5_3 := blk_frozen BK233.out 3))
 go_loopg [7, 8] k (fun kq v7 v8 w' => ∃ (x7_1 : List (S25)) (x8_1 : Int), v8 = .int .i64 x8_1 ∧ Aside0 (wigeonref02_dark.l0 kq l0 l1 x7_1 x8_1 a2_0 a2_1 a2_2 a2_3 = some r) ∧ Aside0 (kq ≤ k) ∧ Aside0 (Kd.R k25 25 w' w.heap.size (fun _ => True) v7 x7_1) ∧ Aside0 (w'.heap[gb233]? = some (.cells #[.int .i64 a2_0, .int .i64 a2_1, .int .i64 a2_2, .int .i64 a2_3] 27 (0, 0))) ∧ Aside0 (Below w.heap.size w w'))
 case atStart => exact ⟨(([] : List (S25))), (a2_0), (by first | rfl | (simp; done) | (simp [*]; done)), H', ⟨Nat.le_refl _⟩, ⟨by first | exact Kd.R_nil _ _ _ _ _ | exact Kd.N_nil _ _ _ _ _ | exact Kd.V_nil _ _ _ _ _ | exact Kd.Q_nil _ _ _ _ _ | exact Kd.S_nil _ _ _ _ _⟩, ⟨by (with_reducible repeat first|refine bN ?_ _|refine bD ?_|refine bA ?_ _);exact BK233.out⟩, ⟨by repeat (first | (with_reducible first | exact HB.out | apply below_alloc | apply pw_below_drewN | apply below_drew1 | refine below_set ?_ GE233.out) | exact HB.out)⟩⟩
 case round =>(
 clear H'
 try clear c1; try clear p2; try clear c4; try clear hcz5_0; try clear hcz5_1; try clear hcz5_2; try clear hcz5_3; try clear hfz5_0; try clear hfz5_1; try clear hfz5_2; try clear hfz5_3
 obtain ⟨x7_1, x8_1, rfl, HA, HK1, HO_7, BK233, HB⟩ := hrel
 cases gk with
 | zero => exact absurd HA.out (by simp [wigeonref02_dark.l0])
 | succ k1 =>
  have H := HA.out
  clear HA
  simp only [wigeonref02_dark.l0] at H
  by_cases c6 : x8_1 ≤ a2_2
  {
 rw [if_pos c6] at H
 have c6b0 : decide (x8_1 ≤ a2_2) = true := decide_eq_true c6
 clear c6
 have H' := am H
 clear H
 have hcz7_0 : wr.cell? ⟨gb233, 0, none⟩ = some (.int .i64 a2_0) := (blk_cell BK233.out 0).trans rfl
 have hcz7_1 : wr.cell? ⟨gb233, 1, none⟩ = some (.int .i64 a2_1) := (blk_cell BK233.out 1).trans rfl
 have hcz7_2 : wr.cell? ⟨gb233, 2, none⟩ = some (.int .i64 a2_2) := (blk_cell BK233.out 2).trans rfl
 have hcz7_3 : wr.cell? ⟨gb233, 3, none⟩ = some (.int .i64 a2_3) := (blk_cell BK233.out 3).trans rfl
 have hfz7_0 := blk_frozen BK233.out 0
 have hfz7_1 := blk_frozen BK233.out 1
 have hfz7_2 := blk_frozen BK233.out 2
 have hfz7_3 := blk_frozen BK233.out 3
 go_wp2
 go_loopg [7, 9] k1 (fun kq v7 v9 w' => ∃ (x7_2 : List (S25)) (x9_2 : Int), v9 = .int .i64 x9_2 ∧ Aside0 (wigeonref02_dark.l1 kq l0 l1 x7_2 x8_1 x9_2 a2_0 a2_1 a2_2 a2_3 = some r) ∧ Aside0 (kq ≤ k1) ∧ Aside0 (Kd.R k25 25 w' w.heap.size (fun _ => True) v7 x7_2) ∧ Aside0 (w'.heap[gb233]? = some (.cells #[.int .i64 a2_0, .int .i64 a2_1, .int .i64 a2_2, .int .i64 a2_3] 27 (0, 0))) ∧ Aside0 (Below w.heap.size w w'))
 case atStart => exact ⟨(x7_1), (a2_1), (by first | rfl | (simp; done) | (simp [*]; done)), H', ⟨Nat.le_refl _⟩, ⟨by (with_reducible repeat first|apply Kd.R_alloc|apply Kd.R_drewN|apply Kd.R_drew);exact HO_7.out⟩, ⟨by (with_reducible repeat first|refine bN ?_ _|refine bD ?_|refine bA ?_ _);exact BK233.out⟩, ⟨by repeat (first | (with_reducible first | exact HB.out | apply below_alloc | apply pw_below_drewN | apply below_drew1 | refine below_set ?_ GE233.out) | exact HB.out)⟩⟩
 case round =>(
 clear H'
 try clear c1; try clear p2; try clear c4; try clear c6; try clear c6b0; try clear hcz5_0; try clear hcz5_1; try clear hcz5_2; try clear hcz5_3; try clear hcz7_0; try clear hcz7_1; try clear hcz7_2; try clear hcz7_3; try clear hfz5_0; try clear hfz5_1; try clear hfz5_2; try clear hfz5_3; try clear hfz7_0; try clear hfz7_1; try clear hfz7_2; try clear hfz7_3; try clear p2
 obtain ⟨x7_2, x9_2, rfl, HA, HK2, HO_7, BK233, HB⟩ := hrel
 cases gk with
 | zero => exact absurd HA.out (by simp [wigeonref02_dark.l1])
 | succ k2 =>
  have H := HA.out
  clear HA
  simp only [wigeonref02_dark.l1] at H
  by_cases c8 : x9_2 ≤ a2_3
  {
 rw [if_pos c8] at H
 have c8b0 : decide (x9_2 ≤ a2_3) = true := decide_eq_true c8
 clear c8
 replace H := Option.bind_eq_some_iff.mp H
 obtain ⟨t234, A90, H⟩ := H
 replace H : (if (t234.length : Int) = 0 then (if x7_2.length < 8796093022208 then (wigeonref02_dark.l1 k2 l0 l1 (x7_2 ++ [(⟨x8_1, x9_2⟩ : S25)]) x8_1 (wrap64 (x9_2 + 1)) a2_0 a2_1 a2_2 a2_3) else (none)) else (wigeonref02_dark.l1 k2 l0 l1 x7_2 x8_1 (wrap64 (x9_2 + 1)) a2_0 a2_1 a2_2 a2_3)) = some r := H
 have A9 := am A90
 clear A90
 by_cases c10 : (t234.length : Int) = 0
 {
 rw [if_pos c10] at H
 have c10b0 : ((t234.length : Int) == 0) = true := beq_iff_eq.mpr c10
 have c10b1 : ((t234.length : Int) != 0) = false := bne_eq_false_iff_eq.mpr c10
 clear c10
 by_cases c11 : x7_2.length < 8796093022208
 {
 rw [if_pos c11] at H
 have LMc11 := am c11
 clear c11
 obtain ⟨y237, hy237⟩ : ∃ y_ : List (S25), y_ = (x7_2 ++ [(⟨x8_1, x9_2⟩ : S25)]) := ⟨_, rfl⟩
 replace H : (wigeonref02_dark.l1 k2 l0 l1 y237 x8_1 (wrap64 (x9_2 + 1)) a2_0 a2_1 a2_2 a2_3) = some r := by first | (rw [hy237]; with_reducible exact H) | (have H2_ := (Option.bind_some _ _).symm.trans H; rw [hy237]; with_reducible exact H2_) | (have H2_ := (Option.bind_some _ _).symm.trans H; with_reducible exact H2_) | with_reducible exact H | (rw [hy237]; exact H) | exact H
 have Ny237 := am hy237
 clear hy237
 have H' := am H
 clear H
 have hcz12_0 : wr.cell? ⟨gb233, 0, none⟩ = some (.int .i64 a2_0) := (blk_cell BK233.out 0).trans rfl
 have hcz12_1 : wr.cell? ⟨gb233, 1, none⟩ = some (.int .i64 a2_1) := (blk_cell BK233.out 1).trans rfl
 have hcz12_2 : wr.cell? ⟨gb233, 2, none⟩ = some (.int .i64 a2_2) := (blk_cell BK233.out 2).trans rfl
 have hcz12_3 : wr.cell? ⟨gb233, 3, none⟩ = some (.int .i64 a2_3) := (blk_cell BK233.out 3).trans rfl
 have hfz12_0 := blk_frozen BK233.out 0
 have hfz12_1 := blk_frozen BK233.out 1
 have hfz12_2 := blk_frozen BK233.out 2
 have hfz12_3 := blk_frozen BK233.out 3
 go_wp2_with (first | ((with_reducible refine gate_callee (f := 30) rfl ?_); refine goesL_ (some 35) rfl rfl Try.func30 (by kernel_rfl) rfl #[.slice A0 l0.length c0, .slice A1 l1.length c1, .agg #[.int .i64 x8_1, .int .i64 x9_2]] rfl (by (try simp only [List.map_toArray, List.map_cons, List.map_nil]); first | done | rfl | (simp only [List.length_drop, List.length_take]; rfl)) ?_; (with_reducible refine (wigeonref02_seers.calls k2 _ _ l0 _ _ l1 x8_1 x9_2 t234 _ ?side1 ?side2 ?side3 ?side4 A9.out).mono ?_); (case side1 => repeat (first | exact (Kd.C_below HR0.out HB.out) | (with_reducible refine Kd.C_alloc ?_ _) | (with_reducible refine Kd.C_drewN ?_ _) | (with_reducible refine Kd.C_drew ?_))); (case side2 => exact HC0.out); (case side3 => repeat (first | exact (Kd.C_below HR1.out HB.out) | (with_reducible refine Kd.C_alloc ?_ _) | (with_reducible refine Kd.C_drewN ?_ _) | (with_reducible refine Kd.C_drew ?_))); (case side4 => exact HC1.out); rintro e w13 ⟨v235, rfl, ho0, hb⟩; refine ⟨_, rfl, ?_⟩; have n0_ := am (Kd.R_below (by (with_reducible repeat first|apply Kd.R_alloc|apply Kd.R_drewN|apply Kd.R_drew);exact HO_7.out) hb); have n1_ := am (Kd.R_lower ho0 (below_size (by repeat first|(with_reducible first|exact HB.out|apply wA|apply wN|apply wD|refine wS ?_ GE233.out)|exact HB.out))); have n2_ := am (blk_below (by (with_reducible repeat first|refine bN ?_ _|refine bD ?_|refine bA ?_ _);exact BK233.out) hb); have n3_ := am (below_step (by repeat first|(with_reducible first|exact HB.out|apply wA|apply wN|apply wD|refine wS ?_ GE233.out)|exact HB.out) hb); clear HO_7; clear BK233; clear HB; have HO_7 := n0_; have HO236 := n1_; have BK233 := n2_; have HB := n3_; clear n0_ n1_ n2_ n3_; (try clear hb); (try clear hb2); (try clear hk); (try clear hi); (try clear ho0); obtain ⟨Ao14, co14, eo14⟩ := Kd.R_slice HO236.out; subst eo14) | ((with_reducible refine gate_builtin (b := .append) (xs := #[.tmp 38, .tmp 42]) rfl ?_); at_builtin; refine Kd.R_append k25 (w0 := w) w.heap.size rfl (.tmp 38) (.tmp 42) 23 25 (.agg #[(.int .i64 0), (.int .i64 0)]) 16 rfl Try.underlying23 info25 rfl (by decide) (by omega) u7 x7_2 (⟨x8_1, x9_2⟩ : S25) [.int .i64 x8_1, .int .i64 x9_2] (fun _ => True) (fun _ => False) rfl rfl ?aP (fun _ hk => hk.elim) ?aF ?aO ?aB ?aS ?aL ?_; (case aP => exact k25_mkM _ _ _ (⟨x8_1, x9_2⟩ : S25)); (case aB => exact (by repeat first|(with_reducible first|exact HB.out|apply wA|apply wN|apply wD|refine wS ?_ GE233.out)|exact HB.out)); (case aF => exact (fun _ _ => trivial)); (case aO => exact (by (with_reducible repeat first|apply Kd.R_alloc|apply Kd.R_drewN|apply Kd.R_drew);exact HO_7.out)); (case aS => exact (below_size (by repeat first|(with_reducible first|exact HB.out|apply wA|apply wN|apply wD|refine wS ?_ GE233.out)|exact HB.out))); (case aL => have := LMc11.out; omega); intro v238 w15 ho hb hg hat; rw [← Ny237.out] at ho; have n0_ := am (blk_grown (by (with_reducible repeat first|refine bN ?_ _|refine bD ?_|refine bA ?_ _);exact BK233.out) hg (Kd.R_ne HO_7.out BK233.out (by decide))); have n1_ := am (Kd.R_over' (by (with_reducible repeat first|apply Kd.R_alloc|apply Kd.R_drewN|apply Kd.R_drew);exact HO236.out) (Kd.R_typed (by (with_reducible repeat first|apply Kd.R_alloc|apply Kd.R_drewN|apply Kd.R_drew);exact HO_7.out)) (by decide) hg); have n2_ := am (hb); have n3_ := am (ho); clear BK233; clear HO236; clear HB; clear HO_7; have BK233 := n0_; have HO236 := n1_; have HB := n2_; have HO239 := n3_; clear n0_ n1_ n2_ n3_; clear ho hb hg hat))
 go_roundg k2
 case measure => have := HK1.out; have := HK2.out; omega
 case rel => exact ⟨(y237), (wrap64 (x9_2 + 1)), (by first | rfl | (simp; done) | (simp [*]; done)), H', ⟨by have := HK1.out; have := HK2.out; omega⟩, ⟨by (with_reducible repeat first|apply Kd.R_alloc|apply Kd.R_drewN|apply Kd.R_drew);exact HO239.out⟩, ⟨by (with_reducible repeat first|refine bN ?_ _|refine bD ?_|refine bA ?_ _);exact BK233.out⟩, ⟨by repeat (first | (with_reducible first | exact HB.out | apply below_alloc | apply pw_below_drewN | apply below_drew1 | refine below_set ?_ GE233.out) | exact HB.out)⟩⟩}
 rw [if_neg c11] at H
 exact absurd H (by simp)}
 rw [if_neg c10] at H
 have c10b0 : ((t234.length : Int) == 0) = false := beq_eq_false_iff_ne.mpr c10
 have c10b1 : ((t234.length : Int) != 0) = true := bne_iff_ne.mpr c10
 have c10b2 : ¬ (t234 = []) := fun h_ => c10 (by rw [h_]; rfl)
 have H' := am H
 clear H
 have hcz16_0 : wr.cell? ⟨gb233, 0, none⟩ = some (.int .i64 a2_0) := (blk_cell BK233.out 0).trans rfl
 have hcz16_1 : wr.cell? ⟨gb233, 1, none⟩ = some (.int .i64 a2_1) := (blk_cell BK233.out 1).trans rfl
 have hcz16_2 : wr.cell? ⟨gb233, 2, none⟩ = some (.int .i64 a2_2) := (blk_cell BK233.out 2).trans rfl
 have hcz16_3 : wr.cell? ⟨gb233, 3, none⟩ = some (.int .i64 a2_3) := (blk_cell BK233.out 3).trans rfl
 have hfz16_0 := blk_frozen BK233.out 0
 have hfz16_1 := blk_frozen BK233.out 1
 have hfz16_2 := blk_frozen BK233.out 2
 have hfz16_3 := blk_frozen BK233.out 3
 go_wp2_with (first | ((with_reducible refine gate_callee (f := 30) rfl ?_); refine goesL_ (some 35) rfl rfl Try.func30 (by kernel_rfl) rfl #[.slice A0 l0.length c0, .slice A1 l1.length c1, .agg #[.int .i64 x8_1, .int .i64 x9_2]] rfl (by (try simp only [List.map_toArray, List.map_cons, List.map_nil]); first | done | rfl | (simp only [List.length_drop, List.length_take]; rfl)) ?_; (with_reducible refine (wigeonref02_seers.calls k2 _ _ l0 _ _ l1 x8_1 x9_2 t234 _ ?side1 ?side2 ?side3 ?side4 A9.out).mono ?_); (case side1 => repeat (first | exact (Kd.C_below HR0.out HB.out) | (with_reducible refine Kd.C_alloc ?_ _) | (with_reducible refine Kd.C_drewN ?_ _) | (with_reducible refine Kd.C_drew ?_))); (case side2 => exact HC0.out); (case side3 => repeat (first | exact (Kd.C_below HR1.out HB.out) | (with_reducible refine Kd.C_alloc ?_ _) | (with_reducible refine Kd.C_drewN ?_ _) | (with_reducible refine Kd.C_drew ?_))); (case side4 => exact HC1.out); rintro e w17 ⟨v235, rfl, ho0, hb⟩; refine ⟨_, rfl, ?_⟩; have n0_ := am (Kd.R_below (by (with_reducible repeat first|apply Kd.R_alloc|apply Kd.R_drewN|apply Kd.R_drew);exact HO_7.out) hb); have n1_ := am (Kd.R_lower ho0 (below_size (by repeat first|(with_reducible first|exact HB.out|apply wA|apply wN|apply wD|refine wS ?_ GE233.out)|exact HB.out))); have n2_ := am (blk_below (by (with_reducible repeat first|refine bN ?_ _|refine bD ?_|refine bA ?_ _);exact BK233.out) hb); have n3_ := am (below_step (by repeat first|(with_reducible first|exact HB.out|apply wA|apply wN|apply wD|refine wS ?_ GE233.out)|exact HB.out) hb); clear HO_7; clear BK233; clear HB; have HO_7 := n0_; have HO236 := n1_; have BK233 := n2_; have HB := n3_; clear n0_ n1_ n2_ n3_; (try clear hb); (try clear hb2); (try clear hk); (try clear hi); (try clear ho0); obtain ⟨Ao18, co18, eo18⟩ := Kd.R_slice HO236.out; subst eo18))
 go_roundg k2
 case measure => have := HK1.out; have := HK2.out; omega
 case rel => exact ⟨(x7_2), (wrap64 (x9_2 + 1)), (by first | rfl | (simp; done) | (simp [*]; done)), H', ⟨by have := HK1.out; have := HK2.out; omega⟩, ⟨by (with_reducible repeat first|apply Kd.R_alloc|apply Kd.R_drewN|apply Kd.R_drew);exact HO_7.out⟩, ⟨by (with_reducible repeat first|refine bN ?_ _|refine bD ?_|refine bA ?_ _);exact BK233.out⟩, ⟨by repeat (first | (with_reducible first | exact HB.out | apply below_alloc | apply pw_below_drewN | apply below_drew1 | refine below_set ?_ GE233.out) | exact HB.out)⟩⟩}
  rw [if_neg c8] at H
  have c8b0 : decide (x9_2 ≤ a2_3) = false := decide_eq_false c8
  clear c8
  have H' := am H
  clear H
  have hcz19_0 : wr.cell? ⟨gb233, 0, none⟩ = some (.int .i64 a2_0) := (blk_cell BK233.out 0).trans rfl
  have hcz19_1 : wr.cell? ⟨gb233, 1, none⟩ = some (.int .i64 a2_1) := (blk_cell BK233.out 1).trans rfl
  have hcz19_2 : wr.cell? ⟨gb233, 2, none⟩ = some (.int .i64 a2_2) := (blk_cell BK233.out 2).trans rfl
  have hcz19_3 : wr.cell? ⟨gb233, 3, none⟩ = some (.int .i64 a2_3) := (blk_cell BK233.out 3).trans rfl
  have hfz19_0 := blk_frozen BK233.out 0
  have hfz19_1 := blk_frozen BK233.out 1
  have hfz19_2 := blk_frozen BK233.out 2
  have hfz19_3 := blk_frozen BK233.out 3
  go_wp2
  go_roundg k2
  case measure => have := HK1.out; have := HK2.out; omega
  case rel => exact ⟨(x7_2), (wrap64 (x8_1 + 1)), (by first | rfl | (simp; done) | (simp [*]; done)), H', ⟨by have := HK1.out; have := HK2.out; omega⟩, ⟨by (with_reducible repeat first|apply Kd.R_alloc|apply Kd.R_drewN|apply Kd.R_drew);exact HO_7.out⟩, ⟨by (with_reducible repeat first|refine bN ?_ _|refine bD ?_|refine bA ?_ _);exact BK233.out⟩, ⟨by repeat (first | (with_reducible first | exact HB.out | apply below_alloc | apply pw_below_drewN | apply below_drew1 | refine below_set ?_ GE233.out) | exact HB.out)⟩⟩)}
  rw [if_neg c6] at H
  have c6b0 : decide (x8_1 ≤ a2_2) = false := decide_eq_false c6
  clear c6
  obtain rfl := Option.some.inj H
  have hcz20_0 : wr.cell? ⟨gb233, 0, none⟩ = some (.int .i64 a2_0) := (blk_cell BK233.out 0).trans rfl
  have hcz20_1 : wr.cell? ⟨gb233, 1, none⟩ = some (.int .i64 a2_1) := (blk_cell BK233.out 1).trans rfl
  have hcz20_2 : wr.cell? ⟨gb233, 2, none⟩ = some (.int .i64 a2_2) := (blk_cell BK233.out 2).trans rfl
  have hcz20_3 : wr.cell? ⟨gb233, 3, none⟩ = some (.int .i64 a2_3) := (blk_cell BK233.out 3).trans rfl
  have hfz20_0 := blk_frozen BK233.out 0
  have hfz20_1 := blk_frozen BK233.out 1
  have hfz20_2 := blk_frozen BK233.out 2
  have hfz20_3 := blk_frozen BK233.out 3
  go_wp2
  go_ret
  exact ⟨_, by first | rfl | (simp [errW_none, errW_some] <;> rfl) | (simp [*, errW_none, errW_some] <;> rfl), by (with_reducible repeat first|apply Kd.R_alloc|apply Kd.R_drewN|apply Kd.R_drew);exact HO_7.out, by repeat (first | (with_reducible first | exact HB.out | apply below_alloc | apply pw_below_drewN | apply below_drew1 | refine below_set ?_ GE233.out) | exact HB.out)⟩)
end Go.Proofs.Ytieffjkplaajdaa.SW

