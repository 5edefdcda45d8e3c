/- Of the text LVx31, what the row of LurePlans reaches. -/
import Derived.Test.YtnmaonampilmoaaZLurePlansLVx0
import Derived.Test.YtnmaonampilmoaaZLurePlansLVx1
import Derived.Test.YtnmaonampilmoaaZLurePlansLVx3
import Derived.Test.YtnmaonampilmoaaZLurePlansLVx9
namespace Go.Proofs.Ytnmaonampilmoaa.LV
open Go.RowKit Go.Proofs.YtnmaonampilmoaaW.PrintWords Go.Proofs.YtnmaonampilmoaaW.PrintLast Go.Proofs.YtnmaonampilmoaaW.PrintMore
attribute [local go_sem] max2_int min2_int max_two min_two max_three min_three max_four min_four   -- for this text's walks alone
set_option linter.unusedVariables false
set_option linter.unusedSimpArgs false

mutual
def lure_Plan.l0 : Nat → List Int → List Int → List Int → Int → Int → List Int → List (List Int) → Option (List Int × Int)
  | 0, _, _, _, _, _, _, _ => none
  | k + 1, x7, x8, x27, x28, x29, x453000, x453001 => if x29 < x28 then (if 0 ≤ x29 then (if x29 < (x27.length : Int) then (if (rd x27 x29) ≤ 0 then (lure_Plan.j1 k x7 x8 x29 (rd x27 x29) x27 x28 x29 true x453000 x453001) else (if x29 < (x453000.length : Int) then (lure_Plan.j1 k x7 x8 x29 (rd x27 x29) x27 x28 x29 ((rd x453000 x29) != 0) x453000 x453001) else (none))) else (none)) else (none)) else (some (x8, 0))
def lure_Plan.j1 : Nat → List Int → List Int → Int → Int → List Int → Int → Int → Bool → List Int → List (List Int) → Option (List Int × Int)
  | 0, _, _, _, _, _, _, _, _, _, _ => none
  | k + 1, x7, x8, x9, x10, x27, x28, x29, x43, x453000, x453001 => if x43 = true then (lure_Plan.l0 k x7 x8 x27 x28 (wrap64 (x29 + 1)) x453000 x453001) else (if 0 ≤ x9 then (if x9 < (x453001.length : Int) then (lure_Plan.l1 k x7 x8 x9 x10 x27 x28 x29 (rd_L1 x453001 x9) ((rd_L1 x453001 x9).length : Int) 0 x453000 x453001) else (none)) else (none))
def lure_Plan.l1 : Nat → List Int → List Int → Int → Int → List Int → Int → Int → List Int → Int → Int → List Int → List (List Int) → Option (List Int × Int)
  | 0, _, _, _, _, _, _, _, _, _, _, _, _ => none
  | k + 1, x7, x8, x9, x10, x27, x28, x29, x48, x49, x50, x453000, x453001 => if x50 < x49 then (if 0 ≤ x50 then (if x50 < (x48.length : Int) then (if 0 ≤ (rd x48 x50) then (if (rd x48 x50) < (x7.length : Int) then (if (rd x7 (rd x48 x50)) ≥ 0 then (if (rd x7 (rd x48 x50)) < x10 then (if 0 ≤ x9 then (if x9 < (x8.length : Int) then (lure_Plan.l1 k x7 (x8.set (x9 : Int).toNat (rd x48 x50)) x9 x10 x27 x28 x29 x48 x49 (wrap64 (x50 + 1)) x453000 x453001) else (none)) else (none)) else (lure_Plan.l1 k x7 x8 x9 x10 x27 x28 x29 x48 x49 (wrap64 (x50 + 1)) x453000 x453001)) else (lure_Plan.l1 k x7 x8 x9 x10 x27 x28 x29 x48 x49 (wrap64 (x50 + 1)) x453000 x453001)) else (none)) else (none)) else (none)) else (none)) else (lure_Plan.l0 k x7 x8 x27 x28 (wrap64 (x29 + 1)) x453000 x453001)
end
def lure_Plan.f (k : Nat) (l0_0 : List Int) (l0_1 : List (List Int)) (l1 : List Int) : Option (List Int × Int) := (lure_examine.f k l0_0 l0_1 (([l1] : List (List Int)))).bind fun t456 => (if t456 = 0 then ((lure_ranks.f k l0_0 l0_1 l1).bind fun t457 => ((slices_Repeat_int_int.f (([(-1)] : List Int)) (t457.length : Int)).bind fun t463 => (lure_Plan.l0 k t457 t463 t457 (t457.length : Int) 0 l0_0 l0_1))) else (some (([] : List Int), t456)))
set_option maxHeartbeats 8000000 in
set_option maxRecDepth 100000 in
theorem lure_Plan.calls (k : Nat) (A0_0 : Option Addr) (c0_0 : Nat) (l0_0 : List Int) (A0_1 : Option Addr) (c0_1 : Nat) (l0_1 : List (List Int)) (P1_ : Nat → Prop) (A1 : Option Addr) (c1 : Nat) (l1 : List Int) (r1 : List Int) (r2 : Int) (w : World) (hr0_0 : Kd.C (Kd.int .i64) w A0_0 l0_0.length l0_0) (hc0_0 : l0_0.length ≤ c0_0) (hr0_1 : Kd.C (Kd.slice 3 (Kd.int .i64)) w A0_1 l0_1.length l0_1) (hc0_1 : l0_1.length ≤ c0_1) (hs1 : Kd.V (Kd.int .i64) 3 w w.heap.size (fun k_ => P1_ k_) (.slice A1 l1.length c1) l1) (h : lure_Plan.f k l0_0 l0_1 l1 = some (r1, r2)) :
    Calls Try.prog 37 #[.agg #[.slice A0_0 l0_0.length c0_0, .slice A0_1 l0_1.length c0_1], .slice A1 l1.length c1] w fun e w' => ∃ v0_ : Value, e = .returned (.tuple #[v0_, .int .i64 r2]) ∧ Kd.R (Kd.int .i64) 3 w' w.heap.size (fun k_ => (w.heap.size ≤ k_)) v0_ r1 ∧ Below w.heap.size w w' := by
  have hu25 := Try.underlying25
  have HR0_0 := Aside0.mk hr0_0
  have HC0_0 := Aside0.mk hc0_0
  clear hr0_0 hc0_0
  have HR0_1 := Aside0.mk hr0_1
  have HC0_1 := Aside0.mk hc0_1
  clear hr0_1 hc0_1
  have HO1 := Aside0.mk (show Kd.V (Kd.int .i64) 3 w w.heap.size (fun k_ => (P1_ k_ ∨ w.heap.size ≤ k_)) (.slice A1 l1.length c1) l1 from Kd.V_mono hs1 (fun k_ hk => .inl hk))
  have HB := Aside0.mk (Below.refl w.heap.size w)
  have H : ((lure_examine.f k l0_0 l0_1 (([l1] : List (List Int)))).bind fun t456 => (if t456 = 0 then ((lure_ranks.f k l0_0 l0_1 l1).bind fun t457 => ((slices_Repeat_int_int.f (([(-1)] : List Int)) (t457.length : Int)).bind fun t463 => (lure_Plan.l0 k t457 t463 t457 (t457.length : Int) 0 l0_0 l0_1))) else (some (([] : List Int), t456)))) = some (r1, r2) := h
  clear h
  obtain ⟨y453, hy453⟩ : ∃ y_ : List (List Int), y_ = (([l1] : List (List Int))) := ⟨_, rfl⟩
  replace H : ((lure_examine.f k l0_0 l0_1 y453).bind fun t456 => (if t456 = 0 then ((lure_ranks.f k l0_0 l0_1 l1).bind fun t457 => ((slices_Repeat_int_int.f (([(-1)] : List Int)) (t457.length : Int)).bind fun t463 => (lure_Plan.l0 k t457 t463 t457 (t457.length : Int) 0 l0_0 l0_1))) else (some (([] : List Int), t456)))) = some (r1, r2) := by first | (rw [hy453]; with_reducible exact H) | (have H2_ := (Option.bind_some _ _).symm.trans H; rw [hy453]; with_reducible exact H2_) | (have H2_ := (Option.bind_some _ _).symm.trans H; with_reducible exact H2_) | with_reducible exact H | (rw [hy453]; exact H) | exact H
  have Ny453 := Aside0.mk hy453
  clear hy453
  replace H := Option.bind_eq_some_iff.mp H
  obtain ⟨t456, A30, H⟩ := H
  replace H : (if t456 = 0 then ((lure_ranks.f k l0_0 l0_1 l1).bind fun t457 => ((slices_Repeat_int_int.f (([(-1)] : List Int)) (t457.length : Int)).bind fun t463 => (lure_Plan.l0 k t457 t463 t457 (t457.length : Int) 0 l0_0 l0_1))) else (some (([] : List Int), t456))) = some (r1, r2) := H
  have A3 := Aside0.mk A30
  clear A30
  by_cases c4 : t456 = 0
  · rw [if_pos c4] at H
    have c4b0 : (t456 == 0) = true := beq_iff_eq.mpr c4
    have c4b1 : (t456 != 0) = false := bne_eq_false_iff_eq.mpr c4
    clear c4
    replace H := Option.bind_eq_some_iff.mp H
    obtain ⟨t457, A50, H⟩ := H
    replace H : ((slices_Repeat_int_int.f (([(-1)] : List Int)) (t457.length : Int)).bind fun t463 => (lure_Plan.l0 k t457 t463 t457 (t457.length : Int) 0 l0_0 l0_1)) = some (r1, r2) := H
    have A5 := Aside0.mk A50
    clear A50
    obtain ⟨y460, hy460⟩ : ∃ y_ : List Int, y_ = (([(-1)] : List Int)) := ⟨_, rfl⟩
    replace H : ((slices_Repeat_int_int.f y460 (t457.length : Int)).bind fun t463 => (lure_Plan.l0 k t457 t463 t457 (t457.length : Int) 0 l0_0 l0_1)) = some (r1, r2) := by first | (rw [hy460]; with_reducible exact H) | (have H2_ := (Option.bind_some _ _).symm.trans H; rw [hy460]; with_reducible exact H2_) | (have H2_ := (Option.bind_some _ _).symm.trans H; with_reducible exact H2_) | with_reducible exact H | (rw [hy460]; exact H) | exact H
    have Ny460 := Aside0.mk hy460
    clear hy460
    replace H := Option.bind_eq_some_iff.mp H
    obtain ⟨t463, A60, H⟩ := H
    replace H : (lure_Plan.l0 k t457 t463 t457 (t457.length : Int) 0 l0_0 l0_1) = some (r1, r2) := H
    have A6 := Aside0.mk A60
    clear A60
    have H' := Aside0.mk H
    clear H
    go_enter Try.func37, Try.ntmps37
    go_wp2_with (first | ((with_reducible refine gate_dst (N := 2) rfl ?_); refine box_event ?hg (N := 2) ?hd (cs := #[.slice A0_0 l0_0.length c0_0, .slice A0_1 l0_1.length c0_1]) (t := 25) ?hr ?_; (case hd => rfl); (case hg => rfl); (case hr => first | (go_simp; done) | (go_simp; rfl)); intro gb452 hg w7 hbox hb; have n0_ := Aside0.mk (Kd.V_below (Kd.V_elderB (by (with_reducible repeat (first | apply Kd.V_alloc | apply Kd.V_drewN | apply Kd.V_drew)); exact HO1.out) gb452 (Nat.le_of_eq hg.symm)) hb); have n1_ := Aside0.mk (below_step (by repeat (first | (with_reducible first | exact HB.out | apply below_alloc | apply pw_below_drewN | apply below_drew1) | exact HB.out)) hb); have n2_ := Aside0.mk (hbox); have n3_ := Aside0.mk ((by rw [hg]; exact (below_size (by repeat (first | (with_reducible first | exact HB.out | apply below_alloc | apply pw_below_drewN | apply below_drew1) | exact HB.out))) : w.heap.size ≤ gb452)); have n4_ := Aside0.mk ((by rw [hg]; exact (below_size (by repeat (first | (with_reducible first | exact HB.out | apply below_alloc | apply pw_below_drewN | apply below_drew1) | exact HB.out))) : w.heap.size ≤ gb452)); clear HO1; clear HB; have HO1 := n0_; have HB := n1_; have BK452 := n2_; have GW452 := n3_; have GE452 := n4_; clear n0_ n1_ n2_ n3_ n4_; clear hb hbox hg; have hcz8_0 : w7.cell? ⟨gb452, 0, none⟩ = some (.slice A0_0 l0_0.length c0_0) := (blk_cell BK452.out 0).trans rfl; have hcz8_1 : w7.cell? ⟨gb452, 1, none⟩ = some (.slice A0_1 l0_1.length c0_1) := (blk_cell BK452.out 1).trans rfl; have hfz8_0 := blk_frozen BK452.out 0; have hfz8_1 := blk_frozen BK452.out 1) | ((with_reducible refine gate_dst (N := 15) rfl ?_); refine Kd.N_lit (Kd.slice 3 (Kd.int .i64)) _ 22 ?hg (N' := 15) ?hd (xs := ([l1] : List (List Int))) (inner := [.slice A1 l1.length c1]) (ok := (fun k_ => (P1_ k_ ∨ w.heap.size ≤ k_) ∧ k_ ≠ gb452)) (okp := (fun k_ => (P1_ k_ ∨ w.heap.size ≤ k_) ∧ k_ ≠ gb452)) ?hr ?hp (fun _ hk => hk) ((show ∀ k_, w7.heap.size ≤ k_ → (fun k_ => (P1_ k_ ∨ w.heap.size ≤ k_) ∧ k_ ≠ gb452) k_ from fun k_ hk => ⟨(.inr (Nat.le_trans (below_size (by repeat (first | (with_reducible first | exact HB.out | apply below_alloc | apply pw_below_drewN | apply below_drew1 | refine below_set ?_ GE452.out) | exact HB.out))) hk)), Kd.freshB (g := gb452) (o := .cells #[.slice A0_0 l0_0.length c0_0, .slice A0_1 l0_1.length c0_1] 25 (0, 0)) (by (with_reducible repeat (first | refine blk_drewN ?_ _ | refine blk_drew ?_ | refine blk_alloc ?_ _)); exact BK452.out) k_ hk⟩) _ (Nat.le_refl _)) (Below.refl _ _) (Nat.le_refl _) (by simp) ?_; (case hd => rfl); (case hg => rfl); (case hr => first | (go_simp; done) | (go_simp; rfl)); (case hp => exact (Reps.one (show Kd.FK (Kd.slice 3 (Kd.int .i64)) _ _ l1 [.slice A1 l1.length c1] from (Kd.FK_slice_mk (Kd.V_reads' (Kd.V_mono (ok' := (fun k_ => (P1_ k_ ∨ w.heap.size ≤ k_) ∧ k_ ≠ gb452)) (HO1.out) (fun k_ hk => ⟨hk.1, hk.2⟩))).2.1 (Kd.V_F (Kd.V_mono (ok' := (fun k_ => (P1_ k_ ∨ w.heap.size ≤ k_) ∧ k_ ≠ gb452)) (HO1.out) (fun k_ hk => ⟨hk.1, hk.2⟩))))) (Reps.none _ _))); intro v454 w9 ho10 hb hg_ hnew_; clear hg_ hnew_; (first | rw [← Ny453.out] at ho10 | (simp only [Int.reduceToNat] at ho10; rw [← Ny453.out] at ho10)); have n0_ := Aside0.mk (Kd.V_elder' (by (with_reducible repeat (first | apply Kd.V_alloc | apply Kd.V_drewN | apply Kd.V_drew)); exact HO1.out) (Kd.N_base ho10) hb); have n1_ := Aside0.mk (Kd.N_lower ho10 (below_size (by repeat (first | (with_reducible first | exact HB.out | apply below_alloc | apply pw_below_drewN | apply below_drew1 | refine below_set ?_ GE452.out) | exact HB.out)))); have n2_ := Aside0.mk (blk_below (g := gb452) (o := .cells #[.slice A0_0 l0_0.length c0_0, .slice A0_1 l0_1.length c0_1] 25 (0, 0)) (by (with_reducible repeat (first | refine blk_drewN ?_ _ | refine blk_drew ?_ | refine blk_alloc ?_ _)); exact BK452.out) hb); have n3_ := Aside0.mk (below_step (by repeat (first | (with_reducible first | exact HB.out | apply below_alloc | apply pw_below_drewN | apply below_drew1 | refine below_set ?_ GE452.out) | exact HB.out)) hb); clear HO1; clear BK452; clear HB; have HO1 := n0_; have HO455 := n1_; have BK452 := n2_; have HB := n3_; clear n0_ n1_ n2_ n3_; clear hb ho10; obtain ⟨Ao11, co11, eo11⟩ := Kd.N_slice HO455.out; subst eo11) | ((with_reducible refine gate_callee (f := 47) rfl ?_); refine goesL_ (some 16) rfl rfl Try.func47 (by kernel_rfl) rfl #[.agg #[.slice A0_0 l0_0.length c0_0, .slice A0_1 l0_1.length c0_1], .slice Ao11 y453.length co11] rfl (by (try simp only [List.map_toArray, List.map_cons, List.map_nil]); first | done | rfl | (simp only [List.length_drop, List.length_take]; rfl)) ?_; (with_reducible refine (lure_examine.calls k _ _ l0_0 _ _ l0_1 _ _ y453 t456 _ ?side1 ?side2 ?side3 ?side4 ?side5 ?side6 A3.out).mono ?_); (case side1 => repeat (first | exact (Kd.C_below HR0_0.out HB.out) | (with_reducible refine Kd.C_alloc ?_ _) | (with_reducible refine Kd.C_drewN ?_ _) | (with_reducible refine Kd.C_drew ?_))); (case side2 => exact HC0_0.out); (case side3 => repeat (first | exact (Kd.C_below HR0_1.out HB.out) | (with_reducible refine Kd.C_alloc ?_ _) | (with_reducible refine Kd.C_drewN ?_ _) | (with_reducible refine Kd.C_drew ?_))); (case side4 => exact HC0_1.out); (case side5 => repeat (first | exact (Kd.N_reads' HO455.out).2.2 | (with_reducible refine Kd.C_alloc ?_ _) | (with_reducible refine Kd.C_drewN ?_ _) | (with_reducible refine Kd.C_drew ?_))); (case side6 => exact (Kd.N_reads' HO455.out).2.1); rintro e w12 ⟨rfl, hb⟩; refine ⟨_, rfl, ?_⟩; have n0_ := Aside0.mk (Kd.V_below (by (with_reducible repeat (first | apply Kd.V_alloc | apply Kd.V_drewN | apply Kd.V_drew)); exact HO1.out) hb); have n1_ := Aside0.mk (Kd.N_below (by (with_reducible repeat (first | apply Kd.N_alloc | apply Kd.N_drewN | apply Kd.N_drew)); exact HO455.out) hb); have n2_ := Aside0.mk (blk_below (g := gb452) (o := .cells #[.slice A0_0 l0_0.length c0_0, .slice A0_1 l0_1.length c0_1] 25 (0, 0)) (by (with_reducible repeat (first | refine blk_drewN ?_ _ | refine blk_drew ?_ | refine blk_alloc ?_ _)); exact BK452.out) hb); have n3_ := Aside0.mk (below_step (by repeat (first | (with_reducible first | exact HB.out | apply below_alloc | apply pw_below_drewN | apply below_drew1 | refine below_set ?_ GE452.out) | exact HB.out)) hb); clear HO1; clear HO455; clear BK452; clear HB; have HO1 := n0_; have HO455 := n1_; have BK452 := n2_; have HB := n3_; clear n0_ n1_ n2_ n3_; (try clear hb); (try clear hb2); (try clear hk); (try clear hi); have hcz13_0 : w12.cell? ⟨gb452, 0, none⟩ = some (.slice A0_0 l0_0.length c0_0) := (blk_cell BK452.out 0).trans rfl; have hcz13_1 : w12.cell? ⟨gb452, 1, none⟩ = some (.slice A0_1 l0_1.length c0_1) := (blk_cell BK452.out 1).trans rfl; have hfz13_0 := blk_frozen BK452.out 0; have hfz13_1 := blk_frozen BK452.out 1) | ((with_reducible refine gate_callee (f := 48) rfl ?_); refine goesL_ (some 22) rfl rfl Try.func48 (by kernel_rfl) rfl #[.agg #[.slice A0_0 l0_0.length c0_0, .slice A0_1 l0_1.length c0_1], .slice A1 l1.length c1] rfl (by (try simp only [List.map_toArray, List.map_cons, List.map_nil]); first | done | rfl | (simp only [List.length_drop, List.length_take]; rfl)) ?_; (with_reducible refine (lure_ranks.calls k _ _ l0_0 _ _ l0_1 _ _ l1 t457 _ ?side1 ?side2 ?side3 ?side4 ?side5 ?side6 A5.out).mono ?_); (case side1 => repeat (first | exact (Kd.C_below HR0_0.out HB.out) | (with_reducible refine Kd.C_alloc ?_ _) | (with_reducible refine Kd.C_drewN ?_ _) | (with_reducible refine Kd.C_drew ?_))); (case side2 => exact HC0_0.out); (case side3 => repeat (first | exact (Kd.C_below HR0_1.out HB.out) | (with_reducible refine Kd.C_alloc ?_ _) | (with_reducible refine Kd.C_drewN ?_ _) | (with_reducible refine Kd.C_drew ?_))); (case side4 => exact HC0_1.out); (case side5 => repeat (first | exact (Kd.V_reads' HO1.out).2.2 | (with_reducible refine Kd.C_alloc ?_ _) | (with_reducible refine Kd.C_drewN ?_ _) | (with_reducible refine Kd.C_drew ?_))); (case side6 => exact (Kd.V_reads' HO1.out).2.1); rintro e w14 ⟨v458, rfl, ho0, hb⟩; refine ⟨_, rfl, ?_⟩; have n0_ := Aside0.mk (Kd.V_elder' (by (with_reducible repeat (first | apply Kd.V_alloc | apply Kd.V_drewN | apply Kd.V_drew)); exact HO1.out) (Kd.R_base ho0) hb); have n1_ := Aside0.mk (Kd.N_elder' (by (with_reducible repeat (first | apply Kd.N_alloc | apply Kd.N_drewN | apply Kd.N_drew)); exact HO455.out) (Kd.R_base ho0) hb); have n2_ := Aside0.mk (Kd.R_lower (Kd.R_newM (M := fun k_ => (w.heap.size ≤ k_)) ho0 (below_size (by repeat (first | (with_reducible first | exact HB.out | apply below_alloc | apply pw_below_drewN | apply below_drew1 | refine below_set ?_ GE452.out) | exact HB.out))) (fun k_ h_ => h_)) (below_size (by repeat (first | (with_reducible first | exact HB.out | apply below_alloc | apply pw_below_drewN | apply below_drew1 | refine below_set ?_ GE452.out) | exact HB.out)))); have n3_ := Aside0.mk (blk_below (g := gb452) (o := .cells #[.slice A0_0 l0_0.length c0_0, .slice A0_1 l0_1.length c0_1] 25 (0, 0)) (by (with_reducible repeat (first | refine blk_drewN ?_ _ | refine blk_drew ?_ | refine blk_alloc ?_ _)); exact BK452.out) hb); have n4_ := Aside0.mk (below_step (by repeat (first | (with_reducible first | exact HB.out | apply below_alloc | apply pw_below_drewN | apply below_drew1 | refine below_set ?_ GE452.out) | exact HB.out)) hb); clear HO1; clear HO455; clear BK452; clear HB; have HO1 := n0_; have HO455 := n1_; have HO459 := n2_; have BK452 := n3_; have HB := n4_; clear n0_ n1_ n2_ n3_ n4_; (try clear hb); (try clear hb2); (try clear hk); (try clear hi); (try clear ho0)) | ((with_reducible refine gate_dst (N := 23) rfl ?_); refine Kd.R_lit (Kd.int .i64) _ 3 ?hg (N := 23) ?hd (xs := ([(-1)] : List Int)) (inner := [.int .i64 (-1)]) (ok := fun _ => True) (okp := fun _ => True) ?hr ?hp (fun _ hk => hk) trivial (Below.refl _ _) (Nat.le_refl _) (by simp) ?_; (case hd => rfl); (case hg => rfl); (case hr => first | (go_simp; done) | (go_simp; rfl)); (case hp => exact (Reps.one (show Kd.M (Kd.int .i64) _ _ _ (-1) [.int .i64 (-1)] from rfl) (Reps.none _ _))); intro v461 w15 ho16 hb hg_ hnew_; clear hg_ hnew_; (first | rw [← Ny460.out] at ho16 | (simp only [Int.reduceToNat] at ho16; rw [← Ny460.out] at ho16)); have n0_ := Aside0.mk (Kd.V_elder' (by (with_reducible repeat (first | apply Kd.V_alloc | apply Kd.V_drewN | apply Kd.V_drew)); exact HO1.out) (Kd.R_base ho16) hb); have n1_ := Aside0.mk (Kd.N_elder' (by (with_reducible repeat (first | apply Kd.N_alloc | apply Kd.N_drewN | apply Kd.N_drew)); exact HO455.out) (Kd.R_base ho16) hb); have n2_ := Aside0.mk (Kd.R_elder' (by (with_reducible repeat (first | apply Kd.R_alloc | apply Kd.R_drewN | apply Kd.R_drew)); exact HO459.out) (Kd.R_base ho16) hb); have n3_ := Aside0.mk (Kd.R_lower (Kd.R_new' (Kd.R_newM (M := fun k_ => (w.heap.size ≤ k_)) ho16 (below_size (by repeat (first | (with_reducible first | exact HB.out | apply below_alloc | apply pw_below_drewN | apply below_drew1 | refine below_set ?_ GE452.out) | exact HB.out))) (fun k_ h_ => h_)) (Kd.R_lt (by (with_reducible repeat (first | apply Kd.R_alloc | apply Kd.R_drewN | apply Kd.R_drew)); exact HO459.out))) (below_size (by repeat (first | (with_reducible first | exact HB.out | apply below_alloc | apply pw_below_drewN | apply below_drew1 | refine below_set ?_ GE452.out) | exact HB.out)))); have n4_ := Aside0.mk (blk_below (g := gb452) (o := .cells #[.slice A0_0 l0_0.length c0_0, .slice A0_1 l0_1.length c0_1] 25 (0, 0)) (by (with_reducible repeat (first | refine blk_drewN ?_ _ | refine blk_drew ?_ | refine blk_alloc ?_ _)); exact BK452.out) hb); have n5_ := Aside0.mk (below_step (by repeat (first | (with_reducible first | exact HB.out | apply below_alloc | apply pw_below_drewN | apply below_drew1 | refine below_set ?_ GE452.out) | exact HB.out)) hb); clear HO1; clear HO455; clear HO459; clear BK452; clear HB; have HO1 := n0_; have HO455 := n1_; have HO459 := n2_; have HO462 := n3_; have BK452 := n4_; have HB := n5_; clear n0_ n1_ n2_ n3_ n4_ n5_; clear hb ho16; obtain ⟨Ao17, co17, eo17⟩ := Kd.R_slice HO459.out; subst eo17; obtain ⟨Ao18, co18, eo18⟩ := Kd.R_slice HO462.out; subst eo18) | ((with_reducible refine gate_callee (f := 69) rfl ?_); refine goesL_ (some 26) rfl rfl Try.func69 (by kernel_rfl) rfl #[.slice Ao18 y460.length co18, .int .i64 (t457.length : Int)] rfl (by (try simp only [List.map_toArray, List.map_cons, List.map_nil]); first | done | rfl | (simp only [List.length_drop, List.length_take]; rfl)) ?_; (with_reducible refine (slices_Repeat_int_int.calls _ _ y460 (t457.length : Int) t463 _ ?side1 ?side2 A6.out).mono ?_); (case side1 => repeat (first | exact (Kd.R_reads' HO462.out).2.2 | (with_reducible refine Kd.C_alloc ?_ _) | (with_reducible refine Kd.C_drewN ?_ _) | (with_reducible refine Kd.C_drew ?_))); (case side2 => exact (Kd.R_reads' HO462.out).2.1); rintro e w19 ⟨v464, rfl, ho0, hb⟩; refine ⟨_, rfl, ?_⟩; have n0_ := Aside0.mk (Kd.V_elder' (by (with_reducible repeat (first | apply Kd.V_alloc | apply Kd.V_drewN | apply Kd.V_drew)); exact HO1.out) (Kd.R_base ho0) hb); have n1_ := Aside0.mk (Kd.N_elder' (by (with_reducible repeat (first | apply Kd.N_alloc | apply Kd.N_drewN | apply Kd.N_drew)); exact HO455.out) (Kd.R_base ho0) hb); have n2_ := Aside0.mk (Kd.R_elder' (by (with_reducible repeat (first | apply Kd.R_alloc | apply Kd.R_drewN | apply Kd.R_drew)); exact HO459.out) (Kd.R_base ho0) hb); have n3_ := Aside0.mk (Kd.R_elder' (by (with_reducible repeat (first | apply Kd.R_alloc | apply Kd.R_drewN | apply Kd.R_drew)); exact HO462.out) (Kd.R_base ho0) hb); have n4_ := Aside0.mk (Kd.R_lower (Kd.R_new' (Kd.R_new' (Kd.R_newM (M := fun k_ => (w.heap.size ≤ k_)) ho0 (below_size (by repeat (first | (with_reducible first | exact HB.out | apply below_alloc | apply pw_below_drewN | apply below_drew1 | refine below_set ?_ GE452.out) | exact HB.out))) (fun k_ h_ => h_)) (Kd.R_lt (by (with_reducible repeat (first | apply Kd.R_alloc | apply Kd.R_drewN | apply Kd.R_drew)); exact HO459.out))) (Kd.R_lt (by (with_reducible repeat (first | apply Kd.R_alloc | apply Kd.R_drewN | apply Kd.R_drew)); exact HO462.out))) (below_size (by repeat (first | (with_reducible first | exact HB.out | apply below_alloc | apply pw_below_drewN | apply below_drew1 | refine below_set ?_ GE452.out) | exact HB.out)))); have n5_ := Aside0.mk (blk_below (g := gb452) (o := .cells #[.slice A0_0 l0_0.length c0_0, .slice A0_1 l0_1.length c0_1] 25 (0, 0)) (by (with_reducible repeat (first | refine blk_drewN ?_ _ | refine blk_drew ?_ | refine blk_alloc ?_ _)); exact BK452.out) hb); have n6_ := Aside0.mk (below_step (by repeat (first | (with_reducible first | exact HB.out | apply below_alloc | apply pw_below_drewN | apply below_drew1 | refine below_set ?_ GE452.out) | exact HB.out)) hb); clear HO1; clear HO455; clear HO459; clear HO462; clear BK452; clear HB; have HO1 := n0_; have HO455 := n1_; have HO459 := n2_; have HO462 := n3_; have HO465 := n4_; have BK452 := n5_; have HB := n6_; clear n0_ n1_ n2_ n3_ n4_ n5_ n6_; (try clear hb); (try clear hb2); (try clear hk); (try clear hi); (try clear ho0)))
    go_loopg [29] k (fun kq v29 w' => ∃ (x8_1 : List Int) (x29_1 : Int), v29 = .int .i64 x29_1 ∧ Aside0 (lure_Plan.l0 kq t457 x8_1 t457 (t457.length : Int) x29_1 l0_0 l0_1 = some (r1, r2)) ∧ Aside0 (kq ≤ k) ∧ Aside0 (Kd.R (Kd.int .i64) 3 w' w.heap.size (fun k_ => (w.heap.size ≤ k_) ∧ some k_ ≠ (v464 : Value).ownBlock) (.slice Ao17 t457.length co17) t457) ∧ Aside0 (Kd.R (Kd.int .i64) 3 w' w.heap.size (fun k_ => (w.heap.size ≤ k_) ∧ some k_ ≠ ((.slice Ao17 t457.length co17) : Value).ownBlock ∧ some k_ ≠ ((.slice Ao17 t457.length co17) : Value).ownBlock) v464 x8_1) ∧ Aside0 (Kd.R (Kd.int .i64) 3 w' w.heap.size (fun k_ => (w.heap.size ≤ k_) ∧ some k_ ≠ (v464 : Value).ownBlock) (.slice Ao17 t457.length co17) t457) ∧ Aside0 (w'.heap[gb452]? = some (.cells #[(.slice A0_0 l0_0.length c0_0), (.slice A0_1 l0_1.length c0_1)] 25 (0, 0))) ∧ Aside0 (Below w.heap.size w w'))
    case atStart => exact ⟨(t463), (0), (by first | rfl | (simp; done) | (simp [*]; done)), H', ⟨Nat.le_refl _⟩, ⟨by (with_reducible repeat (first | apply Kd.R_alloc | apply Kd.R_drewN | apply Kd.R_drew)); exact Kd.R_mono HO459.out (fun _ hk => ⟨hk.1.1.1, hk.2⟩)⟩, ⟨by (with_reducible repeat (first | apply Kd.R_alloc | apply Kd.R_drewN | apply Kd.R_drew)); exact Kd.R_mono HO465.out (fun _ hk => ⟨hk.1.1.1, ⟨hk.1.2, hk.1.2⟩⟩)⟩, ⟨by (with_reducible repeat (first | apply Kd.R_alloc | apply Kd.R_drewN | apply Kd.R_drew)); exact Kd.R_mono HO459.out (fun _ hk => ⟨hk.1.1.1, hk.2⟩)⟩, ⟨by (with_reducible repeat (first | refine blk_drewN ?_ _ | refine blk_drew ?_ | refine blk_alloc ?_ _)); exact BK452.out⟩, ⟨by repeat (first | (with_reducible first | exact HB.out | apply below_alloc | apply pw_below_drewN | apply below_drew1 | refine below_set ?_ GE452.out) | exact HB.out)⟩⟩
    case round =>
      clear H'
      try clear c1
      try clear p2
      try clear c3
      try clear c4
      try clear c4b0
      try clear c4b1
      try clear c6
      try clear hcz13_0
      try clear hcz13_1
      try clear hcz8_0
      try clear hcz8_1
      try clear hfz13_0
      try clear hfz13_1
      try clear hfz8_0
      try clear hfz8_1
      obtain ⟨x8_1, x29_1, rfl, HA, HK1, HO_7, HO_8, HO_27, BK452, HB⟩ := hrel
      cases gk with
      | zero => exact absurd HA.out (by simp [lure_Plan.l0])
      | succ k1 =>
        have H := HA.out
        clear HA
        simp only [lure_Plan.l0] at H
        by_cases c20 : x29_1 < (t457.length : Int)
        · rw [if_pos c20] at H
          have c20b0 : decide (x29_1 < (t457.length : Int)) = true := decide_eq_true c20
          clear c20
          by_cases c21 : 0 ≤ x29_1
          · rw [if_pos c21] at H
            have c21b0 : decide (0 ≤ x29_1) = true := decide_eq_true c21
            clear c21
            by_cases c22 : x29_1 < (t457.length : Int)
            · rw [if_pos c22] at H
              have c22b0 : decide (x29_1 < (t457.length : Int)) = true := decide_eq_true c22
              clear c22
              have HC23 := Aside0.mk H
              clear H
              have p466 : 0 ≤ (x29_1 : Int) := of_decide_eq_true (by first | (with_reducible assumption) | assumption)
              have q466 : x29_1 < (t457.length : Int) := of_decide_eq_true (by first | (with_reducible assumption) | assumption)
              obtain ⟨ad466, e466, hx466_0⟩ := Kd.at_int (Kd.R_reads' HO_27.out).2.2 x29_1 p466 q466
              cases e466
              replace p466 := eq_true p466
              replace q466 := eq_true q466
              go_upto_region 9 with (fail)
              go_cut [43] (fun v43 wc => ∃ (kq : Nat) (x43_22 : Bool), v43 = .bool x43_22 ∧ Aside0 (lure_Plan.j1 kq t457 x8_1 x29_1 (rd t457 x29_1) t457 (t457.length : Int) x29_1 x43_22 l0_0 l0_1 = some (r1, r2)) ∧ Aside0 (kq ≤ k1) ∧ Aside0 (Kd.R (Kd.int .i64) 3 wc w.heap.size (fun k_ => (w.heap.size ≤ k_) ∧ some k_ ≠ (v464 : Value).ownBlock) (.slice (some ad466) t457.length co17) t457) ∧ Aside0 (Kd.R (Kd.int .i64) 3 wc w.heap.size (fun k_ => (w.heap.size ≤ k_) ∧ some k_ ≠ ((.slice (some ad466) t457.length co17) : Value).ownBlock ∧ some k_ ≠ ((.slice (some ad466) t457.length co17) : Value).ownBlock) v464 x8_1) ∧ Aside0 (Kd.R (Kd.int .i64) 3 wc w.heap.size (fun k_ => (w.heap.size ≤ k_) ∧ some k_ ≠ (v464 : Value).ownBlock) (.slice (some ad466) t457.length co17) t457) ∧ Aside0 (wc.heap[gb452]? = some (.cells #[(.slice A0_0 l0_0.length c0_0), (.slice A0_1 l0_1.length c0_1)] 25 (0, 0))) ∧ Aside0 (Below w.heap.size w wc))
              case first =>
                have H := HC23.out
                clear HC23
                by_cases c24 : (rd t457 x29_1) ≤ 0
                · rw [if_pos c24] at H
                  have c24b0 : decide ((rd t457 x29_1) ≤ 0) = true := decide_eq_true c24
                  clear c24
                  (first | rw [c24b0] | (simp only [i64_w, i32_w]; rw [c24b0]) | skip)
                  have H' := Aside0.mk H
                  clear H
                  go_wp2
                  go_meet
                  case rel => exact ⟨_, (true), (by first | rfl | (simp; done) | (simp [*]; done)), H', ⟨by have := HK1.out; first | omega | exact Nat.le_refl _⟩, ⟨by (with_reducible repeat (first | apply Kd.R_alloc | apply Kd.R_drewN | apply Kd.R_drew)); exact HO_7.out⟩, ⟨by (with_reducible repeat (first | apply Kd.R_alloc | apply Kd.R_drewN | apply Kd.R_drew)); exact HO_8.out⟩, ⟨by (with_reducible repeat (first | apply Kd.R_alloc | apply Kd.R_drewN | apply Kd.R_drew)); exact HO_27.out⟩, ⟨by (with_reducible repeat (first | refine blk_drewN ?_ _ | refine blk_drew ?_ | refine blk_alloc ?_ _)); exact BK452.out⟩, ⟨by repeat (first | (with_reducible first | exact HB.out | apply below_alloc | apply pw_below_drewN | apply below_drew1 | refine below_set ?_ GE452.out) | exact HB.out)⟩⟩
                · rw [if_neg c24] at H
                  have c24b0 : decide ((rd t457 x29_1) ≤ 0) = false := decide_eq_false c24
                  clear c24
                  (first | rw [c24b0] | (simp only [i64_w, i32_w]; rw [c24b0]) | skip)
                  by_cases c25 : x29_1 < (l0_0.length : Int)
                  · rw [if_pos c25] at H
                    have c25b0 : decide (x29_1 < (l0_0.length : Int)) = true := decide_eq_true c25
                    clear c25
                    have H' := Aside0.mk H
                    clear H
                    have hcz26_0 : wr.cell? ⟨gb452, 0, none⟩ = some (.slice A0_0 l0_0.length c0_0) := (blk_cell BK452.out 0).trans rfl
                    have hcz26_1 : wr.cell? ⟨gb452, 1, none⟩ = some (.slice A0_1 l0_1.length c0_1) := (blk_cell BK452.out 1).trans rfl
                    have hfz26_0 := blk_frozen BK452.out 0
                    have hfz26_1 := blk_frozen BK452.out 1
                    have p467 : 0 ≤ (x29_1 : Int) := of_decide_eq_true (by first | (with_reducible assumption) | assumption)
                    have q467 : x29_1 < (l0_0.length : Int) := of_decide_eq_true (by first | (with_reducible assumption) | assumption)
                    obtain ⟨ad467, e467, hx467_0⟩ := Kd.at_int HR0_0.out x29_1 p467 q467
                    cases e467
                    replace hx467_0 := (HB.out.cell (World.block_lt_of_cell? w _ hx467_0)).trans hx467_0
                    replace p467 := eq_true p467
                    replace q467 := eq_true q467
                    go_wp2
                    go_meet
                    case rel => exact ⟨_, (((rd l0_0 x29_1) != 0)), (by first | rfl | (simp; done) | (simp [*]; done)), H', ⟨by have := HK1.out; first | omega | exact Nat.le_refl _⟩, ⟨by (with_reducible repeat (first | apply Kd.R_alloc | apply Kd.R_drewN | apply Kd.R_drew)); exact HO_7.out⟩, ⟨by (with_reducible repeat (first | apply Kd.R_alloc | apply Kd.R_drewN | apply Kd.R_drew)); exact HO_8.out⟩, ⟨by (with_reducible repeat (first | apply Kd.R_alloc | apply Kd.R_drewN | apply Kd.R_drew)); exact HO_27.out⟩, ⟨by (with_reducible repeat (first | refine blk_drewN ?_ _ | refine blk_drew ?_ | refine blk_alloc ?_ _)); exact BK452.out⟩, ⟨by repeat (first | (with_reducible first | exact HB.out | apply below_alloc | apply pw_below_drewN | apply below_drew1 | refine below_set ?_ GE452.out) | exact HB.out)⟩⟩
                  · rw [if_neg c25] at H
                    exact absurd H (by simp)
              case rest =>
                clear HC23
                try clear c1
                try clear c2
                try clear p2
                try clear c3
                try clear c4
                try clear c4b0
                try clear c4b1
                try clear p4
                try clear q4
                try clear hx4
                try clear c6
                try clear c20
                try clear c20b0
                try clear c21
                try clear c21b0
                try clear c22
                try clear c22b0
                try clear c24
                try clear c24b0
                try clear c25
                try clear c25b0
                try clear hcz13_0
                try clear hcz13_1
                try clear hcz26_0
                try clear hcz26_1
                try clear hcz8_0
                try clear hcz8_1
                try clear hfz13_0
                try clear hfz13_1
                try clear hfz26_0
                try clear hfz26_1
                try clear hfz8_0
                try clear hfz8_1
                try clear hx466_0
                try clear hx467_0
                try clear p2
                try clear p466
                try clear p467
                try clear q466
                try clear q467
                obtain ⟨kq, x43_22, rfl, HA, HJ22, HO_7, HO_8, HO_27, BK452, HB⟩ := hcut
                cases kq with
                | zero => exact absurd HA.out (by simp [lure_Plan.j1])
                | succ kj22 =>
                  have H := HA.out
                  clear HA
                  simp only [lure_Plan.j1] at H
                  by_cases c27 : x43_22 = true
                  · subst c27
                    have H1 : (lure_Plan.l0 kj22 t457 x8_1 t457 (t457.length : Int) (wrap64 (x29_1 + 1)) l0_0 l0_1) = some (r1, r2) := by rw [if_pos rfl] at H; exact H
                    clear H
                    have H := H1
                    clear H1
                    have H' := Aside0.mk H
                    clear H
                    go_wp2
                    go_roundg kj22
                    case measure => have := HK1.out; have := HJ22.out; omega
                    case rel => exact ⟨(x8_1), (wrap64 (x29_1 + 1)), (by first | rfl | (simp; done) | (simp [*]; done)), H', ⟨by have := HK1.out; have := HJ22.out; omega⟩, ⟨by (with_reducible repeat (first | apply Kd.R_alloc | apply Kd.R_drewN | apply Kd.R_drew)); exact HO_7.out⟩, ⟨by (with_reducible repeat (first | apply Kd.R_alloc | apply Kd.R_drewN | apply Kd.R_drew)); exact HO_8.out⟩, ⟨by (with_reducible repeat (first | apply Kd.R_alloc | apply Kd.R_drewN | apply Kd.R_drew)); exact HO_27.out⟩, ⟨by (with_reducible repeat (first | refine blk_drewN ?_ _ | refine blk_drew ?_ | refine blk_alloc ?_ _)); exact BK452.out⟩, ⟨by repeat (first | (with_reducible first | exact HB.out | apply below_alloc | apply pw_below_drewN | apply below_drew1 | refine below_set ?_ GE452.out) | exact HB.out)⟩⟩
                  · replace c27 := Bool.eq_false_iff.mpr c27
                    subst c27
                    have H1 : (if 0 ≤ x29_1 then (if x29_1 < (l0_1.length : Int) then (lure_Plan.l1 kj22 t457 x8_1 x29_1 (rd t457 x29_1) t457 (t457.length : Int) x29_1 (rd_L1 l0_1 x29_1) ((rd_L1 l0_1 x29_1).length : Int) 0 l0_0 l0_1) else (none)) else (none)) = some (r1, r2) := by rw [if_neg (show ¬ (false = true) by decide)] at H; exact H
                    clear H
                    have H := H1
                    clear H1
                    by_cases c28 : 0 ≤ x29_1
                    · rw [if_pos c28] at H
                      have c28b0 : decide (0 ≤ x29_1) = true := decide_eq_true c28
                      clear c28
                      by_cases c29 : x29_1 < (l0_1.length : Int)
                      · rw [if_pos c29] at H
                        have c29b0 : decide (x29_1 < (l0_1.length : Int)) = true := decide_eq_true c29
                        clear c29
                        have H' := Aside0.mk H
                        clear H
                        have hcz30_0 : wc.cell? ⟨gb452, 0, none⟩ = some (.slice A0_0 l0_0.length c0_0) := (blk_cell BK452.out 0).trans rfl
                        have hcz30_1 : wc.cell? ⟨gb452, 1, none⟩ = some (.slice A0_1 l0_1.length c0_1) := (blk_cell BK452.out 1).trans rfl
                        have hfz30_0 := blk_frozen BK452.out 0
                        have hfz30_1 := blk_frozen BK452.out 1
                        have p468 : 0 ≤ (x29_1 : Int) := of_decide_eq_true (by first | (with_reducible assumption) | assumption)
                        have q468 : x29_1 < (l0_1.length : Int) := of_decide_eq_true (by first | (with_reducible assumption) | assumption)
                        obtain ⟨ad468, A468_0, c468_0, e468, hx468_0, hl468_0, hi468_0⟩ := at_L1 HR0_1.out x29_1 p468 q468
                        cases e468
                        replace hx468_0 := (HB.out.cell (World.block_lt_of_cell? w _ hx468_0)).trans hx468_0
                        have HR468_0 := Aside0.mk hi468_0
                        have HC468_0 := Aside0.mk hl468_0
                        clear hi468_0 hl468_0
                        replace p468 := eq_true p468
                        replace q468 := eq_true q468
                        go_wp2
                        go_loopg [50] kj22 (fun kq v50 w' => ∃ (x8_3 : List Int) (x50_3 : Int), v50 = .int .i64 x50_3 ∧ Aside0 (lure_Plan.l1 kq t457 x8_3 x29_1 (rd t457 x29_1) t457 (t457.length : Int) x29_1 (rd_L1 l0_1 x29_1) ((rd_L1 l0_1 x29_1).length : Int) x50_3 l0_0 l0_1 = some (r1, r2)) ∧ Aside0 (kq ≤ kj22) ∧ Aside0 (Kd.R (Kd.int .i64) 3 w' w.heap.size (fun k_ => (w.heap.size ≤ k_) ∧ some k_ ≠ (v464 : Value).ownBlock) (.slice (some ad466) t457.length co17) t457) ∧ Aside0 (Kd.R (Kd.int .i64) 3 w' w.heap.size (fun k_ => (w.heap.size ≤ k_) ∧ some k_ ≠ ((.slice (some ad466) t457.length co17) : Value).ownBlock ∧ some k_ ≠ ((.slice (some ad466) t457.length co17) : Value).ownBlock) v464 x8_3) ∧ Aside0 (Kd.R (Kd.int .i64) 3 w' w.heap.size (fun k_ => (w.heap.size ≤ k_) ∧ some k_ ≠ (v464 : Value).ownBlock) (.slice (some ad466) t457.length co17) t457) ∧ Aside0 (w'.heap[gb452]? = some (.cells #[(.slice A0_0 l0_0.length c0_0), (.slice (some ad468) l0_1.length c0_1)] 25 (0, 0))) ∧ Aside0 (Below w.heap.size w w'))
                        case atStart => exact ⟨(x8_1), (0), (by first | rfl | (simp; done) | (simp [*]; done)), H', ⟨Nat.le_refl _⟩, ⟨by (with_reducible repeat (first | apply Kd.R_alloc | apply Kd.R_drewN | apply Kd.R_drew)); exact HO_7.out⟩, ⟨by (with_reducible repeat (first | apply Kd.R_alloc | apply Kd.R_drewN | apply Kd.R_drew)); exact HO_8.out⟩, ⟨by (with_reducible repeat (first | apply Kd.R_alloc | apply Kd.R_drewN | apply Kd.R_drew)); exact HO_27.out⟩, ⟨by (with_reducible repeat (first | refine blk_drewN ?_ _ | refine blk_drew ?_ | refine blk_alloc ?_ _)); exact BK452.out⟩, ⟨by repeat (first | (with_reducible first | exact HB.out | apply below_alloc | apply pw_below_drewN | apply below_drew1 | refine below_set ?_ GE452.out) | exact HB.out)⟩⟩
                        case round =>
                          clear H'
                          try clear c1
                          try clear c2
                          try clear p2
                          try clear c3
                          try clear c4
                          try clear c4b0
                          try clear c4b1
                          try clear p4
                          try clear q4
                          try clear hx4
                          try clear c6
                          try clear p6
                          try clear c20
                          try clear c20b0
                          try clear c21
                          try clear c21b0
                          try clear c22
                          try clear c22b0
                          try clear c24
                          try clear c24b0
                          try clear c25
                          try clear c25b0
                          try clear c27
                          try clear c28
                          try clear c28b0
                          try clear c29
                          try clear c29b0
                          try clear hcz13_0
                          try clear hcz13_1
                          try clear hcz26_0
                          try clear hcz26_1
                          try clear hcz30_0
                          try clear hcz30_1
                          try clear hcz8_0
                          try clear hcz8_1
                          try clear hfz13_0
                          try clear hfz13_1
                          try clear hfz26_0
                          try clear hfz26_1
                          try clear hfz30_0
                          try clear hfz30_1
                          try clear hfz8_0
                          try clear hfz8_1
                          try clear hx466_0
                          try clear hx467_0
                          try clear hx468_0
                          try clear p2
                          try clear p4
                          try clear p466
                          try clear p467
                          try clear p468
                          try clear q4
                          try clear q466
                          try clear q467
                          try clear q468
                          obtain ⟨x8_3, x50_3, rfl, HA, HK3, HO_7, HO_8, HO_27, BK452, HB⟩ := hrel
                          cases gk with
                          | zero => exact absurd HA.out (by simp [lure_Plan.l1])
                          | succ k3 =>
                            have H := HA.out
                            clear HA
                            simp only [lure_Plan.l1] at H
                            by_cases c31 : x50_3 < ((rd_L1 l0_1 x29_1).length : Int)
                            · rw [if_pos c31] at H
                              have c31b0 : decide (x50_3 < ((rd_L1 l0_1 x29_1).length : Int)) = true := decide_eq_true c31
                              clear c31
                              by_cases c32 : 0 ≤ x50_3
                              · rw [if_pos c32] at H
                                have c32b0 : decide (0 ≤ x50_3) = true := decide_eq_true c32
                                clear c32
                                by_cases c33 : x50_3 < ((rd_L1 l0_1 x29_1).length : Int)
                                · rw [if_pos c33] at H
                                  have c33b0 : decide (x50_3 < ((rd_L1 l0_1 x29_1).length : Int)) = true := decide_eq_true c33
                                  clear c33
                                  by_cases c34 : 0 ≤ (rd (rd_L1 l0_1 x29_1) x50_3)
                                  · rw [if_pos c34] at H
                                    have c34b0 : decide (0 ≤ (rd (rd_L1 l0_1 x29_1) x50_3)) = true := decide_eq_true c34
                                    clear c34
                                    by_cases c35 : (rd (rd_L1 l0_1 x29_1) x50_3) < (t457.length : Int)
                                    · rw [if_pos c35] at H
                                      have c35b0 : decide ((rd (rd_L1 l0_1 x29_1) x50_3) < (t457.length : Int)) = true := decide_eq_true c35
                                      clear c35
                                      by_cases c36 : (rd t457 (rd (rd_L1 l0_1 x29_1) x50_3)) ≥ 0
                                      · rw [if_pos c36] at H
                                        have c36b0 : decide (0 ≤ (rd t457 (rd (rd_L1 l0_1 x29_1) x50_3))) = true := decide_eq_true c36
                                        clear c36
                                        by_cases c37 : (rd t457 (rd (rd_L1 l0_1 x29_1) x50_3)) < (rd t457 x29_1)
                                        · rw [if_pos c37] at H
                                          have c37b0 : decide ((rd t457 (rd (rd_L1 l0_1 x29_1) x50_3)) < (rd t457 x29_1)) = true := decide_eq_true c37
                                          clear c37
                                          by_cases c38 : 0 ≤ x29_1
                                          · rw [if_pos c38] at H
                                            have c38b0 : decide (0 ≤ x29_1) = true := decide_eq_true c38
                                            clear c38
                                            by_cases c39 : x29_1 < (x8_3.length : Int)
                                            · rw [if_pos c39] at H
                                              have c39b0 : decide (x29_1 < (x8_3.length : Int)) = true := decide_eq_true c39
                                              clear c39
                                              obtain ⟨y472, hy472⟩ : ∃ y_ : List Int, y_ = (x8_3.set (x29_1 : Int).toNat (rd (rd_L1 l0_1 x29_1) x50_3)) := ⟨_, rfl⟩
                                              replace H : (lure_Plan.l1 k3 t457 y472 x29_1 (rd t457 x29_1) t457 (t457.length : Int) x29_1 (rd_L1 l0_1 x29_1) ((rd_L1 l0_1 x29_1).length : Int) (wrap64 (x50_3 + 1)) l0_0 l0_1) = some (r1, r2) := by first | (rw [hy472]; with_reducible exact H) | (have H2_ := (Option.bind_some _ _).symm.trans H; rw [hy472]; with_reducible exact H2_) | (have H2_ := (Option.bind_some _ _).symm.trans H; with_reducible exact H2_) | with_reducible exact H | (rw [hy472]; exact H) | exact H
                                              have Ny472 := Aside0.mk hy472
                                              clear hy472
                                              have H' := Aside0.mk H
                                              clear H
                                              have p469 : 0 ≤ (x50_3 : Int) := of_decide_eq_true (by first | (with_reducible assumption) | assumption)
                                              have q469 : x50_3 < ((rd_L1 l0_1 x29_1).length : Int) := of_decide_eq_true (by first | (with_reducible assumption) | assumption)
                                              obtain ⟨ad469, e469, hx469_0⟩ := Kd.at_int HR468_0.out x50_3 p469 q469
                                              cases e469
                                              replace hx469_0 := (HB.out.cell (World.block_lt_of_cell? w _ hx469_0)).trans hx469_0
                                              replace p469 := eq_true p469
                                              replace q469 := eq_true q469
                                              have p470 : 0 ≤ ((rd (rd_L1 l0_1 x29_1) x50_3) : Int) := of_decide_eq_true (by first | (with_reducible assumption) | assumption)
                                              have q470 : (rd (rd_L1 l0_1 x29_1) x50_3) < (t457.length : Int) := of_decide_eq_true (by first | (with_reducible assumption) | assumption)
                                              obtain ⟨ad470, e470, hx470_0⟩ := Kd.at_int (Kd.R_reads' HO_7.out).2.2 (rd (rd_L1 l0_1 x29_1) x50_3) p470 q470
                                              obtain rfl : ad466 = ad470 := (by injection e470)
                                              replace p470 := eq_true p470
                                              replace q470 := eq_true q470
                                              have p471 : 0 ≤ ((rd (rd_L1 l0_1 x29_1) x50_3) : Int) := of_decide_eq_true (by first | (with_reducible assumption) | assumption)
                                              have q471 : (rd (rd_L1 l0_1 x29_1) x50_3) < (t457.length : Int) := of_decide_eq_true (by first | (with_reducible assumption) | assumption)
                                              obtain ⟨ad471, e471, hx471_0⟩ := Kd.at_int (Kd.R_reads' HO_7.out).2.2 (rd (rd_L1 l0_1 x29_1) x50_3) p471 q471
                                              obtain rfl : ad466 = ad471 := (by injection e471)
                                              replace p471 := eq_true p471
                                              replace q471 := eq_true q471
                                              have p40 : 0 ≤ (x29_1 : Int) := of_decide_eq_true (by first | (with_reducible assumption) | assumption)
                                              have q40 : (x29_1 : Int) < ((x8_3.length : Int) : Int) := of_decide_eq_true (by first | (with_reducible assumption) | assumption)
                                              obtain ⟨go40, co40, eo40, gb40, gl40, cl40, HG40⟩ := Kd.R_form HO_8.out (by omega)
                                              (first | cases eo40 | (injection eo40 with ea_ en_ ec_; (first | subst ea_ | (injection ea_ with ea_; subst ea_)); subst ec_; clear en_))
                                              have GB40 := Aside0.mk gb40
                                              have GG40 := Aside0.mk HG40
                                              clear gb40 gl40 HG40
                                              obtain ⟨hx40_0, hf40_0⟩ := Kd.R_celln 0 HO_8.out (x29_1 : Int) p40 q40
                                              replace p40 := eq_true p40
                                              replace q40 := eq_true q40
                                              have HP41 := Kd.R_putg HO_8.out (x29_1 : Int) (rd (rd_L1 l0_1 x29_1) x50_3)
                                              go_wp2_with (first | ((with_reducible refine gate_store (t := 3) (p := 70) rfl ?_); refine store_event (t := 3) (p := 70) (v := ?vo_w42) (w1 := (wr.setCell ⟨go40, (x29_1 : Int).toNat, none⟩ (.int .i64 (rd (rd_L1 l0_1 x29_1) x50_3)))) ?hg ?ho ?hn ?hr ?_; (case ho => rfl); (case hg => rfl); (case hn => rfl); (case hr => first | (go_simp; done) | (go_simp; rfl)); intro w42 hw; have hg : wr.grownBy w42 (some go40) := (by rw [hw]; exact HP41.2); have hp_ : Kd.R (Kd.int .i64) 3 w42 w.heap.size (fun k_ => (w.heap.size ≤ k_) ∧ some k_ ≠ (.slice (some ad466) t457.length co17 : Value).ownBlock ∧ some k_ ≠ (.slice (some ad466) t457.length co17 : Value).ownBlock) (.slice (some ⟨go40, 0, none⟩) x8_3.length co40) y472 := (by rw [hw, Ny472.out]; exact HP41.1); clear HP41; have n0_ := Aside0.mk (Kd.R_after (v := (.slice (some ⟨go40, 0, none⟩) x8_3.length co40)) (v1 := (.slice (some ⟨go40, 0, none⟩) x8_3.length co40)) (ok := (fun k_ => (w.heap.size ≤ k_))) (by (with_reducible repeat (first | apply Kd.R_alloc | apply Kd.R_drewN | apply Kd.R_drew)); exact HO_7.out) hg (.inl rfl)); have n1_ := Aside0.mk (hp_); have n2_ := Aside0.mk (Kd.R_after (v := (.slice (some ⟨go40, 0, none⟩) x8_3.length co40)) (v1 := (.slice (some ⟨go40, 0, none⟩) x8_3.length co40)) (ok := (fun k_ => (w.heap.size ≤ k_))) (by (with_reducible repeat (first | apply Kd.R_alloc | apply Kd.R_drewN | apply Kd.R_drew)); exact HO_27.out) hg (.inl rfl)); have n3_ := Aside0.mk (blk_grown (g := gb452) (o := .cells #[.slice A0_0 l0_0.length c0_0, .slice (some ad468) l0_1.length c0_1] 25 (0, 0)) (by (with_reducible repeat (first | refine blk_drewN ?_ _ | refine blk_drew ?_ | refine blk_alloc ?_ _)); exact BK452.out) hg (Kd.R_ne HO_8.out BK452.out (by decide))); have n4_ := Aside0.mk ((by rw [hw]; exact below_set (HB.out) GB40.out : Below w.heap.size w w42)); clear HO_7; clear HO_8; clear HO_27; clear BK452; clear HB; have HO_7 := n0_; have HO_8 := n1_; have HO_27 := n2_; have BK452 := n3_; have HB := n4_; clear n0_ n1_ n2_ n3_ n4_; clear hg hw hp_))
                                              go_roundg k3
                                              case measure => have := HK1.out; have := HJ22.out; have := HK3.out; omega
                                              case rel => exact ⟨(y472), (wrap64 (x50_3 + 1)), (by first | rfl | (simp; done) | (simp [*]; done)), H', ⟨by have := HK1.out; have := HJ22.out; have := HK3.out; omega⟩, ⟨by (with_reducible repeat (first | apply Kd.R_alloc | apply Kd.R_drewN | apply Kd.R_drew)); exact HO_7.out⟩, ⟨by (with_reducible repeat (first | apply Kd.R_alloc | apply Kd.R_drewN | apply Kd.R_drew)); exact HO_8.out⟩, ⟨by (with_reducible repeat (first | apply Kd.R_alloc | apply Kd.R_drewN | apply Kd.R_drew)); exact HO_27.out⟩, ⟨by (with_reducible repeat (first | refine blk_drewN ?_ _ | refine blk_drew ?_ | refine blk_alloc ?_ _)); exact BK452.out⟩, ⟨by repeat (first | (with_reducible first | exact HB.out | apply below_alloc | apply pw_below_drewN | apply below_drew1 | refine below_set ?_ GE452.out) | exact HB.out)⟩⟩
                                            · rw [if_neg c39] at H
                                              exact absurd H (by simp)
                                          · rw [if_neg c38] at H
                                            exact absurd H (by simp)
                                        · rw [if_neg c37] at H
                                          have c37b0 : decide ((rd t457 (rd (rd_L1 l0_1 x29_1) x50_3)) < (rd t457 x29_1)) = false := decide_eq_false c37
                                          clear c37
                                          have H' := Aside0.mk H
                                          clear H
                                          have p469 : 0 ≤ (x50_3 : Int) := of_decide_eq_true (by first | (with_reducible assumption) | assumption)
                                          have q469 : x50_3 < ((rd_L1 l0_1 x29_1).length : Int) := of_decide_eq_true (by first | (with_reducible assumption) | assumption)
                                          obtain ⟨ad469, e469, hx469_0⟩ := Kd.at_int HR468_0.out x50_3 p469 q469
                                          cases e469
                                          replace hx469_0 := (HB.out.cell (World.block_lt_of_cell? w _ hx469_0)).trans hx469_0
                                          replace p469 := eq_true p469
                                          replace q469 := eq_true q469
                                          have p470 : 0 ≤ ((rd (rd_L1 l0_1 x29_1) x50_3) : Int) := of_decide_eq_true (by first | (with_reducible assumption) | assumption)
                                          have q470 : (rd (rd_L1 l0_1 x29_1) x50_3) < (t457.length : Int) := of_decide_eq_true (by first | (with_reducible assumption) | assumption)
                                          obtain ⟨ad470, e470, hx470_0⟩ := Kd.at_int (Kd.R_reads' HO_7.out).2.2 (rd (rd_L1 l0_1 x29_1) x50_3) p470 q470
                                          obtain rfl : ad466 = ad470 := (by injection e470)
                                          replace p470 := eq_true p470
                                          replace q470 := eq_true q470
                                          have p471 : 0 ≤ ((rd (rd_L1 l0_1 x29_1) x50_3) : Int) := of_decide_eq_true (by first | (with_reducible assumption) | assumption)
                                          have q471 : (rd (rd_L1 l0_1 x29_1) x50_3) < (t457.length : Int) := of_decide_eq_true (by first | (with_reducible assumption) | assumption)
                                          obtain ⟨ad471, e471, hx471_0⟩ := Kd.at_int (Kd.R_reads' HO_7.out).2.2 (rd (rd_L1 l0_1 x29_1) x50_3) p471 q471
                                          obtain rfl : ad466 = ad471 := (by injection e471)
                                          replace p471 := eq_true p471
                                          replace q471 := eq_true q471
                                          go_wp2
                                          go_roundg k3
                                          case measure => have := HK1.out; have := HJ22.out; have := HK3.out; omega
                                          case rel => exact ⟨(x8_3), (wrap64 (x50_3 + 1)), (by first | rfl | (simp; done) | (simp [*]; done)), H', ⟨by have := HK1.out; have := HJ22.out; have := HK3.out; omega⟩, ⟨by (with_reducible repeat (first | apply Kd.R_alloc | apply Kd.R_drewN | apply Kd.R_drew)); exact HO_7.out⟩, ⟨by (with_reducible repeat (first | apply Kd.R_alloc | apply Kd.R_drewN | apply Kd.R_drew)); exact HO_8.out⟩, ⟨by (with_reducible repeat (first | apply Kd.R_alloc | apply Kd.R_drewN | apply Kd.R_drew)); exact HO_27.out⟩, ⟨by (with_reducible repeat (first | refine blk_drewN ?_ _ | refine blk_drew ?_ | refine blk_alloc ?_ _)); exact BK452.out⟩, ⟨by repeat (first | (with_reducible first | exact HB.out | apply below_alloc | apply pw_below_drewN | apply below_drew1 | refine below_set ?_ GE452.out) | exact HB.out)⟩⟩
                                      · rw [if_neg c36] at H
                                        have c36b0 : decide (0 ≤ (rd t457 (rd (rd_L1 l0_1 x29_1) x50_3))) = false := decide_eq_false c36
                                        clear c36
                                        have H' := Aside0.mk H
                                        clear H
                                        have p469 : 0 ≤ (x50_3 : Int) := of_decide_eq_true (by first | (with_reducible assumption) | assumption)
                                        have q469 : x50_3 < ((rd_L1 l0_1 x29_1).length : Int) := of_decide_eq_true (by first | (with_reducible assumption) | assumption)
                                        obtain ⟨ad469, e469, hx469_0⟩ := Kd.at_int HR468_0.out x50_3 p469 q469
                                        cases e469
                                        replace hx469_0 := (HB.out.cell (World.block_lt_of_cell? w _ hx469_0)).trans hx469_0
                                        replace p469 := eq_true p469
                                        replace q469 := eq_true q469
                                        have p470 : 0 ≤ ((rd (rd_L1 l0_1 x29_1) x50_3) : Int) := of_decide_eq_true (by first | (with_reducible assumption) | assumption)
                                        have q470 : (rd (rd_L1 l0_1 x29_1) x50_3) < (t457.length : Int) := of_decide_eq_true (by first | (with_reducible assumption) | assumption)
                                        obtain ⟨ad470, e470, hx470_0⟩ := Kd.at_int (Kd.R_reads' HO_7.out).2.2 (rd (rd_L1 l0_1 x29_1) x50_3) p470 q470
                                        obtain rfl : ad466 = ad470 := (by injection e470)
                                        replace p470 := eq_true p470
                                        replace q470 := eq_true q470
                                        go_wp2
                                        go_roundg k3
                                        case measure => have := HK1.out; have := HJ22.out; have := HK3.out; omega
                                        case rel => exact ⟨(x8_3), (wrap64 (x50_3 + 1)), (by first | rfl | (simp; done) | (simp [*]; done)), H', ⟨by have := HK1.out; have := HJ22.out; have := HK3.out; omega⟩, ⟨by (with_reducible repeat (first | apply Kd.R_alloc | apply Kd.R_drewN | apply Kd.R_drew)); exact HO_7.out⟩, ⟨by (with_reducible repeat (first | apply Kd.R_alloc | apply Kd.R_drewN | apply Kd.R_drew)); exact HO_8.out⟩, ⟨by (with_reducible repeat (first | apply Kd.R_alloc | apply Kd.R_drewN | apply Kd.R_drew)); exact HO_27.out⟩, ⟨by (with_reducible repeat (first | refine blk_drewN ?_ _ | refine blk_drew ?_ | refine blk_alloc ?_ _)); exact BK452.out⟩, ⟨by repeat (first | (with_reducible first | exact HB.out | apply below_alloc | apply pw_below_drewN | apply below_drew1 | refine below_set ?_ GE452.out) | exact HB.out)⟩⟩
                                    · rw [if_neg c35] at H
                                      exact absurd H (by simp)
                                  · rw [if_neg c34] at H
                                    exact absurd H (by simp)
                                · rw [if_neg c33] at H
                                  exact absurd H (by simp)
                              · rw [if_neg c32] at H
                                exact absurd H (by simp)
                            · rw [if_neg c31] at H
                              have c31b0 : decide (x50_3 < ((rd_L1 l0_1 x29_1).length : Int)) = false := decide_eq_false c31
                              clear c31
                              have H' := Aside0.mk H
                              clear H
                              go_wp2
                              go_roundg k3
                              case measure => have := HK1.out; have := HJ22.out; have := HK3.out; omega
                              case rel => exact ⟨(x8_3), (wrap64 (x29_1 + 1)), (by first | rfl | (simp; done) | (simp [*]; done)), H', ⟨by have := HK1.out; have := HJ22.out; have := HK3.out; omega⟩, ⟨by (with_reducible repeat (first | apply Kd.R_alloc | apply Kd.R_drewN | apply Kd.R_drew)); exact HO_7.out⟩, ⟨by (with_reducible repeat (first | apply Kd.R_alloc | apply Kd.R_drewN | apply Kd.R_drew)); exact HO_8.out⟩, ⟨by (with_reducible repeat (first | apply Kd.R_alloc | apply Kd.R_drewN | apply Kd.R_drew)); exact HO_27.out⟩, ⟨by (with_reducible repeat (first | refine blk_drewN ?_ _ | refine blk_drew ?_ | refine blk_alloc ?_ _)); exact BK452.out⟩, ⟨by repeat (first | (with_reducible first | exact HB.out | apply below_alloc | apply pw_below_drewN | apply below_drew1 | refine below_set ?_ GE452.out) | exact HB.out)⟩⟩
                      · rw [if_neg c29] at H
                        exact absurd H (by simp)
                    · rw [if_neg c28] at H
                      exact absurd H (by simp)
            · rw [if_neg c22] at H
              exact absurd H (by simp)
          · rw [if_neg c21] at H
            exact absurd H (by simp)
        · rw [if_neg c20] at H
          have c20b0 : decide (x29_1 < (t457.length : Int)) = false := decide_eq_false c20
          clear c20
          simp only [Option.some.injEq, Prod.mk.injEq] at H
          obtain ⟨rfl, rfl⟩ := H
          go_wp2
          go_ret2
          exact ⟨_, by first | rfl | (simp [errW_none, errW_some] <;> rfl) | (simp [*, errW_none, errW_some] <;> rfl), by (with_reducible repeat (first | apply Kd.R_alloc | apply Kd.R_drewN | apply Kd.R_drew)); exact Kd.R_mono HO_8.out (fun _ hk => hk.1), by repeat (first | (with_reducible first | exact HB.out | apply below_alloc | apply pw_below_drewN | apply below_drew1 | refine below_set ?_ GE452.out) | exact HB.out)⟩
  · rw [if_neg c4] at H
    have c4b0 : (t456 == 0) = false := beq_eq_false_iff_ne.mpr c4
    have c4b1 : (t456 != 0) = true := bne_iff_ne.mpr c4
    simp only [Option.some.injEq, Prod.mk.injEq] at H
    obtain ⟨rfl, rfl⟩ := H
    go_enter Try.func37, Try.ntmps37
    go_wp2_with (first | ((with_reducible refine gate_dst (N := 2) rfl ?_); refine box_event ?hg (N := 2) ?hd (cs := #[.slice A0_0 l0_0.length c0_0, .slice A0_1 l0_1.length c0_1]) (t := 25) ?hr ?_; (case hd => rfl); (case hg => rfl); (case hr => first | (go_simp; done) | (go_simp; rfl)); intro gb452 hg w43 hbox hb; have n0_ := Aside0.mk (Kd.V_below (Kd.V_elderB (by (with_reducible repeat (first | apply Kd.V_alloc | apply Kd.V_drewN | apply Kd.V_drew)); exact HO1.out) gb452 (Nat.le_of_eq hg.symm)) hb); have n1_ := Aside0.mk (below_step (by repeat (first | (with_reducible first | exact HB.out | apply below_alloc | apply pw_below_drewN | apply below_drew1) | exact HB.out)) hb); have n2_ := Aside0.mk (hbox); have n3_ := Aside0.mk ((by rw [hg]; exact (below_size (by repeat (first | (with_reducible first | exact HB.out | apply below_alloc | apply pw_below_drewN | apply below_drew1) | exact HB.out))) : w.heap.size ≤ gb452)); have n4_ := Aside0.mk ((by rw [hg]; exact (below_size (by repeat (first | (with_reducible first | exact HB.out | apply below_alloc | apply pw_below_drewN | apply below_drew1) | exact HB.out))) : w.heap.size ≤ gb452)); clear HO1; clear HB; have HO1 := n0_; have HB := n1_; have BK452 := n2_; have GW452 := n3_; have GE452 := n4_; clear n0_ n1_ n2_ n3_ n4_; clear hb hbox hg; have hcz44_0 : w43.cell? ⟨gb452, 0, none⟩ = some (.slice A0_0 l0_0.length c0_0) := (blk_cell BK452.out 0).trans rfl; have hcz44_1 : w43.cell? ⟨gb452, 1, none⟩ = some (.slice A0_1 l0_1.length c0_1) := (blk_cell BK452.out 1).trans rfl; have hfz44_0 := blk_frozen BK452.out 0; have hfz44_1 := blk_frozen BK452.out 1) | ((with_reducible refine gate_dst (N := 15) rfl ?_); refine Kd.N_lit (Kd.slice 3 (Kd.int .i64)) _ 22 ?hg (N' := 15) ?hd (xs := ([l1] : List (List Int))) (inner := [.slice A1 l1.length c1]) (ok := (fun k_ => (P1_ k_ ∨ w.heap.size ≤ k_) ∧ k_ ≠ gb452)) (okp := (fun k_ => (P1_ k_ ∨ w.heap.size ≤ k_) ∧ k_ ≠ gb452)) ?hr ?hp (fun _ hk => hk) ((show ∀ k_, w43.heap.size ≤ k_ → (fun k_ => (P1_ k_ ∨ w.heap.size ≤ k_) ∧ k_ ≠ gb452) k_ from fun k_ hk => ⟨(.inr (Nat.le_trans (below_size (by repeat (first | (with_reducible first | exact HB.out | apply below_alloc | apply pw_below_drewN | apply below_drew1 | refine below_set ?_ GE452.out) | exact HB.out))) hk)), Kd.freshB (g := gb452) (o := .cells #[.slice A0_0 l0_0.length c0_0, .slice A0_1 l0_1.length c0_1] 25 (0, 0)) (by (with_reducible repeat (first | refine blk_drewN ?_ _ | refine blk_drew ?_ | refine blk_alloc ?_ _)); exact BK452.out) k_ hk⟩) _ (Nat.le_refl _)) (Below.refl _ _) (Nat.le_refl _) (by simp) ?_; (case hd => rfl); (case hg => rfl); (case hr => first | (go_simp; done) | (go_simp; rfl)); (case hp => exact (Reps.one (show Kd.FK (Kd.slice 3 (Kd.int .i64)) _ _ l1 [.slice A1 l1.length c1] from (Kd.FK_slice_mk (Kd.V_reads' (Kd.V_mono (ok' := (fun k_ => (P1_ k_ ∨ w.heap.size ≤ k_) ∧ k_ ≠ gb452)) (HO1.out) (fun k_ hk => ⟨hk.1, hk.2⟩))).2.1 (Kd.V_F (Kd.V_mono (ok' := (fun k_ => (P1_ k_ ∨ w.heap.size ≤ k_) ∧ k_ ≠ gb452)) (HO1.out) (fun k_ hk => ⟨hk.1, hk.2⟩))))) (Reps.none _ _))); intro v454 w45 ho46 hb hg_ hnew_; clear hg_ hnew_; (first | rw [← Ny453.out] at ho46 | (simp only [Int.reduceToNat] at ho46; rw [← Ny453.out] at ho46)); have n0_ := Aside0.mk (Kd.V_elder' (by (with_reducible repeat (first | apply Kd.V_alloc | apply Kd.V_drewN | apply Kd.V_drew)); exact HO1.out) (Kd.N_base ho46) hb); have n1_ := Aside0.mk (Kd.N_lower ho46 (below_size (by repeat (first | (with_reducible first | exact HB.out | apply below_alloc | apply pw_below_drewN | apply below_drew1 | refine below_set ?_ GE452.out) | exact HB.out)))); have n2_ := Aside0.mk (blk_below (g := gb452) (o := .cells #[.slice A0_0 l0_0.length c0_0, .slice A0_1 l0_1.length c0_1] 25 (0, 0)) (by (with_reducible repeat (first | refine blk_drewN ?_ _ | refine blk_drew ?_ | refine blk_alloc ?_ _)); exact BK452.out) hb); have n3_ := Aside0.mk (below_step (by repeat (first | (with_reducible first | exact HB.out | apply below_alloc | apply pw_below_drewN | apply below_drew1 | refine below_set ?_ GE452.out) | exact HB.out)) hb); clear HO1; clear BK452; clear HB; have HO1 := n0_; have HO455 := n1_; have BK452 := n2_; have HB := n3_; clear n0_ n1_ n2_ n3_; clear hb ho46; obtain ⟨Ao47, co47, eo47⟩ := Kd.N_slice HO455.out; subst eo47) | ((with_reducible refine gate_callee (f := 47) rfl ?_); refine goesL_ (some 16) rfl rfl Try.func47 (by kernel_rfl) rfl #[.agg #[.slice A0_0 l0_0.length c0_0, .slice A0_1 l0_1.length c0_1], .slice Ao47 y453.length co47] rfl (by (try simp only [List.map_toArray, List.map_cons, List.map_nil]); first | done | rfl | (simp only [List.length_drop, List.length_take]; rfl)) ?_; (with_reducible refine (lure_examine.calls k _ _ l0_0 _ _ l0_1 _ _ y453 t456 _ ?side1 ?side2 ?side3 ?side4 ?side5 ?side6 A3.out).mono ?_); (case side1 => repeat (first | exact (Kd.C_below HR0_0.out HB.out) | (with_reducible refine Kd.C_alloc ?_ _) | (with_reducible refine Kd.C_drewN ?_ _) | (with_reducible refine Kd.C_drew ?_))); (case side2 => exact HC0_0.out); (case side3 => repeat (first | exact (Kd.C_below HR0_1.out HB.out) | (with_reducible refine Kd.C_alloc ?_ _) | (with_reducible refine Kd.C_drewN ?_ _) | (with_reducible refine Kd.C_drew ?_))); (case side4 => exact HC0_1.out); (case side5 => repeat (first | exact (Kd.N_reads' HO455.out).2.2 | (with_reducible refine Kd.C_alloc ?_ _) | (with_reducible refine Kd.C_drewN ?_ _) | (with_reducible refine Kd.C_drew ?_))); (case side6 => exact (Kd.N_reads' HO455.out).2.1); rintro e w48 ⟨rfl, hb⟩; refine ⟨_, rfl, ?_⟩; have n0_ := Aside0.mk (Kd.V_below (by (with_reducible repeat (first | apply Kd.V_alloc | apply Kd.V_drewN | apply Kd.V_drew)); exact HO1.out) hb); have n1_ := Aside0.mk (Kd.N_below (by (with_reducible repeat (first | apply Kd.N_alloc | apply Kd.N_drewN | apply Kd.N_drew)); exact HO455.out) hb); have n2_ := Aside0.mk (blk_below (g := gb452) (o := .cells #[.slice A0_0 l0_0.length c0_0, .slice A0_1 l0_1.length c0_1] 25 (0, 0)) (by (with_reducible repeat (first | refine blk_drewN ?_ _ | refine blk_drew ?_ | refine blk_alloc ?_ _)); exact BK452.out) hb); have n3_ := Aside0.mk (below_step (by repeat (first | (with_reducible first | exact HB.out | apply below_alloc | apply pw_below_drewN | apply below_drew1 | refine below_set ?_ GE452.out) | exact HB.out)) hb); clear HO1; clear HO455; clear BK452; clear HB; have HO1 := n0_; have HO455 := n1_; have BK452 := n2_; have HB := n3_; clear n0_ n1_ n2_ n3_; (try clear hb); (try clear hb2); (try clear hk); (try clear hi)))
    go_ret2
    exact ⟨_, by first | rfl | (simp [errW_none, errW_some] <;> rfl) | (simp [*, errW_none, errW_some] <;> rfl), by first | exact Kd.R_nil _ _ _ _ _ | exact Kd.N_nil _ _ _ _ _ | exact Kd.V_nil _ _ _ _ _ | exact Kd.Q_nil _ _ _ _ _ | exact Kd.S_nil _ _ _ _ _, by repeat (first | (with_reducible first | exact HB.out | apply below_alloc | apply pw_below_drewN | apply below_drew1 | refine below_set ?_ GE452.out) | exact HB.out)⟩

end Go.Proofs.Ytnmaonampilmoaa.LV

