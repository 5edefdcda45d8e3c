/- Of the text SCx30, what the row of ScreenChecks reaches. -/
import Derived.Test.YtgkgednbmfinnaaZScreenChecksSCx0
import Derived.Test.YtgkgednbmfinnaaZScreenChecksSCx11
import Derived.Test.YtgkgednbmfinnaaZScreenChecksSCx15
import Derived.Test.YtgkgednbmfinnaaZScreenChecksSCx19
import Derived.Test.YtgkgednbmfinnaaZScreenChecksSCx27
import Derived.Test.YtgkgednbmfinnaaZScreenChecksSCx29
namespace Go.Proofs.Ytgkgednbmfinnaa.SC
open Go.RowKit Go.Proofs.YtgkgednbmfinnaaW.PrintWords Go.Proofs.YtgkgednbmfinnaaW.PrintLast Go.Proofs.YtgkgednbmfinnaaW.PrintMore
attribute [local go_sem] max2_int min2_int max_two min_two max_three min_three max_four min_four   -- for this text's walks alone
set_option linter.unusedVariables false
set_option linter.unusedSimpArgs false

def wigeonlaw02_ScreenChecks.j0 : Nat → List (S55) → Bool → List (S23) → Int → Int → Int → Int → List (S23) → Option (Bool)
  | 0, _, _, _, _, _, _, _, _ => none
  | k + 1, x0, x18, x495000, x495001, x495002, x495003, x495004, x495005 => if x18 = true then ((wigeonlaw02_known.f k).bind fun t496 => (some t496)) else ((screen_CheckWay.f k x0 x495000 x495001 x495002 x495003 x495004 x495005).bind fun bt497 => ((wigeonref02_CheckWay.f k x0 x495000 x495001 x495002 x495003 x495004 x495005).bind fun bt499 => (if bt497.1 = bt499.1 then (if bt497.2 = bt499.2 then ((wigeonlaw02_known.f k).bind fun t501 => (some t501)) else (some false)) else (some false))))
def wigeonlaw02_ScreenChecks.f (k : Nat) (l0 : List (S55)) (l1_0 : List (S23)) (a1_1 : Int) (a1_2 : Int) (a1_3 : Int) (a1_4 : Int) (l1_5 : List (S23)) : Option (Bool) := (wigeonlaw02_Long.f l0 l1_0).bind fun t495 => (if t495 = true then (wigeonlaw02_ScreenChecks.j0 k l0 true l1_0 a1_1 a1_2 a1_3 a1_4 l1_5) else (wigeonlaw02_ScreenChecks.j0 k l0 (decide ((l1_5.length : Int) > 1000)) l1_0 a1_1 a1_2 a1_3 a1_4 l1_5))
set_option maxHeartbeats 8000000 in
set_option maxRecDepth 100000 in
theorem wigeonlaw02_ScreenChecks.calls (k : Nat) (A0 : Option Addr) (c0 : Nat) (l0 : List (S55)) (A1_0 : Option Addr) (c1_0 : Nat) (l1_0 : List (S23)) (a1_1 : Int) (a1_2 : Int) (a1_3 : Int) (a1_4 : Int) (A1_5 : Option Addr) (c1_5 : Nat) (l1_5 : List (S23)) (r : Bool) (w : World) (hr0 : Kd.C k55 w A0 l0.length l0) (hc0 : l0.length ≤ c0) (hr1_0 : Kd.C k23 w A1_0 l1_0.length l1_0) (hc1_0 : l1_0.length ≤ c1_0) (hr1_5 : Kd.C k23 w A1_5 l1_5.length l1_5) (hc1_5 : l1_5.length ≤ c1_5) (h : wigeonlaw02_ScreenChecks.f k l0 l1_0 a1_1 a1_2 a1_3 a1_4 l1_5 = some r) :
    Calls Try.prog 10 #[.slice A0 l0.length c0, .agg #[.slice A1_0 l1_0.length c1_0, .int .i64 a1_1, .int .i64 a1_2, .int .i64 a1_3, .int .i64 a1_4, .slice A1_5 l1_5.length c1_5]] w fun e w' => e = .returned (.bool r) ∧ Below w.heap.size w w' := by
  have hu60 := Try.underlying60
  have hu44 := Try.underlying44
  have HR0 := Aside0.mk hr0
  have HC0 := Aside0.mk hc0
  clear hr0 hc0
  have HR1_0 := Aside0.mk hr1_0
  have HC1_0 := Aside0.mk hc1_0
  clear hr1_0 hc1_0
  have HR1_5 := Aside0.mk hr1_5
  have HC1_5 := Aside0.mk hc1_5
  clear hr1_5 hc1_5
  have HB := Aside0.mk (Below.refl w.heap.size w)
  have H : ((wigeonlaw02_Long.f l0 l1_0).bind fun t495 => (if t495 = true then (wigeonlaw02_ScreenChecks.j0 k l0 true l1_0 a1_1 a1_2 a1_3 a1_4 l1_5) else (wigeonlaw02_ScreenChecks.j0 k l0 (decide ((l1_5.length : Int) > 1000)) l1_0 a1_1 a1_2 a1_3 a1_4 l1_5))) = some r := h
  clear h
  have HC3 := Aside0.mk H
  clear H
  go_enter Try.func10, Try.ntmps10
  go_upto_region 1 with (first | ((with_reducible refine gate_dst (N := 3) rfl ?_); (try (refine gate_guard (by rfl) ?_; dsimp only)); refine box_event ?hg (N := 3) ?hd (cs := #[.slice A1_0 l1_0.length c1_0, .int .i64 a1_1, .int .i64 a1_2, .int .i64 a1_3, .int .i64 a1_4, .slice A1_5 l1_5.length c1_5]) (t := 60) ?hr ?_; (case hd => rfl); (case hg => rfl); (case hr => first | (go_simp; done) | (go_simp; rfl)); intro gb494 hg w4 hbox hb; have n0_ := Aside0.mk (below_step (by repeat (first | (with_reducible first | exact HB.out | apply below_alloc | apply pw_below_drewN | apply below_drew1) | exact HB.out)) hb); have n1_ := Aside0.mk (hbox); have n2_ := Aside0.mk ((by rw [hg]; exact (below_size (by repeat (first | (with_reducible first | exact HB.out | apply below_alloc | apply pw_below_drewN | apply below_drew1) | exact HB.out))) : w.heap.size ≤ gb494)); have n3_ := Aside0.mk ((by rw [hg]; exact (below_size (by repeat (first | (with_reducible first | exact HB.out | apply below_alloc | apply pw_below_drewN | apply below_drew1) | exact HB.out))) : w.heap.size ≤ gb494)); clear HB; have HB := n0_; have BK494 := n1_; have GW494 := n2_; have GE494 := n3_; clear n0_ n1_ n2_ n3_; clear hb hbox hg))
  (try simp only [Act.put, List.setIfInBounds_toArray, List.set_cons_zero, List.set_cons_succ])
  go_cut [18] (fun v18 wc => ∃ (kq : Nat) (x18_2 : Bool), v18 = .bool x18_2 ∧ Aside0 (wigeonlaw02_ScreenChecks.j0 kq l0 x18_2 l1_0 a1_1 a1_2 a1_3 a1_4 l1_5 = some r) ∧ Aside0 (kq ≤ k) ∧ Aside0 (wc.heap[gb494]? = some (.cells #[(.slice A1_0 l1_0.length c1_0), .int .i64 a1_1, .int .i64 a1_2, .int .i64 a1_3, .int .i64 a1_4, (.slice A1_5 l1_5.length c1_5)] 60 (0, 0))) ∧ Aside0 (Below w.heap.size w wc))
  case first =>
    have H := HC3.out
    clear HC3
    replace H := Option.bind_eq_some_iff.mp H
    obtain ⟨t495, A50, H⟩ := H
    replace H : (if t495 = true then (wigeonlaw02_ScreenChecks.j0 k l0 true l1_0 a1_1 a1_2 a1_3 a1_4 l1_5) else (wigeonlaw02_ScreenChecks.j0 k l0 (decide ((l1_5.length : Int) > 1000)) l1_0 a1_1 a1_2 a1_3 a1_4 l1_5)) = some r := H
    have A5 := Aside0.mk A50
    clear A50
    by_cases c6 : t495 = true
    · subst c6
      have H1 : (wigeonlaw02_ScreenChecks.j0 k l0 true l1_0 a1_1 a1_2 a1_3 a1_4 l1_5) = some r := by rw [if_pos rfl] at H; exact H
      clear H
      have H := H1
      clear H1
      have H' := Aside0.mk H
      clear H
      have hcz7_0 : w4.cell? ⟨gb494, 0, none⟩ = some (.slice A1_0 l1_0.length c1_0) := (blk_cell BK494.out 0).trans rfl
      have hcz7_1 : w4.cell? ⟨gb494, 1, none⟩ = some (.int .i64 a1_1) := (blk_cell BK494.out 1).trans rfl
      have hcz7_2 : w4.cell? ⟨gb494, 2, none⟩ = some (.int .i64 a1_2) := (blk_cell BK494.out 2).trans rfl
      have hcz7_3 : w4.cell? ⟨gb494, 3, none⟩ = some (.int .i64 a1_3) := (blk_cell BK494.out 3).trans rfl
      have hcz7_4 : w4.cell? ⟨gb494, 4, none⟩ = some (.int .i64 a1_4) := (blk_cell BK494.out 4).trans rfl
      have hcz7_5 : w4.cell? ⟨gb494, 5, none⟩ = some (.slice A1_5 l1_5.length c1_5) := (blk_cell BK494.out 5).trans rfl
      have hfz7_0 := blk_frozen BK494.out 0
      have hfz7_1 := blk_frozen BK494.out 1
      have hfz7_2 := blk_frozen BK494.out 2
      have hfz7_3 := blk_frozen BK494.out 3
      have hfz7_4 := blk_frozen BK494.out 4
      have hfz7_5 := blk_frozen BK494.out 5
      go_wp2_with (first | ((with_reducible refine gate_callee (f := 18) rfl ?_); refine goesL_ (some 12) rfl rfl Try.func18 (by kernel_rfl) rfl #[.slice A0 l0.length c0, .slice A1_0 l1_0.length c1_0] rfl (by (try simp only [List.map_toArray, List.map_cons, List.map_nil]); first | done | rfl | (simp only [List.length_drop, List.length_take]; rfl)) ?_; (with_reducible refine (wigeonlaw02_Long.calls _ _ l0 _ _ l1_0 true _ ?side1 ?side2 ?side3 ?side4 A5.out).mono ?_); (case side1 => repeat (first | exact (Kd.C_below HR0.out HB.out) | (with_reducible refine Kd.C_alloc ?_ _) | (with_reducible refine Kd.C_drewN ?_ _) | (with_reducible refine Kd.C_drew ?_))); (case side2 => exact HC0.out); (case side3 => repeat (first | exact (Kd.C_below HR1_0.out HB.out) | (with_reducible refine Kd.C_alloc ?_ _) | (with_reducible refine Kd.C_drewN ?_ _) | (with_reducible refine Kd.C_drew ?_))); (case side4 => exact HC1_0.out); rintro e w' ⟨rfl, ⟨nd, rfl⟩⟩; refine ⟨_, rfl, ?_⟩))
      go_meet
      case rel => exact ⟨_, (true), (by first | rfl | (simp; done) | (simp [*]; done)), H', ⟨by first | omega | exact Nat.le_refl _⟩, ⟨by (with_reducible repeat (first | refine blk_drewN ?_ _ | refine blk_drew ?_ | refine blk_alloc ?_ _)); exact BK494.out⟩, ⟨by repeat (first | (with_reducible first | exact HB.out | apply below_alloc | apply pw_below_drewN | apply below_drew1 | refine below_set ?_ GE494.out) | exact HB.out)⟩⟩
    · replace c6 := Bool.eq_false_iff.mpr c6
      subst c6
      have H1 : (wigeonlaw02_ScreenChecks.j0 k l0 (decide ((l1_5.length : Int) > 1000)) l1_0 a1_1 a1_2 a1_3 a1_4 l1_5) = some r := by rw [if_neg (show ¬ (false = true) by decide)] at H; exact H
      clear H
      have H := H1
      clear H1
      have H' := Aside0.mk H
      clear H
      have hcz8_0 : w4.cell? ⟨gb494, 0, none⟩ = some (.slice A1_0 l1_0.length c1_0) := (blk_cell BK494.out 0).trans rfl
      have hcz8_1 : w4.cell? ⟨gb494, 1, none⟩ = some (.int .i64 a1_1) := (blk_cell BK494.out 1).trans rfl
      have hcz8_2 : w4.cell? ⟨gb494, 2, none⟩ = some (.int .i64 a1_2) := (blk_cell BK494.out 2).trans rfl
      have hcz8_3 : w4.cell? ⟨gb494, 3, none⟩ = some (.int .i64 a1_3) := (blk_cell BK494.out 3).trans rfl
      have hcz8_4 : w4.cell? ⟨gb494, 4, none⟩ = some (.int .i64 a1_4) := (blk_cell BK494.out 4).trans rfl
      have hcz8_5 : w4.cell? ⟨gb494, 5, none⟩ = some (.slice A1_5 l1_5.length c1_5) := (blk_cell BK494.out 5).trans rfl
      have hfz8_0 := blk_frozen BK494.out 0
      have hfz8_1 := blk_frozen BK494.out 1
      have hfz8_2 := blk_frozen BK494.out 2
      have hfz8_3 := blk_frozen BK494.out 3
      have hfz8_4 := blk_frozen BK494.out 4
      have hfz8_5 := blk_frozen BK494.out 5
      go_wp2_with (first | ((with_reducible refine gate_callee (f := 18) rfl ?_); refine goesL_ (some 12) rfl rfl Try.func18 (by kernel_rfl) rfl #[.slice A0 l0.length c0, .slice A1_0 l1_0.length c1_0] rfl (by (try simp only [List.map_toArray, List.map_cons, List.map_nil]); first | done | rfl | (simp only [List.length_drop, List.length_take]; rfl)) ?_; (with_reducible refine (wigeonlaw02_Long.calls _ _ l0 _ _ l1_0 false _ ?side1 ?side2 ?side3 ?side4 A5.out).mono ?_); (case side1 => repeat (first | exact (Kd.C_below HR0.out HB.out) | (with_reducible refine Kd.C_alloc ?_ _) | (with_reducible refine Kd.C_drewN ?_ _) | (with_reducible refine Kd.C_drew ?_))); (case side2 => exact HC0.out); (case side3 => repeat (first | exact (Kd.C_below HR1_0.out HB.out) | (with_reducible refine Kd.C_alloc ?_ _) | (with_reducible refine Kd.C_drewN ?_ _) | (with_reducible refine Kd.C_drew ?_))); (case side4 => exact HC1_0.out); rintro e w' ⟨rfl, ⟨nd, rfl⟩⟩; refine ⟨_, rfl, ?_⟩))
      go_meet
      case rel => exact ⟨_, (decide ((l1_5.length : Int) > 1000)), (by first | rfl | (simp; done) | (simp [*]; done)), H', ⟨by first | omega | exact Nat.le_refl _⟩, ⟨by (with_reducible repeat (first | refine blk_drewN ?_ _ | refine blk_drew ?_ | refine blk_alloc ?_ _)); exact BK494.out⟩, ⟨by repeat (first | (with_reducible first | exact HB.out | apply below_alloc | apply pw_below_drewN | apply below_drew1 | refine below_set ?_ GE494.out) | exact HB.out)⟩⟩
  case rest =>
    clear HC3
    try clear c1
    try clear p2
    try clear c6
    try clear hcz7_0
    try clear hcz7_1
    try clear hcz7_2
    try clear hcz7_3
    try clear hcz7_4
    try clear hcz7_5
    try clear hcz8_0
    try clear hcz8_1
    try clear hcz8_2
    try clear hcz8_3
    try clear hcz8_4
    try clear hcz8_5
    try clear hfz7_0
    try clear hfz7_1
    try clear hfz7_2
    try clear hfz7_3
    try clear hfz7_4
    try clear hfz7_5
    try clear hfz8_0
    try clear hfz8_1
    try clear hfz8_2
    try clear hfz8_3
    try clear hfz8_4
    try clear hfz8_5
    obtain ⟨kq, x18_2, rfl, HA, HJ2, BK494, HB⟩ := hcut
    cases kq with
    | zero => exact absurd HA.out (by simp [wigeonlaw02_ScreenChecks.j0])
    | succ kj2 =>
      have H := HA.out
      clear HA
      simp only [wigeonlaw02_ScreenChecks.j0] at H
      by_cases c9 : x18_2 = true
      · subst c9
        have H1 : ((wigeonlaw02_known.f kj2).bind fun t496 => (some t496)) = some r := by rw [if_pos rfl] at H; exact H
        clear H
        have H := H1
        clear H1
        replace H := Option.bind_eq_some_iff.mp H
        obtain ⟨t496, A100, H⟩ := H
        replace H : (some t496) = some r := H
        have A10 := Aside0.mk A100
        clear A100
        obtain rfl := Option.some.inj H
        go_wp2_with (first | ((with_reducible refine gate_callee (f := 17) rfl ?_); refine goesL_ (some 19) rfl rfl Try.func17 (by kernel_rfl) rfl #[] rfl (by (try simp only [List.map_toArray, List.map_cons, List.map_nil]); first | done | rfl | (simp only [List.length_drop, List.length_take]; rfl)) ?_; (with_reducible refine (wigeonlaw02_known.calls kj2  t496 _ A10.out).mono ?_); rintro e w11 ⟨rfl, hb⟩; refine ⟨_, rfl, ?_⟩; have n0_ := Aside0.mk (blk_below (g := gb494) (o := .cells #[.slice A1_0 l1_0.length c1_0, .int .i64 a1_1, .int .i64 a1_2, .int .i64 a1_3, .int .i64 a1_4, .slice A1_5 l1_5.length c1_5] 60 (0, 0)) (by (with_reducible repeat (first | refine blk_drewN ?_ _ | refine blk_drew ?_ | refine blk_alloc ?_ _)); exact BK494.out) hb); have n1_ := Aside0.mk (below_step (by repeat (first | (with_reducible first | exact HB.out | apply below_alloc | apply pw_below_drewN | apply below_drew1 | refine below_set ?_ GE494.out) | exact HB.out)) hb); clear BK494; clear HB; have BK494 := n0_; have HB := n1_; clear n0_ n1_; (try clear hb); (try clear hb2); (try clear hk); (try clear hi)))
        go_ret
        exact ⟨by first | rfl | (simp [errW_none, errW_some] <;> rfl) | (simp [*, errW_none, errW_some] <;> rfl), by repeat (first | (with_reducible first | exact HB.out | apply below_alloc | apply pw_below_drewN | apply below_drew1 | refine below_set ?_ GE494.out) | exact HB.out)⟩
      · replace c9 := Bool.eq_false_iff.mpr c9
        subst c9
        have H1 : ((screen_CheckWay.f kj2 l0 l1_0 a1_1 a1_2 a1_3 a1_4 l1_5).bind fun bt497 => ((wigeonref02_CheckWay.f kj2 l0 l1_0 a1_1 a1_2 a1_3 a1_4 l1_5).bind fun bt499 => (if bt497.1 = bt499.1 then (if bt497.2 = bt499.2 then ((wigeonlaw02_known.f kj2).bind fun t501 => (some t501)) else (some false)) else (some false)))) = some r := by rw [if_neg (show ¬ (false = true) by decide)] at H; exact H
        clear H
        have H := H1
        clear H1
        replace H := Option.bind_eq_some_iff.mp H
        obtain ⟨⟨t497, t498⟩, A120, H⟩ := H
        replace H : ((wigeonref02_CheckWay.f kj2 l0 l1_0 a1_1 a1_2 a1_3 a1_4 l1_5).bind fun bt499 => (if t497 = bt499.1 then (if t498 = bt499.2 then ((wigeonlaw02_known.f kj2).bind fun t501 => (some t501)) else (some false)) else (some false))) = some r := H
        have A12 := Aside0.mk A120
        clear A120
        replace H := Option.bind_eq_some_iff.mp H
        obtain ⟨⟨t499, t500⟩, A130, H⟩ := H
        replace H : (if t497 = t499 then (if t498 = t500 then ((wigeonlaw02_known.f kj2).bind fun t501 => (some t501)) else (some false)) else (some false)) = some r := H
        have A13 := Aside0.mk A130
        clear A130
        by_cases c14 : t497 = t499
        · rw [if_pos c14] at H
          have c14b0 : (t497 == t499) = true := beq_iff_eq.mpr c14
          have c14b1 : (t497 != t499) = false := bne_eq_false_iff_eq.mpr c14
          clear c14
          by_cases c15 : t498 = t500
          · rw [if_pos c15] at H
            have c15b0 : (t498 == t500) = true := beq_iff_eq.mpr c15
            have c15b1 : (t498 != t500) = false := bne_eq_false_iff_eq.mpr c15
            clear c15
            replace H := Option.bind_eq_some_iff.mp H
            obtain ⟨t501, A160, H⟩ := H
            replace H : (some t501) = some r := H
            have A16 := Aside0.mk A160
            clear A160
            obtain rfl := Option.some.inj H
            have hcz17_0 : wc.cell? ⟨gb494, 0, none⟩ = some (.slice A1_0 l1_0.length c1_0) := (blk_cell BK494.out 0).trans rfl
            have hcz17_1 : wc.cell? ⟨gb494, 1, none⟩ = some (.int .i64 a1_1) := (blk_cell BK494.out 1).trans rfl
            have hcz17_2 : wc.cell? ⟨gb494, 2, none⟩ = some (.int .i64 a1_2) := (blk_cell BK494.out 2).trans rfl
            have hcz17_3 : wc.cell? ⟨gb494, 3, none⟩ = some (.int .i64 a1_3) := (blk_cell BK494.out 3).trans rfl
            have hcz17_4 : wc.cell? ⟨gb494, 4, none⟩ = some (.int .i64 a1_4) := (blk_cell BK494.out 4).trans rfl
            have hcz17_5 : wc.cell? ⟨gb494, 5, none⟩ = some (.slice A1_5 l1_5.length c1_5) := (blk_cell BK494.out 5).trans rfl
            have hfz17_0 := blk_frozen BK494.out 0
            have hfz17_1 := blk_frozen BK494.out 1
            have hfz17_2 := blk_frozen BK494.out 2
            have hfz17_3 := blk_frozen BK494.out 3
            have hfz17_4 := blk_frozen BK494.out 4
            have hfz17_5 := blk_frozen BK494.out 5
            go_wp2_with (first | ((with_reducible refine gate_callee (f := 40) rfl ?_); refine goesL_ (some 28) rfl rfl Try.func40 (by kernel_rfl) rfl #[.slice A0 l0.length c0, .slice A1_0 l1_0.length c1_0, .agg #[.int .i64 a1_1, .int .i64 a1_2, .int .i64 a1_3, .int .i64 a1_4], .slice A1_5 l1_5.length c1_5] rfl (by (try simp only [List.map_toArray, List.map_cons, List.map_nil]); first | done | rfl | (simp only [List.length_drop, List.length_take]; rfl)) ?_; (with_reducible refine (screen_CheckWay.calls kj2 _ _ l0 _ _ l1_0 a1_1 a1_2 a1_3 a1_4 _ _ l1_5 t497 t498 _ ?side1 ?side2 ?side3 ?side4 ?side5 ?side6 A12.out).mono ?_); (case side1 => repeat (first | exact (Kd.C_below HR0.out HB.out) | (with_reducible refine Kd.C_alloc ?_ _) | (with_reducible refine Kd.C_drewN ?_ _) | (with_reducible refine Kd.C_drew ?_))); (case side2 => exact HC0.out); (case side3 => repeat (first | exact (Kd.C_below HR1_0.out HB.out) | (with_reducible refine Kd.C_alloc ?_ _) | (with_reducible refine Kd.C_drewN ?_ _) | (with_reducible refine Kd.C_drew ?_))); (case side4 => exact HC1_0.out); (case side5 => repeat (first | exact (Kd.C_below HR1_5.out HB.out) | (with_reducible refine Kd.C_alloc ?_ _) | (with_reducible refine Kd.C_drewN ?_ _) | (with_reducible refine Kd.C_drew ?_))); (case side6 => exact HC1_5.out); rintro e w18 ⟨rfl, hb⟩; refine ⟨_, rfl, ?_⟩; have n0_ := Aside0.mk (blk_below (g := gb494) (o := .cells #[.slice A1_0 l1_0.length c1_0, .int .i64 a1_1, .int .i64 a1_2, .int .i64 a1_3, .int .i64 a1_4, .slice A1_5 l1_5.length c1_5] 60 (0, 0)) (by (with_reducible repeat (first | refine blk_drewN ?_ _ | refine blk_drew ?_ | refine blk_alloc ?_ _)); exact BK494.out) hb); have n1_ := Aside0.mk (below_step (by repeat (first | (with_reducible first | exact HB.out | apply below_alloc | apply pw_below_drewN | apply below_drew1 | refine below_set ?_ GE494.out) | exact HB.out)) hb); clear BK494; clear HB; have BK494 := n0_; have HB := n1_; clear n0_ n1_; (try clear hb); (try clear hb2); (try clear hk); (try clear hi); have hcz19_0 : w18.cell? ⟨gb494, 0, none⟩ = some (.slice A1_0 l1_0.length c1_0) := (blk_cell BK494.out 0).trans rfl; have hcz19_1 : w18.cell? ⟨gb494, 1, none⟩ = some (.int .i64 a1_1) := (blk_cell BK494.out 1).trans rfl; have hcz19_2 : w18.cell? ⟨gb494, 2, none⟩ = some (.int .i64 a1_2) := (blk_cell BK494.out 2).trans rfl; have hcz19_3 : w18.cell? ⟨gb494, 3, none⟩ = some (.int .i64 a1_3) := (blk_cell BK494.out 3).trans rfl; have hcz19_4 : w18.cell? ⟨gb494, 4, none⟩ = some (.int .i64 a1_4) := (blk_cell BK494.out 4).trans rfl; have hcz19_5 : w18.cell? ⟨gb494, 5, none⟩ = some (.slice A1_5 l1_5.length c1_5) := (blk_cell BK494.out 5).trans rfl; have hfz19_0 := blk_frozen BK494.out 0; have hfz19_1 := blk_frozen BK494.out 1; have hfz19_2 := blk_frozen BK494.out 2; have hfz19_3 := blk_frozen BK494.out 3; have hfz19_4 := blk_frozen BK494.out 4; have hfz19_5 := blk_frozen BK494.out 5) | ((with_reducible refine gate_callee (f := 41) rfl ?_); refine goesL_ (some 39) rfl rfl Try.func41 (by kernel_rfl) rfl #[.slice A0 l0.length c0, .slice A1_0 l1_0.length c1_0, .agg #[.int .i64 a1_1, .int .i64 a1_2, .int .i64 a1_3, .int .i64 a1_4], .slice A1_5 l1_5.length c1_5] rfl (by (try simp only [List.map_toArray, List.map_cons, List.map_nil]); first | done | rfl | (simp only [List.length_drop, List.length_take]; rfl)) ?_; (with_reducible refine (wigeonref02_CheckWay.calls kj2 _ _ l0 _ _ l1_0 a1_1 a1_2 a1_3 a1_4 _ _ l1_5 t499 t500 _ ?side1 ?side2 ?side3 ?side4 ?side5 ?side6 A13.out).mono ?_); (case side1 => repeat (first | exact (Kd.C_below HR0.out HB.out) | (with_reducible refine Kd.C_alloc ?_ _) | (with_reducible refine Kd.C_drewN ?_ _) | (with_reducible refine Kd.C_drew ?_))); (case side2 => exact HC0.out); (case side3 => repeat (first | exact (Kd.C_below HR1_0.out HB.out) | (with_reducible refine Kd.C_alloc ?_ _) | (with_reducible refine Kd.C_drewN ?_ _) | (with_reducible refine Kd.C_drew ?_))); (case side4 => exact HC1_0.out); (case side5 => repeat (first | exact (Kd.C_below HR1_5.out HB.out) | (with_reducible refine Kd.C_alloc ?_ _) | (with_reducible refine Kd.C_drewN ?_ _) | (with_reducible refine Kd.C_drew ?_))); (case side6 => exact HC1_5.out); rintro e w20 ⟨rfl, hb⟩; refine ⟨_, rfl, ?_⟩; have n0_ := Aside0.mk (blk_below (g := gb494) (o := .cells #[.slice A1_0 l1_0.length c1_0, .int .i64 a1_1, .int .i64 a1_2, .int .i64 a1_3, .int .i64 a1_4, .slice A1_5 l1_5.length c1_5] 60 (0, 0)) (by (with_reducible repeat (first | refine blk_drewN ?_ _ | refine blk_drew ?_ | refine blk_alloc ?_ _)); exact BK494.out) hb); have n1_ := Aside0.mk (below_step (by repeat (first | (with_reducible first | exact HB.out | apply below_alloc | apply pw_below_drewN | apply below_drew1 | refine below_set ?_ GE494.out) | exact HB.out)) hb); clear BK494; clear HB; have BK494 := n0_; have HB := n1_; clear n0_ n1_; (try clear hb); (try clear hb2); (try clear hk); (try clear hi)) | (go_at_call 17; (with_reducible refine (wigeonlaw02_known.calls kj2  t501 _ A16.out).mono ?_); rintro e w21 ⟨rfl, hb⟩; have n0_ := Aside0.mk (blk_below (g := gb494) (o := .cells #[.slice A1_0 l1_0.length c1_0, .int .i64 a1_1, .int .i64 a1_2, .int .i64 a1_3, .int .i64 a1_4, .slice A1_5 l1_5.length c1_5] 60 (0, 0)) (by (with_reducible repeat (first | refine blk_drewN ?_ _ | refine blk_drew ?_ | refine blk_alloc ?_ _)); exact BK494.out) hb); have n1_ := Aside0.mk (below_step (by repeat (first | (with_reducible first | exact HB.out | apply below_alloc | apply pw_below_drewN | apply below_drew1 | refine below_set ?_ GE494.out) | exact HB.out)) hb); clear BK494; clear HB; have BK494 := n0_; have HB := n1_; clear n0_ n1_; (try clear hb); (try clear hb2); (try clear hk); (try clear hi)))
            go_ret
            exact ⟨by first | rfl | (simp [errW_none, errW_some] <;> rfl) | (simp [*, errW_none, errW_some] <;> rfl), by repeat (first | (with_reducible first | exact HB.out | apply below_alloc | apply pw_below_drewN | apply below_drew1 | refine below_set ?_ GE494.out) | exact HB.out)⟩
          · rw [if_neg c15] at H
            have c15b0 : (t498 == t500) = false := beq_eq_false_iff_ne.mpr c15
            have c15b1 : (t498 != t500) = true := bne_iff_ne.mpr c15
            obtain rfl := Option.some.inj H
            have hcz22_0 : wc.cell? ⟨gb494, 0, none⟩ = some (.slice A1_0 l1_0.length c1_0) := (blk_cell BK494.out 0).trans rfl
            have hcz22_1 : wc.cell? ⟨gb494, 1, none⟩ = some (.int .i64 a1_1) := (blk_cell BK494.out 1).trans rfl
            have hcz22_2 : wc.cell? ⟨gb494, 2, none⟩ = some (.int .i64 a1_2) := (blk_cell BK494.out 2).trans rfl
            have hcz22_3 : wc.cell? ⟨gb494, 3, none⟩ = some (.int .i64 a1_3) := (blk_cell BK494.out 3).trans rfl
            have hcz22_4 : wc.cell? ⟨gb494, 4, none⟩ = some (.int .i64 a1_4) := (blk_cell BK494.out 4).trans rfl
            have hcz22_5 : wc.cell? ⟨gb494, 5, none⟩ = some (.slice A1_5 l1_5.length c1_5) := (blk_cell BK494.out 5).trans rfl
            have hfz22_0 := blk_frozen BK494.out 0
            have hfz22_1 := blk_frozen BK494.out 1
            have hfz22_2 := blk_frozen BK494.out 2
            have hfz22_3 := blk_frozen BK494.out 3
            have hfz22_4 := blk_frozen BK494.out 4
            have hfz22_5 := blk_frozen BK494.out 5
            go_wp2_with (first | ((with_reducible refine gate_callee (f := 40) rfl ?_); refine goesL_ (some 28) rfl rfl Try.func40 (by kernel_rfl) rfl #[.slice A0 l0.length c0, .slice A1_0 l1_0.length c1_0, .agg #[.int .i64 a1_1, .int .i64 a1_2, .int .i64 a1_3, .int .i64 a1_4], .slice A1_5 l1_5.length c1_5] rfl (by (try simp only [List.map_toArray, List.map_cons, List.map_nil]); first | done | rfl | (simp only [List.length_drop, List.length_take]; rfl)) ?_; (with_reducible refine (screen_CheckWay.calls kj2 _ _ l0 _ _ l1_0 a1_1 a1_2 a1_3 a1_4 _ _ l1_5 t497 t498 _ ?side1 ?side2 ?side3 ?side4 ?side5 ?side6 A12.out).mono ?_); (case side1 => repeat (first | exact (Kd.C_below HR0.out HB.out) | (with_reducible refine Kd.C_alloc ?_ _) | (with_reducible refine Kd.C_drewN ?_ _) | (with_reducible refine Kd.C_drew ?_))); (case side2 => exact HC0.out); (case side3 => repeat (first | exact (Kd.C_below HR1_0.out HB.out) | (with_reducible refine Kd.C_alloc ?_ _) | (with_reducible refine Kd.C_drewN ?_ _) | (with_reducible refine Kd.C_drew ?_))); (case side4 => exact HC1_0.out); (case side5 => repeat (first | exact (Kd.C_below HR1_5.out HB.out) | (with_reducible refine Kd.C_alloc ?_ _) | (with_reducible refine Kd.C_drewN ?_ _) | (with_reducible refine Kd.C_drew ?_))); (case side6 => exact HC1_5.out); rintro e w23 ⟨rfl, hb⟩; refine ⟨_, rfl, ?_⟩; have n0_ := Aside0.mk (blk_below (g := gb494) (o := .cells #[.slice A1_0 l1_0.length c1_0, .int .i64 a1_1, .int .i64 a1_2, .int .i64 a1_3, .int .i64 a1_4, .slice A1_5 l1_5.length c1_5] 60 (0, 0)) (by (with_reducible repeat (first | refine blk_drewN ?_ _ | refine blk_drew ?_ | refine blk_alloc ?_ _)); exact BK494.out) hb); have n1_ := Aside0.mk (below_step (by repeat (first | (with_reducible first | exact HB.out | apply below_alloc | apply pw_below_drewN | apply below_drew1 | refine below_set ?_ GE494.out) | exact HB.out)) hb); clear BK494; clear HB; have BK494 := n0_; have HB := n1_; clear n0_ n1_; (try clear hb); (try clear hb2); (try clear hk); (try clear hi); have hcz24_0 : w23.cell? ⟨gb494, 0, none⟩ = some (.slice A1_0 l1_0.length c1_0) := (blk_cell BK494.out 0).trans rfl; have hcz24_1 : w23.cell? ⟨gb494, 1, none⟩ = some (.int .i64 a1_1) := (blk_cell BK494.out 1).trans rfl; have hcz24_2 : w23.cell? ⟨gb494, 2, none⟩ = some (.int .i64 a1_2) := (blk_cell BK494.out 2).trans rfl; have hcz24_3 : w23.cell? ⟨gb494, 3, none⟩ = some (.int .i64 a1_3) := (blk_cell BK494.out 3).trans rfl; have hcz24_4 : w23.cell? ⟨gb494, 4, none⟩ = some (.int .i64 a1_4) := (blk_cell BK494.out 4).trans rfl; have hcz24_5 : w23.cell? ⟨gb494, 5, none⟩ = some (.slice A1_5 l1_5.length c1_5) := (blk_cell BK494.out 5).trans rfl; have hfz24_0 := blk_frozen BK494.out 0; have hfz24_1 := blk_frozen BK494.out 1; have hfz24_2 := blk_frozen BK494.out 2; have hfz24_3 := blk_frozen BK494.out 3; have hfz24_4 := blk_frozen BK494.out 4; have hfz24_5 := blk_frozen BK494.out 5) | ((with_reducible refine gate_callee (f := 41) rfl ?_); refine goesL_ (some 39) rfl rfl Try.func41 (by kernel_rfl) rfl #[.slice A0 l0.length c0, .slice A1_0 l1_0.length c1_0, .agg #[.int .i64 a1_1, .int .i64 a1_2, .int .i64 a1_3, .int .i64 a1_4], .slice A1_5 l1_5.length c1_5] rfl (by (try simp only [List.map_toArray, List.map_cons, List.map_nil]); first | done | rfl | (simp only [List.length_drop, List.length_take]; rfl)) ?_; (with_reducible refine (wigeonref02_CheckWay.calls kj2 _ _ l0 _ _ l1_0 a1_1 a1_2 a1_3 a1_4 _ _ l1_5 t499 t500 _ ?side1 ?side2 ?side3 ?side4 ?side5 ?side6 A13.out).mono ?_); (case side1 => repeat (first | exact (Kd.C_below HR0.out HB.out) | (with_reducible refine Kd.C_alloc ?_ _) | (with_reducible refine Kd.C_drewN ?_ _) | (with_reducible refine Kd.C_drew ?_))); (case side2 => exact HC0.out); (case side3 => repeat (first | exact (Kd.C_below HR1_0.out HB.out) | (with_reducible refine Kd.C_alloc ?_ _) | (with_reducible refine Kd.C_drewN ?_ _) | (with_reducible refine Kd.C_drew ?_))); (case side4 => exact HC1_0.out); (case side5 => repeat (first | exact (Kd.C_below HR1_5.out HB.out) | (with_reducible refine Kd.C_alloc ?_ _) | (with_reducible refine Kd.C_drewN ?_ _) | (with_reducible refine Kd.C_drew ?_))); (case side6 => exact HC1_5.out); rintro e w25 ⟨rfl, hb⟩; refine ⟨_, rfl, ?_⟩; have n0_ := Aside0.mk (blk_below (g := gb494) (o := .cells #[.slice A1_0 l1_0.length c1_0, .int .i64 a1_1, .int .i64 a1_2, .int .i64 a1_3, .int .i64 a1_4, .slice A1_5 l1_5.length c1_5] 60 (0, 0)) (by (with_reducible repeat (first | refine blk_drewN ?_ _ | refine blk_drew ?_ | refine blk_alloc ?_ _)); exact BK494.out) hb); have n1_ := Aside0.mk (below_step (by repeat (first | (with_reducible first | exact HB.out | apply below_alloc | apply pw_below_drewN | apply below_drew1 | refine below_set ?_ GE494.out) | exact HB.out)) hb); clear BK494; clear HB; have BK494 := n0_; have HB := n1_; clear n0_ n1_; (try clear hb); (try clear hb2); (try clear hk); (try clear hi)))
            go_ret
            exact ⟨by first | rfl | (simp [errW_none, errW_some] <;> rfl) | (simp [*, errW_none, errW_some] <;> rfl), by repeat (first | (with_reducible first | exact HB.out | apply below_alloc | apply pw_below_drewN | apply below_drew1 | refine below_set ?_ GE494.out) | exact HB.out)⟩
        · rw [if_neg c14] at H
          have c14b0 : (t497 == t499) = false := beq_eq_false_iff_ne.mpr c14
          have c14b1 : (t497 != t499) = true := bne_iff_ne.mpr c14
          obtain rfl := Option.some.inj H
          have hcz26_0 : wc.cell? ⟨gb494, 0, none⟩ = some (.slice A1_0 l1_0.length c1_0) := (blk_cell BK494.out 0).trans rfl
          have hcz26_1 : wc.cell? ⟨gb494, 1, none⟩ = some (.int .i64 a1_1) := (blk_cell BK494.out 1).trans rfl
          have hcz26_2 : wc.cell? ⟨gb494, 2, none⟩ = some (.int .i64 a1_2) := (blk_cell BK494.out 2).trans rfl
          have hcz26_3 : wc.cell? ⟨gb494, 3, none⟩ = some (.int .i64 a1_3) := (blk_cell BK494.out 3).trans rfl
          have hcz26_4 : wc.cell? ⟨gb494, 4, none⟩ = some (.int .i64 a1_4) := (blk_cell BK494.out 4).trans rfl
          have hcz26_5 : wc.cell? ⟨gb494, 5, none⟩ = some (.slice A1_5 l1_5.length c1_5) := (blk_cell BK494.out 5).trans rfl
          have hfz26_0 := blk_frozen BK494.out 0
          have hfz26_1 := blk_frozen BK494.out 1
          have hfz26_2 := blk_frozen BK494.out 2
          have hfz26_3 := blk_frozen BK494.out 3
          have hfz26_4 := blk_frozen BK494.out 4
          have hfz26_5 := blk_frozen BK494.out 5
          go_wp2_with (first | ((with_reducible refine gate_callee (f := 40) rfl ?_); refine goesL_ (some 28) rfl rfl Try.func40 (by kernel_rfl) rfl #[.slice A0 l0.length c0, .slice A1_0 l1_0.length c1_0, .agg #[.int .i64 a1_1, .int .i64 a1_2, .int .i64 a1_3, .int .i64 a1_4], .slice A1_5 l1_5.length c1_5] rfl (by (try simp only [List.map_toArray, List.map_cons, List.map_nil]); first | done | rfl | (simp only [List.length_drop, List.length_take]; rfl)) ?_; (with_reducible refine (screen_CheckWay.calls kj2 _ _ l0 _ _ l1_0 a1_1 a1_2 a1_3 a1_4 _ _ l1_5 t497 t498 _ ?side1 ?side2 ?side3 ?side4 ?side5 ?side6 A12.out).mono ?_); (case side1 => repeat (first | exact (Kd.C_below HR0.out HB.out) | (with_reducible refine Kd.C_alloc ?_ _) | (with_reducible refine Kd.C_drewN ?_ _) | (with_reducible refine Kd.C_drew ?_))); (case side2 => exact HC0.out); (case side3 => repeat (first | exact (Kd.C_below HR1_0.out HB.out) | (with_reducible refine Kd.C_alloc ?_ _) | (with_reducible refine Kd.C_drewN ?_ _) | (with_reducible refine Kd.C_drew ?_))); (case side4 => exact HC1_0.out); (case side5 => repeat (first | exact (Kd.C_below HR1_5.out HB.out) | (with_reducible refine Kd.C_alloc ?_ _) | (with_reducible refine Kd.C_drewN ?_ _) | (with_reducible refine Kd.C_drew ?_))); (case side6 => exact HC1_5.out); rintro e w27 ⟨rfl, hb⟩; refine ⟨_, rfl, ?_⟩; have n0_ := Aside0.mk (blk_below (g := gb494) (o := .cells #[.slice A1_0 l1_0.length c1_0, .int .i64 a1_1, .int .i64 a1_2, .int .i64 a1_3, .int .i64 a1_4, .slice A1_5 l1_5.length c1_5] 60 (0, 0)) (by (with_reducible repeat (first | refine blk_drewN ?_ _ | refine blk_drew ?_ | refine blk_alloc ?_ _)); exact BK494.out) hb); have n1_ := Aside0.mk (below_step (by repeat (first | (with_reducible first | exact HB.out | apply below_alloc | apply pw_below_drewN | apply below_drew1 | refine below_set ?_ GE494.out) | exact HB.out)) hb); clear BK494; clear HB; have BK494 := n0_; have HB := n1_; clear n0_ n1_; (try clear hb); (try clear hb2); (try clear hk); (try clear hi); have hcz28_0 : w27.cell? ⟨gb494, 0, none⟩ = some (.slice A1_0 l1_0.length c1_0) := (blk_cell BK494.out 0).trans rfl; have hcz28_1 : w27.cell? ⟨gb494, 1, none⟩ = some (.int .i64 a1_1) := (blk_cell BK494.out 1).trans rfl; have hcz28_2 : w27.cell? ⟨gb494, 2, none⟩ = some (.int .i64 a1_2) := (blk_cell BK494.out 2).trans rfl; have hcz28_3 : w27.cell? ⟨gb494, 3, none⟩ = some (.int .i64 a1_3) := (blk_cell BK494.out 3).trans rfl; have hcz28_4 : w27.cell? ⟨gb494, 4, none⟩ = some (.int .i64 a1_4) := (blk_cell BK494.out 4).trans rfl; have hcz28_5 : w27.cell? ⟨gb494, 5, none⟩ = some (.slice A1_5 l1_5.length c1_5) := (blk_cell BK494.out 5).trans rfl; have hfz28_0 := blk_frozen BK494.out 0; have hfz28_1 := blk_frozen BK494.out 1; have hfz28_2 := blk_frozen BK494.out 2; have hfz28_3 := blk_frozen BK494.out 3; have hfz28_4 := blk_frozen BK494.out 4; have hfz28_5 := blk_frozen BK494.out 5) | ((with_reducible refine gate_callee (f := 41) rfl ?_); refine goesL_ (some 39) rfl rfl Try.func41 (by kernel_rfl) rfl #[.slice A0 l0.length c0, .slice A1_0 l1_0.length c1_0, .agg #[.int .i64 a1_1, .int .i64 a1_2, .int .i64 a1_3, .int .i64 a1_4], .slice A1_5 l1_5.length c1_5] rfl (by (try simp only [List.map_toArray, List.map_cons, List.map_nil]); first | done | rfl | (simp only [List.length_drop, List.length_take]; rfl)) ?_; (with_reducible refine (wigeonref02_CheckWay.calls kj2 _ _ l0 _ _ l1_0 a1_1 a1_2 a1_3 a1_4 _ _ l1_5 t499 t500 _ ?side1 ?side2 ?side3 ?side4 ?side5 ?side6 A13.out).mono ?_); (case side1 => repeat (first | exact (Kd.C_below HR0.out HB.out) | (with_reducible refine Kd.C_alloc ?_ _) | (with_reducible refine Kd.C_drewN ?_ _) | (with_reducible refine Kd.C_drew ?_))); (case side2 => exact HC0.out); (case side3 => repeat (first | exact (Kd.C_below HR1_0.out HB.out) | (with_reducible refine Kd.C_alloc ?_ _) | (with_reducible refine Kd.C_drewN ?_ _) | (with_reducible refine Kd.C_drew ?_))); (case side4 => exact HC1_0.out); (case side5 => repeat (first | exact (Kd.C_below HR1_5.out HB.out) | (with_reducible refine Kd.C_alloc ?_ _) | (with_reducible refine Kd.C_drewN ?_ _) | (with_reducible refine Kd.C_drew ?_))); (case side6 => exact HC1_5.out); rintro e w29 ⟨rfl, hb⟩; refine ⟨_, rfl, ?_⟩; have n0_ := Aside0.mk (blk_below (g := gb494) (o := .cells #[.slice A1_0 l1_0.length c1_0, .int .i64 a1_1, .int .i64 a1_2, .int .i64 a1_3, .int .i64 a1_4, .slice A1_5 l1_5.length c1_5] 60 (0, 0)) (by (with_reducible repeat (first | refine blk_drewN ?_ _ | refine blk_drew ?_ | refine blk_alloc ?_ _)); exact BK494.out) hb); have n1_ := Aside0.mk (below_step (by repeat (first | (with_reducible first | exact HB.out | apply below_alloc | apply pw_below_drewN | apply below_drew1 | refine below_set ?_ GE494.out) | exact HB.out)) hb); clear BK494; clear HB; have BK494 := n0_; have HB := n1_; clear n0_ n1_; (try clear hb); (try clear hb2); (try clear hk); (try clear hi)))
          go_ret
          exact ⟨by first | rfl | (simp [errW_none, errW_some] <;> rfl) | (simp [*, errW_none, errW_some] <;> rfl), by repeat (first | (with_reducible first | exact HB.out | apply below_alloc | apply pw_below_drewN | apply below_drew1 | refine below_set ?_ GE494.out) | exact HB.out)⟩

end Go.Proofs.Ytgkgednbmfinnaa.SC

