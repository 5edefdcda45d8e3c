/- Of the text LWx20, what the row of LureProofs reaches. -/
import Derived.Test.YtnmaonampilmoaaZLureProofsLWx0
import Derived.Test.YtnmaonampilmoaaZLureProofsLWx16
namespace Go.Proofs.Ytnmaonampilmoaa.LW
open Go.RowKit Go.Proofs.YtnmaonampilmoaaW.PrintWords Go.Proofs.YtnmaonampilmoaaW.PrintLast Go.Proofs.YtnmaonampilmoaaW.PrintMore
attribute [local go_sem] max2_int min2_int max_two min_two max_three min_three max_four min_four   -- for this text's walks alone
set_option linter.unusedVariables false
set_option linter.unusedSimpArgs false

mutual
def wigeonref04_CheckRanks.l0 : Nat → List Int → List Int → Int → List Int → List (List Int) → Option (Int)
  | 0, _, _, _, _, _ => none
  | k + 1, x1, x2, x8, x228000, x228001 => if x8 < (x2.length : Int) then (if 0 ≤ x8 then ((wigeonref04_within.f (rd x2 x8) (-1) 16).bind fun t230 => (if t230 = true then (wigeonref04_CheckRanks.l0 k x1 x2 (wrap64 (x8 + 1)) x228000 x228001) else (some 1))) else (none)) else (wigeonref04_CheckRanks.l1 k x1 x2 0 x228000 x228001)
def wigeonref04_CheckRanks.l1 : Nat → List Int → List Int → Int → List Int → List (List Int) → Option (Int)
  | 0, _, _, _, _, _ => none
  | k + 1, x1, x2, x9, x228000, x228001 => if x9 < (x2.length : Int) then (if 0 ≤ x9 then (if (rd x2 x9) = 0 then ((wigeonref04_bits.f k x1).bind fun t232 => (if 0 ≤ (IntKind.u64.wrap (x9)) then (wigeonref04_CheckRanks.j2 k x1 x2 x9 ((Go.bits .and .i64 (shr .i64 t232 (IntKind.u64.wrap (x9))) 1) == 0) x228000 x228001) else (none))) else (wigeonref04_CheckRanks.j2 k x1 x2 x9 false x228000 x228001)) else (none)) else (some 0)
def wigeonref04_CheckRanks.j2 : Nat → List Int → List Int → Int → Bool → List Int → List (List Int) → Option (Int)
  | 0, _, _, _, _, _, _ => none
  | k + 1, x1, x2, x9, x55, x228000, x228001 => if x55 = true then (some 7) else (wigeonref04_CheckRanks.l2 k x1 x2 x9 0 0 x228000 x228001)
def wigeonref04_CheckRanks.l2 : Nat → List Int → List Int → Int → Int → Int → List Int → List (List Int) → Option (Int)
  | 0, _, _, _, _, _, _, _ => none
  | k + 1, x1, x2, x9, x10, x11, x228000, x228001 => if 0 ≤ x9 then (if x9 < (x228001.length : Int) then (if x11 < ((rd_L1 x228001 x9).length : Int) then (if 0 ≤ x11 then (if 0 ≤ (rd (rd_L1 x228001 x9) x11) then (if (rd (rd_L1 x228001 x9) x11) < (x2.length : Int) then (if x9 < (x2.length : Int) then ((wigeonref04_within.f (rd x2 (rd (rd_L1 x228001 x9) x11)) 0 (wrap64 ((rd x2 x9) - 1))).bind fun t238 => (if t238 = true then (wigeonref04_CheckRanks.l2 k x1 x2 x9 (wrap64 (x10 + 1)) (wrap64 (x11 + 1)) x228000 x228001) else (wigeonref04_CheckRanks.l2 k x1 x2 x9 x10 (wrap64 (x11 + 1)) x228000 x228001))) else (none)) else (none)) else (none)) else (none)) else (if x9 < (x2.length : Int) then (if (rd x2 x9) > 0 then (if x9 < (x228000.length : Int) then (if (rd x228000 x9) = 0 then (if x10 = 0 then (some 7) else (if (rd x228000 x9) = 1 then (if x10 < ((rd_L1 x228001 x9).length : Int) then (some 7) else (wigeonref04_CheckRanks.l1 k x1 x2 (wrap64 (x9 + 1)) x228000 x228001)) else (wigeonref04_CheckRanks.l1 k x1 x2 (wrap64 (x9 + 1)) x228000 x228001))) else (if (rd x228000 x9) = 1 then (if x10 < ((rd_L1 x228001 x9).length : Int) then (some 7) else (wigeonref04_CheckRanks.l1 k x1 x2 (wrap64 (x9 + 1)) x228000 x228001)) else (wigeonref04_CheckRanks.l1 k x1 x2 (wrap64 (x9 + 1)) x228000 x228001))) else (none)) else (wigeonref04_CheckRanks.l1 k x1 x2 (wrap64 (x9 + 1)) x228000 x228001)) else (none))) else (none)) else (none)
end
def wigeonref04_CheckRanks.f (k : Nat) (l0_0 : List Int) (l0_1 : List (List Int)) (l1 : List Int) (l2 : List Int) : Option (Int) := (wigeonref04_asked.f k l0_0 l0_1 l1).bind fun t228 => (if t228 = 0 then (if (l2.length : Int) = (l0_0.length : Int) then (wigeonref04_CheckRanks.l0 k l1 l2 0 l0_0 l0_1) else (some 1)) else (some t228))
set_option maxHeartbeats 8000000 in
set_option maxRecDepth 100000 in
theorem wigeonref04_CheckRanks.calls (k : Nat) (A0_0 : Option Addr) (c0_0 : Nat) (l0_0 : List Int) (A0_1 : Option Addr) (c0_1 : Nat) (l0_1 : List (List Int)) (A1 : Option Addr) (c1 : Nat) (l1 : List Int) (A2 : Option Addr) (c2 : Nat) (l2 : List Int) (r : Int) (w : World) (hr0_0 : Kd.C (Kd.int .i64) w A0_0 l0_0.length l0_0) (hc0_0 : l0_0.length ≤ c0_0) (hr0_1 : Kd.C (Kd.slice 3 (Kd.int .i64)) w A0_1 l0_1.length l0_1) (hc0_1 : l0_1.length ≤ c0_1) (hr1 : Kd.C (Kd.int .i64) w A1 l1.length l1) (hc1 : l1.length ≤ c1) (hr2 : Kd.C (Kd.int .i64) w A2 l2.length l2) (hc2 : l2.length ≤ c2) (h : wigeonref04_CheckRanks.f k l0_0 l0_1 l1 l2 = some r) :
    Calls Try.prog 34 #[.agg #[.slice A0_0 l0_0.length c0_0, .slice A0_1 l0_1.length c0_1], .slice A1 l1.length c1, .slice A2 l2.length c2] w fun e w' => e = .returned (.int .i64 r) ∧ Below w.heap.size w w' := by
  have hu25 := Try.underlying25
  have HR0_0 := Aside0.mk hr0_0
  have HC0_0 := Aside0.mk hc0_0
  clear hr0_0 hc0_0
  have HR0_1 := Aside0.mk hr0_1
  have HC0_1 := Aside0.mk hc0_1
  clear hr0_1 hc0_1
  have HR1 := Aside0.mk hr1
  have HC1 := Aside0.mk hc1
  clear hr1 hc1
  have HR2 := Aside0.mk hr2
  have HC2 := Aside0.mk hc2
  clear hr2 hc2
  have HB := Aside0.mk (Below.refl w.heap.size w)
  have H : ((wigeonref04_asked.f k l0_0 l0_1 l1).bind fun t228 => (if t228 = 0 then (if (l2.length : Int) = (l0_0.length : Int) then (wigeonref04_CheckRanks.l0 k l1 l2 0 l0_0 l0_1) else (some 1)) else (some t228))) = some r := h
  clear h
  replace H := Option.bind_eq_some_iff.mp H
  obtain ⟨t228, A40, H⟩ := H
  replace H : (if t228 = 0 then (if (l2.length : Int) = (l0_0.length : Int) then (wigeonref04_CheckRanks.l0 k l1 l2 0 l0_0 l0_1) else (some 1)) else (some t228)) = some r := H
  have A4 := Aside0.mk A40
  clear A40
  by_cases c5 : t228 = 0
  · rw [if_pos c5] at H
    have c5b0 : (t228 == 0) = true := beq_iff_eq.mpr c5
    have c5b1 : (t228 != 0) = false := bne_eq_false_iff_eq.mpr c5
    clear c5
    by_cases c6 : (l2.length : Int) = (l0_0.length : Int)
    · rw [if_pos c6] at H
      have c6b0 : ((l2.length : Int) == (l0_0.length : Int)) = true := beq_iff_eq.mpr c6
      have c6b1 : ((l2.length : Int) != (l0_0.length : Int)) = false := bne_eq_false_iff_eq.mpr c6
      have c6b2 : (l2.length == l0_0.length) = true := by first | simpa using c6 | (simp at c6 ⊢; omega)
      clear c6
      have H' := Aside0.mk H
      clear H
      go_enter Try.func34, Try.ntmps34
      go_wp2_with (first | ((with_reducible refine gate_dst (N := 3) rfl ?_); (try (refine gate_guard (by rfl) ?_; dsimp only)); refine box_event ?hg (N := 3) ?hd (cs := #[.slice A0_0 l0_0.length c0_0, .slice A0_1 l0_1.length c0_1]) (t := 25) ?hr ?_; (case hd => rfl); (case hg => rfl); (case hr => first | (go_simp; done) | (go_simp; rfl)); intro gb227 hg w7 hbox hb; have n0_ := Aside0.mk (below_step (by repeat (first | (with_reducible first | exact HB.out | apply below_alloc | apply pw_below_drewN | apply below_drew1) | exact HB.out)) hb); have n1_ := Aside0.mk (hbox); have n2_ := Aside0.mk ((by rw [hg]; exact (below_size (by repeat (first | (with_reducible first | exact HB.out | apply below_alloc | apply pw_below_drewN | apply below_drew1) | exact HB.out))) : w.heap.size ≤ gb227)); have n3_ := Aside0.mk ((by rw [hg]; exact (below_size (by repeat (first | (with_reducible first | exact HB.out | apply below_alloc | apply pw_below_drewN | apply below_drew1) | exact HB.out))) : w.heap.size ≤ gb227)); clear HB; have HB := n0_; have BK227 := n1_; have GW227 := n2_; have GE227 := n3_; clear n0_ n1_ n2_ n3_; clear hb hbox hg; have hcz8_0 : w7.cell? ⟨gb227, 0, none⟩ = some (.slice A0_0 l0_0.length c0_0) := (blk_cell BK227.out 0).trans rfl; have hcz8_1 : w7.cell? ⟨gb227, 1, none⟩ = some (.slice A0_1 l0_1.length c0_1) := (blk_cell BK227.out 1).trans rfl; have hfz8_0 := blk_frozen BK227.out 0; have hfz8_1 := blk_frozen BK227.out 1) | (go_at_call 49; (with_reducible refine (wigeonref04_asked.calls k _ _ l0_0 _ _ l0_1 _ _ l1 t228 _ ?side1 ?side2 ?side3 ?side4 ?side5 ?side6 A4.out).mono ?_); (case side1 => repeat (first | exact (Kd.C_below HR0_0.out HB.out) | (with_reducible refine Kd.C_alloc ?_ _) | (with_reducible refine Kd.C_drewN ?_ _) | (with_reducible refine Kd.C_drew ?_))); (case side2 => exact HC0_0.out); (case side3 => repeat (first | exact (Kd.C_below HR0_1.out HB.out) | (with_reducible refine Kd.C_alloc ?_ _) | (with_reducible refine Kd.C_drewN ?_ _) | (with_reducible refine Kd.C_drew ?_))); (case side4 => exact HC0_1.out); (case side5 => repeat (first | exact (Kd.C_below HR1.out HB.out) | (with_reducible refine Kd.C_alloc ?_ _) | (with_reducible refine Kd.C_drewN ?_ _) | (with_reducible refine Kd.C_drew ?_))); (case side6 => exact HC1.out); rintro e w9 ⟨rfl, hb⟩; have n0_ := Aside0.mk (blk_below (g := gb227) (o := .cells #[.slice A0_0 l0_0.length c0_0, .slice A0_1 l0_1.length c0_1] 25 (0, 0)) (by (with_reducible repeat (first | refine blk_drewN ?_ _ | refine blk_drew ?_ | refine blk_alloc ?_ _)); exact BK227.out) hb); have n1_ := Aside0.mk (below_step (by repeat (first | (with_reducible first | exact HB.out | apply below_alloc | apply pw_below_drewN | apply below_drew1 | refine below_set ?_ GE227.out) | exact HB.out)) hb); clear BK227; clear HB; have BK227 := n0_; have HB := n1_; clear n0_ n1_; (try clear hb); (try clear hb2); (try clear hk); (try clear hi); have hcz10_0 : w9.cell? ⟨gb227, 0, none⟩ = some (.slice A0_0 l0_0.length c0_0) := (blk_cell BK227.out 0).trans rfl; have hcz10_1 : w9.cell? ⟨gb227, 1, none⟩ = some (.slice A0_1 l0_1.length c0_1) := (blk_cell BK227.out 1).trans rfl; have hfz10_0 := blk_frozen BK227.out 0; have hfz10_1 := blk_frozen BK227.out 1))
      repeat (go_quiet (first | ((with_reducible refine gate_dst (N := 3) rfl ?_); (try (refine gate_guard (by rfl) ?_; dsimp only)); refine box_event ?hg (N := 3) ?hd (cs := #[.slice A0_0 l0_0.length c0_0, .slice A0_1 l0_1.length c0_1]) (t := 25) ?hr ?_; (case hd => rfl); (case hg => rfl); (case hr => first | (go_simp; done) | (go_simp; rfl)); intro gb227 hg w7 hbox hb; have n0_ := Aside0.mk (below_step (by repeat (first | (with_reducible first | exact HB.out | apply below_alloc | apply pw_below_drewN | apply below_drew1) | exact HB.out)) hb); have n1_ := Aside0.mk (hbox); have n2_ := Aside0.mk ((by rw [hg]; exact (below_size (by repeat (first | (with_reducible first | exact HB.out | apply below_alloc | apply pw_below_drewN | apply below_drew1) | exact HB.out))) : w.heap.size ≤ gb227)); have n3_ := Aside0.mk ((by rw [hg]; exact (below_size (by repeat (first | (with_reducible first | exact HB.out | apply below_alloc | apply pw_below_drewN | apply below_drew1) | exact HB.out))) : w.heap.size ≤ gb227)); clear HB; have HB := n0_; have BK227 := n1_; have GW227 := n2_; have GE227 := n3_; clear n0_ n1_ n2_ n3_; clear hb hbox hg; have hcz8_0 : w7.cell? ⟨gb227, 0, none⟩ = some (.slice A0_0 l0_0.length c0_0) := (blk_cell BK227.out 0).trans rfl; have hcz8_1 : w7.cell? ⟨gb227, 1, none⟩ = some (.slice A0_1 l0_1.length c0_1) := (blk_cell BK227.out 1).trans rfl; have hfz8_0 := blk_frozen BK227.out 0; have hfz8_1 := blk_frozen BK227.out 1) | (go_at_call 49; (with_reducible refine (wigeonref04_asked.calls k _ _ l0_0 _ _ l0_1 _ _ l1 t228 _ ?side1 ?side2 ?side3 ?side4 ?side5 ?side6 A4.out).mono ?_); (case side1 => repeat (first | exact (Kd.C_below HR0_0.out HB.out) | (with_reducible refine Kd.C_alloc ?_ _) | (with_reducible refine Kd.C_drewN ?_ _) | (with_reducible refine Kd.C_drew ?_))); (case side2 => exact HC0_0.out); (case side3 => repeat (first | exact (Kd.C_below HR0_1.out HB.out) | (with_reducible refine Kd.C_alloc ?_ _) | (with_reducible refine Kd.C_drewN ?_ _) | (with_reducible refine Kd.C_drew ?_))); (case side4 => exact HC0_1.out); (case side5 => repeat (first | exact (Kd.C_below HR1.out HB.out) | (with_reducible refine Kd.C_alloc ?_ _) | (with_reducible refine Kd.C_drewN ?_ _) | (with_reducible refine Kd.C_drew ?_))); (case side6 => exact HC1.out); rintro e w9 ⟨rfl, hb⟩; have n0_ := Aside0.mk (blk_below (g := gb227) (o := .cells #[.slice A0_0 l0_0.length c0_0, .slice A0_1 l0_1.length c0_1] 25 (0, 0)) (by (with_reducible repeat (first | refine blk_drewN ?_ _ | refine blk_drew ?_ | refine blk_alloc ?_ _)); exact BK227.out) hb); have n1_ := Aside0.mk (below_step (by repeat (first | (with_reducible first | exact HB.out | apply below_alloc | apply pw_below_drewN | apply below_drew1 | refine below_set ?_ GE227.out) | exact HB.out)) hb); clear BK227; clear HB; have BK227 := n0_; have HB := n1_; clear n0_ n1_; (try clear hb); (try clear hb2); (try clear hk); (try clear hi); have hcz10_0 : w9.cell? ⟨gb227, 0, none⟩ = some (.slice A0_0 l0_0.length c0_0) := (blk_cell BK227.out 0).trans rfl; have hcz10_1 : w9.cell? ⟨gb227, 1, none⟩ = some (.slice A0_1 l0_1.length c0_1) := (blk_cell BK227.out 1).trans rfl; have hfz10_0 := blk_frozen BK227.out 0; have hfz10_1 := blk_frozen BK227.out 1)); try go_wp2_with (first | ((with_reducible refine gate_dst (N := 3) rfl ?_); (try (refine gate_guard (by rfl) ?_; dsimp only)); refine box_event ?hg (N := 3) ?hd (cs := #[.slice A0_0 l0_0.length c0_0, .slice A0_1 l0_1.length c0_1]) (t := 25) ?hr ?_; (case hd => rfl); (case hg => rfl); (case hr => first | (go_simp; done) | (go_simp; rfl)); intro gb227 hg w7 hbox hb; have n0_ := Aside0.mk (below_step (by repeat (first | (with_reducible first | exact HB.out | apply below_alloc | apply pw_below_drewN | apply below_drew1) | exact HB.out)) hb); have n1_ := Aside0.mk (hbox); have n2_ := Aside0.mk ((by rw [hg]; exact (below_size (by repeat (first | (with_reducible first | exact HB.out | apply below_alloc | apply pw_below_drewN | apply below_drew1) | exact HB.out))) : w.heap.size ≤ gb227)); have n3_ := Aside0.mk ((by rw [hg]; exact (below_size (by repeat (first | (with_reducible first | exact HB.out | apply below_alloc | apply pw_below_drewN | apply below_drew1) | exact HB.out))) : w.heap.size ≤ gb227)); clear HB; have HB := n0_; have BK227 := n1_; have GW227 := n2_; have GE227 := n3_; clear n0_ n1_ n2_ n3_; clear hb hbox hg; have hcz8_0 : w7.cell? ⟨gb227, 0, none⟩ = some (.slice A0_0 l0_0.length c0_0) := (blk_cell BK227.out 0).trans rfl; have hcz8_1 : w7.cell? ⟨gb227, 1, none⟩ = some (.slice A0_1 l0_1.length c0_1) := (blk_cell BK227.out 1).trans rfl; have hfz8_0 := blk_frozen BK227.out 0; have hfz8_1 := blk_frozen BK227.out 1) | (go_at_call 49; (with_reducible refine (wigeonref04_asked.calls k _ _ l0_0 _ _ l0_1 _ _ l1 t228 _ ?side1 ?side2 ?side3 ?side4 ?side5 ?side6 A4.out).mono ?_); (case side1 => repeat (first | exact (Kd.C_below HR0_0.out HB.out) | (with_reducible refine Kd.C_alloc ?_ _) | (with_reducible refine Kd.C_drewN ?_ _) | (with_reducible refine Kd.C_drew ?_))); (case side2 => exact HC0_0.out); (case side3 => repeat (first | exact (Kd.C_below HR0_1.out HB.out) | (with_reducible refine Kd.C_alloc ?_ _) | (with_reducible refine Kd.C_drewN ?_ _) | (with_reducible refine Kd.C_drew ?_))); (case side4 => exact HC0_1.out); (case side5 => repeat (first | exact (Kd.C_below HR1.out HB.out) | (with_reducible refine Kd.C_alloc ?_ _) | (with_reducible refine Kd.C_drewN ?_ _) | (with_reducible refine Kd.C_drew ?_))); (case side6 => exact HC1.out); rintro e w9 ⟨rfl, hb⟩; have n0_ := Aside0.mk (blk_below (g := gb227) (o := .cells #[.slice A0_0 l0_0.length c0_0, .slice A0_1 l0_1.length c0_1] 25 (0, 0)) (by (with_reducible repeat (first | refine blk_drewN ?_ _ | refine blk_drew ?_ | refine blk_alloc ?_ _)); exact BK227.out) hb); have n1_ := Aside0.mk (below_step (by repeat (first | (with_reducible first | exact HB.out | apply below_alloc | apply pw_below_drewN | apply below_drew1 | refine below_set ?_ GE227.out) | exact HB.out)) hb); clear BK227; clear HB; have BK227 := n0_; have HB := n1_; clear n0_ n1_; (try clear hb); (try clear hb2); (try clear hk); (try clear hi); have hcz10_0 : w9.cell? ⟨gb227, 0, none⟩ = some (.slice A0_0 l0_0.length c0_0) := (blk_cell BK227.out 0).trans rfl; have hcz10_1 : w9.cell? ⟨gb227, 1, none⟩ = some (.slice A0_1 l0_1.length c0_1) := (blk_cell BK227.out 1).trans rfl; have hfz10_0 := blk_frozen BK227.out 0; have hfz10_1 := blk_frozen BK227.out 1)))
      go_loopg [8] k (fun kq v8 w' => ∃ (x8_1 : Int), v8 = .int .i64 x8_1 ∧ Aside0 (wigeonref04_CheckRanks.l0 kq l1 l2 x8_1 l0_0 l0_1 = some r) ∧ Aside0 (kq ≤ k) ∧ Aside0 (w'.heap[gb227]? = some (.cells #[(.slice A0_0 l0_0.length c0_0), (.slice A0_1 l0_1.length c0_1)] 25 (0, 0))) ∧ Aside0 (Below w.heap.size w w'))
      case atStart => exact ⟨(0), (by first | rfl | (simp; done) | (simp [*]; done)), H', ⟨Nat.le_refl _⟩, ⟨by (with_reducible repeat (first | refine blk_drewN ?_ _ | refine blk_drew ?_ | refine blk_alloc ?_ _)); exact BK227.out⟩, ⟨by repeat (first | (with_reducible first | exact HB.out | apply below_alloc | apply pw_below_drewN | apply below_drew1 | refine below_set ?_ GE227.out) | exact HB.out)⟩⟩
      case round =>
        clear H'
        try clear c1
        try clear c2
        try clear p2
        try clear c3
        try clear c5
        try clear c5b0
        try clear c5b1
        try clear c6
        try clear c6b0
        try clear c6b1
        try clear c6b2
        try clear hcz10_0
        try clear hcz10_1
        try clear hcz8_0
        try clear hcz8_1
        try clear hfz10_0
        try clear hfz10_1
        try clear hfz8_0
        try clear hfz8_1
        obtain ⟨x8_1, rfl, HA, HK1, BK227, HB⟩ := hrel
        cases gk with
        | zero => exact absurd HA.out (by simp [wigeonref04_CheckRanks.l0])
        | succ k1 =>
          have H := HA.out
          clear HA
          simp only [wigeonref04_CheckRanks.l0] at H
          by_cases c11 : x8_1 < (l2.length : Int)
          · rw [if_pos c11] at H
            have c11b0 : decide (x8_1 < (l2.length : Int)) = true := decide_eq_true c11
            clear c11
            by_cases c12 : 0 ≤ x8_1
            · rw [if_pos c12] at H
              have c12b0 : decide (0 ≤ x8_1) = true := decide_eq_true c12
              clear c12
              replace H := Option.bind_eq_some_iff.mp H
              obtain ⟨t230, A130, H⟩ := H
              replace H : (if t230 = true then (wigeonref04_CheckRanks.l0 k1 l1 l2 (wrap64 (x8_1 + 1)) l0_0 l0_1) else (some 1)) = some r := H
              have A13 := Aside0.mk A130
              clear A130
              by_cases c14 : t230 = true
              · subst c14
                have H1 : (wigeonref04_CheckRanks.l0 k1 l1 l2 (wrap64 (x8_1 + 1)) l0_0 l0_1) = some r := by rw [if_pos rfl] at H; exact H
                clear H
                have H := H1
                clear H1
                have H' := Aside0.mk H
                clear H
                have p229 : 0 ≤ (x8_1 : Int) := of_decide_eq_true (by first | (with_reducible assumption) | assumption)
                have q229 : x8_1 < (l2.length : Int) := of_decide_eq_true (by first | (with_reducible assumption) | assumption)
                obtain ⟨ad229, e229, hx229_0⟩ := Kd.at_int HR2.out x8_1 p229 q229
                cases e229
                replace hx229_0 := (HB.out.cell (World.block_lt_of_cell? w _ hx229_0)).trans hx229_0
                replace p229 := eq_true p229
                replace q229 := eq_true q229
                go_wp2_with (first | (go_at_call 57; (with_reducible refine (wigeonref04_within.calls (rd l2 x8_1) (-1) 16 true _ A13.out).mono ?_); rintro e w' ⟨rfl, ⟨nd, rfl⟩⟩; (try first | exact ⟨rfl, _, World.drewN_drewN _ _ _⟩ | exact ⟨rfl, _, Eq.trans (World.drewN_drewN _ _ _) (congrArg (World.drewN _) (Nat.add_assoc _ _ _))⟩)))
                repeat (go_quiet (first | (go_at_call 57; (with_reducible refine (wigeonref04_within.calls (rd l2 x8_1) (-1) 16 true _ A13.out).mono ?_); rintro e w' ⟨rfl, ⟨nd, rfl⟩⟩; (try first | exact ⟨rfl, _, World.drewN_drewN _ _ _⟩ | exact ⟨rfl, _, Eq.trans (World.drewN_drewN _ _ _) (congrArg (World.drewN _) (Nat.add_assoc _ _ _))⟩))); try go_wp2_with (first | (go_at_call 57; (with_reducible refine (wigeonref04_within.calls (rd l2 x8_1) (-1) 16 true _ A13.out).mono ?_); rintro e w' ⟨rfl, ⟨nd, rfl⟩⟩; (try first | exact ⟨rfl, _, World.drewN_drewN _ _ _⟩ | exact ⟨rfl, _, Eq.trans (World.drewN_drewN _ _ _) (congrArg (World.drewN _) (Nat.add_assoc _ _ _))⟩))))
                go_roundg k1
                case measure => have := HK1.out; omega
                case rel => exact ⟨(wrap64 (x8_1 + 1)), (by first | rfl | (simp; done) | (simp [*]; done)), H', ⟨by have := HK1.out; omega⟩, ⟨by (with_reducible repeat (first | refine blk_drewN ?_ _ | refine blk_drew ?_ | refine blk_alloc ?_ _)); exact BK227.out⟩, ⟨by repeat (first | (with_reducible first | exact HB.out | apply below_alloc | apply pw_below_drewN | apply below_drew1 | refine below_set ?_ GE227.out) | exact HB.out)⟩⟩
              · replace c14 := Bool.eq_false_iff.mpr c14
                subst c14
                have H1 : (some 1) = some r := by rw [if_neg (show ¬ (false = true) by decide)] at H; exact H
                clear H
                have H := H1
                clear H1
                obtain rfl := Option.some.inj H
                have p229 : 0 ≤ (x8_1 : Int) := of_decide_eq_true (by first | (with_reducible assumption) | assumption)
                have q229 : x8_1 < (l2.length : Int) := of_decide_eq_true (by first | (with_reducible assumption) | assumption)
                obtain ⟨ad229, e229, hx229_0⟩ := Kd.at_int HR2.out x8_1 p229 q229
                cases e229
                replace hx229_0 := (HB.out.cell (World.block_lt_of_cell? w _ hx229_0)).trans hx229_0
                replace p229 := eq_true p229
                replace q229 := eq_true q229
                go_wp2_with (first | (go_at_call 57; (with_reducible refine (wigeonref04_within.calls (rd l2 x8_1) (-1) 16 false _ A13.out).mono ?_); rintro e w' ⟨rfl, ⟨nd, rfl⟩⟩; (try first | exact ⟨rfl, _, World.drewN_drewN _ _ _⟩ | exact ⟨rfl, _, Eq.trans (World.drewN_drewN _ _ _) (congrArg (World.drewN _) (Nat.add_assoc _ _ _))⟩)))
                repeat (go_quiet (first | (go_at_call 57; (with_reducible refine (wigeonref04_within.calls (rd l2 x8_1) (-1) 16 false _ A13.out).mono ?_); rintro e w' ⟨rfl, ⟨nd, rfl⟩⟩; (try first | exact ⟨rfl, _, World.drewN_drewN _ _ _⟩ | exact ⟨rfl, _, Eq.trans (World.drewN_drewN _ _ _) (congrArg (World.drewN _) (Nat.add_assoc _ _ _))⟩))); try go_wp2_with (first | (go_at_call 57; (with_reducible refine (wigeonref04_within.calls (rd l2 x8_1) (-1) 16 false _ A13.out).mono ?_); rintro e w' ⟨rfl, ⟨nd, rfl⟩⟩; (try first | exact ⟨rfl, _, World.drewN_drewN _ _ _⟩ | exact ⟨rfl, _, Eq.trans (World.drewN_drewN _ _ _) (congrArg (World.drewN _) (Nat.add_assoc _ _ _))⟩))))
                go_ret
                exact ⟨by first | rfl | (simp [errW_none, errW_some] <;> rfl) | (simp [*, errW_none, errW_some] <;> rfl), by repeat (first | (with_reducible first | exact HB.out | apply below_alloc | apply pw_below_drewN | apply below_drew1 | refine below_set ?_ GE227.out) | exact HB.out)⟩
            · rw [if_neg c12] at H
              exact absurd H (by simp)
          · rw [if_neg c11] at H
            have c11b0 : decide (x8_1 < (l2.length : Int)) = false := decide_eq_false c11
            clear c11
            have H' := Aside0.mk H
            clear H
            go_wp2
            repeat (go_quiet (fail); try go_wp2)
            go_loopg [9] k1 (fun kq v9 w' => ∃ (x9_2 : Int), v9 = .int .i64 x9_2 ∧ Aside0 (wigeonref04_CheckRanks.l1 kq l1 l2 x9_2 l0_0 l0_1 = some r) ∧ Aside0 (kq ≤ k1) ∧ Aside0 (w'.heap[gb227]? = some (.cells #[(.slice A0_0 l0_0.length c0_0), (.slice A0_1 l0_1.length c0_1)] 25 (0, 0))) ∧ Aside0 (Below w.heap.size w w'))
            case atStart => exact ⟨(0), (by first | rfl | (simp; done) | (simp [*]; done)), H', ⟨Nat.le_refl _⟩, ⟨by (with_reducible repeat (first | refine blk_drewN ?_ _ | refine blk_drew ?_ | refine blk_alloc ?_ _)); exact BK227.out⟩, ⟨by repeat (first | (with_reducible first | exact HB.out | apply below_alloc | apply pw_below_drewN | apply below_drew1 | refine below_set ?_ GE227.out) | exact HB.out)⟩⟩
            case round =>
              clear H'
              try clear c1
              try clear c2
              try clear p2
              try clear q2
              try clear hx2
              try clear c3
              try clear c5
              try clear c5b0
              try clear c5b1
              try clear c6
              try clear c6b0
              try clear c6b1
              try clear c6b2
              try clear p6
              try clear c11
              try clear c11b0
              try clear c12
              try clear c12b0
              try clear c14
              try clear hcz10_0
              try clear hcz10_1
              try clear hcz8_0
              try clear hcz8_1
              try clear hfz10_0
              try clear hfz10_1
              try clear hfz8_0
              try clear hfz8_1
              try clear hx229_0
              try clear p2
              try clear p229
              try clear q229
              obtain ⟨x9_2, rfl, HA, HK2, BK227, HB⟩ := hrel
              cases gk with
              | zero => exact absurd HA.out (by simp [wigeonref04_CheckRanks.l1])
              | succ k2 =>
                have H := HA.out
                clear HA
                simp only [wigeonref04_CheckRanks.l1] at H
                by_cases c15 : x9_2 < (l2.length : Int)
                · rw [if_pos c15] at H
                  have c15b0 : decide (x9_2 < (l2.length : Int)) = true := decide_eq_true c15
                  clear c15
                  have HC16 := Aside0.mk H
                  clear H
                  go_upto_region 14 with (fail)
                  repeat (go_quiet (fail); go_upto_region 14 with (fail))
                  go_cut [55] (fun v55 wc => ∃ (kq : Nat) (x55_15 : Bool), v55 = .bool x55_15 ∧ Aside0 (wigeonref04_CheckRanks.j2 kq l1 l2 x9_2 x55_15 l0_0 l0_1 = some r) ∧ Aside0 (kq ≤ k2) ∧ Aside0 (wc.heap[gb227]? = some (.cells #[(.slice A0_0 l0_0.length c0_0), (.slice A0_1 l0_1.length c0_1)] 25 (0, 0))) ∧ Aside0 (Below w.heap.size w wc))
                  case first =>
                    have H := HC16.out
                    clear HC16
                    by_cases c17 : 0 ≤ x9_2
                    · rw [if_pos c17] at H
                      have c17b0 : decide (0 ≤ x9_2) = true := decide_eq_true c17
                      clear c17
                      (first | rw [c17b0] | (simp only [i64_w, i32_w]; rw [c17b0]) | skip)
                      by_cases c18 : (rd l2 x9_2) = 0
                      · rw [if_pos c18] at H
                        have c18b0 : ((rd l2 x9_2) == 0) = true := beq_iff_eq.mpr c18
                        have c18b1 : ((rd l2 x9_2) != 0) = false := bne_eq_false_iff_eq.mpr c18
                        clear c18
                        replace H := Option.bind_eq_some_iff.mp H
                        obtain ⟨t232, A190, H⟩ := H
                        replace H : (if 0 ≤ (IntKind.u64.wrap (x9_2)) then (wigeonref04_CheckRanks.j2 k2 l1 l2 x9_2 ((Go.bits .and .i64 (shr .i64 t232 (IntKind.u64.wrap (x9_2))) 1) == 0) l0_0 l0_1) else (none)) = some r := H
                        have A19 := Aside0.mk A190
                        clear A190
                        obtain ⟨ji20, hji20⟩ : ∃ j_ : Int, (IntKind.u64.wrap (x9_2)) = j_ := ⟨_, rfl⟩
                        replace H : (if 0 ≤ (ji20) then (wigeonref04_CheckRanks.j2 k2 l1 l2 x9_2 ((Go.bits .and .i64 (shr .i64 t232 (ji20)) 1) == 0) l0_0 l0_1) else (none)) = some r := by first | (rw [hji20] at H; exact H) | (simp only [hji20] at H ⊢; exact H)
                        (try rw [hji20] at A19)
                        by_cases c21 : 0 ≤ (ji20)
                        · rw [if_pos c21] at H
                          have c21b0 := eq_true c21
                          have c21b1 : decide (0 ≤ (ji20)) = true := decide_eq_true c21
                          clear c21
                          obtain ⟨ji22, hji22⟩ : ∃ j_ : Int, (shr .i64 t232 (ji20)) = j_ := ⟨_, rfl⟩
                          replace H : (wigeonref04_CheckRanks.j2 k2 l1 l2 x9_2 ((Go.bits .and .i64 (ji22) 1) == 0) l0_0 l0_1) = some r := by first | (rw [hji22] at H; exact H) | (simp only [hji22] at H ⊢; exact H)
                          (try rw [hji22] at A19)
                          have hji22_ : (t232 / 2 ^ min (ji20).toNat 64) = ji22 := hji22
                          have hji22z : (ji20) ≤ 64 → (t232 / 2 ^ (ji20).toNat) = ji22 := shr_small hji22
                          have H' := Aside0.mk H
                          clear H
                          have p231 : 0 ≤ (x9_2 : Int) := of_decide_eq_true (by first | (with_reducible assumption) | assumption)
                          have q231 : x9_2 < (l2.length : Int) := of_decide_eq_true (by first | (with_reducible assumption) | assumption)
                          obtain ⟨ad231, e231, hx231_0⟩ := Kd.at_int HR2.out x9_2 p231 q231
                          cases e231
                          replace hx231_0 := (HB.out.cell (World.block_lt_of_cell? w _ hx231_0)).trans hx231_0
                          replace p231 := eq_true p231
                          replace q231 := eq_true q231
                          go_wp2_with (first | (go_at_call 51; (with_reducible refine (wigeonref04_bits.calls k2 _ _ l1 t232 _ ?side1 ?side2 A19.out).mono ?_); (case side1 => repeat (first | exact (Kd.C_below HR1.out HB.out) | (with_reducible refine Kd.C_alloc ?_ _) | (with_reducible refine Kd.C_drewN ?_ _) | (with_reducible refine Kd.C_drew ?_))); (case side2 => exact HC1.out); rintro e w' ⟨rfl, ⟨nd, rfl⟩⟩; (try first | exact ⟨rfl, _, World.drewN_drewN _ _ _⟩ | exact ⟨rfl, _, Eq.trans (World.drewN_drewN _ _ _) (congrArg (World.drewN _) (Nat.add_assoc _ _ _))⟩)))
                          repeat (go_quiet (first | (go_at_call 51; (with_reducible refine (wigeonref04_bits.calls k2 _ _ l1 t232 _ ?side1 ?side2 A19.out).mono ?_); (case side1 => repeat (first | exact (Kd.C_below HR1.out HB.out) | (with_reducible refine Kd.C_alloc ?_ _) | (with_reducible refine Kd.C_drewN ?_ _) | (with_reducible refine Kd.C_drew ?_))); (case side2 => exact HC1.out); rintro e w' ⟨rfl, ⟨nd, rfl⟩⟩; (try first | exact ⟨rfl, _, World.drewN_drewN _ _ _⟩ | exact ⟨rfl, _, Eq.trans (World.drewN_drewN _ _ _) (congrArg (World.drewN _) (Nat.add_assoc _ _ _))⟩))); try go_wp2_with (first | (go_at_call 51; (with_reducible refine (wigeonref04_bits.calls k2 _ _ l1 t232 _ ?side1 ?side2 A19.out).mono ?_); (case side1 => repeat (first | exact (Kd.C_below HR1.out HB.out) | (with_reducible refine Kd.C_alloc ?_ _) | (with_reducible refine Kd.C_drewN ?_ _) | (with_reducible refine Kd.C_drew ?_))); (case side2 => exact HC1.out); rintro e w' ⟨rfl, ⟨nd, rfl⟩⟩; (try first | exact ⟨rfl, _, World.drewN_drewN _ _ _⟩ | exact ⟨rfl, _, Eq.trans (World.drewN_drewN _ _ _) (congrArg (World.drewN _) (Nat.add_assoc _ _ _))⟩))))
                          go_meet
                          case rel => exact ⟨_, (((Go.bits .and .i64 (ji22) 1) == 0)), (by first | rfl | (simp; done) | (simp only [← hji22] <;> (first | rfl | simp)) | (simp [*]; done)), H', ⟨by have := HK1.out; have := HK2.out; first | omega | exact Nat.le_refl _⟩, ⟨by (with_reducible repeat (first | refine blk_drewN ?_ _ | refine blk_drew ?_ | refine blk_alloc ?_ _)); exact BK227.out⟩, ⟨by repeat (first | (with_reducible first | exact HB.out | apply below_alloc | apply pw_below_drewN | apply below_drew1 | refine below_set ?_ GE227.out) | exact HB.out)⟩⟩
                        · rw [if_neg c21] at H
                          exact absurd H (by simp)
                      · rw [if_neg c18] at H
                        have c18b0 : ((rd l2 x9_2) == 0) = false := beq_eq_false_iff_ne.mpr c18
                        have c18b1 : ((rd l2 x9_2) != 0) = true := bne_iff_ne.mpr c18
                        have H' := Aside0.mk H
                        clear H
                        have p231 : 0 ≤ (x9_2 : Int) := of_decide_eq_true (by first | (with_reducible assumption) | assumption)
                        have q231 : x9_2 < (l2.length : Int) := of_decide_eq_true (by first | (with_reducible assumption) | assumption)
                        obtain ⟨ad231, e231, hx231_0⟩ := Kd.at_int HR2.out x9_2 p231 q231
                        cases e231
                        replace hx231_0 := (HB.out.cell (World.block_lt_of_cell? w _ hx231_0)).trans hx231_0
                        replace p231 := eq_true p231
                        replace q231 := eq_true q231
                        go_wp2
                        repeat (go_quiet (fail); try go_wp2)
                        go_meet
                        case rel => exact ⟨_, (false), (by first | rfl | (simp; done) | (simp [*]; done)), H', ⟨by have := HK1.out; have := HK2.out; first | omega | exact Nat.le_refl _⟩, ⟨by (with_reducible repeat (first | refine blk_drewN ?_ _ | refine blk_drew ?_ | refine blk_alloc ?_ _)); exact BK227.out⟩, ⟨by repeat (first | (with_reducible first | exact HB.out | apply below_alloc | apply pw_below_drewN | apply below_drew1 | refine below_set ?_ GE227.out) | exact HB.out)⟩⟩
                    · rw [if_neg c17] at H
                      exact absurd H (by simp)
                  case rest =>
                    clear HC16
                    try clear c1
                    try clear c2
                    try clear p2
                    try clear q2
                    try clear hx2
                    try clear c3
                    try clear c5
                    try clear c5b0
                    try clear c5b1
                    try clear c6
                    try clear c6b0
                    try clear c6b1
                    try clear c6b2
                    try clear p6
                    try clear c11
                    try clear c11b0
                    try clear c12
                    try clear c12b0
                    try clear c14
                    try clear c15
                    try clear c15b0
                    try clear c17
                    try clear c17b0
                    try clear c18
                    try clear c18b0
                    try clear c18b1
                    try clear c21
                    try clear c21b0
                    try clear c21b1
                    try clear p22
                    try clear q22
                    try clear hx22
                    try clear hcz10_0
                    try clear hcz10_1
                    try clear hcz8_0
                    try clear hcz8_1
                    try clear hfz10_0
                    try clear hfz10_1
                    try clear hfz8_0
                    try clear hfz8_1
                    try clear hx229_0
                    try clear hx231_0
                    try clear p2
                    try clear p229
                    try clear p231
                    try clear p6
                    try clear q2
                    try clear q229
                    try clear q231
                    obtain ⟨kq, x55_15, rfl, HA, HJ15, BK227, HB⟩ := hcut
                    cases kq with
                    | zero => exact absurd HA.out (by simp [wigeonref04_CheckRanks.j2])
                    | succ kj15 =>
                      have H := HA.out
                      clear HA
                      simp only [wigeonref04_CheckRanks.j2] at H
                      by_cases c23 : x55_15 = true
                      · subst c23
                        have H1 : (some 7) = some r := by rw [if_pos rfl] at H; exact H
                        clear H
                        have H := H1
                        clear H1
                        obtain rfl := Option.some.inj H
                        go_wp2
                        repeat (go_quiet (fail); try go_wp2)
                        go_ret
                        exact ⟨by first | rfl | (simp [errW_none, errW_some] <;> rfl) | (simp [*, errW_none, errW_some] <;> rfl), by repeat (first | (with_reducible first | exact HB.out | apply below_alloc | apply pw_below_drewN | apply below_drew1 | refine below_set ?_ GE227.out) | exact HB.out)⟩
                      · replace c23 := Bool.eq_false_iff.mpr c23
                        subst c23
                        have H1 : (wigeonref04_CheckRanks.l2 kj15 l1 l2 x9_2 0 0 l0_0 l0_1) = some r := by rw [if_neg (show ¬ (false = true) by decide)] at H; exact H
                        clear H
                        have H := H1
                        clear H1
                        have H' := Aside0.mk H
                        clear H
                        go_wp2
                        repeat (go_quiet (fail); try go_wp2)
                        go_loopg [10, 11] kj15 (fun kq v10 v11 w' => ∃ (x10_4 : Int) (x11_4 : Int), v10 = .int .i64 x10_4 ∧ v11 = .int .i64 x11_4 ∧ Aside0 (wigeonref04_CheckRanks.l2 kq l1 l2 x9_2 x10_4 x11_4 l0_0 l0_1 = some r) ∧ Aside0 (kq ≤ kj15) ∧ Aside0 (w'.heap[gb227]? = some (.cells #[(.slice A0_0 l0_0.length c0_0), (.slice A0_1 l0_1.length c0_1)] 25 (0, 0))) ∧ Aside0 (Below w.heap.size w w'))
                        case atStart => exact ⟨(0), (0), (by first | rfl | (simp; done) | (simp [*]; done)), (by first | rfl | (simp; done) | (simp [*]; done)), H', ⟨Nat.le_refl _⟩, ⟨by (with_reducible repeat (first | refine blk_drewN ?_ _ | refine blk_drew ?_ | refine blk_alloc ?_ _)); exact BK227.out⟩, ⟨by repeat (first | (with_reducible first | exact HB.out | apply below_alloc | apply pw_below_drewN | apply below_drew1 | refine below_set ?_ GE227.out) | exact HB.out)⟩⟩
                        case round =>
                          clear H'
                          try clear c1
                          try clear c2
                          try clear p2
                          try clear q2
                          try clear hx2
                          try clear c3
                          try clear c5
                          try clear c5b0
                          try clear c5b1
                          try clear c6
                          try clear c6b0
                          try clear c6b1
                          try clear c6b2
                          try clear p6
                          try clear c11
                          try clear c11b0
                          try clear c12
                          try clear c12b0
                          try clear c14
                          try clear c15
                          try clear c15b0
                          try clear c17
                          try clear c17b0
                          try clear c18
                          try clear c18b0
                          try clear c18b1
                          try clear c21
                          try clear c21b0
                          try clear c21b1
                          try clear p22
                          try clear q22
                          try clear hx22
                          try clear c23
                          try clear p23
                          try clear q23
                          try clear hx23
                          try clear hcz10_0
                          try clear hcz10_1
                          try clear hcz8_0
                          try clear hcz8_1
                          try clear hfz10_0
                          try clear hfz10_1
                          try clear hfz8_0
                          try clear hfz8_1
                          try clear hx229_0
                          try clear hx231_0
                          try clear p2
                          try clear p22
                          try clear p229
                          try clear p231
                          try clear p6
                          try clear q2
                          try clear q22
                          try clear q229
                          try clear q231
                          obtain ⟨x10_4, x11_4, rfl, rfl, HA, HK4, BK227, HB⟩ := hrel
                          cases gk with
                          | zero => exact absurd HA.out (by simp [wigeonref04_CheckRanks.l2])
                          | succ k4 =>
                            have H := HA.out
                            clear HA
                            simp only [wigeonref04_CheckRanks.l2] at H
                            by_cases c24 : 0 ≤ x9_2
                            · rw [if_pos c24] at H
                              have c24b0 : decide (0 ≤ x9_2) = true := decide_eq_true c24
                              clear c24
                              by_cases c25 : x9_2 < (l0_1.length : Int)
                              · rw [if_pos c25] at H
                                have c25b0 : decide (x9_2 < (l0_1.length : Int)) = true := decide_eq_true c25
                                clear c25
                                by_cases c26 : x11_4 < ((rd_L1 l0_1 x9_2).length : Int)
                                · rw [if_pos c26] at H
                                  have c26b0 : decide (x11_4 < ((rd_L1 l0_1 x9_2).length : Int)) = true := decide_eq_true c26
                                  clear c26
                                  by_cases c27 : 0 ≤ x11_4
                                  · rw [if_pos c27] at H
                                    have c27b0 : decide (0 ≤ x11_4) = true := decide_eq_true c27
                                    clear c27
                                    by_cases c28 : 0 ≤ (rd (rd_L1 l0_1 x9_2) x11_4)
                                    · rw [if_pos c28] at H
                                      have c28b0 : decide (0 ≤ (rd (rd_L1 l0_1 x9_2) x11_4)) = true := decide_eq_true c28
                                      clear c28
                                      by_cases c29 : (rd (rd_L1 l0_1 x9_2) x11_4) < (l2.length : Int)
                                      · rw [if_pos c29] at H
                                        have c29b0 : decide ((rd (rd_L1 l0_1 x9_2) x11_4) < (l2.length : Int)) = true := decide_eq_true c29
                                        clear c29
                                        by_cases c30 : x9_2 < (l2.length : Int)
                                        · rw [if_pos c30] at H
                                          have c30b0 : decide (x9_2 < (l2.length : Int)) = true := decide_eq_true c30
                                          clear c30
                                          replace H := Option.bind_eq_some_iff.mp H
                                          obtain ⟨t238, A310, H⟩ := H
                                          replace H : (if t238 = true then (wigeonref04_CheckRanks.l2 k4 l1 l2 x9_2 (wrap64 (x10_4 + 1)) (wrap64 (x11_4 + 1)) l0_0 l0_1) else (wigeonref04_CheckRanks.l2 k4 l1 l2 x9_2 x10_4 (wrap64 (x11_4 + 1)) l0_0 l0_1)) = some r := H
                                          have A31 := Aside0.mk A310
                                          clear A310
                                          by_cases c32 : t238 = true
                                          · subst c32
                                            have H1 : (wigeonref04_CheckRanks.l2 k4 l1 l2 x9_2 (wrap64 (x10_4 + 1)) (wrap64 (x11_4 + 1)) l0_0 l0_1) = some r := by rw [if_pos rfl] at H; exact H
                                            clear H
                                            have H := H1
                                            clear H1
                                            have H' := Aside0.mk H
                                            clear H
                                            have hcz33_0 : wr.cell? ⟨gb227, 0, none⟩ = some (.slice A0_0 l0_0.length c0_0) := (blk_cell BK227.out 0).trans rfl
                                            have hcz33_1 : wr.cell? ⟨gb227, 1, none⟩ = some (.slice A0_1 l0_1.length c0_1) := (blk_cell BK227.out 1).trans rfl
                                            have hfz33_0 := blk_frozen BK227.out 0
                                            have hfz33_1 := blk_frozen BK227.out 1
                                            have p233 : 0 ≤ (x9_2 : Int) := of_decide_eq_true (by first | (with_reducible assumption) | assumption)
                                            have q233 : x9_2 < (l0_1.length : Int) := of_decide_eq_true (by first | (with_reducible assumption) | assumption)
                                            obtain ⟨ad233, A233_0, c233_0, e233, hx233_0, hl233_0, hi233_0⟩ := at_L1 HR0_1.out x9_2 p233 q233
                                            cases e233
                                            replace hx233_0 := (HB.out.cell (World.block_lt_of_cell? w _ hx233_0)).trans hx233_0
                                            have HR233_0 := Aside0.mk hi233_0
                                            have HC233_0 := Aside0.mk hl233_0
                                            clear hi233_0 hl233_0
                                            replace p233 := eq_true p233
                                            replace q233 := eq_true q233
                                            have p234 : 0 ≤ (x9_2 : Int) := of_decide_eq_true (by first | (with_reducible assumption) | assumption)
                                            have q234 : x9_2 < (l0_1.length : Int) := of_decide_eq_true (by first | (with_reducible assumption) | assumption)
                                            obtain ⟨ad234, A234_0, c234_0, e234, hx234_0, hl234_0, hi234_0⟩ := at_L1 HR0_1.out x9_2 p234 q234
                                            obtain rfl : ad233 = ad234 := (by injection e234)
                                            replace hx234_0 := (HB.out.cell (World.block_lt_of_cell? w _ hx234_0)).trans hx234_0
                                            have HR234_0 := Aside0.mk hi234_0
                                            have HC234_0 := Aside0.mk hl234_0
                                            clear hi234_0 hl234_0
                                            replace p234 := eq_true p234
                                            replace q234 := eq_true q234
                                            have ea_ := Option.some.inj (hx233_0.symm.trans hx234_0)
                                            injection ea_ with ea_ en_ ec_
                                            subst ea_
                                            subst ec_
                                            clear en_
                                            have p235 : 0 ≤ (x11_4 : Int) := of_decide_eq_true (by first | (with_reducible assumption) | assumption)
                                            have q235 : x11_4 < ((rd_L1 l0_1 x9_2).length : Int) := of_decide_eq_true (by first | (with_reducible assumption) | assumption)
                                            obtain ⟨ad235, e235, hx235_0⟩ := Kd.at_int HR234_0.out x11_4 p235 q235
                                            cases e235
                                            replace hx235_0 := (HB.out.cell (World.block_lt_of_cell? w _ hx235_0)).trans hx235_0
                                            replace p235 := eq_true p235
                                            replace q235 := eq_true q235
                                            have p236 : 0 ≤ ((rd (rd_L1 l0_1 x9_2) x11_4) : Int) := of_decide_eq_true (by first | (with_reducible assumption) | assumption)
                                            have q236 : (rd (rd_L1 l0_1 x9_2) x11_4) < (l2.length : Int) := of_decide_eq_true (by first | (with_reducible assumption) | assumption)
                                            obtain ⟨ad236, e236, hx236_0⟩ := Kd.at_int HR2.out (rd (rd_L1 l0_1 x9_2) x11_4) p236 q236
                                            cases e236
                                            replace hx236_0 := (HB.out.cell (World.block_lt_of_cell? w _ hx236_0)).trans hx236_0
                                            replace p236 := eq_true p236
                                            replace q236 := eq_true q236
                                            have p237 : 0 ≤ (x9_2 : Int) := of_decide_eq_true (by first | (with_reducible assumption) | assumption)
                                            have q237 : x9_2 < (l2.length : Int) := of_decide_eq_true (by first | (with_reducible assumption) | assumption)
                                            obtain ⟨ad237, e237, hx237_0⟩ := Kd.at_int HR2.out x9_2 p237 q237
                                            obtain rfl : ad236 = ad237 := (by injection e237)
                                            replace hx237_0 := (HB.out.cell (World.block_lt_of_cell? w _ hx237_0)).trans hx237_0
                                            replace p237 := eq_true p237
                                            replace q237 := eq_true q237
                                            go_wp2_with (first | (go_at_call 57; (with_reducible refine (wigeonref04_within.calls (rd l2 (rd (rd_L1 l0_1 x9_2) x11_4)) 0 (wrap64 ((rd l2 x9_2) - 1)) true _ A31.out).mono ?_); rintro e w' ⟨rfl, ⟨nd, rfl⟩⟩; (try first | exact ⟨rfl, _, World.drewN_drewN _ _ _⟩ | exact ⟨rfl, _, Eq.trans (World.drewN_drewN _ _ _) (congrArg (World.drewN _) (Nat.add_assoc _ _ _))⟩)))
                                            repeat (go_quiet (first | (go_at_call 57; (with_reducible refine (wigeonref04_within.calls (rd l2 (rd (rd_L1 l0_1 x9_2) x11_4)) 0 (wrap64 ((rd l2 x9_2) - 1)) true _ A31.out).mono ?_); rintro e w' ⟨rfl, ⟨nd, rfl⟩⟩; (try first | exact ⟨rfl, _, World.drewN_drewN _ _ _⟩ | exact ⟨rfl, _, Eq.trans (World.drewN_drewN _ _ _) (congrArg (World.drewN _) (Nat.add_assoc _ _ _))⟩))); try go_wp2_with (first | (go_at_call 57; (with_reducible refine (wigeonref04_within.calls (rd l2 (rd (rd_L1 l0_1 x9_2) x11_4)) 0 (wrap64 ((rd l2 x9_2) - 1)) true _ A31.out).mono ?_); rintro e w' ⟨rfl, ⟨nd, rfl⟩⟩; (try first | exact ⟨rfl, _, World.drewN_drewN _ _ _⟩ | exact ⟨rfl, _, Eq.trans (World.drewN_drewN _ _ _) (congrArg (World.drewN _) (Nat.add_assoc _ _ _))⟩))))
                                            go_roundg k4
                                            case measure => have := HK1.out; have := HK2.out; have := HJ15.out; have := HK4.out; omega
                                            case rel => exact ⟨(wrap64 (x10_4 + 1)), (wrap64 (x11_4 + 1)), (by first | rfl | (simp; done) | (simp [*]; done)), (by first | rfl | (simp; done) | (simp [*]; done)), H', ⟨by have := HK1.out; have := HK2.out; have := HJ15.out; have := HK4.out; omega⟩, ⟨by (with_reducible repeat (first | refine blk_drewN ?_ _ | refine blk_drew ?_ | refine blk_alloc ?_ _)); exact BK227.out⟩, ⟨by repeat (first | (with_reducible first | exact HB.out | apply below_alloc | apply pw_below_drewN | apply below_drew1 | refine below_set ?_ GE227.out) | exact HB.out)⟩⟩
                                          · replace c32 := Bool.eq_false_iff.mpr c32
                                            subst c32
                                            have H1 : (wigeonref04_CheckRanks.l2 k4 l1 l2 x9_2 x10_4 (wrap64 (x11_4 + 1)) l0_0 l0_1) = some r := by rw [if_neg (show ¬ (false = true) by decide)] at H; exact H
                                            clear H
                                            have H := H1
                                            clear H1
                                            have H' := Aside0.mk H
                                            clear H
                                            have hcz34_0 : wr.cell? ⟨gb227, 0, none⟩ = some (.slice A0_0 l0_0.length c0_0) := (blk_cell BK227.out 0).trans rfl
                                            have hcz34_1 : wr.cell? ⟨gb227, 1, none⟩ = some (.slice A0_1 l0_1.length c0_1) := (blk_cell BK227.out 1).trans rfl
                                            have hfz34_0 := blk_frozen BK227.out 0
                                            have hfz34_1 := blk_frozen BK227.out 1
                                            have p233 : 0 ≤ (x9_2 : Int) := of_decide_eq_true (by first | (with_reducible assumption) | assumption)
                                            have q233 : x9_2 < (l0_1.length : Int) := of_decide_eq_true (by first | (with_reducible assumption) | assumption)
                                            obtain ⟨ad233, A233_0, c233_0, e233, hx233_0, hl233_0, hi233_0⟩ := at_L1 HR0_1.out x9_2 p233 q233
                                            cases e233
                                            replace hx233_0 := (HB.out.cell (World.block_lt_of_cell? w _ hx233_0)).trans hx233_0
                                            have HR233_0 := Aside0.mk hi233_0
                                            have HC233_0 := Aside0.mk hl233_0
                                            clear hi233_0 hl233_0
                                            replace p233 := eq_true p233
                                            replace q233 := eq_true q233
                                            have p234 : 0 ≤ (x9_2 : Int) := of_decide_eq_true (by first | (with_reducible assumption) | assumption)
                                            have q234 : x9_2 < (l0_1.length : Int) := of_decide_eq_true (by first | (with_reducible assumption) | assumption)
                                            obtain ⟨ad234, A234_0, c234_0, e234, hx234_0, hl234_0, hi234_0⟩ := at_L1 HR0_1.out x9_2 p234 q234
                                            obtain rfl : ad233 = ad234 := (by injection e234)
                                            replace hx234_0 := (HB.out.cell (World.block_lt_of_cell? w _ hx234_0)).trans hx234_0
                                            have HR234_0 := Aside0.mk hi234_0
                                            have HC234_0 := Aside0.mk hl234_0
                                            clear hi234_0 hl234_0
                                            replace p234 := eq_true p234
                                            replace q234 := eq_true q234
                                            have ea_ := Option.some.inj (hx233_0.symm.trans hx234_0)
                                            injection ea_ with ea_ en_ ec_
                                            subst ea_
                                            subst ec_
                                            clear en_
                                            have p235 : 0 ≤ (x11_4 : Int) := of_decide_eq_true (by first | (with_reducible assumption) | assumption)
                                            have q235 : x11_4 < ((rd_L1 l0_1 x9_2).length : Int) := of_decide_eq_true (by first | (with_reducible assumption) | assumption)
                                            obtain ⟨ad235, e235, hx235_0⟩ := Kd.at_int HR234_0.out x11_4 p235 q235
                                            cases e235
                                            replace hx235_0 := (HB.out.cell (World.block_lt_of_cell? w _ hx235_0)).trans hx235_0
                                            replace p235 := eq_true p235
                                            replace q235 := eq_true q235
                                            have p236 : 0 ≤ ((rd (rd_L1 l0_1 x9_2) x11_4) : Int) := of_decide_eq_true (by first | (with_reducible assumption) | assumption)
                                            have q236 : (rd (rd_L1 l0_1 x9_2) x11_4) < (l2.length : Int) := of_decide_eq_true (by first | (with_reducible assumption) | assumption)
                                            obtain ⟨ad236, e236, hx236_0⟩ := Kd.at_int HR2.out (rd (rd_L1 l0_1 x9_2) x11_4) p236 q236
                                            cases e236
                                            replace hx236_0 := (HB.out.cell (World.block_lt_of_cell? w _ hx236_0)).trans hx236_0
                                            replace p236 := eq_true p236
                                            replace q236 := eq_true q236
                                            have p237 : 0 ≤ (x9_2 : Int) := of_decide_eq_true (by first | (with_reducible assumption) | assumption)
                                            have q237 : x9_2 < (l2.length : Int) := of_decide_eq_true (by first | (with_reducible assumption) | assumption)
                                            obtain ⟨ad237, e237, hx237_0⟩ := Kd.at_int HR2.out x9_2 p237 q237
                                            obtain rfl : ad236 = ad237 := (by injection e237)
                                            replace hx237_0 := (HB.out.cell (World.block_lt_of_cell? w _ hx237_0)).trans hx237_0
                                            replace p237 := eq_true p237
                                            replace q237 := eq_true q237
                                            go_wp2_with (first | (go_at_call 57; (with_reducible refine (wigeonref04_within.calls (rd l2 (rd (rd_L1 l0_1 x9_2) x11_4)) 0 (wrap64 ((rd l2 x9_2) - 1)) false _ A31.out).mono ?_); rintro e w' ⟨rfl, ⟨nd, rfl⟩⟩; (try first | exact ⟨rfl, _, World.drewN_drewN _ _ _⟩ | exact ⟨rfl, _, Eq.trans (World.drewN_drewN _ _ _) (congrArg (World.drewN _) (Nat.add_assoc _ _ _))⟩)))
                                            repeat (go_quiet (first | (go_at_call 57; (with_reducible refine (wigeonref04_within.calls (rd l2 (rd (rd_L1 l0_1 x9_2) x11_4)) 0 (wrap64 ((rd l2 x9_2) - 1)) false _ A31.out).mono ?_); rintro e w' ⟨rfl, ⟨nd, rfl⟩⟩; (try first | exact ⟨rfl, _, World.drewN_drewN _ _ _⟩ | exact ⟨rfl, _, Eq.trans (World.drewN_drewN _ _ _) (congrArg (World.drewN _) (Nat.add_assoc _ _ _))⟩))); try go_wp2_with (first | (go_at_call 57; (with_reducible refine (wigeonref04_within.calls (rd l2 (rd (rd_L1 l0_1 x9_2) x11_4)) 0 (wrap64 ((rd l2 x9_2) - 1)) false _ A31.out).mono ?_); rintro e w' ⟨rfl, ⟨nd, rfl⟩⟩; (try first | exact ⟨rfl, _, World.drewN_drewN _ _ _⟩ | exact ⟨rfl, _, Eq.trans (World.drewN_drewN _ _ _) (congrArg (World.drewN _) (Nat.add_assoc _ _ _))⟩))))
                                            go_roundg k4
                                            case measure => have := HK1.out; have := HK2.out; have := HJ15.out; have := HK4.out; omega
                                            case rel => exact ⟨(x10_4), (wrap64 (x11_4 + 1)), (by first | rfl | (simp; done) | (simp [*]; done)), (by first | rfl | (simp; done) | (simp [*]; done)), H', ⟨by have := HK1.out; have := HK2.out; have := HJ15.out; have := HK4.out; omega⟩, ⟨by (with_reducible repeat (first | refine blk_drewN ?_ _ | refine blk_drew ?_ | refine blk_alloc ?_ _)); exact BK227.out⟩, ⟨by repeat (first | (with_reducible first | exact HB.out | apply below_alloc | apply pw_below_drewN | apply below_drew1 | refine below_set ?_ GE227.out) | exact HB.out)⟩⟩
                                        · rw [if_neg c30] at H
                                          exact absurd H (by simp)
                                      · rw [if_neg c29] at H
                                        exact absurd H (by simp)
                                    · rw [if_neg c28] at H
                                      exact absurd H (by simp)
                                  · rw [if_neg c27] at H
                                    exact absurd H (by simp)
                                · rw [if_neg c26] at H
                                  have c26b0 : decide (x11_4 < ((rd_L1 l0_1 x9_2).length : Int)) = false := decide_eq_false c26
                                  clear c26
                                  by_cases c35 : x9_2 < (l2.length : Int)
                                  · rw [if_pos c35] at H
                                    have c35b0 : decide (x9_2 < (l2.length : Int)) = true := decide_eq_true c35
                                    clear c35
                                    by_cases c36 : (rd l2 x9_2) > 0
                                    · rw [if_pos c36] at H
                                      have c36b0 : decide (0 < (rd l2 x9_2)) = true := decide_eq_true c36
                                      clear c36
                                      by_cases c37 : x9_2 < (l0_0.length : Int)
                                      · rw [if_pos c37] at H
                                        have c37b0 : decide (x9_2 < (l0_0.length : Int)) = true := decide_eq_true c37
                                        clear c37
                                        by_cases c38 : (rd l0_0 x9_2) = 0
                                        · rw [if_pos c38] at H
                                          have c38b0 : ((rd l0_0 x9_2) == 0) = true := beq_iff_eq.mpr c38
                                          have c38b1 : ((rd l0_0 x9_2) != 0) = false := bne_eq_false_iff_eq.mpr c38
                                          clear c38
                                          by_cases c39 : x10_4 = 0
                                          · rw [if_pos c39] at H
                                            have c39b0 : (x10_4 == 0) = true := beq_iff_eq.mpr c39
                                            have c39b1 : (x10_4 != 0) = false := bne_eq_false_iff_eq.mpr c39
                                            clear c39
                                            obtain rfl := Option.some.inj H
                                            have hcz40_0 : wr.cell? ⟨gb227, 0, none⟩ = some (.slice A0_0 l0_0.length c0_0) := (blk_cell BK227.out 0).trans rfl
                                            have hcz40_1 : wr.cell? ⟨gb227, 1, none⟩ = some (.slice A0_1 l0_1.length c0_1) := (blk_cell BK227.out 1).trans rfl
                                            have hfz40_0 := blk_frozen BK227.out 0
                                            have hfz40_1 := blk_frozen BK227.out 1
                                            have p233 : 0 ≤ (x9_2 : Int) := of_decide_eq_true (by first | (with_reducible assumption) | assumption)
                                            have q233 : x9_2 < (l0_1.length : Int) := of_decide_eq_true (by first | (with_reducible assumption) | assumption)
                                            obtain ⟨ad233, A233_0, c233_0, e233, hx233_0, hl233_0, hi233_0⟩ := at_L1 HR0_1.out x9_2 p233 q233
                                            cases e233
                                            replace hx233_0 := (HB.out.cell (World.block_lt_of_cell? w _ hx233_0)).trans hx233_0
                                            have HR233_0 := Aside0.mk hi233_0
                                            have HC233_0 := Aside0.mk hl233_0
                                            clear hi233_0 hl233_0
                                            replace p233 := eq_true p233
                                            replace q233 := eq_true q233
                                            have p239 : 0 ≤ (x9_2 : Int) := of_decide_eq_true (by first | (with_reducible assumption) | assumption)
                                            have q239 : x9_2 < (l2.length : Int) := of_decide_eq_true (by first | (with_reducible assumption) | assumption)
                                            obtain ⟨ad239, e239, hx239_0⟩ := Kd.at_int HR2.out x9_2 p239 q239
                                            cases e239
                                            replace hx239_0 := (HB.out.cell (World.block_lt_of_cell? w _ hx239_0)).trans hx239_0
                                            replace p239 := eq_true p239
                                            replace q239 := eq_true q239
                                            have p240 : 0 ≤ (x9_2 : Int) := of_decide_eq_true (by first | (with_reducible assumption) | assumption)
                                            have q240 : x9_2 < (l0_0.length : Int) := of_decide_eq_true (by first | (with_reducible assumption) | assumption)
                                            obtain ⟨ad240, e240, hx240_0⟩ := Kd.at_int HR0_0.out x9_2 p240 q240
                                            cases e240
                                            replace hx240_0 := (HB.out.cell (World.block_lt_of_cell? w _ hx240_0)).trans hx240_0
                                            replace p240 := eq_true p240
                                            replace q240 := eq_true q240
                                            go_wp2
                                            repeat (go_quiet (fail); try go_wp2)
                                            go_ret
                                            exact ⟨by first | rfl | (simp [errW_none, errW_some] <;> rfl) | (simp [*, errW_none, errW_some] <;> rfl), by repeat (first | (with_reducible first | exact HB.out | apply below_alloc | apply pw_below_drewN | apply below_drew1 | refine below_set ?_ GE227.out) | exact HB.out)⟩
                                          · rw [if_neg c39] at H
                                            have c39b0 : (x10_4 == 0) = false := beq_eq_false_iff_ne.mpr c39
                                            have c39b1 : (x10_4 != 0) = true := bne_iff_ne.mpr c39
                                            by_cases c41 : (rd l0_0 x9_2) = 1
                                            · rw [if_pos c41] at H
                                              have c41b0 : ((rd l0_0 x9_2) == 1) = true := beq_iff_eq.mpr c41
                                              have c41b1 : ((rd l0_0 x9_2) != 1) = false := bne_eq_false_iff_eq.mpr c41
                                              clear c41
                                              by_cases c42 : x10_4 < ((rd_L1 l0_1 x9_2).length : Int)
                                              · rw [if_pos c42] at H
                                                have c42b0 : decide (x10_4 < ((rd_L1 l0_1 x9_2).length : Int)) = true := decide_eq_true c42
                                                clear c42
                                                obtain rfl := Option.some.inj H
                                                have hcz43_0 : wr.cell? ⟨gb227, 0, none⟩ = some (.slice A0_0 l0_0.length c0_0) := (blk_cell BK227.out 0).trans rfl
                                                have hcz43_1 : wr.cell? ⟨gb227, 1, none⟩ = some (.slice A0_1 l0_1.length c0_1) := (blk_cell BK227.out 1).trans rfl
                                                have hfz43_0 := blk_frozen BK227.out 0
                                                have hfz43_1 := blk_frozen BK227.out 1
                                                have p233 : 0 ≤ (x9_2 : Int) := of_decide_eq_true (by first | (with_reducible assumption) | assumption)
                                                have q233 : x9_2 < (l0_1.length : Int) := of_decide_eq_true (by first | (with_reducible assumption) | assumption)
                                                obtain ⟨ad233, A233_0, c233_0, e233, hx233_0, hl233_0, hi233_0⟩ := at_L1 HR0_1.out x9_2 p233 q233
                                                cases e233
                                                replace hx233_0 := (HB.out.cell (World.block_lt_of_cell? w _ hx233_0)).trans hx233_0
                                                have HR233_0 := Aside0.mk hi233_0
                                                have HC233_0 := Aside0.mk hl233_0
                                                clear hi233_0 hl233_0
                                                replace p233 := eq_true p233
                                                replace q233 := eq_true q233
                                                have p239 : 0 ≤ (x9_2 : Int) := of_decide_eq_true (by first | (with_reducible assumption) | assumption)
                                                have q239 : x9_2 < (l2.length : Int) := of_decide_eq_true (by first | (with_reducible assumption) | assumption)
                                                obtain ⟨ad239, e239, hx239_0⟩ := Kd.at_int HR2.out x9_2 p239 q239
                                                cases e239
                                                replace hx239_0 := (HB.out.cell (World.block_lt_of_cell? w _ hx239_0)).trans hx239_0
                                                replace p239 := eq_true p239
                                                replace q239 := eq_true q239
                                                have p240 : 0 ≤ (x9_2 : Int) := of_decide_eq_true (by first | (with_reducible assumption) | assumption)
                                                have q240 : x9_2 < (l0_0.length : Int) := of_decide_eq_true (by first | (with_reducible assumption) | assumption)
                                                obtain ⟨ad240, e240, hx240_0⟩ := Kd.at_int HR0_0.out x9_2 p240 q240
                                                cases e240
                                                replace hx240_0 := (HB.out.cell (World.block_lt_of_cell? w _ hx240_0)).trans hx240_0
                                                replace p240 := eq_true p240
                                                replace q240 := eq_true q240
                                                have p241 : 0 ≤ (x9_2 : Int) := of_decide_eq_true (by first | (with_reducible assumption) | assumption)
                                                have q241 : x9_2 < (l0_0.length : Int) := of_decide_eq_true (by first | (with_reducible assumption) | assumption)
                                                obtain ⟨ad241, e241, hx241_0⟩ := Kd.at_int HR0_0.out x9_2 p241 q241
                                                obtain rfl : ad240 = ad241 := (by injection e241)
                                                replace hx241_0 := (HB.out.cell (World.block_lt_of_cell? w _ hx241_0)).trans hx241_0
                                                replace p241 := eq_true p241
                                                replace q241 := eq_true q241
                                                have p242 : 0 ≤ (x9_2 : Int) := of_decide_eq_true (by first | (with_reducible assumption) | assumption)
                                                have q242 : x9_2 < (l0_1.length : Int) := of_decide_eq_true (by first | (with_reducible assumption) | assumption)
                                                obtain ⟨ad242, A242_0, c242_0, e242, hx242_0, hl242_0, hi242_0⟩ := at_L1 HR0_1.out x9_2 p242 q242
                                                obtain rfl : ad233 = ad242 := (by injection e242)
                                                replace hx242_0 := (HB.out.cell (World.block_lt_of_cell? w _ hx242_0)).trans hx242_0
                                                have HR242_0 := Aside0.mk hi242_0
                                                have HC242_0 := Aside0.mk hl242_0
                                                clear hi242_0 hl242_0
                                                replace p242 := eq_true p242
                                                replace q242 := eq_true q242
                                                have ea_ := Option.some.inj (hx233_0.symm.trans hx242_0)
                                                injection ea_ with ea_ en_ ec_
                                                subst ea_
                                                subst ec_
                                                clear en_
                                                go_wp2
                                                repeat (go_quiet (fail); try go_wp2)
                                                go_ret
                                                exact ⟨by first | rfl | (simp [errW_none, errW_some] <;> rfl) | (simp [*, errW_none, errW_some] <;> rfl), by repeat (first | (with_reducible first | exact HB.out | apply below_alloc | apply pw_below_drewN | apply below_drew1 | refine below_set ?_ GE227.out) | exact HB.out)⟩
                                              · rw [if_neg c42] at H
                                                have c42b0 : decide (x10_4 < ((rd_L1 l0_1 x9_2).length : Int)) = false := decide_eq_false c42
                                                clear c42
                                                have H' := Aside0.mk H
                                                clear H
                                                have hcz44_0 : wr.cell? ⟨gb227, 0, none⟩ = some (.slice A0_0 l0_0.length c0_0) := (blk_cell BK227.out 0).trans rfl
                                                have hcz44_1 : wr.cell? ⟨gb227, 1, none⟩ = some (.slice A0_1 l0_1.length c0_1) := (blk_cell BK227.out 1).trans rfl
                                                have hfz44_0 := blk_frozen BK227.out 0
                                                have hfz44_1 := blk_frozen BK227.out 1
                                                have p233 : 0 ≤ (x9_2 : Int) := of_decide_eq_true (by first | (with_reducible assumption) | assumption)
                                                have q233 : x9_2 < (l0_1.length : Int) := of_decide_eq_true (by first | (with_reducible assumption) | assumption)
                                                obtain ⟨ad233, A233_0, c233_0, e233, hx233_0, hl233_0, hi233_0⟩ := at_L1 HR0_1.out x9_2 p233 q233
                                                cases e233
                                                replace hx233_0 := (HB.out.cell (World.block_lt_of_cell? w _ hx233_0)).trans hx233_0
                                                have HR233_0 := Aside0.mk hi233_0
                                                have HC233_0 := Aside0.mk hl233_0
                                                clear hi233_0 hl233_0
                                                replace p233 := eq_true p233
                                                replace q233 := eq_true q233
                                                have p239 : 0 ≤ (x9_2 : Int) := of_decide_eq_true (by first | (with_reducible assumption) | assumption)
                                                have q239 : x9_2 < (l2.length : Int) := of_decide_eq_true (by first | (with_reducible assumption) | assumption)
                                                obtain ⟨ad239, e239, hx239_0⟩ := Kd.at_int HR2.out x9_2 p239 q239
                                                cases e239
                                                replace hx239_0 := (HB.out.cell (World.block_lt_of_cell? w _ hx239_0)).trans hx239_0
                                                replace p239 := eq_true p239
                                                replace q239 := eq_true q239
                                                have p240 : 0 ≤ (x9_2 : Int) := of_decide_eq_true (by first | (with_reducible assumption) | assumption)
                                                have q240 : x9_2 < (l0_0.length : Int) := of_decide_eq_true (by first | (with_reducible assumption) | assumption)
                                                obtain ⟨ad240, e240, hx240_0⟩ := Kd.at_int HR0_0.out x9_2 p240 q240
                                                cases e240
                                                replace hx240_0 := (HB.out.cell (World.block_lt_of_cell? w _ hx240_0)).trans hx240_0
                                                replace p240 := eq_true p240
                                                replace q240 := eq_true q240
                                                have p241 : 0 ≤ (x9_2 : Int) := of_decide_eq_true (by first | (with_reducible assumption) | assumption)
                                                have q241 : x9_2 < (l0_0.length : Int) := of_decide_eq_true (by first | (with_reducible assumption) | assumption)
                                                obtain ⟨ad241, e241, hx241_0⟩ := Kd.at_int HR0_0.out x9_2 p241 q241
                                                obtain rfl : ad240 = ad241 := (by injection e241)
                                                replace hx241_0 := (HB.out.cell (World.block_lt_of_cell? w _ hx241_0)).trans hx241_0
                                                replace p241 := eq_true p241
                                                replace q241 := eq_true q241
                                                have p242 : 0 ≤ (x9_2 : Int) := of_decide_eq_true (by first | (with_reducible assumption) | assumption)
                                                have q242 : x9_2 < (l0_1.length : Int) := of_decide_eq_true (by first | (with_reducible assumption) | assumption)
                                                obtain ⟨ad242, A242_0, c242_0, e242, hx242_0, hl242_0, hi242_0⟩ := at_L1 HR0_1.out x9_2 p242 q242
                                                obtain rfl : ad233 = ad242 := (by injection e242)
                                                replace hx242_0 := (HB.out.cell (World.block_lt_of_cell? w _ hx242_0)).trans hx242_0
                                                have HR242_0 := Aside0.mk hi242_0
                                                have HC242_0 := Aside0.mk hl242_0
                                                clear hi242_0 hl242_0
                                                replace p242 := eq_true p242
                                                replace q242 := eq_true q242
                                                have ea_ := Option.some.inj (hx233_0.symm.trans hx242_0)
                                                injection ea_ with ea_ en_ ec_
                                                subst ea_
                                                subst ec_
                                                clear en_
                                                go_wp2
                                                repeat (go_quiet (fail); try go_wp2)
                                                go_roundg k4
                                                case measure => have := HK1.out; have := HK2.out; have := HJ15.out; have := HK4.out; omega
                                                case rel => exact ⟨(wrap64 (x9_2 + 1)), (by first | rfl | (simp; done) | (simp [*]; done)), H', ⟨by have := HK1.out; have := HK2.out; have := HJ15.out; have := HK4.out; omega⟩, ⟨by (with_reducible repeat (first | refine blk_drewN ?_ _ | refine blk_drew ?_ | refine blk_alloc ?_ _)); exact BK227.out⟩, ⟨by repeat (first | (with_reducible first | exact HB.out | apply below_alloc | apply pw_below_drewN | apply below_drew1 | refine below_set ?_ GE227.out) | exact HB.out)⟩⟩
                                            · rw [if_neg c41] at H
                                              have c41b0 : ((rd l0_0 x9_2) == 1) = false := beq_eq_false_iff_ne.mpr c41
                                              have c41b1 : ((rd l0_0 x9_2) != 1) = true := bne_iff_ne.mpr c41
                                              have H' := Aside0.mk H
                                              clear H
                                              have hcz45_0 : wr.cell? ⟨gb227, 0, none⟩ = some (.slice A0_0 l0_0.length c0_0) := (blk_cell BK227.out 0).trans rfl
                                              have hcz45_1 : wr.cell? ⟨gb227, 1, none⟩ = some (.slice A0_1 l0_1.length c0_1) := (blk_cell BK227.out 1).trans rfl
                                              have hfz45_0 := blk_frozen BK227.out 0
                                              have hfz45_1 := blk_frozen BK227.out 1
                                              have p233 : 0 ≤ (x9_2 : Int) := of_decide_eq_true (by first | (with_reducible assumption) | assumption)
                                              have q233 : x9_2 < (l0_1.length : Int) := of_decide_eq_true (by first | (with_reducible assumption) | assumption)
                                              obtain ⟨ad233, A233_0, c233_0, e233, hx233_0, hl233_0, hi233_0⟩ := at_L1 HR0_1.out x9_2 p233 q233
                                              cases e233
                                              replace hx233_0 := (HB.out.cell (World.block_lt_of_cell? w _ hx233_0)).trans hx233_0
                                              have HR233_0 := Aside0.mk hi233_0
                                              have HC233_0 := Aside0.mk hl233_0
                                              clear hi233_0 hl233_0
                                              replace p233 := eq_true p233
                                              replace q233 := eq_true q233
                                              have p239 : 0 ≤ (x9_2 : Int) := of_decide_eq_true (by first | (with_reducible assumption) | assumption)
                                              have q239 : x9_2 < (l2.length : Int) := of_decide_eq_true (by first | (with_reducible assumption) | assumption)
                                              obtain ⟨ad239, e239, hx239_0⟩ := Kd.at_int HR2.out x9_2 p239 q239
                                              cases e239
                                              replace hx239_0 := (HB.out.cell (World.block_lt_of_cell? w _ hx239_0)).trans hx239_0
                                              replace p239 := eq_true p239
                                              replace q239 := eq_true q239
                                              have p240 : 0 ≤ (x9_2 : Int) := of_decide_eq_true (by first | (with_reducible assumption) | assumption)
                                              have q240 : x9_2 < (l0_0.length : Int) := of_decide_eq_true (by first | (with_reducible assumption) | assumption)
                                              obtain ⟨ad240, e240, hx240_0⟩ := Kd.at_int HR0_0.out x9_2 p240 q240
                                              cases e240
                                              replace hx240_0 := (HB.out.cell (World.block_lt_of_cell? w _ hx240_0)).trans hx240_0
                                              replace p240 := eq_true p240
                                              replace q240 := eq_true q240
                                              have p241 : 0 ≤ (x9_2 : Int) := of_decide_eq_true (by first | (with_reducible assumption) | assumption)
                                              have q241 : x9_2 < (l0_0.length : Int) := of_decide_eq_true (by first | (with_reducible assumption) | assumption)
                                              obtain ⟨ad241, e241, hx241_0⟩ := Kd.at_int HR0_0.out x9_2 p241 q241
                                              obtain rfl : ad240 = ad241 := (by injection e241)
                                              replace hx241_0 := (HB.out.cell (World.block_lt_of_cell? w _ hx241_0)).trans hx241_0
                                              replace p241 := eq_true p241
                                              replace q241 := eq_true q241
                                              go_wp2
                                              repeat (go_quiet (fail); try go_wp2)
                                              go_roundg k4
                                              case measure => have := HK1.out; have := HK2.out; have := HJ15.out; have := HK4.out; omega
                                              case rel => exact ⟨(wrap64 (x9_2 + 1)), (by first | rfl | (simp; done) | (simp [*]; done)), H', ⟨by have := HK1.out; have := HK2.out; have := HJ15.out; have := HK4.out; omega⟩, ⟨by (with_reducible repeat (first | refine blk_drewN ?_ _ | refine blk_drew ?_ | refine blk_alloc ?_ _)); exact BK227.out⟩, ⟨by repeat (first | (with_reducible first | exact HB.out | apply below_alloc | apply pw_below_drewN | apply below_drew1 | refine below_set ?_ GE227.out) | exact HB.out)⟩⟩
                                        · rw [if_neg c38] at H
                                          have c38b0 : ((rd l0_0 x9_2) == 0) = false := beq_eq_false_iff_ne.mpr c38
                                          have c38b1 : ((rd l0_0 x9_2) != 0) = true := bne_iff_ne.mpr c38
                                          by_cases c46 : (rd l0_0 x9_2) = 1
                                          · rw [if_pos c46] at H
                                            have c46b0 : ((rd l0_0 x9_2) == 1) = true := beq_iff_eq.mpr c46
                                            have c46b1 : ((rd l0_0 x9_2) != 1) = false := bne_eq_false_iff_eq.mpr c46
                                            clear c46
                                            by_cases c47 : x10_4 < ((rd_L1 l0_1 x9_2).length : Int)
                                            · rw [if_pos c47] at H
                                              have c47b0 : decide (x10_4 < ((rd_L1 l0_1 x9_2).length : Int)) = true := decide_eq_true c47
                                              clear c47
                                              obtain rfl := Option.some.inj H
                                              have hcz48_0 : wr.cell? ⟨gb227, 0, none⟩ = some (.slice A0_0 l0_0.length c0_0) := (blk_cell BK227.out 0).trans rfl
                                              have hcz48_1 : wr.cell? ⟨gb227, 1, none⟩ = some (.slice A0_1 l0_1.length c0_1) := (blk_cell BK227.out 1).trans rfl
                                              have hfz48_0 := blk_frozen BK227.out 0
                                              have hfz48_1 := blk_frozen BK227.out 1
                                              have p233 : 0 ≤ (x9_2 : Int) := of_decide_eq_true (by first | (with_reducible assumption) | assumption)
                                              have q233 : x9_2 < (l0_1.length : Int) := of_decide_eq_true (by first | (with_reducible assumption) | assumption)
                                              obtain ⟨ad233, A233_0, c233_0, e233, hx233_0, hl233_0, hi233_0⟩ := at_L1 HR0_1.out x9_2 p233 q233
                                              cases e233
                                              replace hx233_0 := (HB.out.cell (World.block_lt_of_cell? w _ hx233_0)).trans hx233_0
                                              have HR233_0 := Aside0.mk hi233_0
                                              have HC233_0 := Aside0.mk hl233_0
                                              clear hi233_0 hl233_0
                                              replace p233 := eq_true p233
                                              replace q233 := eq_true q233
                                              have p239 : 0 ≤ (x9_2 : Int) := of_decide_eq_true (by first | (with_reducible assumption) | assumption)
                                              have q239 : x9_2 < (l2.length : Int) := of_decide_eq_true (by first | (with_reducible assumption) | assumption)
                                              obtain ⟨ad239, e239, hx239_0⟩ := Kd.at_int HR2.out x9_2 p239 q239
                                              cases e239
                                              replace hx239_0 := (HB.out.cell (World.block_lt_of_cell? w _ hx239_0)).trans hx239_0
                                              replace p239 := eq_true p239
                                              replace q239 := eq_true q239
                                              have p240 : 0 ≤ (x9_2 : Int) := of_decide_eq_true (by first | (with_reducible assumption) | assumption)
                                              have q240 : x9_2 < (l0_0.length : Int) := of_decide_eq_true (by first | (with_reducible assumption) | assumption)
                                              obtain ⟨ad240, e240, hx240_0⟩ := Kd.at_int HR0_0.out x9_2 p240 q240
                                              cases e240
                                              replace hx240_0 := (HB.out.cell (World.block_lt_of_cell? w _ hx240_0)).trans hx240_0
                                              replace p240 := eq_true p240
                                              replace q240 := eq_true q240
                                              have p243 : 0 ≤ (x9_2 : Int) := of_decide_eq_true (by first | (with_reducible assumption) | assumption)
                                              have q243 : x9_2 < (l0_0.length : Int) := of_decide_eq_true (by first | (with_reducible assumption) | assumption)
                                              obtain ⟨ad243, e243, hx243_0⟩ := Kd.at_int HR0_0.out x9_2 p243 q243
                                              obtain rfl : ad240 = ad243 := (by injection e243)
                                              replace hx243_0 := (HB.out.cell (World.block_lt_of_cell? w _ hx243_0)).trans hx243_0
                                              replace p243 := eq_true p243
                                              replace q243 := eq_true q243
                                              have p244 : 0 ≤ (x9_2 : Int) := of_decide_eq_true (by first | (with_reducible assumption) | assumption)
                                              have q244 : x9_2 < (l0_1.length : Int) := of_decide_eq_true (by first | (with_reducible assumption) | assumption)
                                              obtain ⟨ad244, A244_0, c244_0, e244, hx244_0, hl244_0, hi244_0⟩ := at_L1 HR0_1.out x9_2 p244 q244
                                              obtain rfl : ad233 = ad244 := (by injection e244)
                                              replace hx244_0 := (HB.out.cell (World.block_lt_of_cell? w _ hx244_0)).trans hx244_0
                                              have HR244_0 := Aside0.mk hi244_0
                                              have HC244_0 := Aside0.mk hl244_0
                                              clear hi244_0 hl244_0
                                              replace p244 := eq_true p244
                                              replace q244 := eq_true q244
                                              have ea_ := Option.some.inj (hx233_0.symm.trans hx244_0)
                                              injection ea_ with ea_ en_ ec_
                                              subst ea_
                                              subst ec_
                                              clear en_
                                              go_wp2
                                              repeat (go_quiet (fail); try go_wp2)
                                              go_ret
                                              exact ⟨by first | rfl | (simp [errW_none, errW_some] <;> rfl) | (simp [*, errW_none, errW_some] <;> rfl), by repeat (first | (with_reducible first | exact HB.out | apply below_alloc | apply pw_below_drewN | apply below_drew1 | refine below_set ?_ GE227.out) | exact HB.out)⟩
                                            · rw [if_neg c47] at H
                                              have c47b0 : decide (x10_4 < ((rd_L1 l0_1 x9_2).length : Int)) = false := decide_eq_false c47
                                              clear c47
                                              have H' := Aside0.mk H
                                              clear H
                                              have hcz49_0 : wr.cell? ⟨gb227, 0, none⟩ = some (.slice A0_0 l0_0.length c0_0) := (blk_cell BK227.out 0).trans rfl
                                              have hcz49_1 : wr.cell? ⟨gb227, 1, none⟩ = some (.slice A0_1 l0_1.length c0_1) := (blk_cell BK227.out 1).trans rfl
                                              have hfz49_0 := blk_frozen BK227.out 0
                                              have hfz49_1 := blk_frozen BK227.out 1
                                              have p233 : 0 ≤ (x9_2 : Int) := of_decide_eq_true (by first | (with_reducible assumption) | assumption)
                                              have q233 : x9_2 < (l0_1.length : Int) := of_decide_eq_true (by first | (with_reducible assumption) | assumption)
                                              obtain ⟨ad233, A233_0, c233_0, e233, hx233_0, hl233_0, hi233_0⟩ := at_L1 HR0_1.out x9_2 p233 q233
                                              cases e233
                                              replace hx233_0 := (HB.out.cell (World.block_lt_of_cell? w _ hx233_0)).trans hx233_0
                                              have HR233_0 := Aside0.mk hi233_0
                                              have HC233_0 := Aside0.mk hl233_0
                                              clear hi233_0 hl233_0
                                              replace p233 := eq_true p233
                                              replace q233 := eq_true q233
                                              have p239 : 0 ≤ (x9_2 : Int) := of_decide_eq_true (by first | (with_reducible assumption) | assumption)
                                              have q239 : x9_2 < (l2.length : Int) := of_decide_eq_true (by first | (with_reducible assumption) | assumption)
                                              obtain ⟨ad239, e239, hx239_0⟩ := Kd.at_int HR2.out x9_2 p239 q239
                                              cases e239
                                              replace hx239_0 := (HB.out.cell (World.block_lt_of_cell? w _ hx239_0)).trans hx239_0
                                              replace p239 := eq_true p239
                                              replace q239 := eq_true q239
                                              have p240 : 0 ≤ (x9_2 : Int) := of_decide_eq_true (by first | (with_reducible assumption) | assumption)
                                              have q240 : x9_2 < (l0_0.length : Int) := of_decide_eq_true (by first | (with_reducible assumption) | assumption)
                                              obtain ⟨ad240, e240, hx240_0⟩ := Kd.at_int HR0_0.out x9_2 p240 q240
                                              cases e240
                                              replace hx240_0 := (HB.out.cell (World.block_lt_of_cell? w _ hx240_0)).trans hx240_0
                                              replace p240 := eq_true p240
                                              replace q240 := eq_true q240
                                              have p243 : 0 ≤ (x9_2 : Int) := of_decide_eq_true (by first | (with_reducible assumption) | assumption)
                                              have q243 : x9_2 < (l0_0.length : Int) := of_decide_eq_true (by first | (with_reducible assumption) | assumption)
                                              obtain ⟨ad243, e243, hx243_0⟩ := Kd.at_int HR0_0.out x9_2 p243 q243
                                              obtain rfl : ad240 = ad243 := (by injection e243)
                                              replace hx243_0 := (HB.out.cell (World.block_lt_of_cell? w _ hx243_0)).trans hx243_0
                                              replace p243 := eq_true p243
                                              replace q243 := eq_true q243
                                              have p244 : 0 ≤ (x9_2 : Int) := of_decide_eq_true (by first | (with_reducible assumption) | assumption)
                                              have q244 : x9_2 < (l0_1.length : Int) := of_decide_eq_true (by first | (with_reducible assumption) | assumption)
                                              obtain ⟨ad244, A244_0, c244_0, e244, hx244_0, hl244_0, hi244_0⟩ := at_L1 HR0_1.out x9_2 p244 q244
                                              obtain rfl : ad233 = ad244 := (by injection e244)
                                              replace hx244_0 := (HB.out.cell (World.block_lt_of_cell? w _ hx244_0)).trans hx244_0
                                              have HR244_0 := Aside0.mk hi244_0
                                              have HC244_0 := Aside0.mk hl244_0
                                              clear hi244_0 hl244_0
                                              replace p244 := eq_true p244
                                              replace q244 := eq_true q244
                                              have ea_ := Option.some.inj (hx233_0.symm.trans hx244_0)
                                              injection ea_ with ea_ en_ ec_
                                              subst ea_
                                              subst ec_
                                              clear en_
                                              go_wp2
                                              repeat (go_quiet (fail); try go_wp2)
                                              go_roundg k4
                                              case measure => have := HK1.out; have := HK2.out; have := HJ15.out; have := HK4.out; omega
                                              case rel => exact ⟨(wrap64 (x9_2 + 1)), (by first | rfl | (simp; done) | (simp [*]; done)), H', ⟨by have := HK1.out; have := HK2.out; have := HJ15.out; have := HK4.out; omega⟩, ⟨by (with_reducible repeat (first | refine blk_drewN ?_ _ | refine blk_drew ?_ | refine blk_alloc ?_ _)); exact BK227.out⟩, ⟨by repeat (first | (with_reducible first | exact HB.out | apply below_alloc | apply pw_below_drewN | apply below_drew1 | refine below_set ?_ GE227.out) | exact HB.out)⟩⟩
                                          · rw [if_neg c46] at H
                                            have c46b0 : ((rd l0_0 x9_2) == 1) = false := beq_eq_false_iff_ne.mpr c46
                                            have c46b1 : ((rd l0_0 x9_2) != 1) = true := bne_iff_ne.mpr c46
                                            have H' := Aside0.mk H
                                            clear H
                                            have hcz50_0 : wr.cell? ⟨gb227, 0, none⟩ = some (.slice A0_0 l0_0.length c0_0) := (blk_cell BK227.out 0).trans rfl
                                            have hcz50_1 : wr.cell? ⟨gb227, 1, none⟩ = some (.slice A0_1 l0_1.length c0_1) := (blk_cell BK227.out 1).trans rfl
                                            have hfz50_0 := blk_frozen BK227.out 0
                                            have hfz50_1 := blk_frozen BK227.out 1
                                            have p233 : 0 ≤ (x9_2 : Int) := of_decide_eq_true (by first | (with_reducible assumption) | assumption)
                                            have q233 : x9_2 < (l0_1.length : Int) := of_decide_eq_true (by first | (with_reducible assumption) | assumption)
                                            obtain ⟨ad233, A233_0, c233_0, e233, hx233_0, hl233_0, hi233_0⟩ := at_L1 HR0_1.out x9_2 p233 q233
                                            cases e233
                                            replace hx233_0 := (HB.out.cell (World.block_lt_of_cell? w _ hx233_0)).trans hx233_0
                                            have HR233_0 := Aside0.mk hi233_0
                                            have HC233_0 := Aside0.mk hl233_0
                                            clear hi233_0 hl233_0
                                            replace p233 := eq_true p233
                                            replace q233 := eq_true q233
                                            have p239 : 0 ≤ (x9_2 : Int) := of_decide_eq_true (by first | (with_reducible assumption) | assumption)
                                            have q239 : x9_2 < (l2.length : Int) := of_decide_eq_true (by first | (with_reducible assumption) | assumption)
                                            obtain ⟨ad239, e239, hx239_0⟩ := Kd.at_int HR2.out x9_2 p239 q239
                                            cases e239
                                            replace hx239_0 := (HB.out.cell (World.block_lt_of_cell? w _ hx239_0)).trans hx239_0
                                            replace p239 := eq_true p239
                                            replace q239 := eq_true q239
                                            have p240 : 0 ≤ (x9_2 : Int) := of_decide_eq_true (by first | (with_reducible assumption) | assumption)
                                            have q240 : x9_2 < (l0_0.length : Int) := of_decide_eq_true (by first | (with_reducible assumption) | assumption)
                                            obtain ⟨ad240, e240, hx240_0⟩ := Kd.at_int HR0_0.out x9_2 p240 q240
                                            cases e240
                                            replace hx240_0 := (HB.out.cell (World.block_lt_of_cell? w _ hx240_0)).trans hx240_0
                                            replace p240 := eq_true p240
                                            replace q240 := eq_true q240
                                            have p243 : 0 ≤ (x9_2 : Int) := of_decide_eq_true (by first | (with_reducible assumption) | assumption)
                                            have q243 : x9_2 < (l0_0.length : Int) := of_decide_eq_true (by first | (with_reducible assumption) | assumption)
                                            obtain ⟨ad243, e243, hx243_0⟩ := Kd.at_int HR0_0.out x9_2 p243 q243
                                            obtain rfl : ad240 = ad243 := (by injection e243)
                                            replace hx243_0 := (HB.out.cell (World.block_lt_of_cell? w _ hx243_0)).trans hx243_0
                                            replace p243 := eq_true p243
                                            replace q243 := eq_true q243
                                            go_wp2
                                            repeat (go_quiet (fail); try go_wp2)
                                            go_roundg k4
                                            case measure => have := HK1.out; have := HK2.out; have := HJ15.out; have := HK4.out; omega
                                            case rel => exact ⟨(wrap64 (x9_2 + 1)), (by first | rfl | (simp; done) | (simp [*]; done)), H', ⟨by have := HK1.out; have := HK2.out; have := HJ15.out; have := HK4.out; omega⟩, ⟨by (with_reducible repeat (first | refine blk_drewN ?_ _ | refine blk_drew ?_ | refine blk_alloc ?_ _)); exact BK227.out⟩, ⟨by repeat (first | (with_reducible first | exact HB.out | apply below_alloc | apply pw_below_drewN | apply below_drew1 | refine below_set ?_ GE227.out) | exact HB.out)⟩⟩
                                      · rw [if_neg c37] at H
                                        exact absurd H (by simp)
                                    · rw [if_neg c36] at H
                                      have c36b0 : decide (0 < (rd l2 x9_2)) = false := decide_eq_false c36
                                      clear c36
                                      have H' := Aside0.mk H
                                      clear H
                                      have hcz51_0 : wr.cell? ⟨gb227, 0, none⟩ = some (.slice A0_0 l0_0.length c0_0) := (blk_cell BK227.out 0).trans rfl
                                      have hcz51_1 : wr.cell? ⟨gb227, 1, none⟩ = some (.slice A0_1 l0_1.length c0_1) := (blk_cell BK227.out 1).trans rfl
                                      have hfz51_0 := blk_frozen BK227.out 0
                                      have hfz51_1 := blk_frozen BK227.out 1
                                      have p233 : 0 ≤ (x9_2 : Int) := of_decide_eq_true (by first | (with_reducible assumption) | assumption)
                                      have q233 : x9_2 < (l0_1.length : Int) := of_decide_eq_true (by first | (with_reducible assumption) | assumption)
                                      obtain ⟨ad233, A233_0, c233_0, e233, hx233_0, hl233_0, hi233_0⟩ := at_L1 HR0_1.out x9_2 p233 q233
                                      cases e233
                                      replace hx233_0 := (HB.out.cell (World.block_lt_of_cell? w _ hx233_0)).trans hx233_0
                                      have HR233_0 := Aside0.mk hi233_0
                                      have HC233_0 := Aside0.mk hl233_0
                                      clear hi233_0 hl233_0
                                      replace p233 := eq_true p233
                                      replace q233 := eq_true q233
                                      have p239 : 0 ≤ (x9_2 : Int) := of_decide_eq_true (by first | (with_reducible assumption) | assumption)
                                      have q239 : x9_2 < (l2.length : Int) := of_decide_eq_true (by first | (with_reducible assumption) | assumption)
                                      obtain ⟨ad239, e239, hx239_0⟩ := Kd.at_int HR2.out x9_2 p239 q239
                                      cases e239
                                      replace hx239_0 := (HB.out.cell (World.block_lt_of_cell? w _ hx239_0)).trans hx239_0
                                      replace p239 := eq_true p239
                                      replace q239 := eq_true q239
                                      go_wp2
                                      repeat (go_quiet (fail); try go_wp2)
                                      go_roundg k4
                                      case measure => have := HK1.out; have := HK2.out; have := HJ15.out; have := HK4.out; omega
                                      case rel => exact ⟨(wrap64 (x9_2 + 1)), (by first | rfl | (simp; done) | (simp [*]; done)), H', ⟨by have := HK1.out; have := HK2.out; have := HJ15.out; have := HK4.out; omega⟩, ⟨by (with_reducible repeat (first | refine blk_drewN ?_ _ | refine blk_drew ?_ | refine blk_alloc ?_ _)); exact BK227.out⟩, ⟨by repeat (first | (with_reducible first | exact HB.out | apply below_alloc | apply pw_below_drewN | apply below_drew1 | refine below_set ?_ GE227.out) | exact HB.out)⟩⟩
                                  · rw [if_neg c35] at H
                                    exact absurd H (by simp)
                              · rw [if_neg c25] at H
                                exact absurd H (by simp)
                            · rw [if_neg c24] at H
                              exact absurd H (by simp)
                · rw [if_neg c15] at H
                  have c15b0 : decide (x9_2 < (l2.length : Int)) = false := decide_eq_false c15
                  clear c15
                  obtain rfl := Option.some.inj H
                  go_wp2
                  repeat (go_quiet (fail); try go_wp2)
                  go_ret
                  exact ⟨by first | rfl | (simp [errW_none, errW_some] <;> rfl) | (simp [*, errW_none, errW_some] <;> rfl), by repeat (first | (with_reducible first | exact HB.out | apply below_alloc | apply pw_below_drewN | apply below_drew1 | refine below_set ?_ GE227.out) | exact HB.out)⟩
    · rw [if_neg c6] at H
      have c6b0 : ((l2.length : Int) == (l0_0.length : Int)) = false := beq_eq_false_iff_ne.mpr c6
      have c6b1 : ((l2.length : Int) != (l0_0.length : Int)) = true := bne_iff_ne.mpr c6
      have c6b2 : (l2.length == l0_0.length) = false := by first | simpa using c6 | (simp at c6 ⊢; omega)
      obtain rfl := Option.some.inj H
      go_enter Try.func34, Try.ntmps34
      go_wp2_with (first | ((with_reducible refine gate_dst (N := 3) rfl ?_); (try (refine gate_guard (by rfl) ?_; dsimp only)); refine box_event ?hg (N := 3) ?hd (cs := #[.slice A0_0 l0_0.length c0_0, .slice A0_1 l0_1.length c0_1]) (t := 25) ?hr ?_; (case hd => rfl); (case hg => rfl); (case hr => first | (go_simp; done) | (go_simp; rfl)); intro gb227 hg w52 hbox hb; have n0_ := Aside0.mk (below_step (by repeat (first | (with_reducible first | exact HB.out | apply below_alloc | apply pw_below_drewN | apply below_drew1) | exact HB.out)) hb); have n1_ := Aside0.mk (hbox); have n2_ := Aside0.mk ((by rw [hg]; exact (below_size (by repeat (first | (with_reducible first | exact HB.out | apply below_alloc | apply pw_below_drewN | apply below_drew1) | exact HB.out))) : w.heap.size ≤ gb227)); have n3_ := Aside0.mk ((by rw [hg]; exact (below_size (by repeat (first | (with_reducible first | exact HB.out | apply below_alloc | apply pw_below_drewN | apply below_drew1) | exact HB.out))) : w.heap.size ≤ gb227)); clear HB; have HB := n0_; have BK227 := n1_; have GW227 := n2_; have GE227 := n3_; clear n0_ n1_ n2_ n3_; clear hb hbox hg; have hcz53_0 : w52.cell? ⟨gb227, 0, none⟩ = some (.slice A0_0 l0_0.length c0_0) := (blk_cell BK227.out 0).trans rfl; have hcz53_1 : w52.cell? ⟨gb227, 1, none⟩ = some (.slice A0_1 l0_1.length c0_1) := (blk_cell BK227.out 1).trans rfl; have hfz53_0 := blk_frozen BK227.out 0; have hfz53_1 := blk_frozen BK227.out 1) | (go_at_call 49; (with_reducible refine (wigeonref04_asked.calls k _ _ l0_0 _ _ l0_1 _ _ l1 t228 _ ?side1 ?side2 ?side3 ?side4 ?side5 ?side6 A4.out).mono ?_); (case side1 => repeat (first | exact (Kd.C_below HR0_0.out HB.out) | (with_reducible refine Kd.C_alloc ?_ _) | (with_reducible refine Kd.C_drewN ?_ _) | (with_reducible refine Kd.C_drew ?_))); (case side2 => exact HC0_0.out); (case side3 => repeat (first | exact (Kd.C_below HR0_1.out HB.out) | (with_reducible refine Kd.C_alloc ?_ _) | (with_reducible refine Kd.C_drewN ?_ _) | (with_reducible refine Kd.C_drew ?_))); (case side4 => exact HC0_1.out); (case side5 => repeat (first | exact (Kd.C_below HR1.out HB.out) | (with_reducible refine Kd.C_alloc ?_ _) | (with_reducible refine Kd.C_drewN ?_ _) | (with_reducible refine Kd.C_drew ?_))); (case side6 => exact HC1.out); rintro e w54 ⟨rfl, hb⟩; have n0_ := Aside0.mk (blk_below (g := gb227) (o := .cells #[.slice A0_0 l0_0.length c0_0, .slice A0_1 l0_1.length c0_1] 25 (0, 0)) (by (with_reducible repeat (first | refine blk_drewN ?_ _ | refine blk_drew ?_ | refine blk_alloc ?_ _)); exact BK227.out) hb); have n1_ := Aside0.mk (below_step (by repeat (first | (with_reducible first | exact HB.out | apply below_alloc | apply pw_below_drewN | apply below_drew1 | refine below_set ?_ GE227.out) | exact HB.out)) hb); clear BK227; clear HB; have BK227 := n0_; have HB := n1_; clear n0_ n1_; (try clear hb); (try clear hb2); (try clear hk); (try clear hi); have hcz55_0 : w54.cell? ⟨gb227, 0, none⟩ = some (.slice A0_0 l0_0.length c0_0) := (blk_cell BK227.out 0).trans rfl; have hcz55_1 : w54.cell? ⟨gb227, 1, none⟩ = some (.slice A0_1 l0_1.length c0_1) := (blk_cell BK227.out 1).trans rfl; have hfz55_0 := blk_frozen BK227.out 0; have hfz55_1 := blk_frozen BK227.out 1))
      repeat (go_quiet (first | ((with_reducible refine gate_dst (N := 3) rfl ?_); (try (refine gate_guard (by rfl) ?_; dsimp only)); refine box_event ?hg (N := 3) ?hd (cs := #[.slice A0_0 l0_0.length c0_0, .slice A0_1 l0_1.length c0_1]) (t := 25) ?hr ?_; (case hd => rfl); (case hg => rfl); (case hr => first | (go_simp; done) | (go_simp; rfl)); intro gb227 hg w52 hbox hb; have n0_ := Aside0.mk (below_step (by repeat (first | (with_reducible first | exact HB.out | apply below_alloc | apply pw_below_drewN | apply below_drew1) | exact HB.out)) hb); have n1_ := Aside0.mk (hbox); have n2_ := Aside0.mk ((by rw [hg]; exact (below_size (by repeat (first | (with_reducible first | exact HB.out | apply below_alloc | apply pw_below_drewN | apply below_drew1) | exact HB.out))) : w.heap.size ≤ gb227)); have n3_ := Aside0.mk ((by rw [hg]; exact (below_size (by repeat (first | (with_reducible first | exact HB.out | apply below_alloc | apply pw_below_drewN | apply below_drew1) | exact HB.out))) : w.heap.size ≤ gb227)); clear HB; have HB := n0_; have BK227 := n1_; have GW227 := n2_; have GE227 := n3_; clear n0_ n1_ n2_ n3_; clear hb hbox hg; have hcz53_0 : w52.cell? ⟨gb227, 0, none⟩ = some (.slice A0_0 l0_0.length c0_0) := (blk_cell BK227.out 0).trans rfl; have hcz53_1 : w52.cell? ⟨gb227, 1, none⟩ = some (.slice A0_1 l0_1.length c0_1) := (blk_cell BK227.out 1).trans rfl; have hfz53_0 := blk_frozen BK227.out 0; have hfz53_1 := blk_frozen BK227.out 1) | (go_at_call 49; (with_reducible refine (wigeonref04_asked.calls k _ _ l0_0 _ _ l0_1 _ _ l1 t228 _ ?side1 ?side2 ?side3 ?side4 ?side5 ?side6 A4.out).mono ?_); (case side1 => repeat (first | exact (Kd.C_below HR0_0.out HB.out) | (with_reducible refine Kd.C_alloc ?_ _) | (with_reducible refine Kd.C_drewN ?_ _) | (with_reducible refine Kd.C_drew ?_))); (case side2 => exact HC0_0.out); (case side3 => repeat (first | exact (Kd.C_below HR0_1.out HB.out) | (with_reducible refine Kd.C_alloc ?_ _) | (with_reducible refine Kd.C_drewN ?_ _) | (with_reducible refine Kd.C_drew ?_))); (case side4 => exact HC0_1.out); (case side5 => repeat (first | exact (Kd.C_below HR1.out HB.out) | (with_reducible refine Kd.C_alloc ?_ _) | (with_reducible refine Kd.C_drewN ?_ _) | (with_reducible refine Kd.C_drew ?_))); (case side6 => exact HC1.out); rintro e w54 ⟨rfl, hb⟩; have n0_ := Aside0.mk (blk_below (g := gb227) (o := .cells #[.slice A0_0 l0_0.length c0_0, .slice A0_1 l0_1.length c0_1] 25 (0, 0)) (by (with_reducible repeat (first | refine blk_drewN ?_ _ | refine blk_drew ?_ | refine blk_alloc ?_ _)); exact BK227.out) hb); have n1_ := Aside0.mk (below_step (by repeat (first | (with_reducible first | exact HB.out | apply below_alloc | apply pw_below_drewN | apply below_drew1 | refine below_set ?_ GE227.out) | exact HB.out)) hb); clear BK227; clear HB; have BK227 := n0_; have HB := n1_; clear n0_ n1_; (try clear hb); (try clear hb2); (try clear hk); (try clear hi); have hcz55_0 : w54.cell? ⟨gb227, 0, none⟩ = some (.slice A0_0 l0_0.length c0_0) := (blk_cell BK227.out 0).trans rfl; have hcz55_1 : w54.cell? ⟨gb227, 1, none⟩ = some (.slice A0_1 l0_1.length c0_1) := (blk_cell BK227.out 1).trans rfl; have hfz55_0 := blk_frozen BK227.out 0; have hfz55_1 := blk_frozen BK227.out 1)); try go_wp2_with (first | ((with_reducible refine gate_dst (N := 3) rfl ?_); (try (refine gate_guard (by rfl) ?_; dsimp only)); refine box_event ?hg (N := 3) ?hd (cs := #[.slice A0_0 l0_0.length c0_0, .slice A0_1 l0_1.length c0_1]) (t := 25) ?hr ?_; (case hd => rfl); (case hg => rfl); (case hr => first | (go_simp; done) | (go_simp; rfl)); intro gb227 hg w52 hbox hb; have n0_ := Aside0.mk (below_step (by repeat (first | (with_reducible first | exact HB.out | apply below_alloc | apply pw_below_drewN | apply below_drew1) | exact HB.out)) hb); have n1_ := Aside0.mk (hbox); have n2_ := Aside0.mk ((by rw [hg]; exact (below_size (by repeat (first | (with_reducible first | exact HB.out | apply below_alloc | apply pw_below_drewN | apply below_drew1) | exact HB.out))) : w.heap.size ≤ gb227)); have n3_ := Aside0.mk ((by rw [hg]; exact (below_size (by repeat (first | (with_reducible first | exact HB.out | apply below_alloc | apply pw_below_drewN | apply below_drew1) | exact HB.out))) : w.heap.size ≤ gb227)); clear HB; have HB := n0_; have BK227 := n1_; have GW227 := n2_; have GE227 := n3_; clear n0_ n1_ n2_ n3_; clear hb hbox hg; have hcz53_0 : w52.cell? ⟨gb227, 0, none⟩ = some (.slice A0_0 l0_0.length c0_0) := (blk_cell BK227.out 0).trans rfl; have hcz53_1 : w52.cell? ⟨gb227, 1, none⟩ = some (.slice A0_1 l0_1.length c0_1) := (blk_cell BK227.out 1).trans rfl; have hfz53_0 := blk_frozen BK227.out 0; have hfz53_1 := blk_frozen BK227.out 1) | (go_at_call 49; (with_reducible refine (wigeonref04_asked.calls k _ _ l0_0 _ _ l0_1 _ _ l1 t228 _ ?side1 ?side2 ?side3 ?side4 ?side5 ?side6 A4.out).mono ?_); (case side1 => repeat (first | exact (Kd.C_below HR0_0.out HB.out) | (with_reducible refine Kd.C_alloc ?_ _) | (with_reducible refine Kd.C_drewN ?_ _) | (with_reducible refine Kd.C_drew ?_))); (case side2 => exact HC0_0.out); (case side3 => repeat (first | exact (Kd.C_below HR0_1.out HB.out) | (with_reducible refine Kd.C_alloc ?_ _) | (with_reducible refine Kd.C_drewN ?_ _) | (with_reducible refine Kd.C_drew ?_))); (case side4 => exact HC0_1.out); (case side5 => repeat (first | exact (Kd.C_below HR1.out HB.out) | (with_reducible refine Kd.C_alloc ?_ _) | (with_reducible refine Kd.C_drewN ?_ _) | (with_reducible refine Kd.C_drew ?_))); (case side6 => exact HC1.out); rintro e w54 ⟨rfl, hb⟩; have n0_ := Aside0.mk (blk_below (g := gb227) (o := .cells #[.slice A0_0 l0_0.length c0_0, .slice A0_1 l0_1.length c0_1] 25 (0, 0)) (by (with_reducible repeat (first | refine blk_drewN ?_ _ | refine blk_drew ?_ | refine blk_alloc ?_ _)); exact BK227.out) hb); have n1_ := Aside0.mk (below_step (by repeat (first | (with_reducible first | exact HB.out | apply below_alloc | apply pw_below_drewN | apply below_drew1 | refine below_set ?_ GE227.out) | exact HB.out)) hb); clear BK227; clear HB; have BK227 := n0_; have HB := n1_; clear n0_ n1_; (try clear hb); (try clear hb2); (try clear hk); (try clear hi); have hcz55_0 : w54.cell? ⟨gb227, 0, none⟩ = some (.slice A0_0 l0_0.length c0_0) := (blk_cell BK227.out 0).trans rfl; have hcz55_1 : w54.cell? ⟨gb227, 1, none⟩ = some (.slice A0_1 l0_1.length c0_1) := (blk_cell BK227.out 1).trans rfl; have hfz55_0 := blk_frozen BK227.out 0; have hfz55_1 := blk_frozen BK227.out 1)))
      go_ret
      exact ⟨by first | rfl | (simp [errW_none, errW_some] <;> rfl) | (simp [*, errW_none, errW_some] <;> rfl), by repeat (first | (with_reducible first | exact HB.out | apply below_alloc | apply pw_below_drewN | apply below_drew1 | refine below_set ?_ GE227.out) | exact HB.out)⟩
  · rw [if_neg c5] at H
    have c5b0 : (t228 == 0) = false := beq_eq_false_iff_ne.mpr c5
    have c5b1 : (t228 != 0) = true := bne_iff_ne.mpr c5
    obtain rfl := Option.some.inj H
    go_enter Try.func34, Try.ntmps34
    go_wp2_with (first | ((with_reducible refine gate_dst (N := 3) rfl ?_); (try (refine gate_guard (by rfl) ?_; dsimp only)); refine box_event ?hg (N := 3) ?hd (cs := #[.slice A0_0 l0_0.length c0_0, .slice A0_1 l0_1.length c0_1]) (t := 25) ?hr ?_; (case hd => rfl); (case hg => rfl); (case hr => first | (go_simp; done) | (go_simp; rfl)); intro gb227 hg w56 hbox hb; have n0_ := Aside0.mk (below_step (by repeat (first | (with_reducible first | exact HB.out | apply below_alloc | apply pw_below_drewN | apply below_drew1) | exact HB.out)) hb); have n1_ := Aside0.mk (hbox); have n2_ := Aside0.mk ((by rw [hg]; exact (below_size (by repeat (first | (with_reducible first | exact HB.out | apply below_alloc | apply pw_below_drewN | apply below_drew1) | exact HB.out))) : w.heap.size ≤ gb227)); have n3_ := Aside0.mk ((by rw [hg]; exact (below_size (by repeat (first | (with_reducible first | exact HB.out | apply below_alloc | apply pw_below_drewN | apply below_drew1) | exact HB.out))) : w.heap.size ≤ gb227)); clear HB; have HB := n0_; have BK227 := n1_; have GW227 := n2_; have GE227 := n3_; clear n0_ n1_ n2_ n3_; clear hb hbox hg; have hcz57_0 : w56.cell? ⟨gb227, 0, none⟩ = some (.slice A0_0 l0_0.length c0_0) := (blk_cell BK227.out 0).trans rfl; have hcz57_1 : w56.cell? ⟨gb227, 1, none⟩ = some (.slice A0_1 l0_1.length c0_1) := (blk_cell BK227.out 1).trans rfl; have hfz57_0 := blk_frozen BK227.out 0; have hfz57_1 := blk_frozen BK227.out 1) | (go_at_call 49; (with_reducible refine (wigeonref04_asked.calls k _ _ l0_0 _ _ l0_1 _ _ l1 t228 _ ?side1 ?side2 ?side3 ?side4 ?side5 ?side6 A4.out).mono ?_); (case side1 => repeat (first | exact (Kd.C_below HR0_0.out HB.out) | (with_reducible refine Kd.C_alloc ?_ _) | (with_reducible refine Kd.C_drewN ?_ _) | (with_reducible refine Kd.C_drew ?_))); (case side2 => exact HC0_0.out); (case side3 => repeat (first | exact (Kd.C_below HR0_1.out HB.out) | (with_reducible refine Kd.C_alloc ?_ _) | (with_reducible refine Kd.C_drewN ?_ _) | (with_reducible refine Kd.C_drew ?_))); (case side4 => exact HC0_1.out); (case side5 => repeat (first | exact (Kd.C_below HR1.out HB.out) | (with_reducible refine Kd.C_alloc ?_ _) | (with_reducible refine Kd.C_drewN ?_ _) | (with_reducible refine Kd.C_drew ?_))); (case side6 => exact HC1.out); rintro e w58 ⟨rfl, hb⟩; have n0_ := Aside0.mk (blk_below (g := gb227) (o := .cells #[.slice A0_0 l0_0.length c0_0, .slice A0_1 l0_1.length c0_1] 25 (0, 0)) (by (with_reducible repeat (first | refine blk_drewN ?_ _ | refine blk_drew ?_ | refine blk_alloc ?_ _)); exact BK227.out) hb); have n1_ := Aside0.mk (below_step (by repeat (first | (with_reducible first | exact HB.out | apply below_alloc | apply pw_below_drewN | apply below_drew1 | refine below_set ?_ GE227.out) | exact HB.out)) hb); clear BK227; clear HB; have BK227 := n0_; have HB := n1_; clear n0_ n1_; (try clear hb); (try clear hb2); (try clear hk); (try clear hi)))
    repeat (go_quiet (first | ((with_reducible refine gate_dst (N := 3) rfl ?_); (try (refine gate_guard (by rfl) ?_; dsimp only)); refine box_event ?hg (N := 3) ?hd (cs := #[.slice A0_0 l0_0.length c0_0, .slice A0_1 l0_1.length c0_1]) (t := 25) ?hr ?_; (case hd => rfl); (case hg => rfl); (case hr => first | (go_simp; done) | (go_simp; rfl)); intro gb227 hg w56 hbox hb; have n0_ := Aside0.mk (below_step (by repeat (first | (with_reducible first | exact HB.out | apply below_alloc | apply pw_below_drewN | apply below_drew1) | exact HB.out)) hb); have n1_ := Aside0.mk (hbox); have n2_ := Aside0.mk ((by rw [hg]; exact (below_size (by repeat (first | (with_reducible first | exact HB.out | apply below_alloc | apply pw_below_drewN | apply below_drew1) | exact HB.out))) : w.heap.size ≤ gb227)); have n3_ := Aside0.mk ((by rw [hg]; exact (below_size (by repeat (first | (with_reducible first | exact HB.out | apply below_alloc | apply pw_below_drewN | apply below_drew1) | exact HB.out))) : w.heap.size ≤ gb227)); clear HB; have HB := n0_; have BK227 := n1_; have GW227 := n2_; have GE227 := n3_; clear n0_ n1_ n2_ n3_; clear hb hbox hg; have hcz57_0 : w56.cell? ⟨gb227, 0, none⟩ = some (.slice A0_0 l0_0.length c0_0) := (blk_cell BK227.out 0).trans rfl; have hcz57_1 : w56.cell? ⟨gb227, 1, none⟩ = some (.slice A0_1 l0_1.length c0_1) := (blk_cell BK227.out 1).trans rfl; have hfz57_0 := blk_frozen BK227.out 0; have hfz57_1 := blk_frozen BK227.out 1) | (go_at_call 49; (with_reducible refine (wigeonref04_asked.calls k _ _ l0_0 _ _ l0_1 _ _ l1 t228 _ ?side1 ?side2 ?side3 ?side4 ?side5 ?side6 A4.out).mono ?_); (case side1 => repeat (first | exact (Kd.C_below HR0_0.out HB.out) | (with_reducible refine Kd.C_alloc ?_ _) | (with_reducible refine Kd.C_drewN ?_ _) | (with_reducible refine Kd.C_drew ?_))); (case side2 => exact HC0_0.out); (case side3 => repeat (first | exact (Kd.C_below HR0_1.out HB.out) | (with_reducible refine Kd.C_alloc ?_ _) | (with_reducible refine Kd.C_drewN ?_ _) | (with_reducible refine Kd.C_drew ?_))); (case side4 => exact HC0_1.out); (case side5 => repeat (first | exact (Kd.C_below HR1.out HB.out) | (with_reducible refine Kd.C_alloc ?_ _) | (with_reducible refine Kd.C_drewN ?_ _) | (with_reducible refine Kd.C_drew ?_))); (case side6 => exact HC1.out); rintro e w58 ⟨rfl, hb⟩; have n0_ := Aside0.mk (blk_below (g := gb227) (o := .cells #[.slice A0_0 l0_0.length c0_0, .slice A0_1 l0_1.length c0_1] 25 (0, 0)) (by (with_reducible repeat (first | refine blk_drewN ?_ _ | refine blk_drew ?_ | refine blk_alloc ?_ _)); exact BK227.out) hb); have n1_ := Aside0.mk (below_step (by repeat (first | (with_reducible first | exact HB.out | apply below_alloc | apply pw_below_drewN | apply below_drew1 | refine below_set ?_ GE227.out) | exact HB.out)) hb); clear BK227; clear HB; have BK227 := n0_; have HB := n1_; clear n0_ n1_; (try clear hb); (try clear hb2); (try clear hk); (try clear hi))); try go_wp2_with (first | ((with_reducible refine gate_dst (N := 3) rfl ?_); (try (refine gate_guard (by rfl) ?_; dsimp only)); refine box_event ?hg (N := 3) ?hd (cs := #[.slice A0_0 l0_0.length c0_0, .slice A0_1 l0_1.length c0_1]) (t := 25) ?hr ?_; (case hd => rfl); (case hg => rfl); (case hr => first | (go_simp; done) | (go_simp; rfl)); intro gb227 hg w56 hbox hb; have n0_ := Aside0.mk (below_step (by repeat (first | (with_reducible first | exact HB.out | apply below_alloc | apply pw_below_drewN | apply below_drew1) | exact HB.out)) hb); have n1_ := Aside0.mk (hbox); have n2_ := Aside0.mk ((by rw [hg]; exact (below_size (by repeat (first | (with_reducible first | exact HB.out | apply below_alloc | apply pw_below_drewN | apply below_drew1) | exact HB.out))) : w.heap.size ≤ gb227)); have n3_ := Aside0.mk ((by rw [hg]; exact (below_size (by repeat (first | (with_reducible first | exact HB.out | apply below_alloc | apply pw_below_drewN | apply below_drew1) | exact HB.out))) : w.heap.size ≤ gb227)); clear HB; have HB := n0_; have BK227 := n1_; have GW227 := n2_; have GE227 := n3_; clear n0_ n1_ n2_ n3_; clear hb hbox hg; have hcz57_0 : w56.cell? ⟨gb227, 0, none⟩ = some (.slice A0_0 l0_0.length c0_0) := (blk_cell BK227.out 0).trans rfl; have hcz57_1 : w56.cell? ⟨gb227, 1, none⟩ = some (.slice A0_1 l0_1.length c0_1) := (blk_cell BK227.out 1).trans rfl; have hfz57_0 := blk_frozen BK227.out 0; have hfz57_1 := blk_frozen BK227.out 1) | (go_at_call 49; (with_reducible refine (wigeonref04_asked.calls k _ _ l0_0 _ _ l0_1 _ _ l1 t228 _ ?side1 ?side2 ?side3 ?side4 ?side5 ?side6 A4.out).mono ?_); (case side1 => repeat (first | exact (Kd.C_below HR0_0.out HB.out) | (with_reducible refine Kd.C_alloc ?_ _) | (with_reducible refine Kd.C_drewN ?_ _) | (with_reducible refine Kd.C_drew ?_))); (case side2 => exact HC0_0.out); (case side3 => repeat (first | exact (Kd.C_below HR0_1.out HB.out) | (with_reducible refine Kd.C_alloc ?_ _) | (with_reducible refine Kd.C_drewN ?_ _) | (with_reducible refine Kd.C_drew ?_))); (case side4 => exact HC0_1.out); (case side5 => repeat (first | exact (Kd.C_below HR1.out HB.out) | (with_reducible refine Kd.C_alloc ?_ _) | (with_reducible refine Kd.C_drewN ?_ _) | (with_reducible refine Kd.C_drew ?_))); (case side6 => exact HC1.out); rintro e w58 ⟨rfl, hb⟩; have n0_ := Aside0.mk (blk_below (g := gb227) (o := .cells #[.slice A0_0 l0_0.length c0_0, .slice A0_1 l0_1.length c0_1] 25 (0, 0)) (by (with_reducible repeat (first | refine blk_drewN ?_ _ | refine blk_drew ?_ | refine blk_alloc ?_ _)); exact BK227.out) hb); have n1_ := Aside0.mk (below_step (by repeat (first | (with_reducible first | exact HB.out | apply below_alloc | apply pw_below_drewN | apply below_drew1 | refine below_set ?_ GE227.out) | exact HB.out)) hb); clear BK227; clear HB; have BK227 := n0_; have HB := n1_; clear n0_ n1_; (try clear hb); (try clear hb2); (try clear hk); (try clear hi))))
    go_ret
    exact ⟨by first | rfl | (simp [errW_none, errW_some] <;> rfl) | (simp [*, errW_none, errW_some] <;> rfl), by repeat (first | (with_reducible first | exact HB.out | apply below_alloc | apply pw_below_drewN | apply below_drew1 | refine below_set ?_ GE227.out) | exact HB.out)⟩

end Go.Proofs.Ytnmaonampilmoaa.LW

