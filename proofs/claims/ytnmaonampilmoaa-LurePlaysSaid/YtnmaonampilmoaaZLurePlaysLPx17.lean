/- Of the text LPx17, what the row of LurePlays reaches. -/
import Derived.Test.YtnmaonampilmoaaZLurePlaysLPx0
import Derived.Test.YtnmaonampilmoaaZLurePlaysLPx16
namespace Go.Proofs.Ytnmaonampilmoaa.LP
open Go.RowKit Go.Proofs.YtnmaonampilmoaaW.PrintWords Go.Proofs.YtnmaonampilmoaaW.PrintLast Go.Proofs.YtnmaonampilmoaaW.PrintMore
attribute [local go_sem] max2_int min2_int max_two min_two max_three min_three max_four min_four   -- for this text's walks alone
set_option linter.unusedVariables false
set_option linter.unusedSimpArgs false

mutual
def wigeonref04_Play.j0 : Nat → List Int → List Int → Int → Int → Int → Bool → List Int → List (List Int) → Option (List Int × Int)
  | 0, _, _, _, _, _, _, _, _ => none
  | k + 1, x1, x2, x3, x4, x13, x46, x196000, x196001 => if x46 = true then (some (([] : List Int), 1)) else (wigeonref04_Play.l0 k x1 x2 x3 x4 x13 (([x3] : List Int)) 0 x196000 x196001)
def wigeonref04_Play.l0 : Nat → List Int → List Int → Int → Int → Int → List Int → Int → List Int → List (List Int) → Option (List Int × Int)
  | 0, _, _, _, _, _, _, _, _, _ => none
  | k + 1, x1, x2, x3, x4, x13, x14, x15, x196000, x196001 => if x15 < x4 then (if 0 ≤ x3 then (if x3 < (x1.length : Int) then (if x3 < (x196000.length : Int) then (if (rd x196000 x3) = 1 then (if x3 < (x2.length : Int) then (wigeonref04_Play.j2 k x1 x2 x3 x4 x13 x14 x15 (rd x2 x3) x196000 x196001) else (none)) else (wigeonref04_Play.j2 k x1 x2 x3 x4 x13 x14 x15 (rd x1 x3) x196000 x196001)) else (none)) else (none)) else (none)) else (some (x14, 0))
def wigeonref04_Play.j2 : Nat → List Int → List Int → Int → Int → Int → List Int → Int → Int → List Int → List (List Int) → Option (List Int × Int)
  | 0, _, _, _, _, _, _, _, _, _, _ => none
  | k + 1, x1, x2, x3, x4, x13, x14, x15, x16, x196000, x196001 => (wigeonref04_within.f x16 0 (wrap64 (x13 - 1))).bind fun t205 => (if t205 = true then (if 0 ≤ x3 then (if x3 < (x196001.length : Int) then ((wigeonref04_bits.f k (rd_L1 x196001 x3)).bind fun t207 => (if 0 ≤ (IntKind.u64.wrap (x16)) then (if (Go.bits .and .i64 (shr .i64 t207 (IntKind.u64.wrap (x16))) 1) = 0 then (if 0 < ((rd_L1 x196001 x3).length : Int) then (if x14.length < 17592186044416 then (wigeonref04_Play.l0 k x1 x2 (rd (rd_L1 x196001 x3) 0) x4 x13 (x14 ++ [rd (rd_L1 x196001 x3) 0]) (wrap64 (x15 + 1)) x196000 x196001) else (none)) else (none)) else (if x14.length < 17592186044416 then (wigeonref04_Play.l0 k x1 x2 x16 x4 x13 (x14 ++ [x16]) (wrap64 (x15 + 1)) x196000 x196001) else (none))) else (none))) else (none)) else (none)) else (if 0 ≤ x3 then (if x3 < (x196001.length : Int) then (if 0 < ((rd_L1 x196001 x3).length : Int) then (if x14.length < 17592186044416 then (wigeonref04_Play.l0 k x1 x2 (rd (rd_L1 x196001 x3) 0) x4 x13 (x14 ++ [rd (rd_L1 x196001 x3) 0]) (wrap64 (x15 + 1)) x196000 x196001) else (none)) else (none)) else (none)) else (none)))
end
def wigeonref04_Play.f (k : Nat) (l0_0 : List Int) (l0_1 : List (List Int)) (l1 : List Int) (l2 : List Int) (a3 : Int) (a4 : Int) : Option (List Int × Int) := (wigeonref04_Validate.f k l0_0 l0_1).bind fun t196 => (if t196 = 0 then (if (l1.length : Int) = (l0_0.length : Int) then (if (l2.length : Int) = (l0_0.length : Int) then ((wigeonref04_within.f a3 0 (wrap64 ((l0_0.length : Int) - 1))).bind fun t197 => (if t197 = true then ((wigeonref04_within.f a4 0 100).bind fun t198 => (wigeonref04_Play.j0 k l1 l2 a3 a4 (l0_0.length : Int) (!t198) l0_0 l0_1)) else (wigeonref04_Play.j0 k l1 l2 a3 a4 (l0_0.length : Int) true l0_0 l0_1))) else (wigeonref04_Play.j0 k l1 l2 a3 a4 (l0_0.length : Int) true l0_0 l0_1)) else (wigeonref04_Play.j0 k l1 l2 a3 a4 (l0_0.length : Int) true l0_0 l0_1)) else (some (([] : List Int), t196)))
set_option maxHeartbeats 8000000 in
set_option maxRecDepth 100000 in
theorem wigeonref04_Play.calls (k : Nat) (A0_0 : Option Addr) (c0_0 : Nat) (l0_0 : List Int) (A0_1 : Option Addr) (c0_1 : Nat) (l0_1 : List (List Int)) (A1 : Option Addr) (c1 : Nat) (l1 : List Int) (A2 : Option Addr) (c2 : Nat) (l2 : List Int) (a3 : Int) (a4 : Int) (r1 : List Int) (r2 : Int) (w : World) (hr0_0 : Kd.C (Kd.int .i64) w A0_0 l0_0.length l0_0) (hc0_0 : l0_0.length ≤ c0_0) (hr0_1 : Kd.C (Kd.slice 3 (Kd.int .i64)) w A0_1 l0_1.length l0_1) (hc0_1 : l0_1.length ≤ c0_1) (hr1 : Kd.C (Kd.int .i64) w A1 l1.length l1) (hc1 : l1.length ≤ c1) (hr2 : Kd.C (Kd.int .i64) w A2 l2.length l2) (hc2 : l2.length ≤ c2) (h : wigeonref04_Play.f k l0_0 l0_1 l1 l2 a3 a4 = some (r1, r2)) :
    Calls Try.prog 36 #[.agg #[.slice A0_0 l0_0.length c0_0, .slice A0_1 l0_1.length c0_1], .slice A1 l1.length c1, .slice A2 l2.length c2, .int .i64 a3, .int .i64 a4] w fun e w' => ∃ v0_ : Value, e = .returned (.tuple #[v0_, .int .i64 r2]) ∧ Kd.R (Kd.int .i64) 3 w' w.heap.size (fun _ => True) v0_ r1 ∧ Below w.heap.size w w' := by
  have hu25 := Try.underlying25
  have HR0_0 := Aside0.mk hr0_0
  have HC0_0 := Aside0.mk hc0_0
  clear hr0_0 hc0_0
  have HR0_1 := Aside0.mk hr0_1
  have HC0_1 := Aside0.mk hc0_1
  clear hr0_1 hc0_1
  have HR1 := Aside0.mk hr1
  have HC1 := Aside0.mk hc1
  clear hr1 hc1
  have HR2 := Aside0.mk hr2
  have HC2 := Aside0.mk hc2
  clear hr2 hc2
  have HB := Aside0.mk (Below.refl w.heap.size w)
  have H : ((wigeonref04_Validate.f k l0_0 l0_1).bind fun t196 => (if t196 = 0 then (if (l1.length : Int) = (l0_0.length : Int) then (if (l2.length : Int) = (l0_0.length : Int) then ((wigeonref04_within.f a3 0 (wrap64 ((l0_0.length : Int) - 1))).bind fun t197 => (if t197 = true then ((wigeonref04_within.f a4 0 100).bind fun t198 => (wigeonref04_Play.j0 k l1 l2 a3 a4 (l0_0.length : Int) (!t198) l0_0 l0_1)) else (wigeonref04_Play.j0 k l1 l2 a3 a4 (l0_0.length : Int) true l0_0 l0_1))) else (wigeonref04_Play.j0 k l1 l2 a3 a4 (l0_0.length : Int) true l0_0 l0_1)) else (wigeonref04_Play.j0 k l1 l2 a3 a4 (l0_0.length : Int) true l0_0 l0_1)) else (some (([] : List Int), t196)))) = some (r1, r2) := h
  clear h
  replace H := Option.bind_eq_some_iff.mp H
  obtain ⟨t196, A60, H⟩ := H
  replace H : (if t196 = 0 then (if (l1.length : Int) = (l0_0.length : Int) then (if (l2.length : Int) = (l0_0.length : Int) then ((wigeonref04_within.f a3 0 (wrap64 ((l0_0.length : Int) - 1))).bind fun t197 => (if t197 = true then ((wigeonref04_within.f a4 0 100).bind fun t198 => (wigeonref04_Play.j0 k l1 l2 a3 a4 (l0_0.length : Int) (!t198) l0_0 l0_1)) else (wigeonref04_Play.j0 k l1 l2 a3 a4 (l0_0.length : Int) true l0_0 l0_1))) else (wigeonref04_Play.j0 k l1 l2 a3 a4 (l0_0.length : Int) true l0_0 l0_1)) else (wigeonref04_Play.j0 k l1 l2 a3 a4 (l0_0.length : Int) true l0_0 l0_1)) else (some (([] : List Int), t196))) = some (r1, r2) := H
  have A6 := Aside0.mk A60
  clear A60
  by_cases c7 : t196 = 0
  · rw [if_pos c7] at H
    have c7b0 : (t196 == 0) = true := beq_iff_eq.mpr c7
    have c7b1 : (t196 != 0) = false := bne_eq_false_iff_eq.mpr c7
    clear c7
    have HC8 := Aside0.mk H
    clear H
    go_enter Try.func36, Try.ntmps36
    go_upto_region 5 with (first | ((with_reducible refine gate_dst (N := 5) rfl ?_); (try (refine gate_guard (by rfl) ?_; dsimp only)); refine box_event ?hg (N := 5) ?hd (cs := #[.slice A0_0 l0_0.length c0_0, .slice A0_1 l0_1.length c0_1]) (t := 25) ?hr ?_; (case hd => rfl); (case hg => rfl); (case hr => first | (go_simp; done) | (go_simp; rfl)); intro gb195 hg w9 hbox hb; have n0_ := Aside0.mk (below_step (by repeat (first | (with_reducible first | exact HB.out | apply below_alloc | apply pw_below_drewN | apply below_drew1) | exact HB.out)) hb); have n1_ := Aside0.mk (hbox); have n2_ := Aside0.mk ((by rw [hg]; exact (below_size (by repeat (first | (with_reducible first | exact HB.out | apply below_alloc | apply pw_below_drewN | apply below_drew1) | exact HB.out))) : w.heap.size ≤ gb195)); have n3_ := Aside0.mk ((by rw [hg]; exact (below_size (by repeat (first | (with_reducible first | exact HB.out | apply below_alloc | apply pw_below_drewN | apply below_drew1) | exact HB.out))) : w.heap.size ≤ gb195)); clear HB; have HB := n0_; have BK195 := n1_; have GW195 := n2_; have GE195 := n3_; clear n0_ n1_ n2_ n3_; clear hb hbox hg; have hcz10_0 : w9.cell? ⟨gb195, 0, none⟩ = some (.slice A0_0 l0_0.length c0_0) := (blk_cell BK195.out 0).trans rfl; have hcz10_1 : w9.cell? ⟨gb195, 1, none⟩ = some (.slice A0_1 l0_1.length c0_1) := (blk_cell BK195.out 1).trans rfl; have hfz10_0 := blk_frozen BK195.out 0; have hfz10_1 := blk_frozen BK195.out 1) | ((with_reducible refine gate_callee (f := 29) rfl ?_); refine goesL_ (some 18) rfl rfl Try.func29 (by kernel_rfl) rfl #[.agg #[.slice A0_0 l0_0.length c0_0, .slice A0_1 l0_1.length c0_1]] rfl (by (try simp only [List.map_toArray, List.map_cons, List.map_nil]); first | done | rfl | (simp only [List.length_drop, List.length_take]; rfl)) ?_; (with_reducible refine (wigeonref04_Validate.calls k _ _ l0_0 _ _ l0_1 t196 _ ?side1 ?side2 ?side3 ?side4 A6.out).mono ?_); (case side1 => repeat (first | exact (Kd.C_below HR0_0.out HB.out) | (with_reducible refine Kd.C_alloc ?_ _) | (with_reducible refine Kd.C_drewN ?_ _) | (with_reducible refine Kd.C_drew ?_))); (case side2 => exact HC0_0.out); (case side3 => repeat (first | exact (Kd.C_below HR0_1.out HB.out) | (with_reducible refine Kd.C_alloc ?_ _) | (with_reducible refine Kd.C_drewN ?_ _) | (with_reducible refine Kd.C_drew ?_))); (case side4 => exact HC0_1.out); rintro e w11 ⟨rfl, hb⟩; refine ⟨_, rfl, ?_⟩; have n0_ := Aside0.mk (blk_below (g := gb195) (o := .cells #[.slice A0_0 l0_0.length c0_0, .slice A0_1 l0_1.length c0_1] 25 (0, 0)) (by (with_reducible repeat (first | refine blk_drewN ?_ _ | refine blk_drew ?_ | refine blk_alloc ?_ _)); exact BK195.out) hb); have n1_ := Aside0.mk (below_step (by repeat (first | (with_reducible first | exact HB.out | apply below_alloc | apply pw_below_drewN | apply below_drew1 | refine below_set ?_ GE195.out) | exact HB.out)) hb); clear BK195; clear HB; have BK195 := n0_; have HB := n1_; clear n0_ n1_; (try clear hb); (try clear hb2); (try clear hk); (try clear hi); have hcz12_0 : w11.cell? ⟨gb195, 0, none⟩ = some (.slice A0_0 l0_0.length c0_0) := (blk_cell BK195.out 0).trans rfl; have hcz12_1 : w11.cell? ⟨gb195, 1, none⟩ = some (.slice A0_1 l0_1.length c0_1) := (blk_cell BK195.out 1).trans rfl; have hfz12_0 := blk_frozen BK195.out 0; have hfz12_1 := blk_frozen BK195.out 1))
    (try simp only [Act.put, List.setIfInBounds_toArray, List.set_cons_zero, List.set_cons_succ])
    go_cut [46] (fun v46 wc => ∃ (kq : Nat) (x46_7 : Bool), v46 = .bool x46_7 ∧ Aside0 (wigeonref04_Play.j0 kq l1 l2 a3 a4 (l0_0.length : Int) x46_7 l0_0 l0_1 = some (r1, r2)) ∧ Aside0 (kq ≤ k) ∧ Aside0 (wc.heap[gb195]? = some (.cells #[(.slice A0_0 l0_0.length c0_0), (.slice A0_1 l0_1.length c0_1)] 25 (0, 0))) ∧ Aside0 (Below w.heap.size w wc))
    case first =>
      have H := HC8.out
      clear HC8
      by_cases c13 : (l1.length : Int) = (l0_0.length : Int)
      · rw [if_pos c13] at H
        have c13b0 : ((l1.length : Int) == (l0_0.length : Int)) = true := beq_iff_eq.mpr c13
        have c13b1 : ((l1.length : Int) != (l0_0.length : Int)) = false := bne_eq_false_iff_eq.mpr c13
        have c13b2 : (l1.length == l0_0.length) = true := by first | simpa using c13 | (simp at c13 ⊢; omega)
        clear c13
        (first | rw [c13b0] | (simp only [i64_w, i32_w]; rw [c13b0]) | skip)
        by_cases c14 : (l2.length : Int) = (l0_0.length : Int)
        · rw [if_pos c14] at H
          have c14b0 : ((l2.length : Int) == (l0_0.length : Int)) = true := beq_iff_eq.mpr c14
          have c14b1 : ((l2.length : Int) != (l0_0.length : Int)) = false := bne_eq_false_iff_eq.mpr c14
          have c14b2 : (l2.length == l0_0.length) = true := by first | simpa using c14 | (simp at c14 ⊢; omega)
          clear c14
          replace H := Option.bind_eq_some_iff.mp H
          obtain ⟨t197, A150, H⟩ := H
          replace H : (if t197 = true then ((wigeonref04_within.f a4 0 100).bind fun t198 => (wigeonref04_Play.j0 k l1 l2 a3 a4 (l0_0.length : Int) (!t198) l0_0 l0_1)) else (wigeonref04_Play.j0 k l1 l2 a3 a4 (l0_0.length : Int) true l0_0 l0_1)) = some (r1, r2) := H
          have A15 := Aside0.mk A150
          clear A150
          by_cases c16 : t197 = true
          · subst c16
            have H1 : ((wigeonref04_within.f a4 0 100).bind fun t198 => (wigeonref04_Play.j0 k l1 l2 a3 a4 (l0_0.length : Int) (!t198) l0_0 l0_1)) = some (r1, r2) := by rw [if_pos rfl] at H; exact H
            clear H
            have H := H1
            clear H1
            replace H := Option.bind_eq_some_iff.mp H
            obtain ⟨t198, A170, H⟩ := H
            replace H : (wigeonref04_Play.j0 k l1 l2 a3 a4 (l0_0.length : Int) (!t198) l0_0 l0_1) = some (r1, r2) := H
            have A17 := Aside0.mk A170
            clear A170
            have H' := Aside0.mk H
            clear H
            go_wp2_with (first | (go_at_call 57; (with_reducible refine (wigeonref04_within.calls a3 0 (wrap64 ((l0_0.length : Int) - 1)) true _ A15.out).mono ?_); rintro e w' ⟨rfl, ⟨nd, rfl⟩⟩) | (go_at_call 57; (with_reducible refine (wigeonref04_within.calls a4 0 100 t198 _ A17.out).mono ?_); rintro e w' ⟨rfl, ⟨nd, rfl⟩⟩))
            go_meet
            case rel => exact ⟨_, (!t198), (by first | rfl | (simp; done) | (simp [*]; done)), H', ⟨by first | omega | exact Nat.le_refl _⟩, ⟨by (with_reducible repeat (first | refine blk_drewN ?_ _ | refine blk_drew ?_ | refine blk_alloc ?_ _)); exact BK195.out⟩, ⟨by repeat (first | (with_reducible first | exact HB.out | apply below_alloc | apply pw_below_drewN | apply below_drew1 | refine below_set ?_ GE195.out) | exact HB.out)⟩⟩
          · replace c16 := Bool.eq_false_iff.mpr c16
            subst c16
            have H1 : (wigeonref04_Play.j0 k l1 l2 a3 a4 (l0_0.length : Int) true l0_0 l0_1) = some (r1, r2) := by rw [if_neg (show ¬ (false = true) by decide)] at H; exact H
            clear H
            have H := H1
            clear H1
            have H' := Aside0.mk H
            clear H
            go_wp2_with (first | (go_at_call 57; (with_reducible refine (wigeonref04_within.calls a3 0 (wrap64 ((l0_0.length : Int) - 1)) false _ A15.out).mono ?_); rintro e w' ⟨rfl, ⟨nd, rfl⟩⟩))
            go_meet
            case rel => exact ⟨_, (true), (by first | rfl | (simp; done) | (simp [*]; done)), H', ⟨by first | omega | exact Nat.le_refl _⟩, ⟨by (with_reducible repeat (first | refine blk_drewN ?_ _ | refine blk_drew ?_ | refine blk_alloc ?_ _)); exact BK195.out⟩, ⟨by repeat (first | (with_reducible first | exact HB.out | apply below_alloc | apply pw_below_drewN | apply below_drew1 | refine below_set ?_ GE195.out) | exact HB.out)⟩⟩
        · rw [if_neg c14] at H
          have c14b0 : ((l2.length : Int) == (l0_0.length : Int)) = false := beq_eq_false_iff_ne.mpr c14
          have c14b1 : ((l2.length : Int) != (l0_0.length : Int)) = true := bne_iff_ne.mpr c14
          have c14b2 : (l2.length == l0_0.length) = false := by first | simpa using c14 | (simp at c14 ⊢; omega)
          have H' := Aside0.mk H
          clear H
          go_wp2
          go_meet
          case rel => exact ⟨_, (true), (by first | rfl | (simp; done) | (simp [*]; done)), H', ⟨by first | omega | exact Nat.le_refl _⟩, ⟨by (with_reducible repeat (first | refine blk_drewN ?_ _ | refine blk_drew ?_ | refine blk_alloc ?_ _)); exact BK195.out⟩, ⟨by repeat (first | (with_reducible first | exact HB.out | apply below_alloc | apply pw_below_drewN | apply below_drew1 | refine below_set ?_ GE195.out) | exact HB.out)⟩⟩
      · rw [if_neg c13] at H
        have c13b0 : ((l1.length : Int) == (l0_0.length : Int)) = false := beq_eq_false_iff_ne.mpr c13
        have c13b1 : ((l1.length : Int) != (l0_0.length : Int)) = true := bne_iff_ne.mpr c13
        have c13b2 : (l1.length == l0_0.length) = false := by first | simpa using c13 | (simp at c13 ⊢; omega)
        (first | rw [c13b0] | (simp only [i64_w, i32_w]; rw [c13b0]) | skip)
        have H' := Aside0.mk H
        clear H
        go_wp2
        go_meet
        case rel => exact ⟨_, (true), (by first | rfl | (simp; done) | (simp [*]; done)), H', ⟨by first | omega | exact Nat.le_refl _⟩, ⟨by (with_reducible repeat (first | refine blk_drewN ?_ _ | refine blk_drew ?_ | refine blk_alloc ?_ _)); exact BK195.out⟩, ⟨by repeat (first | (with_reducible first | exact HB.out | apply below_alloc | apply pw_below_drewN | apply below_drew1 | refine below_set ?_ GE195.out) | exact HB.out)⟩⟩
    case rest =>
      clear HC8
      try clear c1
      try clear c2
      try clear p2
      try clear c3
      try clear p6
      try clear c7
      try clear c7b0
      try clear c7b1
      try clear c13
      try clear c13b0
      try clear c13b1
      try clear c13b2
      try clear c14
      try clear c14b0
      try clear c14b1
      try clear c14b2
      try clear c16
      try clear hcz10_0
      try clear hcz10_1
      try clear hcz12_0
      try clear hcz12_1
      try clear hfz10_0
      try clear hfz10_1
      try clear hfz12_0
      try clear hfz12_1
      obtain ⟨kq, x46_7, rfl, HA, HJ7, BK195, HB⟩ := hcut
      cases kq with
      | zero => exact absurd HA.out (by simp [wigeonref04_Play.j0])
      | succ kj7 =>
        have H := HA.out
        clear HA
        simp only [wigeonref04_Play.j0] at H
        by_cases c18 : x46_7 = true
        · subst c18
          have H1 : (some (([] : List Int), 1)) = some (r1, r2) := by rw [if_pos rfl] at H; exact H
          clear H
          have H := H1
          clear H1
          simp only [Option.some.injEq, Prod.mk.injEq] at H
          obtain ⟨rfl, rfl⟩ := H
          go_wp2
          go_ret2
          exact ⟨_, by first | rfl | (simp [errW_none, errW_some] <;> rfl) | (simp [*, errW_none, errW_some] <;> rfl), by first | exact Kd.R_nil _ _ _ _ _ | exact Kd.N_nil _ _ _ _ _ | exact Kd.V_nil _ _ _ _ _ | exact Kd.Q_nil _ _ _ _ _ | exact Kd.S_nil _ _ _ _ _, by repeat (first | (with_reducible first | exact HB.out | apply below_alloc | apply pw_below_drewN | apply below_drew1 | refine below_set ?_ GE195.out) | exact HB.out)⟩
        · replace c18 := Bool.eq_false_iff.mpr c18
          subst c18
          have H1 : (wigeonref04_Play.l0 kj7 l1 l2 a3 a4 (l0_0.length : Int) (([a3] : List Int)) 0 l0_0 l0_1) = some (r1, r2) := by rw [if_neg (show ¬ (false = true) by decide)] at H; exact H
          clear H
          have H := H1
          clear H1
          obtain ⟨y199, hy199⟩ : ∃ y_ : List Int, y_ = (([a3] : List Int)) := ⟨_, rfl⟩
          replace H : (wigeonref04_Play.l0 kj7 l1 l2 a3 a4 (l0_0.length : Int) y199 0 l0_0 l0_1) = some (r1, r2) := by first | (rw [hy199]; with_reducible exact H) | (have H2_ := (Option.bind_some _ _).symm.trans H; rw [hy199]; with_reducible exact H2_) | (have H2_ := (Option.bind_some _ _).symm.trans H; with_reducible exact H2_) | with_reducible exact H | (rw [hy199]; exact H) | exact H
          have Ny199 := Aside0.mk hy199
          clear hy199
          have H' := Aside0.mk H
          clear H
          go_wp2_with (first | ((with_reducible refine gate_dst (N := 48) rfl ?_); (try (refine gate_guard (by rfl) ?_; dsimp only)); refine Kd.R_lit (Kd.int .i64) _ 3 ?hg (N := 48) ?hd (xs := ([a3] : List Int)) (inner := [.int .i64 a3]) (ok := fun _ => True) (okp := fun _ => True) ?hr ?hp (fun _ hk => hk) trivial (Below.refl _ _) (Nat.le_refl _) (by simp) ?_; (case hd => rfl); (case hg => rfl); (case hr => first | (go_simp; done) | (go_simp; rfl)); (case hp => exact (Reps.one (show Kd.M (Kd.int .i64) _ _ _ a3 [.int .i64 a3] from rfl) (Reps.none _ _))); intro v200 w19 ho20 hb hg_ hnew_; clear hg_ hnew_; (first | rw [← Ny199.out] at ho20 | (simp only [Int.reduceToNat] at ho20; rw [← Ny199.out] at ho20)); have n0_ := Aside0.mk (Kd.R_lower ho20 (below_size (by repeat (first | (with_reducible first | exact HB.out | apply below_alloc | apply pw_below_drewN | apply below_drew1 | refine below_set ?_ GE195.out) | exact HB.out)))); have n1_ := Aside0.mk (blk_below (g := gb195) (o := .cells #[.slice A0_0 l0_0.length c0_0, .slice A0_1 l0_1.length c0_1] 25 (0, 0)) (by (with_reducible repeat (first | refine blk_drewN ?_ _ | refine blk_drew ?_ | refine blk_alloc ?_ _)); exact BK195.out) hb); have n2_ := Aside0.mk (below_step (by repeat (first | (with_reducible first | exact HB.out | apply below_alloc | apply pw_below_drewN | apply below_drew1 | refine below_set ?_ GE195.out) | exact HB.out)) hb); clear BK195; clear HB; have HO201 := n0_; have BK195 := n1_; have HB := n2_; clear n0_ n1_ n2_; clear hb ho20))
          go_loopg [3, 14, 15] kj7 (fun kq v3 v14 v15 w' => ∃ (x3_2 : Int) (x14_2 : List Int) (x15_2 : Int), v3 = .int .i64 x3_2 ∧ v15 = .int .i64 x15_2 ∧ Aside0 (wigeonref04_Play.l0 kq l1 l2 x3_2 a4 (l0_0.length : Int) x14_2 x15_2 l0_0 l0_1 = some (r1, r2)) ∧ Aside0 (kq ≤ kj7) ∧ Aside0 (Kd.R (Kd.int .i64) 3 w' w.heap.size (fun _ => True) v14 x14_2) ∧ Aside0 (w'.heap[gb195]? = some (.cells #[(.slice A0_0 l0_0.length c0_0), (.slice A0_1 l0_1.length c0_1)] 25 (0, 0))) ∧ Aside0 (Below w.heap.size w w'))
          case atStart => exact ⟨(a3), (y199), (0), (by first | rfl | (simp; done) | (simp [*]; done)), (by first | rfl | (simp; done) | (simp [*]; done)), H', ⟨Nat.le_refl _⟩, ⟨by (with_reducible repeat (first | apply Kd.R_alloc | apply Kd.R_drewN | apply Kd.R_drew)); exact HO201.out⟩, ⟨by (with_reducible repeat (first | refine blk_drewN ?_ _ | refine blk_drew ?_ | refine blk_alloc ?_ _)); exact BK195.out⟩, ⟨by repeat (first | (with_reducible first | exact HB.out | apply below_alloc | apply pw_below_drewN | apply below_drew1 | refine below_set ?_ GE195.out) | exact HB.out)⟩⟩
          case round =>
            clear H'
            try clear c1
            try clear c2
            try clear p2
            try clear c3
            try clear p6
            try clear c7
            try clear c7b0
            try clear c7b1
            try clear c13
            try clear c13b0
            try clear c13b1
            try clear c13b2
            try clear c14
            try clear c14b0
            try clear c14b1
            try clear c14b2
            try clear c16
            try clear c18
            try clear hcz10_0
            try clear hcz10_1
            try clear hcz12_0
            try clear hcz12_1
            try clear hfz10_0
            try clear hfz10_1
            try clear hfz12_0
            try clear hfz12_1
            try clear p2
            try clear p6
            obtain ⟨x3_2, x14_2, x15_2, rfl, rfl, HA, HK2, HO_14, BK195, HB⟩ := hrel
            cases gk with
            | zero => exact absurd HA.out (by simp [wigeonref04_Play.l0])
            | succ k2 =>
              have H := HA.out
              clear HA
              simp only [wigeonref04_Play.l0] at H
              by_cases c21 : x15_2 < a4
              · rw [if_pos c21] at H
                have c21b0 : decide (x15_2 < a4) = true := decide_eq_true c21
                clear c21
                by_cases c22 : 0 ≤ x3_2
                · rw [if_pos c22] at H
                  have c22b0 : decide (0 ≤ x3_2) = true := decide_eq_true c22
                  clear c22
                  by_cases c23 : x3_2 < (l1.length : Int)
                  · rw [if_pos c23] at H
                    have c23b0 : decide (x3_2 < (l1.length : Int)) = true := decide_eq_true c23
                    clear c23
                    by_cases c24 : x3_2 < (l0_0.length : Int)
                    · rw [if_pos c24] at H
                      have c24b0 : decide (x3_2 < (l0_0.length : Int)) = true := decide_eq_true c24
                      clear c24
                      have HC25 := Aside0.mk H
                      clear H
                      have p202 : 0 ≤ (x3_2 : Int) := of_decide_eq_true (by first | (with_reducible assumption) | assumption)
                      have q202 : x3_2 < (l1.length : Int) := of_decide_eq_true (by first | (with_reducible assumption) | assumption)
                      obtain ⟨ad202, e202, hx202_0⟩ := Kd.at_int HR1.out x3_2 p202 q202
                      cases e202
                      replace hx202_0 := (HB.out.cell (World.block_lt_of_cell? w _ hx202_0)).trans hx202_0
                      replace p202 := eq_true p202
                      replace q202 := eq_true q202
                      have hcz26_0 : wr.cell? ⟨gb195, 0, none⟩ = some (.slice A0_0 l0_0.length c0_0) := (blk_cell BK195.out 0).trans rfl
                      have hcz26_1 : wr.cell? ⟨gb195, 1, none⟩ = some (.slice A0_1 l0_1.length c0_1) := (blk_cell BK195.out 1).trans rfl
                      have hfz26_0 := blk_frozen BK195.out 0
                      have hfz26_1 := blk_frozen BK195.out 1
                      have p203 : 0 ≤ (x3_2 : Int) := of_decide_eq_true (by first | (with_reducible assumption) | assumption)
                      have q203 : x3_2 < (l0_0.length : Int) := of_decide_eq_true (by first | (with_reducible assumption) | assumption)
                      obtain ⟨ad203, e203, hx203_0⟩ := Kd.at_int HR0_0.out x3_2 p203 q203
                      cases e203
                      replace hx203_0 := (HB.out.cell (World.block_lt_of_cell? w _ hx203_0)).trans hx203_0
                      replace p203 := eq_true p203
                      replace q203 := eq_true q203
                      go_upto_if 63 with (fail)
                      go_cut [16] (fun v16 wc => ∃ (kq : Nat) (x16_24 : Int), v16 = .int .i64 x16_24 ∧ Aside0 (wigeonref04_Play.j2 kq l1 l2 x3_2 a4 (l0_0.length : Int) x14_2 x15_2 x16_24 l0_0 l0_1 = some (r1, r2)) ∧ Aside0 (kq ≤ k2) ∧ Aside0 (Kd.R (Kd.int .i64) 3 wc w.heap.size (fun _ => True) u14 x14_2) ∧ Aside0 (wc.heap[gb195]? = some (.cells #[(.slice (some ad203) l0_0.length c0_0), (.slice A0_1 l0_1.length c0_1)] 25 (0, 0))) ∧ Aside0 (Below w.heap.size w wc))
                      case first =>
                        have H := HC25.out
                        clear HC25
                        by_cases c27 : (rd l0_0 x3_2) = 1
                        · rw [if_pos c27] at H
                          have c27b0 : ((rd l0_0 x3_2) == 1) = true := beq_iff_eq.mpr c27
                          have c27b1 : ((rd l0_0 x3_2) != 1) = false := bne_eq_false_iff_eq.mpr c27
                          clear c27
                          (first | rw [c27b0] | (simp only [i64_w, i32_w]; rw [c27b0]) | skip)
                          by_cases c28 : x3_2 < (l2.length : Int)
                          · rw [if_pos c28] at H
                            have c28b0 : decide (x3_2 < (l2.length : Int)) = true := decide_eq_true c28
                            clear c28
                            have H' := Aside0.mk H
                            clear H
                            have p204 : 0 ≤ (x3_2 : Int) := of_decide_eq_true (by first | (with_reducible assumption) | assumption)
                            have q204 : x3_2 < (l2.length : Int) := of_decide_eq_true (by first | (with_reducible assumption) | assumption)
                            obtain ⟨ad204, e204, hx204_0⟩ := Kd.at_int HR2.out x3_2 p204 q204
                            cases e204
                            replace hx204_0 := (HB.out.cell (World.block_lt_of_cell? w _ hx204_0)).trans hx204_0
                            replace p204 := eq_true p204
                            replace q204 := eq_true q204
                            go_wp2
                            go_meet
                            case rel => exact ⟨_, (rd l2 x3_2), (by first | rfl | (simp; done) | (simp [*]; done)), H', ⟨by have := HJ7.out; have := HK2.out; first | omega | exact Nat.le_refl _⟩, ⟨by (with_reducible repeat (first | apply Kd.R_alloc | apply Kd.R_drewN | apply Kd.R_drew)); exact HO_14.out⟩, ⟨by (with_reducible repeat (first | refine blk_drewN ?_ _ | refine blk_drew ?_ | refine blk_alloc ?_ _)); exact BK195.out⟩, ⟨by repeat (first | (with_reducible first | exact HB.out | apply below_alloc | apply pw_below_drewN | apply below_drew1 | refine below_set ?_ GE195.out) | exact HB.out)⟩⟩
                          · rw [if_neg c28] at H
                            exact absurd H (by simp)
                        · rw [if_neg c27] at H
                          have c27b0 : ((rd l0_0 x3_2) == 1) = false := beq_eq_false_iff_ne.mpr c27
                          have c27b1 : ((rd l0_0 x3_2) != 1) = true := bne_iff_ne.mpr c27
                          (first | rw [c27b0] | (simp only [i64_w, i32_w]; rw [c27b0]) | skip)
                          have H' := Aside0.mk H
                          clear H
                          go_wp2
                          go_meet
                          case rel => exact ⟨_, (rd l1 x3_2), (by first | rfl | (simp; done) | (simp [*]; done)), H', ⟨by have := HJ7.out; have := HK2.out; first | omega | exact Nat.le_refl _⟩, ⟨by (with_reducible repeat (first | apply Kd.R_alloc | apply Kd.R_drewN | apply Kd.R_drew)); exact HO_14.out⟩, ⟨by (with_reducible repeat (first | refine blk_drewN ?_ _ | refine blk_drew ?_ | refine blk_alloc ?_ _)); exact BK195.out⟩, ⟨by repeat (first | (with_reducible first | exact HB.out | apply below_alloc | apply pw_below_drewN | apply below_drew1 | refine below_set ?_ GE195.out) | exact HB.out)⟩⟩
                      case rest =>
                        clear HC25
                        try clear c1
                        try clear c2
                        try clear p2
                        try clear q2
                        try clear hx2
                        try clear c3
                        try clear p6
                        try clear c7
                        try clear c7b0
                        try clear c7b1
                        try clear c13
                        try clear c13b0
                        try clear c13b1
                        try clear c13b2
                        try clear c14
                        try clear c14b0
                        try clear c14b1
                        try clear c14b2
                        try clear c16
                        try clear c18
                        try clear p20
                        try clear q20
                        try clear hx20
                        try clear c21
                        try clear c21b0
                        try clear c22
                        try clear c22b0
                        try clear c23
                        try clear c23b0
                        try clear c24
                        try clear c24b0
                        try clear c27
                        try clear c27b0
                        try clear c27b1
                        try clear c28
                        try clear c28b0
                        try clear hcz10_0
                        try clear hcz10_1
                        try clear hcz12_0
                        try clear hcz12_1
                        try clear hcz26_0
                        try clear hcz26_1
                        try clear hfz10_0
                        try clear hfz10_1
                        try clear hfz12_0
                        try clear hfz12_1
                        try clear hfz26_0
                        try clear hfz26_1
                        try clear hx202_0
                        try clear hx203_0
                        try clear hx204_0
                        try clear p2
                        try clear p202
                        try clear p203
                        try clear p204
                        try clear p6
                        try clear q202
                        try clear q203
                        try clear q204
                        obtain ⟨kq, x16_24, rfl, HA, HJ24, HO_14, BK195, HB⟩ := hcut
                        cases kq with
                        | zero => exact absurd HA.out (by simp [wigeonref04_Play.j2])
                        | succ kj24 =>
                          have H := HA.out
                          clear HA
                          simp only [wigeonref04_Play.j2] at H
                          replace H := Option.bind_eq_some_iff.mp H
                          obtain ⟨t205, A290, H⟩ := H
                          replace H : (if t205 = true then (if 0 ≤ x3_2 then (if x3_2 < (l0_1.length : Int) then ((wigeonref04_bits.f kj24 (rd_L1 l0_1 x3_2)).bind fun t207 => (if 0 ≤ (IntKind.u64.wrap (x16_24)) then (if (Go.bits .and .i64 (shr .i64 t207 (IntKind.u64.wrap (x16_24))) 1) = 0 then (if 0 < ((rd_L1 l0_1 x3_2).length : Int) then (if x14_2.length < 17592186044416 then (wigeonref04_Play.l0 kj24 l1 l2 (rd (rd_L1 l0_1 x3_2) 0) a4 (l0_0.length : Int) (x14_2 ++ [rd (rd_L1 l0_1 x3_2) 0]) (wrap64 (x15_2 + 1)) l0_0 l0_1) else (none)) else (none)) else (if x14_2.length < 17592186044416 then (wigeonref04_Play.l0 kj24 l1 l2 x16_24 a4 (l0_0.length : Int) (x14_2 ++ [x16_24]) (wrap64 (x15_2 + 1)) l0_0 l0_1) else (none))) else (none))) else (none)) else (none)) else (if 0 ≤ x3_2 then (if x3_2 < (l0_1.length : Int) then (if 0 < ((rd_L1 l0_1 x3_2).length : Int) then (if x14_2.length < 17592186044416 then (wigeonref04_Play.l0 kj24 l1 l2 (rd (rd_L1 l0_1 x3_2) 0) a4 (l0_0.length : Int) (x14_2 ++ [rd (rd_L1 l0_1 x3_2) 0]) (wrap64 (x15_2 + 1)) l0_0 l0_1) else (none)) else (none)) else (none)) else (none))) = some (r1, r2) := H
                          have A29 := Aside0.mk A290
                          clear A290
                          by_cases c30 : t205 = true
                          · subst c30
                            have H1 : (if 0 ≤ x3_2 then (if x3_2 < (l0_1.length : Int) then ((wigeonref04_bits.f kj24 (rd_L1 l0_1 x3_2)).bind fun t207 => (if 0 ≤ (IntKind.u64.wrap (x16_24)) then (if (Go.bits .and .i64 (shr .i64 t207 (IntKind.u64.wrap (x16_24))) 1) = 0 then (if 0 < ((rd_L1 l0_1 x3_2).length : Int) then (if x14_2.length < 17592186044416 then (wigeonref04_Play.l0 kj24 l1 l2 (rd (rd_L1 l0_1 x3_2) 0) a4 (l0_0.length : Int) (x14_2 ++ [rd (rd_L1 l0_1 x3_2) 0]) (wrap64 (x15_2 + 1)) l0_0 l0_1) else (none)) else (none)) else (if x14_2.length < 17592186044416 then (wigeonref04_Play.l0 kj24 l1 l2 x16_24 a4 (l0_0.length : Int) (x14_2 ++ [x16_24]) (wrap64 (x15_2 + 1)) l0_0 l0_1) else (none))) else (none))) else (none)) else (none)) = some (r1, r2) := by rw [if_pos rfl] at H; exact H
                            clear H
                            have H := H1
                            clear H1
                            by_cases c31 : 0 ≤ x3_2
                            · rw [if_pos c31] at H
                              have c31b0 : decide (0 ≤ x3_2) = true := decide_eq_true c31
                              clear c31
                              by_cases c32 : x3_2 < (l0_1.length : Int)
                              · rw [if_pos c32] at H
                                have c32b0 : decide (x3_2 < (l0_1.length : Int)) = true := decide_eq_true c32
                                clear c32
                                replace H := Option.bind_eq_some_iff.mp H
                                obtain ⟨t207, A330, H⟩ := H
                                replace H : (if 0 ≤ (IntKind.u64.wrap (x16_24)) then (if (Go.bits .and .i64 (shr .i64 t207 (IntKind.u64.wrap (x16_24))) 1) = 0 then (if 0 < ((rd_L1 l0_1 x3_2).length : Int) then (if x14_2.length < 17592186044416 then (wigeonref04_Play.l0 kj24 l1 l2 (rd (rd_L1 l0_1 x3_2) 0) a4 (l0_0.length : Int) (x14_2 ++ [rd (rd_L1 l0_1 x3_2) 0]) (wrap64 (x15_2 + 1)) l0_0 l0_1) else (none)) else (none)) else (if x14_2.length < 17592186044416 then (wigeonref04_Play.l0 kj24 l1 l2 x16_24 a4 (l0_0.length : Int) (x14_2 ++ [x16_24]) (wrap64 (x15_2 + 1)) l0_0 l0_1) else (none))) else (none)) = some (r1, r2) := H
                                have A33 := Aside0.mk A330
                                clear A330
                                obtain ⟨ji34, hji34⟩ : ∃ j_ : Int, (IntKind.u64.wrap (x16_24)) = j_ := ⟨_, rfl⟩
                                replace H : (if 0 ≤ (ji34) then (if (Go.bits .and .i64 (shr .i64 t207 (ji34)) 1) = 0 then (if 0 < ((rd_L1 l0_1 x3_2).length : Int) then (if x14_2.length < 17592186044416 then (wigeonref04_Play.l0 kj24 l1 l2 (rd (rd_L1 l0_1 x3_2) 0) a4 (l0_0.length : Int) (x14_2 ++ [rd (rd_L1 l0_1 x3_2) 0]) (wrap64 (x15_2 + 1)) l0_0 l0_1) else (none)) else (none)) else (if x14_2.length < 17592186044416 then (wigeonref04_Play.l0 kj24 l1 l2 x16_24 a4 (l0_0.length : Int) (x14_2 ++ [x16_24]) (wrap64 (x15_2 + 1)) l0_0 l0_1) else (none))) else (none)) = some (r1, r2) := by first | (rw [hji34] at H; exact H) | (simp only [hji34] at H ⊢; exact H)
                                (try rw [hji34] at A29)
                                (try rw [hji34] at A33)
                                by_cases c35 : 0 ≤ (ji34)
                                · rw [if_pos c35] at H
                                  have c35b0 := eq_true c35
                                  have c35b1 : decide (0 ≤ (ji34)) = true := decide_eq_true c35
                                  clear c35
                                  obtain ⟨ji36, hji36⟩ : ∃ j_ : Int, (shr .i64 t207 (ji34)) = j_ := ⟨_, rfl⟩
                                  replace H : (if (Go.bits .and .i64 (ji36) 1) = 0 then (if 0 < ((rd_L1 l0_1 x3_2).length : Int) then (if x14_2.length < 17592186044416 then (wigeonref04_Play.l0 kj24 l1 l2 (rd (rd_L1 l0_1 x3_2) 0) a4 (l0_0.length : Int) (x14_2 ++ [rd (rd_L1 l0_1 x3_2) 0]) (wrap64 (x15_2 + 1)) l0_0 l0_1) else (none)) else (none)) else (if x14_2.length < 17592186044416 then (wigeonref04_Play.l0 kj24 l1 l2 x16_24 a4 (l0_0.length : Int) (x14_2 ++ [x16_24]) (wrap64 (x15_2 + 1)) l0_0 l0_1) else (none))) = some (r1, r2) := by first | (rw [hji36] at H; exact H) | (simp only [hji36] at H ⊢; exact H)
                                  (try rw [hji36] at A29)
                                  (try rw [hji36] at A33)
                                  have hji36_ : (t207 / 2 ^ min (ji34).toNat 64) = ji36 := hji36
                                  have hji36z : (ji34) ≤ 64 → (t207 / 2 ^ (ji34).toNat) = ji36 := shr_small hji36
                                  by_cases c37 : (Go.bits .and .i64 (ji36) 1) = 0
                                  · rw [if_pos c37] at H
                                    have c37b0 : ((Go.bits .and .i64 (ji36) 1) == 0) = true := beq_iff_eq.mpr c37
                                    have c37b1 : ((Go.bits .and .i64 (ji36) 1) != 0) = false := bne_eq_false_iff_eq.mpr c37
                                    clear c37
                                    by_cases c38 : 0 < ((rd_L1 l0_1 x3_2).length : Int)
                                    · rw [if_pos c38] at H
                                      have c38b0 : decide (0 < ((rd_L1 l0_1 x3_2).length : Int)) = true := decide_eq_true c38
                                      have c38b1 : decide (0 < (rd_L1 l0_1 x3_2).length) = true := decide_eq_true (by omega)
                                      clear c38
                                      by_cases c39 : x14_2.length < 17592186044416
                                      · rw [if_pos c39] at H
                                        have LMc39 := Aside0.mk c39
                                        clear c39
                                        obtain ⟨y210, hy210⟩ : ∃ y_ : List Int, y_ = (x14_2 ++ [rd (rd_L1 l0_1 x3_2) 0]) := ⟨_, rfl⟩
                                        replace H : (wigeonref04_Play.l0 kj24 l1 l2 (rd (rd_L1 l0_1 x3_2) 0) a4 (l0_0.length : Int) y210 (wrap64 (x15_2 + 1)) l0_0 l0_1) = some (r1, r2) := by first | (rw [hy210]; with_reducible exact H) | (have H2_ := (Option.bind_some _ _).symm.trans H; rw [hy210]; with_reducible exact H2_) | (have H2_ := (Option.bind_some _ _).symm.trans H; with_reducible exact H2_) | with_reducible exact H | (rw [hy210]; exact H) | exact H
                                        have Ny210 := Aside0.mk hy210
                                        clear hy210
                                        have H' := Aside0.mk H
                                        clear H
                                        go_wp2_with (first | ((with_reducible refine gate_callee (f := 57) rfl ?_); refine goesL_ (some 71) rfl rfl Try.func57 (by kernel_rfl) rfl #[.int .i64 x16_24, .int .i64 0, .int .i64 (wrap64 ((l0_0.length : Int) - 1))] rfl (by (try simp only [List.map_toArray, List.map_cons, List.map_nil]); first | done | rfl | (simp only [List.length_drop, List.length_take]; rfl)) ?_; (with_reducible refine (wigeonref04_within.calls x16_24 0 (wrap64 ((l0_0.length : Int) - 1)) true _ A29.out).mono ?_); rintro e w' ⟨rfl, ⟨nd, rfl⟩⟩; refine ⟨_, rfl, ?_⟩; have hcz40_0 : wc.cell? ⟨gb195, 0, none⟩ = some (.slice (some ad203) l0_0.length c0_0) := (blk_cell BK195.out 0).trans rfl; have hcz40_1 : wc.cell? ⟨gb195, 1, none⟩ = some (.slice A0_1 l0_1.length c0_1) := (blk_cell BK195.out 1).trans rfl; have hfz40_0 := blk_frozen BK195.out 0; have hfz40_1 := blk_frozen BK195.out 1; have p206 : 0 ≤ (x3_2 : Int) := of_decide_eq_true (by first | (with_reducible assumption) | assumption); have q206 : x3_2 < (l0_1.length : Int) := of_decide_eq_true (by first | (with_reducible assumption) | assumption); obtain ⟨ad206, A206_0, c206_0, e206, hx206_0, hl206_0, hi206_0⟩ := at_L1 HR0_1.out x3_2 p206 q206; cases e206; replace hx206_0 := (HB.out.cell (World.block_lt_of_cell? w _ hx206_0)).trans hx206_0; have HR206_0 := Aside0.mk hi206_0; have HC206_0 := Aside0.mk hl206_0; clear hi206_0 hl206_0; replace p206 := eq_true p206; replace q206 := eq_true q206) | (go_at_call 51; (with_reducible refine (wigeonref04_bits.calls kj24 _ _ (rd_L1 l0_1 x3_2) t207 _ ?side1 ?side2 A33.out).mono ?_); (case side1 => repeat (first | exact (Kd.C_below HR206_0.out (by repeat (first | (with_reducible first | exact HB.out | apply below_alloc | apply pw_below_drewN | apply below_drew1 | refine below_set ?_ GE195.out) | exact HB.out))) | (with_reducible refine Kd.C_alloc ?_ _) | (with_reducible refine Kd.C_drewN ?_ _) | (with_reducible refine Kd.C_drew ?_))); (case side2 => exact HC206_0.out); rintro e w' ⟨rfl, ⟨nd, rfl⟩⟩; have p208 : 0 ≤ (x3_2 : Int) := of_decide_eq_true (by first | (with_reducible assumption) | assumption); have q208 : x3_2 < (l0_1.length : Int) := of_decide_eq_true (by first | (with_reducible assumption) | assumption); obtain ⟨ad208, A208_0, c208_0, e208, hx208_0, hl208_0, hi208_0⟩ := at_L1 HR0_1.out x3_2 p208 q208; obtain rfl : ad206 = ad208 := (by injection e208); replace hx208_0 := (HB.out.cell (World.block_lt_of_cell? w _ hx208_0)).trans hx208_0; have HR208_0 := Aside0.mk hi208_0; have HC208_0 := Aside0.mk hl208_0; clear hi208_0 hl208_0; replace p208 := eq_true p208; replace q208 := eq_true q208; have ea_ := Option.some.inj (hx206_0.symm.trans hx208_0); injection ea_ with ea_ en_ ec_; subst ea_; subst ec_; clear en_; have p209 : 0 ≤ (0 : Int) := (by omega); have q209 : 0 < ((rd_L1 l0_1 x3_2).length : Int) := of_decide_eq_true (by first | (with_reducible assumption) | assumption); obtain ⟨ad209, e209, hx209_0⟩ := Kd.at_int HR208_0.out 0 p209 q209; cases e209; have qi209 : (0 < (rd_L1 l0_1 x3_2).length) = True := eq_true (by omega); (try rw [show ((0 : Int)).toNat = 0 from rfl] at hx209_0); (try rw [Addr.add_zero'] at hx209_0); replace hx209_0 := (HB.out.cell (World.block_lt_of_cell? w _ hx209_0)).trans hx209_0; replace p209 := eq_true p209; replace q209 := eq_true q209) | ((with_reducible refine gate_builtin (b := .append) (xs := #[.tmp 93, .tmp 95]) rfl ?_); (try (refine gate_guard (by rfl) ?_; dsimp only)); at_builtin; refine Kd.R_append (Kd.int .i64) (w0 := w) w.heap.size rfl (.tmp 93) (.tmp 95) 22 3 (.int .i64 0) 8 rfl Try.underlying22 info3 rfl (by decide) (by omega) u14 x14_2 (rd (rd_L1 l0_1 x3_2) 0) [.int .i64 (rd (rd_L1 l0_1 x3_2) 0)] (fun _ => True) (fun _ => False) rfl rfl ?aP (fun _ hk => hk.elim) ?aF ?aO ?aB ?aS ?aL ?_; (case aP => exact rfl); (case aB => exact (by repeat (first | (with_reducible first | exact HB.out | apply below_alloc | apply pw_below_drewN | apply below_drew1 | refine below_set ?_ GE195.out) | exact HB.out))); (case aF => exact (fun _ _ => trivial)); (case aO => exact (by (with_reducible repeat (first | apply Kd.R_alloc | apply Kd.R_drewN | apply Kd.R_drew)); exact HO_14.out)); (case aS => exact (below_size (by repeat (first | (with_reducible first | exact HB.out | apply below_alloc | apply pw_below_drewN | apply below_drew1 | refine below_set ?_ GE195.out) | exact HB.out)))); (case aL => have := LMc39.out; omega); intro v211 w41 ho hb hg hat; rw [← Ny210.out] at ho; have n0_ := Aside0.mk (blk_grown (g := gb195) (o := .cells #[.slice (some ad203) l0_0.length c0_0, .slice (some ad206) l0_1.length c0_1] 25 (0, 0)) (by (with_reducible repeat (first | refine blk_drewN ?_ _ | refine blk_drew ?_ | refine blk_alloc ?_ _)); exact BK195.out) hg (Kd.R_ne HO_14.out BK195.out (by decide))); have n1_ := Aside0.mk (hb); have n2_ := Aside0.mk (ho); clear BK195; clear HB; clear HO_14; have BK195 := n0_; have HB := n1_; have HO212 := n2_; clear n0_ n1_ n2_; clear ho hb hg hat))
                                        go_roundg kj24
                                        case measure => have := HJ7.out; have := HK2.out; have := HJ24.out; omega
                                        case rel => exact ⟨(rd (rd_L1 l0_1 x3_2) 0), (y210), (wrap64 (x15_2 + 1)), (by first | rfl | (simp; done) | (simp [*]; done)), (by first | rfl | (simp; done) | (simp [*]; done)), H', ⟨by have := HJ7.out; have := HK2.out; have := HJ24.out; omega⟩, ⟨by (with_reducible repeat (first | apply Kd.R_alloc | apply Kd.R_drewN | apply Kd.R_drew)); exact HO212.out⟩, ⟨by (with_reducible repeat (first | refine blk_drewN ?_ _ | refine blk_drew ?_ | refine blk_alloc ?_ _)); exact BK195.out⟩, ⟨by repeat (first | (with_reducible first | exact HB.out | apply below_alloc | apply pw_below_drewN | apply below_drew1 | refine below_set ?_ GE195.out) | exact HB.out)⟩⟩
                                      · rw [if_neg c39] at H
                                        exact absurd H (by simp)
                                    · rw [if_neg c38] at H
                                      exact absurd H (by simp)
                                  · rw [if_neg c37] at H
                                    have c37b0 : ((Go.bits .and .i64 (ji36) 1) == 0) = false := beq_eq_false_iff_ne.mpr c37
                                    have c37b1 : ((Go.bits .and .i64 (ji36) 1) != 0) = true := bne_iff_ne.mpr c37
                                    by_cases c42 : x14_2.length < 17592186044416
                                    · rw [if_pos c42] at H
                                      have LMc42 := Aside0.mk c42
                                      clear c42
                                      obtain ⟨y213, hy213⟩ : ∃ y_ : List Int, y_ = (x14_2 ++ [x16_24]) := ⟨_, rfl⟩
                                      replace H : (wigeonref04_Play.l0 kj24 l1 l2 x16_24 a4 (l0_0.length : Int) y213 (wrap64 (x15_2 + 1)) l0_0 l0_1) = some (r1, r2) := by first | (rw [hy213]; with_reducible exact H) | (have H2_ := (Option.bind_some _ _).symm.trans H; rw [hy213]; with_reducible exact H2_) | (have H2_ := (Option.bind_some _ _).symm.trans H; with_reducible exact H2_) | with_reducible exact H | (rw [hy213]; exact H) | exact H
                                      have Ny213 := Aside0.mk hy213
                                      clear hy213
                                      have H' := Aside0.mk H
                                      clear H
                                      go_wp2_with (first | ((with_reducible refine gate_callee (f := 57) rfl ?_); refine goesL_ (some 71) rfl rfl Try.func57 (by kernel_rfl) rfl #[.int .i64 x16_24, .int .i64 0, .int .i64 (wrap64 ((l0_0.length : Int) - 1))] rfl (by (try simp only [List.map_toArray, List.map_cons, List.map_nil]); first | done | rfl | (simp only [List.length_drop, List.length_take]; rfl)) ?_; (with_reducible refine (wigeonref04_within.calls x16_24 0 (wrap64 ((l0_0.length : Int) - 1)) true _ A29.out).mono ?_); rintro e w' ⟨rfl, ⟨nd, rfl⟩⟩; refine ⟨_, rfl, ?_⟩; have hcz43_0 : wc.cell? ⟨gb195, 0, none⟩ = some (.slice (some ad203) l0_0.length c0_0) := (blk_cell BK195.out 0).trans rfl; have hcz43_1 : wc.cell? ⟨gb195, 1, none⟩ = some (.slice A0_1 l0_1.length c0_1) := (blk_cell BK195.out 1).trans rfl; have hfz43_0 := blk_frozen BK195.out 0; have hfz43_1 := blk_frozen BK195.out 1; have p206 : 0 ≤ (x3_2 : Int) := of_decide_eq_true (by first | (with_reducible assumption) | assumption); have q206 : x3_2 < (l0_1.length : Int) := of_decide_eq_true (by first | (with_reducible assumption) | assumption); obtain ⟨ad206, A206_0, c206_0, e206, hx206_0, hl206_0, hi206_0⟩ := at_L1 HR0_1.out x3_2 p206 q206; cases e206; replace hx206_0 := (HB.out.cell (World.block_lt_of_cell? w _ hx206_0)).trans hx206_0; have HR206_0 := Aside0.mk hi206_0; have HC206_0 := Aside0.mk hl206_0; clear hi206_0 hl206_0; replace p206 := eq_true p206; replace q206 := eq_true q206) | (go_at_call 51; (with_reducible refine (wigeonref04_bits.calls kj24 _ _ (rd_L1 l0_1 x3_2) t207 _ ?side1 ?side2 A33.out).mono ?_); (case side1 => repeat (first | exact (Kd.C_below HR206_0.out (by repeat (first | (with_reducible first | exact HB.out | apply below_alloc | apply pw_below_drewN | apply below_drew1 | refine below_set ?_ GE195.out) | exact HB.out))) | (with_reducible refine Kd.C_alloc ?_ _) | (with_reducible refine Kd.C_drewN ?_ _) | (with_reducible refine Kd.C_drew ?_))); (case side2 => exact HC206_0.out); rintro e w' ⟨rfl, ⟨nd, rfl⟩⟩) | ((with_reducible refine gate_builtin (b := .append) (xs := #[.tmp 93, .tmp 95]) rfl ?_); (try (refine gate_guard (by rfl) ?_; dsimp only)); at_builtin; refine Kd.R_append (Kd.int .i64) (w0 := w) w.heap.size rfl (.tmp 93) (.tmp 95) 22 3 (.int .i64 0) 8 rfl Try.underlying22 info3 rfl (by decide) (by omega) u14 x14_2 x16_24 [.int .i64 x16_24] (fun _ => True) (fun _ => False) rfl rfl ?aP (fun _ hk => hk.elim) ?aF ?aO ?aB ?aS ?aL ?_; (case aP => exact rfl); (case aB => exact (by repeat (first | (with_reducible first | exact HB.out | apply below_alloc | apply pw_below_drewN | apply below_drew1 | refine below_set ?_ GE195.out) | exact HB.out))); (case aF => exact (fun _ _ => trivial)); (case aO => exact (by (with_reducible repeat (first | apply Kd.R_alloc | apply Kd.R_drewN | apply Kd.R_drew)); exact HO_14.out)); (case aS => exact (below_size (by repeat (first | (with_reducible first | exact HB.out | apply below_alloc | apply pw_below_drewN | apply below_drew1 | refine below_set ?_ GE195.out) | exact HB.out)))); (case aL => have := LMc42.out; omega); intro v214 w44 ho hb hg hat; rw [← Ny213.out] at ho; have n0_ := Aside0.mk (blk_grown (g := gb195) (o := .cells #[.slice (some ad203) l0_0.length c0_0, .slice (some ad206) l0_1.length c0_1] 25 (0, 0)) (by (with_reducible repeat (first | refine blk_drewN ?_ _ | refine blk_drew ?_ | refine blk_alloc ?_ _)); exact BK195.out) hg (Kd.R_ne HO_14.out BK195.out (by decide))); have n1_ := Aside0.mk (hb); have n2_ := Aside0.mk (ho); clear BK195; clear HB; clear HO_14; have BK195 := n0_; have HB := n1_; have HO215 := n2_; clear n0_ n1_ n2_; clear ho hb hg hat))
                                      go_roundg kj24
                                      case measure => have := HJ7.out; have := HK2.out; have := HJ24.out; omega
                                      case rel => exact ⟨(x16_24), (y213), (wrap64 (x15_2 + 1)), (by first | rfl | (simp; done) | (simp [*]; done)), (by first | rfl | (simp; done) | (simp [*]; done)), H', ⟨by have := HJ7.out; have := HK2.out; have := HJ24.out; omega⟩, ⟨by (with_reducible repeat (first | apply Kd.R_alloc | apply Kd.R_drewN | apply Kd.R_drew)); exact HO215.out⟩, ⟨by (with_reducible repeat (first | refine blk_drewN ?_ _ | refine blk_drew ?_ | refine blk_alloc ?_ _)); exact BK195.out⟩, ⟨by repeat (first | (with_reducible first | exact HB.out | apply below_alloc | apply pw_below_drewN | apply below_drew1 | refine below_set ?_ GE195.out) | exact HB.out)⟩⟩
                                    · rw [if_neg c42] at H
                                      exact absurd H (by simp)
                                · rw [if_neg c35] at H
                                  exact absurd H (by simp)
                              · rw [if_neg c32] at H
                                exact absurd H (by simp)
                            · rw [if_neg c31] at H
                              exact absurd H (by simp)
                          · replace c30 := Bool.eq_false_iff.mpr c30
                            subst c30
                            have H1 : (if 0 ≤ x3_2 then (if x3_2 < (l0_1.length : Int) then (if 0 < ((rd_L1 l0_1 x3_2).length : Int) then (if x14_2.length < 17592186044416 then (wigeonref04_Play.l0 kj24 l1 l2 (rd (rd_L1 l0_1 x3_2) 0) a4 (l0_0.length : Int) (x14_2 ++ [rd (rd_L1 l0_1 x3_2) 0]) (wrap64 (x15_2 + 1)) l0_0 l0_1) else (none)) else (none)) else (none)) else (none)) = some (r1, r2) := by rw [if_neg (show ¬ (false = true) by decide)] at H; exact H
                            clear H
                            have H := H1
                            clear H1
                            by_cases c45 : 0 ≤ x3_2
                            · rw [if_pos c45] at H
                              have c45b0 : decide (0 ≤ x3_2) = true := decide_eq_true c45
                              clear c45
                              by_cases c46 : x3_2 < (l0_1.length : Int)
                              · rw [if_pos c46] at H
                                have c46b0 : decide (x3_2 < (l0_1.length : Int)) = true := decide_eq_true c46
                                clear c46
                                by_cases c47 : 0 < ((rd_L1 l0_1 x3_2).length : Int)
                                · rw [if_pos c47] at H
                                  have c47b0 : decide (0 < ((rd_L1 l0_1 x3_2).length : Int)) = true := decide_eq_true c47
                                  have c47b1 : decide (0 < (rd_L1 l0_1 x3_2).length) = true := decide_eq_true (by omega)
                                  clear c47
                                  by_cases c48 : x14_2.length < 17592186044416
                                  · rw [if_pos c48] at H
                                    have LMc48 := Aside0.mk c48
                                    clear c48
                                    obtain ⟨y218, hy218⟩ : ∃ y_ : List Int, y_ = (x14_2 ++ [rd (rd_L1 l0_1 x3_2) 0]) := ⟨_, rfl⟩
                                    replace H : (wigeonref04_Play.l0 kj24 l1 l2 (rd (rd_L1 l0_1 x3_2) 0) a4 (l0_0.length : Int) y218 (wrap64 (x15_2 + 1)) l0_0 l0_1) = some (r1, r2) := by first | (rw [hy218]; with_reducible exact H) | (have H2_ := (Option.bind_some _ _).symm.trans H; rw [hy218]; with_reducible exact H2_) | (have H2_ := (Option.bind_some _ _).symm.trans H; with_reducible exact H2_) | with_reducible exact H | (rw [hy218]; exact H) | exact H
                                    have Ny218 := Aside0.mk hy218
                                    clear hy218
                                    have H' := Aside0.mk H
                                    clear H
                                    go_wp2_with (first | ((with_reducible refine gate_callee (f := 57) rfl ?_); refine goesL_ (some 71) rfl rfl Try.func57 (by kernel_rfl) rfl #[.int .i64 x16_24, .int .i64 0, .int .i64 (wrap64 ((l0_0.length : Int) - 1))] rfl (by (try simp only [List.map_toArray, List.map_cons, List.map_nil]); first | done | rfl | (simp only [List.length_drop, List.length_take]; rfl)) ?_; (with_reducible refine (wigeonref04_within.calls x16_24 0 (wrap64 ((l0_0.length : Int) - 1)) false _ A29.out).mono ?_); rintro e w' ⟨rfl, ⟨nd, rfl⟩⟩; refine ⟨_, rfl, ?_⟩; have hcz49_0 : wc.cell? ⟨gb195, 0, none⟩ = some (.slice (some ad203) l0_0.length c0_0) := (blk_cell BK195.out 0).trans rfl; have hcz49_1 : wc.cell? ⟨gb195, 1, none⟩ = some (.slice A0_1 l0_1.length c0_1) := (blk_cell BK195.out 1).trans rfl; have hfz49_0 := blk_frozen BK195.out 0; have hfz49_1 := blk_frozen BK195.out 1; have p216 : 0 ≤ (x3_2 : Int) := of_decide_eq_true (by first | (with_reducible assumption) | assumption); have q216 : x3_2 < (l0_1.length : Int) := of_decide_eq_true (by first | (with_reducible assumption) | assumption); obtain ⟨ad216, A216_0, c216_0, e216, hx216_0, hl216_0, hi216_0⟩ := at_L1 HR0_1.out x3_2 p216 q216; cases e216; replace hx216_0 := (HB.out.cell (World.block_lt_of_cell? w _ hx216_0)).trans hx216_0; have HR216_0 := Aside0.mk hi216_0; have HC216_0 := Aside0.mk hl216_0; clear hi216_0 hl216_0; replace p216 := eq_true p216; replace q216 := eq_true q216; have p217 : 0 ≤ (0 : Int) := (by omega); have q217 : 0 < ((rd_L1 l0_1 x3_2).length : Int) := of_decide_eq_true (by first | (with_reducible assumption) | assumption); obtain ⟨ad217, e217, hx217_0⟩ := Kd.at_int HR216_0.out 0 p217 q217; cases e217; have qi217 : (0 < (rd_L1 l0_1 x3_2).length) = True := eq_true (by omega); (try rw [show ((0 : Int)).toNat = 0 from rfl] at hx217_0); (try rw [Addr.add_zero'] at hx217_0); replace hx217_0 := (HB.out.cell (World.block_lt_of_cell? w _ hx217_0)).trans hx217_0; replace p217 := eq_true p217; replace q217 := eq_true q217) | ((with_reducible refine gate_builtin (b := .append) (xs := #[.tmp 93, .tmp 95]) rfl ?_); (try (refine gate_guard (by rfl) ?_; dsimp only)); at_builtin; refine Kd.R_append (Kd.int .i64) (w0 := w) w.heap.size rfl (.tmp 93) (.tmp 95) 22 3 (.int .i64 0) 8 rfl Try.underlying22 info3 rfl (by decide) (by omega) u14 x14_2 (rd (rd_L1 l0_1 x3_2) 0) [.int .i64 (rd (rd_L1 l0_1 x3_2) 0)] (fun _ => True) (fun _ => False) rfl rfl ?aP (fun _ hk => hk.elim) ?aF ?aO ?aB ?aS ?aL ?_; (case aP => exact rfl); (case aB => exact (by repeat (first | (with_reducible first | exact HB.out | apply below_alloc | apply pw_below_drewN | apply below_drew1 | refine below_set ?_ GE195.out) | exact HB.out))); (case aF => exact (fun _ _ => trivial)); (case aO => exact (by (with_reducible repeat (first | apply Kd.R_alloc | apply Kd.R_drewN | apply Kd.R_drew)); exact HO_14.out)); (case aS => exact (below_size (by repeat (first | (with_reducible first | exact HB.out | apply below_alloc | apply pw_below_drewN | apply below_drew1 | refine below_set ?_ GE195.out) | exact HB.out)))); (case aL => have := LMc48.out; omega); intro v219 w50 ho hb hg hat; rw [← Ny218.out] at ho; have n0_ := Aside0.mk (blk_grown (g := gb195) (o := .cells #[.slice (some ad203) l0_0.length c0_0, .slice (some ad216) l0_1.length c0_1] 25 (0, 0)) (by (with_reducible repeat (first | refine blk_drewN ?_ _ | refine blk_drew ?_ | refine blk_alloc ?_ _)); exact BK195.out) hg (Kd.R_ne HO_14.out BK195.out (by decide))); have n1_ := Aside0.mk (hb); have n2_ := Aside0.mk (ho); clear BK195; clear HB; clear HO_14; have BK195 := n0_; have HB := n1_; have HO220 := n2_; clear n0_ n1_ n2_; clear ho hb hg hat))
                                    go_roundg kj24
                                    case measure => have := HJ7.out; have := HK2.out; have := HJ24.out; omega
                                    case rel => exact ⟨(rd (rd_L1 l0_1 x3_2) 0), (y218), (wrap64 (x15_2 + 1)), (by first | rfl | (simp; done) | (simp [*]; done)), (by first | rfl | (simp; done) | (simp [*]; done)), H', ⟨by have := HJ7.out; have := HK2.out; have := HJ24.out; omega⟩, ⟨by (with_reducible repeat (first | apply Kd.R_alloc | apply Kd.R_drewN | apply Kd.R_drew)); exact HO220.out⟩, ⟨by (with_reducible repeat (first | refine blk_drewN ?_ _ | refine blk_drew ?_ | refine blk_alloc ?_ _)); exact BK195.out⟩, ⟨by repeat (first | (with_reducible first | exact HB.out | apply below_alloc | apply pw_below_drewN | apply below_drew1 | refine below_set ?_ GE195.out) | exact HB.out)⟩⟩
                                  · rw [if_neg c48] at H
                                    exact absurd H (by simp)
                                · rw [if_neg c47] at H
                                  exact absurd H (by simp)
                              · rw [if_neg c46] at H
                                exact absurd H (by simp)
                            · rw [if_neg c45] at H
                              exact absurd H (by simp)
                    · rw [if_neg c24] at H
                      exact absurd H (by simp)
                  · rw [if_neg c23] at H
                    exact absurd H (by simp)
                · rw [if_neg c22] at H
                  exact absurd H (by simp)
              · rw [if_neg c21] at H
                have c21b0 : decide (x15_2 < a4) = false := decide_eq_false c21
                clear c21
                simp only [Option.some.injEq, Prod.mk.injEq] at H
                obtain ⟨rfl, rfl⟩ := H
                go_wp2
                go_ret2
                exact ⟨_, by first | rfl | (simp [errW_none, errW_some] <;> rfl) | (simp [*, errW_none, errW_some] <;> rfl), by (with_reducible repeat (first | apply Kd.R_alloc | apply Kd.R_drewN | apply Kd.R_drew)); exact HO_14.out, by repeat (first | (with_reducible first | exact HB.out | apply below_alloc | apply pw_below_drewN | apply below_drew1 | refine below_set ?_ GE195.out) | exact HB.out)⟩
  · rw [if_neg c7] at H
    have c7b0 : (t196 == 0) = false := beq_eq_false_iff_ne.mpr c7
    have c7b1 : (t196 != 0) = true := bne_iff_ne.mpr c7
    simp only [Option.some.injEq, Prod.mk.injEq] at H
    obtain ⟨rfl, rfl⟩ := H
    go_enter Try.func36, Try.ntmps36
    go_wp2_with (first | ((with_reducible refine gate_dst (N := 5) rfl ?_); (try (refine gate_guard (by rfl) ?_; dsimp only)); refine box_event ?hg (N := 5) ?hd (cs := #[.slice A0_0 l0_0.length c0_0, .slice A0_1 l0_1.length c0_1]) (t := 25) ?hr ?_; (case hd => rfl); (case hg => rfl); (case hr => first | (go_simp; done) | (go_simp; rfl)); intro gb195 hg w51 hbox hb; have n0_ := Aside0.mk (below_step (by repeat (first | (with_reducible first | exact HB.out | apply below_alloc | apply pw_below_drewN | apply below_drew1) | exact HB.out)) hb); have n1_ := Aside0.mk (hbox); have n2_ := Aside0.mk ((by rw [hg]; exact (below_size (by repeat (first | (with_reducible first | exact HB.out | apply below_alloc | apply pw_below_drewN | apply below_drew1) | exact HB.out))) : w.heap.size ≤ gb195)); have n3_ := Aside0.mk ((by rw [hg]; exact (below_size (by repeat (first | (with_reducible first | exact HB.out | apply below_alloc | apply pw_below_drewN | apply below_drew1) | exact HB.out))) : w.heap.size ≤ gb195)); clear HB; have HB := n0_; have BK195 := n1_; have GW195 := n2_; have GE195 := n3_; clear n0_ n1_ n2_ n3_; clear hb hbox hg; have hcz52_0 : w51.cell? ⟨gb195, 0, none⟩ = some (.slice A0_0 l0_0.length c0_0) := (blk_cell BK195.out 0).trans rfl; have hcz52_1 : w51.cell? ⟨gb195, 1, none⟩ = some (.slice A0_1 l0_1.length c0_1) := (blk_cell BK195.out 1).trans rfl; have hfz52_0 := blk_frozen BK195.out 0; have hfz52_1 := blk_frozen BK195.out 1) | ((with_reducible refine gate_callee (f := 29) rfl ?_); refine goesL_ (some 18) rfl rfl Try.func29 (by kernel_rfl) rfl #[.agg #[.slice A0_0 l0_0.length c0_0, .slice A0_1 l0_1.length c0_1]] rfl (by (try simp only [List.map_toArray, List.map_cons, List.map_nil]); first | done | rfl | (simp only [List.length_drop, List.length_take]; rfl)) ?_; (with_reducible refine (wigeonref04_Validate.calls k _ _ l0_0 _ _ l0_1 t196 _ ?side1 ?side2 ?side3 ?side4 A6.out).mono ?_); (case side1 => repeat (first | exact (Kd.C_below HR0_0.out HB.out) | (with_reducible refine Kd.C_alloc ?_ _) | (with_reducible refine Kd.C_drewN ?_ _) | (with_reducible refine Kd.C_drew ?_))); (case side2 => exact HC0_0.out); (case side3 => repeat (first | exact (Kd.C_below HR0_1.out HB.out) | (with_reducible refine Kd.C_alloc ?_ _) | (with_reducible refine Kd.C_drewN ?_ _) | (with_reducible refine Kd.C_drew ?_))); (case side4 => exact HC0_1.out); rintro e w53 ⟨rfl, hb⟩; refine ⟨_, rfl, ?_⟩; have n0_ := Aside0.mk (blk_below (g := gb195) (o := .cells #[.slice A0_0 l0_0.length c0_0, .slice A0_1 l0_1.length c0_1] 25 (0, 0)) (by (with_reducible repeat (first | refine blk_drewN ?_ _ | refine blk_drew ?_ | refine blk_alloc ?_ _)); exact BK195.out) hb); have n1_ := Aside0.mk (below_step (by repeat (first | (with_reducible first | exact HB.out | apply below_alloc | apply pw_below_drewN | apply below_drew1 | refine below_set ?_ GE195.out) | exact HB.out)) hb); clear BK195; clear HB; have BK195 := n0_; have HB := n1_; clear n0_ n1_; (try clear hb); (try clear hb2); (try clear hk); (try clear hi)))
    go_ret2
    exact ⟨_, by first | rfl | (simp [errW_none, errW_some] <;> rfl) | (simp [*, errW_none, errW_some] <;> rfl), by first | exact Kd.R_nil _ _ _ _ _ | exact Kd.N_nil _ _ _ _ _ | exact Kd.V_nil _ _ _ _ _ | exact Kd.Q_nil _ _ _ _ _ | exact Kd.S_nil _ _ _ _ _, by repeat (first | (with_reducible first | exact HB.out | apply below_alloc | apply pw_below_drewN | apply below_drew1 | refine below_set ?_ GE195.out) | exact HB.out)⟩

end Go.Proofs.Ytnmaonampilmoaa.LP

