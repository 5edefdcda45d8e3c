/- Of the text LTx29, what the row of LureTexts reaches. -/
import Derived.Test.YtjiheojjfnfmaaaDoorZLureTextsLTx0
import Derived.Test.YtjiheojjfnfmaaaDoorZLureTextsLTx15
import Derived.Test.YtjiheojjfnfmaaaDoorZLureTextsLTx17
import Derived.Test.YtjiheojjfnfmaaaDoorZLureTextsLTx28
namespace Go.Proofs.YtjiheojjfnfmaaaDoor.LT
open Go.RowKit Go.Proofs.YtjiheojjfnfmaaaDoorW.PrintWords Go.Proofs.YtjiheojjfnfmaaaDoorW.PrintLast Go.Proofs.YtjiheojjfnfmaaaDoorW.PrintMore
attribute [local go_sem] max2_int min2_int max_two min_two max_three min_three max_four min_four   -- for this text's walks alone
set_option linter.unusedVariables false
set_option linter.unusedSimpArgs false

mutual
def wigeonref04_Parse.l0 : Nat → ByteArray → List Int → Int → Int → List Int → List (List Int) → Option (List Int × (List (List Int)) × Int)
  | 0, _, _, _, _, _, _ => none
  | k + 1, x0, x5, x6, x7, x303000, x303001 => if x7 < (x0.size : Int) then (if 0 ≤ x7 then (if (bt x0 x7) = 32 then (wigeonref04_Parse.j1 k x0 x5 x6 x7 false x303000 x303001) else (wigeonref04_Parse.j1 k x0 x5 x6 x7 ((bt x0 x7) != 10) x303000 x303001)) else (none)) else ((wigeonref04_Format.f k x303000 x303001).bind fun bt303 => (if bt303.2 = 0 then (if bt303.1.toList = x0.toList then (some (x303000, x303001, 0)) else (some (([] : List Int), ([] : List (List Int)), 2))) else (some (([] : List Int), ([] : List (List Int)), 2))))
def wigeonref04_Parse.j1 : Nat → ByteArray → List Int → Int → Int → Bool → List Int → List (List Int) → Option (List Int × (List (List Int)) × Int)
  | 0, _, _, _, _, _, _, _ => none
  | k + 1, x0, x5, x6, x7, x31, x303000, x303001 => if x31 = true then (wigeonref04_Parse.l0 k x0 x5 x6 (wrap64 (x7 + 1)) x303000 x303001) else (if 0 ≤ x6 then (if x6 ≤ x7 then (if x7 ≤ (x0.size : Int) then ((wigeonref04_number.f k (x0.extract (x6 : Int).toNat (x7 : Int).toNat)).bind fun bt305 => (if bt305.2 = true then (if x5.length < 17592186044416 then ((some (x5 ++ [bt305.1] : List Int)).bind fun y307 => (if 0 ≤ x7 then (if x7 < (x0.size : Int) then (if (bt x0 x7) = 10 then (if 0 < (y307.length : Int) then (if x303000.length < 17592186044416 then (if 1 ≤ (y307.length : Int) then (if (y307.length : Int) ≤ (y307.length : Int) then (if x303001.length < 5864062014805 then (wigeonref04_Parse.l0 k x0 ([] : List Int) (wrap64 (x7 + 1)) (wrap64 (x7 + 1)) (x303000 ++ [rd y307 0]) (x303001 ++ [((y307.take ((y307.length : Int) : Int).toNat).drop 1)])) else (none)) else (none)) else (none)) else (none)) else (none)) else (wigeonref04_Parse.l0 k x0 y307 (wrap64 (x7 + 1)) (wrap64 (x7 + 1)) x303000 x303001)) else (none)) else (none))) else (none)) else (some (([] : List Int), ([] : List (List Int)), 2)))) else (none)) else (none)) else (none))
end
def wigeonref04_Parse.f (k : Nat) (a0 : ByteArray) : Option (List Int × (List (List Int)) × Int) := if (a0.size : Int) > 4000 then (some (([] : List Int), ([] : List (List Int)), 3)) else (wigeonref04_Parse.l0 k a0 ([] : List Int) 0 0 ([] : List Int) ([] : List (List Int)))
def wigeonref04_Parse.T16 : Bool × List (List Nat × List Nat) := (true, [([], []), ([0], [0]), ([], []), ([2], [2]), ([3], [3]), ([4], [4]), ([1, 5], [1, 5]), ([0, 1, 2, 3, 4, 5, 6], []), ([7, 6, 6, 0, 1, 2, 3, 4, 5, 6], [6, 7])])
def wigeonref04_Parse.B16 : List Nat := [0, 1, 0, 4, 12, 28, 63, 127, 255]
theorem wigeonref04_Parse.tab16 : rtab .any (opsOf Tryd.f17 16) = wigeonref04_Parse.T16 := by kernel_rfl
theorem wigeonref04_Parse.bits16 : waitsOk wigeonref04_Parse.T16.2 wigeonref04_Parse.B16 = true := by kernel_rfl
def wigeonref04_Parse.T17 : Bool × List (List Nat × List Nat) := (true, [([], []), ([0], [0]), ([], []), ([], []), ([3], [3]), ([], []), ([5], [5]), ([2, 4, 6], [2, 4, 6]), ([7], [7]), ([1, 8], [1, 8]), ([0, 1, 2, 3, 4, 5, 6, 7, 8, 9], []), ([10, 9, 9, 0, 1, 2, 3, 4, 5, 6, 7, 8, 9], [9, 10])])
def wigeonref04_Parse.B17 : List Nat := [0, 1, 0, 0, 8, 0, 32, 124, 252, 511, 1023, 2047]
theorem wigeonref04_Parse.tab17 : rtab .any (opsOf Tryd.f17 17) = wigeonref04_Parse.T17 := by kernel_rfl
theorem wigeonref04_Parse.bits17 : waitsOk wigeonref04_Parse.T17.2 wigeonref04_Parse.B17 = true := by kernel_rfl
set_option maxHeartbeats 8000000 in
set_option maxRecDepth 100000 in
theorem wigeonref04_Parse.calls (k : Nat) (a0 : ByteArray) (r1 : List Int) (r2 : List (List Int)) (r3 : Int) (w : World) (hE : Env w) (h : wigeonref04_Parse.f k a0 = some (r1, r2, r3)) :
    Calls Tryd.prog 17 #[.string a0] w fun e w' => ∃ v0_ v1_ : Value, e = .returned (.tuple #[.agg #[v0_, v1_], .int .i64 r3]) ∧ Kd.R (Kd.int .i64) 3 w' w.heap.size (fun k_ => (w.heap.size ≤ k_)) v0_ r1 ∧ Kd.N (Kd.slice 3 (Kd.int .i64)) 32 w' w.heap.size (fun k_ => (w.heap.size ≤ k_) ∧ some k_ ≠ (v0_ : Value).ownBlock) v1_ r2 ∧ Below w.heap.size w w' := by
  have hu35 := Tryd.underlying35
  have HB := Aside0.mk (Below.refl w.heap.size w)
  have H : (if (a0.size : Int) > 4000 then (some (([] : List Int), ([] : List (List Int)), 3)) else (wigeonref04_Parse.l0 k a0 ([] : List Int) 0 0 ([] : List Int) ([] : List (List Int)))) = some (r1, r2, r3) := h
  clear h
  by_cases c2 : (a0.size : Int) > 4000
  · rw [if_pos c2] at H
    have c2b0 : decide (4000 < (a0.size : Int)) = true := decide_eq_true c2
    have c2b1 : decide (4000 < a0.size) = true := decide_eq_true (by omega)
    clear c2
    simp only [Option.some.injEq, Prod.mk.injEq] at H
    obtain ⟨rfl, rfl, rfl⟩ := H
    go_enter Tryd.func17, Tryd.ntmps17
    go_wp2_with (first | ((with_reducible refine gate_dst (N := 2) rfl ?_); refine box_event ?hg (N := 2) ?hd (cs := #[.slice none 0 0, .slice none 0 0]) (t := 35) ?hr ?_; (case hd => rfl); (case hg => rfl); (case hr => first | (go_simp; done) | (go_simp; rfl)); intro gb301 hg w3 hbox hb; have n0_ := Aside0.mk (below_step (by repeat (first | (with_reducible first | exact HB.out | apply below_alloc | apply pw_below_drewN | apply below_drew1) | exact HB.out)) hb); have n1_ := Aside0.mk (hbox); have n2_ := Aside0.mk ((by rw [hg]; exact (below_size (by repeat (first | (with_reducible first | exact HB.out | apply below_alloc | apply pw_below_drewN | apply below_drew1) | exact HB.out))) : w.heap.size ≤ gb301)); have n3_ := Aside0.mk ((by rw [hg]; exact (below_size (by repeat (first | (with_reducible first | exact HB.out | apply below_alloc | apply pw_below_drewN | apply below_drew1) | exact HB.out))) : w.heap.size ≤ gb301)); clear HB; have HB := n0_; have BK301 := n1_; have GW301 := n2_; have GE301 := n3_; clear n0_ n1_ n2_ n3_; clear hb hbox hg; have hcz4_0 : w3.cell? ⟨gb301, 0, none⟩ = some (.slice none 0 0) := (blk_cell BK301.out 0).trans rfl; have hcz4_1 : w3.cell? ⟨gb301, 1, none⟩ = some (.slice none 0 0) := (blk_cell BK301.out 1).trans rfl; have hfz4_0 := blk_frozen BK301.out 0; have hfz4_1 := blk_frozen BK301.out 1))
    refine bodyPost_ret (results_ct rfl _ _ gb301 35 #[.slice none 0 0, .slice none 0 0] (0, 0) _ rfl (by (with_reducible repeat (first | refine blk_drewN ?_ _ | refine blk_drew ?_ | refine blk_alloc ?_ _)); refine blk_put (cs := #[.slice none 0 0, .slice none 0 0]) ?_ 1 _ rfl; (with_reducible repeat (first | refine blk_drewN ?_ _ | refine blk_drew ?_ | refine blk_alloc ?_ _)); refine blk_put (cs := #[.slice none 0 0, .slice none 0 0]) ?_ 0 _ rfl; (with_reducible repeat (first | refine blk_drewN ?_ _ | refine blk_drew ?_ | refine blk_alloc ?_ _)); exact BK301.out) Tryd.underlying35 rfl (by kernel_rfl)) rfl ?_
    exact ⟨_, _, by first | rfl | (simp [errW_none, errW_some] <;> rfl) | (simp [*, errW_none, errW_some] <;> rfl), by first | exact Kd.R_nil _ _ _ _ _ | exact Kd.N_nil _ _ _ _ _ | exact Kd.V_nil _ _ _ _ _ | exact Kd.Q_nil _ _ _ _ _ | exact Kd.S_nil _ _ _ _ _, by first | exact Kd.S_nil _ _ _ _ _ | exact Kd.N_nil _ _ _ _ _ | exact Kd.V_nil _ _ _ _ _ | exact Kd.Q_nil _ _ _ _ _ | exact Kd.R_nil _ _ _ _ _, by repeat (first | (with_reducible first | exact HB.out | apply below_alloc | apply pw_below_drewN | apply below_drew1 | refine below_set ?_ GE301.out) | exact HB.out)⟩
  · rw [if_neg c2] at H
    have c2b0 : decide (4000 < (a0.size : Int)) = false := decide_eq_false c2
    have c2b1 : decide (4000 < a0.size) = false := decide_eq_false (by omega)
    clear c2
    have H' := Aside0.mk H
    clear H
    go_enter Tryd.func17, Tryd.ntmps17
    go_wp2_with (first | ((with_reducible refine gate_dst (N := 2) rfl ?_); refine box_event ?hg (N := 2) ?hd (cs := #[.slice none 0 0, .slice none 0 0]) (t := 35) ?hr ?_; (case hd => rfl); (case hg => rfl); (case hr => first | (go_simp; done) | (go_simp; rfl)); intro gb301 hg w5 hbox hb; have n0_ := Aside0.mk (below_step (by repeat (first | (with_reducible first | exact HB.out | apply below_alloc | apply pw_below_drewN | apply below_drew1) | exact HB.out)) hb); have n1_ := Aside0.mk (hbox); have n2_ := Aside0.mk ((by rw [hg]; exact (below_size (by repeat (first | (with_reducible first | exact HB.out | apply below_alloc | apply pw_below_drewN | apply below_drew1) | exact HB.out))) : w.heap.size ≤ gb301)); have n3_ := Aside0.mk ((by rw [hg]; exact (below_size (by repeat (first | (with_reducible first | exact HB.out | apply below_alloc | apply pw_below_drewN | apply below_drew1) | exact HB.out))) : w.heap.size ≤ gb301)); clear HB; have HB := n0_; have BK301 := n1_; have GW301 := n2_; have GE301 := n3_; clear n0_ n1_ n2_ n3_; clear hb hbox hg) | ((with_reducible refine gate_dst (N := 4) rfl ?_); refine box_event ?hg (N := 4) ?hd (cs := #[.slice none 0 0, .slice none 0 0]) (t := 35) ?hr ?_; (case hd => rfl); (case hg => rfl); (case hr => first | (go_simp; done) | (go_simp; rfl)); intro gb302 hg w6 hbox hb; have n0_ := Aside0.mk (blk_below (g := gb301) (o := .cells #[.slice none 0 0, .slice none 0 0] 35 (0, 0)) (by (with_reducible repeat (first | refine blk_drewN ?_ _ | refine blk_drew ?_ | refine blk_alloc ?_ _)); exact BK301.out) hb); have n1_ := Aside0.mk (below_step (by repeat (first | (with_reducible first | exact HB.out | apply below_alloc | apply pw_below_drewN | apply below_drew1 | refine below_set ?_ GE301.out) | exact HB.out)) hb); have n2_ := Aside0.mk (hbox); have n3_ := Aside0.mk ((by rw [hg]; exact (below_size (by repeat (first | (with_reducible first | exact HB.out | apply below_alloc | apply pw_below_drewN | apply below_drew1 | refine below_set ?_ GE301.out) | exact HB.out))) : w.heap.size ≤ gb302)); have n4_ := Aside0.mk ((by rw [hg]; exact (below_size (by repeat (first | (with_reducible first | exact HB.out | apply below_alloc | apply pw_below_drewN | apply below_drew1 | refine below_set ?_ GE301.out) | exact HB.out))) : w.heap.size ≤ gb302)); have n5_ := Aside0.mk ((by rw [hg]; exact Nat.ne_of_lt (blk_lt (g := gb301) (o := .cells #[.slice none 0 0, .slice none 0 0] 35 (0, 0)) (by (with_reducible repeat (first | refine blk_drewN ?_ _ | refine blk_drew ?_ | refine blk_alloc ?_ _)); exact BK301.out)) : gb301 ≠ gb302)); have n6_ := Aside0.mk ((by rw [hg]; exact Nat.ne_of_gt (blk_lt (g := gb301) (o := .cells #[.slice none 0 0, .slice none 0 0] 35 (0, 0)) (by (with_reducible repeat (first | refine blk_drewN ?_ _ | refine blk_drew ?_ | refine blk_alloc ?_ _)); exact BK301.out)) : gb302 ≠ gb301)); clear BK301; clear HB; have BK301 := n0_; have HB := n1_; have BK302 := n2_; have GW302 := n3_; have GE302 := n4_; have NB301_302 := n5_; have NB302_301 := n6_; clear n0_ n1_ n2_ n3_ n4_ n5_ n6_; clear hb hbox hg))
    go_loopg [5, 6, 7] k (fun kq v5 v6 v7 w' => ∃ (x5_1 : List Int) (x6_1 : Int) (x7_1 : Int) (x303000_1 : List Int) (x303001_1 : List (List Int)) (u303000 : Value) (u303001 : Value), v6 = .int .i64 x6_1 ∧ v7 = .int .i64 x7_1 ∧ Aside0 (wigeonref04_Parse.l0 kq a0 x5_1 x6_1 x7_1 x303000_1 x303001_1 = some (r1, r2, r3)) ∧ Aside0 (kq ≤ k) ∧ Aside0 (Kd.R (Kd.int .i64) 3 w' w.heap.size (fun k_ => (w.heap.size ≤ k_) ∧ some k_ ≠ (u303000 : Value).ownBlock) v5 x5_1) ∧ Aside0 (Kd.R (Kd.int .i64) 3 w' w.heap.size (fun k_ => (w.heap.size ≤ k_) ∧ some k_ ≠ (v5 : Value).ownBlock) u303000 x303000_1) ∧ Aside0 (Kd.N (Kd.slice 3 (Kd.int .i64)) 32 w' w.heap.size (fun k_ => (w.heap.size ≤ k_) ∧ some k_ ≠ (v5 : Value).ownBlock ∧ some k_ ≠ (u303000 : Value).ownBlock ∧ k_ ≠ gb301 ∧ k_ ≠ gb302) u303001 x303001_1) ∧ Aside0 (w'.heap[gb301]? = some (.cells #[(.slice none 0 0), (.slice none 0 0)] 35 (0, 0))) ∧ Aside0 (w'.heap[gb302]? = some (.cells #[u303000, u303001] 35 (0, 0))) ∧ Aside0 (Below w.heap.size w w'))
    case atStart => exact ⟨(([] : List Int)), (0), (0), (([] : List Int)), (([] : List (List Int))), (.slice none 0 0), (.slice none 0 0), (by first | rfl | (simp; done) | (simp [*]; done)), (by first | rfl | (simp; done) | (simp [*]; done)), H', ⟨Nat.le_refl _⟩, ⟨by first | exact Kd.R_nil _ _ _ _ _ | exact Kd.N_nil _ _ _ _ _ | exact Kd.V_nil _ _ _ _ _ | exact Kd.Q_nil _ _ _ _ _ | exact Kd.S_nil _ _ _ _ _⟩, ⟨by first | exact Kd.R_nil _ _ _ _ _ | exact Kd.N_nil _ _ _ _ _ | exact Kd.V_nil _ _ _ _ _ | exact Kd.Q_nil _ _ _ _ _ | exact Kd.S_nil _ _ _ _ _⟩, ⟨by first | exact Kd.S_nil _ _ _ _ _ | exact Kd.N_nil _ _ _ _ _ | exact Kd.V_nil _ _ _ _ _ | exact Kd.Q_nil _ _ _ _ _ | exact Kd.R_nil _ _ _ _ _⟩, ⟨by (with_reducible repeat (first | refine blk_drewN ?_ _ | refine blk_drew ?_ | refine blk_alloc ?_ _)); exact BK301.out⟩, ⟨by (with_reducible repeat (first | refine blk_drewN ?_ _ | refine blk_drew ?_ | refine blk_alloc ?_ _)); exact BK302.out⟩, ⟨by repeat (first | (with_reducible first | exact HB.out | apply below_alloc | apply pw_below_drewN | apply below_drew1 | refine below_set ?_ GE301.out | refine below_set ?_ GE302.out) | exact HB.out)⟩⟩
    case round =>
      clear H'
      try clear c1
      try clear c2
      try clear c2b0
      try clear c2b1
      try clear p2
      try clear hcz4_0
      try clear hcz4_1
      try clear hfz4_0
      try clear hfz4_1
      obtain ⟨x5_1, x6_1, x7_1, x303000_1, x303001_1, u303000, u303001, rfl, rfl, HA, HK1, HO_5, HO_303000, HO_303001, BK301, BK302, HB⟩ := hrel
      cases gk with
      | zero => exact absurd HA.out (by simp [wigeonref04_Parse.l0])
      | succ k1 =>
        have H := HA.out
        clear HA
        simp only [wigeonref04_Parse.l0] at H
        by_cases c7 : x7_1 < (a0.size : Int)
        · rw [if_pos c7] at H
          have c7b0 : decide (x7_1 < (a0.size : Int)) = true := decide_eq_true c7
          clear c7
          have HC8 := Aside0.mk H
          clear H
          go_upto_region 9 with (fail)
          go_cut [31] (fun v31 wc => ∃ (kq : Nat) (x31_7 : Bool), v31 = .bool x31_7 ∧ Aside0 (wigeonref04_Parse.j1 kq a0 x5_1 x6_1 x7_1 x31_7 x303000_1 x303001_1 = some (r1, r2, r3)) ∧ Aside0 (kq ≤ k1) ∧ Aside0 (Kd.R (Kd.int .i64) 3 wc w.heap.size (fun k_ => (w.heap.size ≤ k_) ∧ some k_ ≠ (u303000 : Value).ownBlock) u5 x5_1) ∧ Aside0 (Kd.R (Kd.int .i64) 3 wc w.heap.size (fun k_ => (w.heap.size ≤ k_) ∧ some k_ ≠ (u5 : Value).ownBlock) u303000 x303000_1) ∧ Aside0 (Kd.N (Kd.slice 3 (Kd.int .i64)) 32 wc w.heap.size (fun k_ => (w.heap.size ≤ k_) ∧ some k_ ≠ (u5 : Value).ownBlock ∧ some k_ ≠ (u303000 : Value).ownBlock ∧ k_ ≠ gb301 ∧ k_ ≠ gb302) u303001 x303001_1) ∧ Aside0 (wc.heap[gb301]? = some (.cells #[(.slice none 0 0), (.slice none 0 0)] 35 (0, 0))) ∧ Aside0 (wc.heap[gb302]? = some (.cells #[u303000, u303001] 35 (0, 0))) ∧ Aside0 (Below w.heap.size w wc))
          case first =>
            have H := HC8.out
            clear HC8
            by_cases c9 : 0 ≤ x7_1
            · rw [if_pos c9] at H
              have c9b0 : decide (0 ≤ x7_1) = true := decide_eq_true c9
              clear c9
              (first | rw [c9b0] | (simp only [i64_w, i32_w]; rw [c9b0]) | skip)
              by_cases c11 : (bt a0 x7_1) = 32
              · rw [if_pos c11] at H
                have c11b0 : ((bt a0 x7_1) == 32) = true := beq_iff_eq.mpr c11
                have c11b1 : ((bt a0 x7_1) != 32) = false := bne_eq_false_iff_eq.mpr c11
                clear c11
                have H' := Aside0.mk H
                clear H
                have p10 : 0 ≤ (x7_1 : Int) := of_decide_eq_true (by first | (with_reducible assumption) | assumption)
                have q10 : x7_1 < (a0.size : Int) := of_decide_eq_true (by first | (with_reducible assumption) | assumption)
                have hx10 := bt_at a0 x7_1
                replace p10 := eq_true p10
                replace q10 := eq_true q10
                go_wp2
                go_meet
                case rel => exact ⟨_, (false), (by first | rfl | (simp; done) | (simp [*]; done)), H', ⟨by have := HK1.out; first | omega | exact Nat.le_refl _⟩, ⟨by (with_reducible repeat (first | apply Kd.R_alloc | apply Kd.R_drewN | apply Kd.R_drew)); exact HO_5.out⟩, ⟨by (with_reducible repeat (first | apply Kd.R_alloc | apply Kd.R_drewN | apply Kd.R_drew)); exact HO_303000.out⟩, ⟨by (with_reducible repeat (first | apply Kd.N_alloc | apply Kd.N_drewN | apply Kd.N_drew)); exact HO_303001.out⟩, ⟨by (with_reducible repeat (first | refine blk_drewN ?_ _ | refine blk_drew ?_ | refine blk_alloc ?_ _)); exact BK301.out⟩, ⟨by (with_reducible repeat (first | refine blk_drewN ?_ _ | refine blk_drew ?_ | refine blk_alloc ?_ _)); exact BK302.out⟩, ⟨by repeat (first | (with_reducible first | exact HB.out | apply below_alloc | apply pw_below_drewN | apply below_drew1 | refine below_set ?_ GE301.out | refine below_set ?_ GE302.out) | exact HB.out)⟩⟩
              · rw [if_neg c11] at H
                have c11b0 : ((bt a0 x7_1) == 32) = false := beq_eq_false_iff_ne.mpr c11
                have c11b1 : ((bt a0 x7_1) != 32) = true := bne_iff_ne.mpr c11
                have H' := Aside0.mk H
                clear H
                have p10 : 0 ≤ (x7_1 : Int) := of_decide_eq_true (by first | (with_reducible assumption) | assumption)
                have q10 : x7_1 < (a0.size : Int) := of_decide_eq_true (by first | (with_reducible assumption) | assumption)
                have hx10 := bt_at a0 x7_1
                replace p10 := eq_true p10
                replace q10 := eq_true q10
                have p12 : 0 ≤ (x7_1 : Int) := of_decide_eq_true (by first | (with_reducible assumption) | assumption)
                have q12 : x7_1 < (a0.size : Int) := of_decide_eq_true (by first | (with_reducible assumption) | assumption)
                have hx12 := bt_at a0 x7_1
                replace p12 := eq_true p12
                replace q12 := eq_true q12
                go_wp2
                go_meet
                case rel => exact ⟨_, (((bt a0 x7_1) != 10)), (by first | rfl | (simp; done) | (simp [*]; done)), H', ⟨by have := HK1.out; first | omega | exact Nat.le_refl _⟩, ⟨by (with_reducible repeat (first | apply Kd.R_alloc | apply Kd.R_drewN | apply Kd.R_drew)); exact HO_5.out⟩, ⟨by (with_reducible repeat (first | apply Kd.R_alloc | apply Kd.R_drewN | apply Kd.R_drew)); exact HO_303000.out⟩, ⟨by (with_reducible repeat (first | apply Kd.N_alloc | apply Kd.N_drewN | apply Kd.N_drew)); exact HO_303001.out⟩, ⟨by (with_reducible repeat (first | refine blk_drewN ?_ _ | refine blk_drew ?_ | refine blk_alloc ?_ _)); exact BK301.out⟩, ⟨by (with_reducible repeat (first | refine blk_drewN ?_ _ | refine blk_drew ?_ | refine blk_alloc ?_ _)); exact BK302.out⟩, ⟨by repeat (first | (with_reducible first | exact HB.out | apply below_alloc | apply pw_below_drewN | apply below_drew1 | refine below_set ?_ GE301.out | refine below_set ?_ GE302.out) | exact HB.out)⟩⟩
            · rw [if_neg c9] at H
              exact absurd H (by simp)
          case rest =>
            clear HC8
            try clear c1
            try clear p1
            try clear q1
            try clear hx1
            try clear c2
            try clear c2b0
            try clear c2b1
            try clear p2
            try clear c7
            try clear c7b0
            try clear c9
            try clear c9b0
            try clear p10
            try clear q10
            try clear hx10
            try clear c11
            try clear c11b0
            try clear c11b1
            try clear p12
            try clear q12
            try clear hx12
            try clear hcz4_0
            try clear hcz4_1
            try clear hfz4_0
            try clear hfz4_1
            try clear p10
            try clear p12
            try clear p2
            try clear q10
            try clear q12
            obtain ⟨kq, x31_7, rfl, HA, HJ7, HO_5, HO_303000, HO_303001, BK301, BK302, HB⟩ := hcut
            cases kq with
            | zero => exact absurd HA.out (by simp [wigeonref04_Parse.j1])
            | succ kj7 =>
              have H := HA.out
              clear HA
              simp only [wigeonref04_Parse.j1] at H
              by_cases c13 : x31_7 = true
              · subst c13
                have H1 : (wigeonref04_Parse.l0 kj7 a0 x5_1 x6_1 (wrap64 (x7_1 + 1)) x303000_1 x303001_1) = some (r1, r2, r3) := by rw [if_pos rfl] at H; exact H
                clear H
                have H := H1
                clear H1
                have H' := Aside0.mk H
                clear H
                go_wp2
                go_roundg kj7
                case measure => have := HK1.out; have := HJ7.out; omega
                case rel => exact ⟨(x5_1), (x6_1), (wrap64 (x7_1 + 1)), (x303000_1), (x303001_1), (u303000), (u303001), (by first | rfl | (simp; done) | (simp [*]; done)), (by first | rfl | (simp; done) | (simp [*]; done)), H', ⟨by have := HK1.out; have := HJ7.out; omega⟩, ⟨by (with_reducible repeat (first | apply Kd.R_alloc | apply Kd.R_drewN | apply Kd.R_drew)); exact HO_5.out⟩, ⟨by (with_reducible repeat (first | apply Kd.R_alloc | apply Kd.R_drewN | apply Kd.R_drew)); exact HO_303000.out⟩, ⟨by (with_reducible repeat (first | apply Kd.N_alloc | apply Kd.N_drewN | apply Kd.N_drew)); exact HO_303001.out⟩, ⟨by (with_reducible repeat (first | refine blk_drewN ?_ _ | refine blk_drew ?_ | refine blk_alloc ?_ _)); exact BK301.out⟩, ⟨by (with_reducible repeat (first | refine blk_drewN ?_ _ | refine blk_drew ?_ | refine blk_alloc ?_ _)); exact BK302.out⟩, ⟨by repeat (first | (with_reducible first | exact HB.out | apply below_alloc | apply pw_below_drewN | apply below_drew1 | refine below_set ?_ GE301.out | refine below_set ?_ GE302.out) | exact HB.out)⟩⟩
              · replace c13 := Bool.eq_false_iff.mpr c13
                subst c13
                have H1 : (if 0 ≤ x6_1 then (if x6_1 ≤ x7_1 then (if x7_1 ≤ (a0.size : Int) then ((wigeonref04_number.f kj7 (a0.extract (x6_1 : Int).toNat (x7_1 : Int).toNat)).bind fun bt305 => (if bt305.2 = true then (if x5_1.length < 17592186044416 then ((some (x5_1 ++ [bt305.1] : List Int)).bind fun y307 => (if 0 ≤ x7_1 then (if x7_1 < (a0.size : Int) then (if (bt a0 x7_1) = 10 then (if 0 < (y307.length : Int) then (if x303000_1.length < 17592186044416 then (if 1 ≤ (y307.length : Int) then (if (y307.length : Int) ≤ (y307.length : Int) then (if x303001_1.length < 5864062014805 then (wigeonref04_Parse.l0 kj7 a0 ([] : List Int) (wrap64 (x7_1 + 1)) (wrap64 (x7_1 + 1)) (x303000_1 ++ [rd y307 0]) (x303001_1 ++ [((y307.take ((y307.length : Int) : Int).toNat).drop 1)])) else (none)) else (none)) else (none)) else (none)) else (none)) else (wigeonref04_Parse.l0 kj7 a0 y307 (wrap64 (x7_1 + 1)) (wrap64 (x7_1 + 1)) x303000_1 x303001_1)) else (none)) else (none))) else (none)) else (some (([] : List Int), ([] : List (List Int)), 2)))) else (none)) else (none)) else (none)) = some (r1, r2, r3) := by rw [if_neg (show ¬ (false = true) by decide)] at H; exact H
                clear H
                have H := H1
                clear H1
                by_cases c14 : 0 ≤ x6_1
                · rw [if_pos c14] at H
                  have c14b0 := eq_true c14
                  have c14b1 : decide (0 ≤ x6_1) = true := decide_eq_true c14
                  clear c14
                  by_cases c15 : x6_1 ≤ x7_1
                  · rw [if_pos c15] at H
                    have c15b0 := eq_true c15
                    have c15b1 : decide (x6_1 ≤ x7_1) = true := decide_eq_true c15
                    clear c15
                    by_cases c16 : x7_1 ≤ (a0.size : Int)
                    · rw [if_pos c16] at H
                      have c16b0 := eq_true c16
                      have c16b1 : decide (x7_1 ≤ (a0.size : Int)) = true := decide_eq_true c16
                      clear c16
                      replace H := Option.bind_eq_some_iff.mp H
                      obtain ⟨⟨t305, t306⟩, A170, H⟩ := H
                      replace H : (if t306 = true then (if x5_1.length < 17592186044416 then ((some (x5_1 ++ [t305] : List Int)).bind fun y307 => (if 0 ≤ x7_1 then (if x7_1 < (a0.size : Int) then (if (bt a0 x7_1) = 10 then (if 0 < (y307.length : Int) then (if x303000_1.length < 17592186044416 then (if 1 ≤ (y307.length : Int) then (if (y307.length : Int) ≤ (y307.length : Int) then (if x303001_1.length < 5864062014805 then (wigeonref04_Parse.l0 kj7 a0 ([] : List Int) (wrap64 (x7_1 + 1)) (wrap64 (x7_1 + 1)) (x303000_1 ++ [rd y307 0]) (x303001_1 ++ [((y307.take ((y307.length : Int) : Int).toNat).drop 1)])) else (none)) else (none)) else (none)) else (none)) else (none)) else (wigeonref04_Parse.l0 kj7 a0 y307 (wrap64 (x7_1 + 1)) (wrap64 (x7_1 + 1)) x303000_1 x303001_1)) else (none)) else (none))) else (none)) else (some (([] : List Int), ([] : List (List Int)), 2))) = some (r1, r2, r3) := H
                      have A17 := Aside0.mk A170
                      clear A170
                      by_cases c18 : t306 = true
                      · subst c18
                        have H1 : (if x5_1.length < 17592186044416 then ((some (x5_1 ++ [t305] : List Int)).bind fun y307 => (if 0 ≤ x7_1 then (if x7_1 < (a0.size : Int) then (if (bt a0 x7_1) = 10 then (if 0 < (y307.length : Int) then (if x303000_1.length < 17592186044416 then (if 1 ≤ (y307.length : Int) then (if (y307.length : Int) ≤ (y307.length : Int) then (if x303001_1.length < 5864062014805 then (wigeonref04_Parse.l0 kj7 a0 ([] : List Int) (wrap64 (x7_1 + 1)) (wrap64 (x7_1 + 1)) (x303000_1 ++ [rd y307 0]) (x303001_1 ++ [((y307.take ((y307.length : Int) : Int).toNat).drop 1)])) else (none)) else (none)) else (none)) else (none)) else (none)) else (wigeonref04_Parse.l0 kj7 a0 y307 (wrap64 (x7_1 + 1)) (wrap64 (x7_1 + 1)) x303000_1 x303001_1)) else (none)) else (none))) else (none)) = some (r1, r2, r3) := by rw [if_pos rfl] at H; exact H
                        clear H
                        have H := H1
                        clear H1
                        by_cases c19 : x5_1.length < 17592186044416
                        · rw [if_pos c19] at H
                          have LMc19 := Aside0.mk c19
                          clear c19
                          obtain ⟨y307, hy307⟩ : ∃ y_ : List Int, y_ = (x5_1 ++ [t305]) := ⟨_, rfl⟩
                          replace H : (if 0 ≤ x7_1 then (if x7_1 < (a0.size : Int) then (if (bt a0 x7_1) = 10 then (if 0 < (y307.length : Int) then (if x303000_1.length < 17592186044416 then (if 1 ≤ (y307.length : Int) then (if (y307.length : Int) ≤ (y307.length : Int) then (if x303001_1.length < 5864062014805 then (wigeonref04_Parse.l0 kj7 a0 ([] : List Int) (wrap64 (x7_1 + 1)) (wrap64 (x7_1 + 1)) (x303000_1 ++ [rd y307 0]) (x303001_1 ++ [((y307.take ((y307.length : Int) : Int).toNat).drop 1)])) else (none)) else (none)) else (none)) else (none)) else (none)) else (wigeonref04_Parse.l0 kj7 a0 y307 (wrap64 (x7_1 + 1)) (wrap64 (x7_1 + 1)) x303000_1 x303001_1)) else (none)) else (none)) = some (r1, r2, r3) := by first | (rw [hy307]; with_reducible exact H) | (have H2_ := (Option.bind_some _ _).symm.trans H; rw [hy307]; with_reducible exact H2_) | (have H2_ := (Option.bind_some _ _).symm.trans H; with_reducible exact H2_) | with_reducible exact H | (rw [hy307]; exact H) | exact H
                          have Ny307 := Aside0.mk hy307
                          clear hy307
                          by_cases c20 : 0 ≤ x7_1
                          · rw [if_pos c20] at H
                            have c20b0 : decide (0 ≤ x7_1) = true := decide_eq_true c20
                            clear c20
                            by_cases c21 : x7_1 < (a0.size : Int)
                            · rw [if_pos c21] at H
                              have c21b0 : decide (x7_1 < (a0.size : Int)) = true := decide_eq_true c21
                              clear c21
                              by_cases c23 : (bt a0 x7_1) = 10
                              · rw [if_pos c23] at H
                                have c23b0 : ((bt a0 x7_1) == 10) = true := beq_iff_eq.mpr c23
                                have c23b1 : ((bt a0 x7_1) != 10) = false := bne_eq_false_iff_eq.mpr c23
                                clear c23
                                by_cases c24 : 0 < (y307.length : Int)
                                · rw [if_pos c24] at H
                                  have c24b0 : decide (0 < (y307.length : Int)) = true := decide_eq_true c24
                                  have c24b1 : decide (0 < y307.length) = true := decide_eq_true (by omega)
                                  clear c24
                                  by_cases c25 : x303000_1.length < 17592186044416
                                  · rw [if_pos c25] at H
                                    have LMc25 := Aside0.mk c25
                                    clear c25
                                    obtain ⟨y311, hy311⟩ : ∃ y_ : List Int, y_ = (x303000_1 ++ [rd y307 0]) := ⟨_, rfl⟩
                                    replace H : (if 1 ≤ (y307.length : Int) then (if (y307.length : Int) ≤ (y307.length : Int) then (if x303001_1.length < 5864062014805 then (wigeonref04_Parse.l0 kj7 a0 ([] : List Int) (wrap64 (x7_1 + 1)) (wrap64 (x7_1 + 1)) y311 (x303001_1 ++ [((y307.take ((y307.length : Int) : Int).toNat).drop 1)])) else (none)) else (none)) else (none)) = some (r1, r2, r3) := by first | (rw [hy311]; with_reducible exact H) | (have H2_ := (Option.bind_some _ _).symm.trans H; rw [hy311]; with_reducible exact H2_) | (have H2_ := (Option.bind_some _ _).symm.trans H; with_reducible exact H2_) | with_reducible exact H | (rw [hy311]; exact H) | exact H
                                    have Ny311 := Aside0.mk hy311
                                    clear hy311
                                    by_cases c26 : 1 ≤ (y307.length : Int)
                                    · rw [if_pos c26] at H
                                      have c26b0 := eq_true c26
                                      have c26b1 : decide (1 ≤ (y307.length : Int)) = true := decide_eq_true c26
                                      clear c26
                                      by_cases c27 : (y307.length : Int) ≤ (y307.length : Int)
                                      · rw [if_pos c27] at H
                                        have c27b0 := eq_true c27
                                        have c27b1 : decide ((y307.length : Int) ≤ (y307.length : Int)) = true := decide_eq_true c27
                                        clear c27
                                        obtain ⟨y314, hy314⟩ : ∃ y_ : List Int, y_ = ((y307.take ((y307.length : Int) : Int).toNat).drop 1) := ⟨_, rfl⟩
                                        replace H : (if x303001_1.length < 5864062014805 then (wigeonref04_Parse.l0 kj7 a0 ([] : List Int) (wrap64 (x7_1 + 1)) (wrap64 (x7_1 + 1)) y311 (x303001_1 ++ [y314])) else (none)) = some (r1, r2, r3) := by first | (rw [hy314]; with_reducible exact H) | (have H2_ := (Option.bind_some _ _).symm.trans H; rw [hy314]; with_reducible exact H2_) | (have H2_ := (Option.bind_some _ _).symm.trans H; with_reducible exact H2_) | with_reducible exact H | (rw [hy314]; exact H) | exact H
                                        have Ny314 := Aside0.mk hy314
                                        clear hy314
                                        by_cases c28 : x303001_1.length < 5864062014805
                                        · rw [if_pos c28] at H
                                          have LMc28 := Aside0.mk c28
                                          clear c28
                                          obtain ⟨y319, hy319⟩ : ∃ y_ : List (List Int), y_ = (x303001_1 ++ [y314]) := ⟨_, rfl⟩
                                          replace H : (wigeonref04_Parse.l0 kj7 a0 ([] : List Int) (wrap64 (x7_1 + 1)) (wrap64 (x7_1 + 1)) y311 y319) = some (r1, r2, r3) := by first | (rw [hy319]; with_reducible exact H) | (have H2_ := (Option.bind_some _ _).symm.trans H; rw [hy319]; with_reducible exact H2_) | (have H2_ := (Option.bind_some _ _).symm.trans H; with_reducible exact H2_) | with_reducible exact H | (rw [hy319]; exact H) | exact H
                                          have Ny319 := Aside0.mk hy319
                                          clear hy319
                                          have H' := Aside0.mk H
                                          clear H
                                          try go_wp2_with (first | ((with_reducible refine gate_callee (f := 37) rfl ?_); refine goesL_ (some 37) rfl rfl Tryd.func37 (by kernel_rfl) rfl #[.string (a0.extract (x6_1 : Int).toNat (x7_1 : Int).toNat)] rfl (by (try simp only [List.map_toArray, List.map_cons, List.map_nil]); first | done | rfl | (simp only [List.length_drop, List.length_take]; rfl)) ?_; (with_reducible refine (wigeonref04_number.calls kj7 (a0.extract (x6_1 : Int).toNat (x7_1 : Int).toNat) t305 true _ A17.out).mono ?_); rintro e w' ⟨rfl, ⟨nd, rfl⟩⟩; refine ⟨_, rfl, ?_⟩; (try (rw [drewN_self wc]; generalize hq_ : World.drewN wc _ = wc; have n0_ : Aside0 (Kd.R (Kd.int .i64) 3 wc w.heap.size (fun k_ => (w.heap.size ≤ k_) ∧ some k_ ≠ (u5 : Value).ownBlock) u303000 x303000_1) := ⟨by rw [← hq_]; exact (by (with_reducible repeat (first | apply Kd.R_alloc | apply Kd.R_drewN | apply Kd.R_drew)); exact HO_303000.out)⟩; have n1_ : Aside0 (Kd.N (Kd.slice 3 (Kd.int .i64)) 32 wc w.heap.size (fun k_ => (w.heap.size ≤ k_) ∧ some k_ ≠ (u303000 : Value).ownBlock ∧ some k_ ≠ (u5 : Value).ownBlock ∧ k_ ≠ gb301 ∧ k_ ≠ gb302) u303001 x303001_1) := ⟨by rw [← hq_]; exact (by (with_reducible repeat (first | apply Kd.N_alloc | apply Kd.N_drewN | apply Kd.N_drew)); first | exact Kd.N_mono HO_303001.out (fun _ hk => ⟨hk.1, ⟨hk.2.2.1, ⟨hk.2.1, ⟨hk.2.2.2.1, hk.2.2.2.2⟩⟩⟩⟩) | exact Kd.N_mono HO_303001.out (fun _ hk => by repeat' (first | exact hk.1 | exact hk.2.1 | exact hk.2.2.1 | exact hk.2.2.2.1 | exact hk.2.2.2.2 | apply And.intro)))⟩; have n2_ : Aside0 (Kd.R (Kd.int .i64) 3 wc w.heap.size (fun k_ => (w.heap.size ≤ k_) ∧ some k_ ≠ (u303000 : Value).ownBlock) u5 x5_1) := ⟨by rw [← hq_]; exact (by (with_reducible repeat (first | apply Kd.R_alloc | apply Kd.R_drewN | apply Kd.R_drew)); exact HO_5.out)⟩; have n3_ : Aside0 (wc.heap[gb301]? = some (.cells #[.slice none 0 0, .slice none 0 0] 35 (0, 0))) := ⟨by rw [← hq_]; exact (by (with_reducible repeat (first | refine blk_drewN ?_ _ | refine blk_drew ?_ | refine blk_alloc ?_ _)); exact BK301.out)⟩; have n4_ : Aside0 (wc.heap[gb302]? = some (.cells #[u303000, u303001] 35 (0, 0))) := ⟨by rw [← hq_]; exact (by (with_reducible repeat (first | refine blk_drewN ?_ _ | refine blk_drew ?_ | refine blk_alloc ?_ _)); exact BK302.out)⟩; have n5_ : Aside0 (Below w.heap.size w wc) := ⟨by rw [← hq_]; exact (by repeat (first | (with_reducible first | exact HB.out | apply below_alloc | apply pw_below_drewN | apply below_drew1 | refine below_set ?_ GE301.out | refine below_set ?_ GE302.out) | exact HB.out))⟩; clear HO_303000 HO_303001 HO_5 BK301 BK302 HB hq_; have HO_303000 := n0_; have HO_303001 := n1_; have HO_5 := n2_; have BK301 := n3_; have BK302 := n4_; have HB := n5_; clear n0_ n1_ n2_ n3_ n4_ n5_))) | ((with_reducible refine gate_builtin (b := .append) (xs := #[.tmp 43, .tmp 45]) rfl ?_); at_builtin; refine Kd.R_append (Kd.int .i64) (w0 := w) w.heap.size rfl (.tmp 43) (.tmp 45) 32 3 (.int .i64 0) 8 rfl Tryd.underlying32 info3 rfl (by decide) (by omega) u5 x5_1 t305 [.int .i64 t305] (fun k_ => (w.heap.size ≤ k_) ∧ some k_ ≠ (u303000 : Value).ownBlock) (fun _ => False) rfl rfl ?aP (fun _ hk => hk.elim) ?aF ?aO ?aB ?aS ?aL ?_; (case aP => exact rfl); (case aB => exact (by repeat (first | (with_reducible first | exact HB.out | apply below_alloc | apply pw_below_drewN | apply below_drew1 | refine below_set ?_ GE301.out | refine below_set ?_ GE302.out) | exact HB.out))); (case aF => exact (fun k_ hk => ⟨(Nat.le_trans (below_size (by repeat (first | (with_reducible first | exact HB.out | apply below_alloc | apply pw_below_drewN | apply below_drew1 | refine below_set ?_ GE301.out | refine below_set ?_ GE302.out) | exact HB.out))) hk), Kd.fresh' (Kd.R_lt (by (with_reducible repeat (first | apply Kd.R_alloc | apply Kd.R_drewN | apply Kd.R_drew)); exact HO_303000.out)) k_ hk⟩)); (case aO => exact (by (with_reducible repeat (first | apply Kd.R_alloc | apply Kd.R_drewN | apply Kd.R_drew)); exact HO_5.out)); (case aS => exact (below_size (by repeat (first | (with_reducible first | exact HB.out | apply below_alloc | apply pw_below_drewN | apply below_drew1 | refine below_set ?_ GE301.out | refine below_set ?_ GE302.out) | exact HB.out)))); (case aL => have := LMc19.out; omega); intro v308 w29 ho hb hg hat; rw [← Ny307.out] at ho; have n0_ := Aside0.mk (Kd.R_after (ok := (fun k_ => (w.heap.size ≤ k_))) (by (with_reducible repeat (first | apply Kd.R_alloc | apply Kd.R_drewN | apply Kd.R_drew)); exact HO_303000.out) hg hat); have n1_ := Aside0.mk (Kd.N_afterv (ok := (fun k_ => (w.heap.size ≤ k_) ∧ some k_ ≠ (u303000 : Value).ownBlock ∧ k_ ≠ gb301 ∧ k_ ≠ gb302)) (by (with_reducible repeat (first | apply Kd.N_alloc | apply Kd.N_drewN | apply Kd.N_drew)); first | exact Kd.N_mono HO_303001.out (fun _ hk => ⟨⟨hk.1, ⟨hk.2.2.1, ⟨hk.2.2.2.1, hk.2.2.2.2⟩⟩⟩, hk.2.1⟩) | exact Kd.N_mono HO_303001.out (fun _ hk => by repeat' (first | exact hk.1 | exact hk.2.1 | exact hk.2.2.1 | exact hk.2.2.2.1 | exact hk.2.2.2.2 | apply And.intro))) hg hat); have n2_ := Aside0.mk (blk_grown (g := gb301) (o := .cells #[.slice none 0 0, .slice none 0 0] 35 (0, 0)) (by (with_reducible repeat (first | refine blk_drewN ?_ _ | refine blk_drew ?_ | refine blk_alloc ?_ _)); exact BK301.out) hg (Kd.R_ne HO_5.out BK301.out (by decide))); have n3_ := Aside0.mk (blk_grown (g := gb302) (o := .cells #[u303000, u303001] 35 (0, 0)) (by (with_reducible repeat (first | refine blk_drewN ?_ _ | refine blk_drew ?_ | refine blk_alloc ?_ _)); exact BK302.out) hg (Kd.R_ne HO_5.out BK302.out (by decide))); have n4_ := Aside0.mk (hb); have n5_ := Aside0.mk (ho); clear HO_303000; clear HO_303001; clear BK301; clear BK302; clear HB; clear HO_5; have HO_303000 := n0_; have HO_303001 := n1_; have BK301 := n2_; have BK302 := n3_; have HB := n4_; have HO309 := n5_; clear n0_ n1_ n2_ n3_ n4_ n5_; clear ho hb hg hat; have p22 : 0 ≤ (x7_1 : Int) := of_decide_eq_true (by first | (with_reducible assumption) | assumption); have q22 : x7_1 < (a0.size : Int) := of_decide_eq_true (by first | (with_reducible assumption) | assumption); have hx22 := bt_at a0 x7_1; replace p22 := eq_true p22; replace q22 := eq_true q22))
                                          have n0_ := Aside0.mk (Kd.R_drew HO_303000.out)
                                          have n1_ := Aside0.mk (Kd.N_drew HO_303001.out)
                                          have n2_ := Aside0.mk (Kd.R_drew HO309.out)
                                          have n3_ := Aside0.mk (blk_drew BK301.out)
                                          have n4_ := Aside0.mk (blk_drew BK302.out)
                                          have n5_ := Aside0.mk (below_drew1 HB.out)
                                          clear HO_303000
                                          clear HO_303001
                                          clear HO309
                                          clear BK301
                                          clear BK302
                                          clear HB
                                          have HO_303000 := n0_
                                          have HO_303001 := n1_
                                          have HO309 := n2_
                                          have BK301 := n3_
                                          have BK302 := n4_
                                          have HB := n5_
                                          clear n0_ n1_ n2_ n3_ n4_ n5_
                                          obtain ⟨Ao31, co31, eo31⟩ := Kd.R_slice HO309.out
                                          (first | subst eo31 | (injection eo31 with f1_ f2_ f3_; have f4_ := f1_.symm; have f5_ := f3_.symm; clear f1_ f2_ f3_; subst f4_; subst f5_))
                                          have p310 : 0 ≤ (0 : Int) := (by omega)
                                          have q310 : 0 < (y307.length : Int) := of_decide_eq_true (by first | (with_reducible assumption) | assumption)
                                          obtain ⟨ad310, e310, hx310_0⟩ := Kd.at_int (Kd.R_reads' HO309.out).2.2 0 p310 q310
                                          cases e310
                                          have qi310 : (0 < y307.length) = True := eq_true (by omega)
                                          (try rw [show ((0 : Int)).toNat = 0 from rfl] at hx310_0)
                                          (try rw [Addr.add_zero'] at hx310_0)
                                          replace p310 := eq_true p310
                                          replace q310 := eq_true q310
                                          refine start_ (n := 9) (S := fun w' => w'.cell? ⟨gb302, 0, none⟩ = some (u303000) ∧ w'.cell? ⟨gb302, 1, none⟩ = some (u303001) ∧ w'.cell? ad310 = some (.int .i64 (rd y307 0))) (ds := [6, 8]) #[false, false, false, false, false, false, false, false, false] (by kernel_rfl) rfl rfl ⟨(blk_cell BK302.out 0).trans rfl, (blk_cell BK302.out 1).trans rfl, hx310_0⟩ (fun hHeld => ?_); refine with_tabW wigeonref04_Parse.tab16 wigeonref04_Parse.bits16 (fun HT_ HW_ => ?_)
                                          generalize w29.drew = w30 at HO_303000 HO_303001 HO309 BK301 BK302 HB hx310_0 hHeld ⊢
                                          refine pure_ (i := 0) (N := some 53) (v := ?_) (a' := ?_) #[true, false, false, false, false, false, false, false, false] rfl rfl (any_of HT_.out (by kernel_rfl)) (fun _ _ _ h => h) (Or.inl ⟨by rfl, ?_⟩) ?_ ?_
                                          rotate_left
                                          · intro w'
                                            go_simp
                                            with_reducible rfl
                                          rotate_left
                                          · simp only [Act.put, List.setIfInBounds_toArray, List.set_cons_zero, List.set_cons_succ, i64_w, i32_w]
                                            rfl
                                          refine pure_ (i := 2) (N := some 55) (v := ?_) (a' := ?_) #[true, false, true, false, false, false, false, false, false] rfl rfl (any_of HT_.out (by kernel_rfl)) (fun _ _ _ h => h) (Or.inl ⟨by rfl, ?_⟩) ?_ ?_
                                          rotate_left
                                          · intro w'
                                            go_simp
                                            with_reducible rfl
                                          rotate_left
                                          · simp only [Act.put, List.setIfInBounds_toArray, List.set_cons_zero, List.set_cons_succ, i64_w, i32_w]
                                            rfl
                                          refine pure_ (i := 3) (N := some 56) (v := ?_) (a' := ?_) #[true, false, true, true, false, false, false, false, false] rfl rfl (any_of HT_.out (by kernel_rfl)) (fun _ _ _ h => h) (Or.inl ⟨by rfl, ?_⟩) ?_ ?_
                                          rotate_left
                                          · intro w'
                                            go_simp
                                            with_reducible rfl
                                          rotate_left
                                          · simp only [Act.put, List.setIfInBounds_toArray, List.set_cons_zero, List.set_cons_succ, i64_w, i32_w]
                                            rfl
                                          refine take_ (i := 1) (N := some 54) (v := ?_) (a' := ?_) #[true, true, true, true, false, false, false, false, false] rfl rfl (take_ofW HT_.out HW_.out (by kernel_rfl)) (fun _ _ _ h => h) (Or.inl ⟨by rfl, ?_⟩) hHeld ?_ ?_
                                          rotate_left
                                          · rintro w' ⟨s0, s1, s2⟩
                                            go_simp
                                            with_reducible rfl
                                          rotate_left
                                          · simp only [Act.put, List.setIfInBounds_toArray, List.set_cons_zero, List.set_cons_succ, i64_w, i32_w]
                                            rfl
                                          refine take_ (i := 4) (N := some 57) (v := ?_) (a' := ?_) #[true, true, true, true, true, false, false, false, false] rfl rfl (take_ofW HT_.out HW_.out (by kernel_rfl)) (fun _ _ _ h => h) (Or.inl ⟨by rfl, ?_⟩) hHeld ?_ ?_
                                          rotate_left
                                          · rintro w' ⟨s0, s1, s2⟩
                                            go_simp
                                            with_reducible rfl
                                          rotate_left
                                          · simp only [Act.put, List.setIfInBounds_toArray, List.set_cons_zero, List.set_cons_succ, i64_w, i32_w]
                                            rfl
                                          refine one_ (i := 5) (N := some 58) #[true, true, true, true, true, true, false, false, false] rfl rfl (one_of HT_.out (by kernel_rfl)) (by decide) (fun K hK => ?_)
                                          refine value_ (w1 := ?_) (v := ?_) (by rfl) rfl ?_ ?_
                                          rotate_left 2
                                          · go_simp
                                            constructor
                                            · rfl
                                            · rfl
                                          refine hK.out _ _ ⟨(blk_cell (blk_alloc BK302.out _) 0).trans rfl, (blk_cell (blk_alloc BK302.out _) 1).trans rfl, (World.cell?_alloc_lt _ _ _ (World.block_lt_of_cell? _ _ (hHeld.2.2))).trans (hHeld.2.2)⟩ (fun hHeld => ?_)
                                          clear hK K
                                          refine norm_ (a' := ?_) ?_ ?_
                                          rotate_left
                                          · show Act.put _ (some 58) _ = _
                                            simp only [Act.put, List.setIfInBounds_toArray, List.set_cons_zero, List.set_cons_succ, i64_w, i32_w]
                                            rfl
                                          refine last_ (i := 6) (N := some 59) #[true, true, true, true, true, true, true, false, false] rfl rfl (one_of HT_.out (by kernel_rfl)) (by decide) (fun K hK => ?_)
                                          refine Kd.R_append_step (Kd.int .i64) (w0 := w) w.heap.size (by rfl) (.tmp 54) (.tmp 58) 32 3 (.int .i64 0) 8 rfl Tryd.underlying32 info3 rfl (by decide) (by omega) u303000 x303000_1 (rd y307 0) [.int .i64 (rd y307 0)] (fun k_ => (w.heap.size ≤ k_) ∧ some k_ ≠ (.slice (some ad310) y307.length co31 : Value).ownBlock) (fun _ => False) rfl rfl ?aP (fun _ hk => hk.elim) ?aF ?aO ?aB ?aS ?aL ?_
                                          (case aP => exact rfl)
                                          (case aB => exact (by repeat (first | (with_reducible first | exact HB.out | apply below_alloc | apply pw_below_drewN | apply below_drew1 | refine below_set ?_ GE301.out | refine below_set ?_ GE302.out) | exact HB.out)))
                                          (case aF => exact (fun k_ hk => ⟨(Nat.le_trans (below_size (by repeat (first | (with_reducible first | exact HB.out | apply below_alloc | apply pw_below_drewN | apply below_drew1 | refine below_set ?_ GE301.out | refine below_set ?_ GE302.out) | exact HB.out))) hk), Kd.fresh' (Kd.R_lt (by (with_reducible repeat (first | apply Kd.R_alloc | apply Kd.R_drewN | apply Kd.R_drew)); exact HO309.out)) k_ hk⟩))
                                          (case aO => exact (by (with_reducible repeat (first | apply Kd.R_alloc | apply Kd.R_drewN | apply Kd.R_drew)); exact HO_303000.out))
                                          (case aS => exact (below_size (by repeat (first | (with_reducible first | exact HB.out | apply below_alloc | apply pw_below_drewN | apply below_drew1 | refine below_set ?_ GE301.out | refine below_set ?_ GE302.out) | exact HB.out))))
                                          (case aL => have := LMc25.out; omega)
                                          intro v312 w32 ho hb hg hat
                                          rw [← Ny311.out] at ho
                                          have n0_ := Aside0.mk (Kd.N_afterv (ok := (fun k_ => (w.heap.size ≤ k_) ∧ some k_ ≠ (.slice (some ad310) y307.length co31 : Value).ownBlock ∧ k_ ≠ gb301 ∧ k_ ≠ gb302)) (by (with_reducible repeat (first | apply Kd.N_alloc | apply Kd.N_drewN | apply Kd.N_drew)); first | exact Kd.N_mono HO_303001.out (fun _ hk => ⟨⟨hk.1.1, ⟨hk.2, ⟨hk.1.2.2.1, hk.1.2.2.2⟩⟩⟩, hk.1.2.1⟩) | exact Kd.N_mono HO_303001.out (fun _ hk => by repeat' (first | exact hk.1 | exact hk.2.1 | exact hk.2.2.1 | exact hk.2.2.2.1 | exact hk.2.2.2.2 | apply And.intro))) hg hat)
                                          have n1_ := Aside0.mk (blk_grown (g := gb301) (o := .cells #[.slice none 0 0, .slice none 0 0] 35 (0, 0)) (by (with_reducible repeat (first | refine blk_drewN ?_ _ | refine blk_drew ?_ | refine blk_alloc ?_ _)); exact BK301.out) hg (Kd.R_ne HO_303000.out BK301.out (by decide)))
                                          have n2_ := Aside0.mk (blk_grown (g := gb302) (o := .cells #[u303000, u303001] 35 (0, 0)) (by (with_reducible repeat (first | refine blk_drewN ?_ _ | refine blk_drew ?_ | refine blk_alloc ?_ _)); exact BK302.out) hg (Kd.R_ne HO_303000.out BK302.out (by decide)))
                                          have n3_ := Aside0.mk (Kd.R_after (ok := (fun k_ => (w.heap.size ≤ k_))) (by (with_reducible repeat (first | apply Kd.R_alloc | apply Kd.R_drewN | apply Kd.R_drew)); exact HO309.out) hg hat)
                                          have n4_ := Aside0.mk (hb)
                                          have n5_ := Aside0.mk (ho)
                                          clear HO_303001
                                          clear BK301
                                          clear BK302
                                          clear HO309
                                          clear HB
                                          clear HO_303000
                                          have HO_303001 := n0_
                                          have BK301 := n1_
                                          have BK302 := n2_
                                          have HO309 := n3_
                                          have HB := n4_
                                          have HO313 := n5_
                                          clear n0_ n1_ n2_ n3_ n4_ n5_
                                          clear ho hb hg hat
                                          obtain ⟨Ao33, co33, eo33⟩ := Kd.R_slice HO313.out
                                          (first | subst eo33 | (injection eo33 with f1_ f2_ f3_; have f4_ := f1_.symm; have f5_ := f3_.symm; clear f1_ f2_ f3_; subst f4_; subst f5_))
                                          refine hK.out _ _ ?_
                                          clear hK K
                                          refine norm_ (a' := ?_) ?_ ?_
                                          rotate_left
                                          · show Act.put _ (some 59) _ = _
                                            simp only [Act.put, List.setIfInBounds_toArray, List.set_cons_zero, List.set_cons_succ, i64_w, i32_w]
                                            rfl
                                          refine pure_ (i := 7) (N := some 60) (v := ?_) (a' := ?_) #[true, true, true, true, true, true, true, true, false] rfl rfl (any_of HT_.out (by kernel_rfl)) (fun _ _ _ h => h) (Or.inl ⟨by rfl, ?_⟩) ?_ ?_
                                          rotate_left
                                          · intro w'
                                            go_simp
                                            with_reducible rfl
                                          rotate_left
                                          · simp only [Act.put, List.setIfInBounds_toArray, List.set_cons_zero, List.set_cons_succ, i64_w, i32_w]
                                            rfl
                                          refine last_ (i := 8) (N := none) #[true, true, true, true, true, true, true, true, true] rfl rfl (one_of HT_.out (by kernel_rfl)) (by decide) (fun K hK => ?_)
                                          have hs34 : w32.cell? ⟨gb302, 0, none⟩ = some (u303000) := (blk_cell BK302.out 0).trans rfl
                                          have hfs34 := blk_frozen BK302.out 0
                                          have hns34_0 := NB301_302.out
                                          have hms34_0 := NB302_301.out
                                          refine skip_ (w1 := ?_) (by rfl) rfl ?_ ?_
                                          rotate_left
                                          · go_simp
                                            rfl
                                          refine hK.out _ _ ?_
                                          clear hK K
                                          refine done_ (done_of HT_.out (by kernel_rfl)) ?_
                                          try go_wp2
                                          have n0_ : Aside0 (Kd.N (Kd.slice 3 (Kd.int .i64)) 32 (w32.setCell ⟨gb302, 0, none⟩ (.slice Ao33 y311.length co33)) w.heap.size (fun k_ => (w.heap.size ≤ k_) ∧ some k_ ≠ (.slice (some ad310) y307.length co31 : Value).ownBlock ∧ some k_ ≠ (.slice Ao33 y311.length co33 : Value).ownBlock ∧ k_ ≠ gb301 ∧ k_ ≠ gb302) u303001 x303001_1) := ⟨by (with_reducible repeat (first | apply Kd.N_alloc | apply Kd.N_drewN | apply Kd.N_drew)); exact Kd.N_mono (Kd.N_far (p := ⟨gb302, 0, none⟩) (Kd.N_mono HO_303001.out (fun k_ hk => (⟨hk, hk.1.2.2.2⟩ : _ ∧ k_ ≠ gb302))) (fun _ hk => hk.2) (.slice Ao33 y311.length co33)) (fun _ hk => ⟨hk.1.1.1, ⟨hk.1.1.2.1, ⟨hk.1.2, ⟨hk.1.1.2.2.1, hk.1.1.2.2.2⟩⟩⟩⟩)⟩
                                          have n1_ : Aside0 (Kd.R (Kd.int .i64) 3 (w32.setCell ⟨gb302, 0, none⟩ (.slice Ao33 y311.length co33)) w.heap.size (fun k_ => (w.heap.size ≤ k_) ∧ some k_ ≠ (.slice Ao33 y311.length co33 : Value).ownBlock) (.slice (some ad310) y307.length co31) y307) := ⟨by (with_reducible repeat (first | apply Kd.R_alloc | apply Kd.R_drewN | apply Kd.R_drew)); exact Kd.R_mono (Kd.R_far (p := ⟨gb302, 0, none⟩) (Kd.R_types HO309.out BK302.out (by decide)) (fun _ hk => hk.2) (.slice Ao33 y311.length co33)) (fun _ hk => ⟨hk.1.1, hk.1.2⟩)⟩
                                          have n2_ : Aside0 (Kd.R (Kd.int .i64) 3 (w32.setCell ⟨gb302, 0, none⟩ (.slice Ao33 y311.length co33)) w.heap.size (fun k_ => (w.heap.size ≤ k_) ∧ some k_ ≠ (.slice (some ad310) y307.length co31 : Value).ownBlock) (.slice Ao33 y311.length co33) y311) := ⟨by (with_reducible repeat (first | apply Kd.R_alloc | apply Kd.R_drewN | apply Kd.R_drew)); exact Kd.R_mono (Kd.R_far (p := ⟨gb302, 0, none⟩) (Kd.R_types HO313.out BK302.out (by decide)) (fun _ hk => hk.2) (.slice Ao33 y311.length co33)) (fun _ hk => ⟨hk.1.1, hk.1.2⟩)⟩
                                          have n3_ : Aside0 ((w32.setCell ⟨gb302, 0, none⟩ (.slice Ao33 y311.length co33)).heap[gb301]? = some (.cells #[.slice none 0 0, .slice none 0 0] 35 (0, 0))) := ⟨by (with_reducible repeat (first | refine blk_drewN ?_ _ | refine blk_drew ?_ | refine blk_alloc ?_ _)); refine blk_far ?_ NB301_302.out _; (with_reducible repeat (first | refine blk_drewN ?_ _ | refine blk_drew ?_ | refine blk_alloc ?_ _)); exact BK301.out⟩
                                          have n4_ : Aside0 ((w32.setCell ⟨gb302, 0, none⟩ (.slice Ao33 y311.length co33)).heap[gb302]? = some (.cells #[.slice Ao33 y311.length co33, u303001] 35 (0, 0))) := ⟨by (with_reducible repeat (first | refine blk_drewN ?_ _ | refine blk_drew ?_ | refine blk_alloc ?_ _)); refine blk_put (cs := #[u303000, u303001]) ?_ 0 _ rfl; (with_reducible repeat (first | refine blk_drewN ?_ _ | refine blk_drew ?_ | refine blk_alloc ?_ _)); exact BK302.out⟩
                                          have n5_ : Aside0 (Below w.heap.size w (w32.setCell ⟨gb302, 0, none⟩ (.slice Ao33 y311.length co33))) := ⟨by repeat (first | (with_reducible first | exact HB.out | apply below_alloc | apply pw_below_drewN | apply below_drew1 | refine below_set ?_ GE301.out | refine below_set ?_ GE302.out) | exact HB.out)⟩
                                          (try clear HO_303001)
                                          (try clear HO309)
                                          (try clear HO313)
                                          (try clear BK301)
                                          (try clear BK302)
                                          (try clear HB)
                                          generalize (w32.setCell ⟨gb302, 0, none⟩ (.slice Ao33 y311.length co33)) = w35 at n0_ n1_ n2_ n3_ n4_ n5_ ⊢
                                          have HO_303001 := n0_
                                          have HO309 := n1_
                                          have HO313 := n2_
                                          have BK301 := n3_
                                          have BK302 := n4_
                                          have HB := n5_
                                          clear n0_ n1_ n2_ n3_ n4_ n5_
                                          have n0_ := Aside0.mk (Kd.N_drew HO_303001.out)
                                          have n1_ := Aside0.mk (Kd.R_drew HO309.out)
                                          have n2_ := Aside0.mk (Kd.R_drew HO313.out)
                                          have n3_ := Aside0.mk (blk_drew BK301.out)
                                          have n4_ := Aside0.mk (blk_drew BK302.out)
                                          have n5_ := Aside0.mk (below_drew1 HB.out)
                                          clear HO_303001
                                          clear HO309
                                          clear HO313
                                          clear BK301
                                          clear BK302
                                          clear HB
                                          have HO_303001 := n0_
                                          have HO309 := n1_
                                          have HO313 := n2_
                                          have BK301 := n3_
                                          have BK302 := n4_
                                          have HB := n5_
                                          clear n0_ n1_ n2_ n3_ n4_ n5_
                                          have q37 : ((y307.length : Int) : Int) ≤ ((y307.length : Int) : Int) := of_decide_eq_true (by first | (with_reducible assumption) | assumption)
                                          obtain ⟨i037, hi037, _, hsz37, _⟩ := info_parts info3
                                          have hroom37 : y307.length ≤ co31 := (Kd.R_reads' HO309.out).2.1
                                          have hC37 : Kd.F (Kd.int .i64) _ _ (some ad310) y307.length y307 := (Kd.V_at (base := w.heap.size) (Kd.R_V (Kd.R_types (Kd.R_types (Kd.R_apart' (HO309.out) (Kd.N_typed HO_303001.out) (by decide)) BK301.out (by decide)) BK302.out (by decide)))).2.2
                                          have ql37 : (1 : Int) ≤ ((y307.length : Int) : Int) := of_decide_eq_true (by first | (with_reducible assumption) | assumption)
                                          have hcut37 := cut_mid3 (P := Tryd.prog) 32 3 .i64 .i64 Tryd.underlying32 hi037 1 hsz37 (some ad310) y307.length co31 1 (y307.length : Int) (by omega) ql37 q37 hroom37
                                          have hr37 := Kd.F_mid (lo := (1 : Int).toNat) (hi := ((y307.length : Int) : Int).toNat) (c := ((y307.length : Int) : Int).toNat) hC37 (by omega) (by omega) (by omega)
                                          obtain ⟨A37, hA37⟩ : ∃ A1, A1 = (if ((y307.length : Int) : Int).toNat = (1 : Int).toNat then (some ad310) else ((some ad310) : Option Addr).map (·.add ((1 : Int).toNat * 1))) := ⟨_, rfl⟩
                                          have hy37 : y314.length = ((y307.length : Int) : Int).toNat - (1 : Int).toNat := (by rw [Ny314.out, List.length_drop, List.length_take] <;> omega)
                                          rw [show ((y307).take ((y307.length : Int) : Int).toNat).drop (1 : Int).toNat = y314 from Ny314.out.symm] at hr37
                                          replace hr37 : Kd.F (Kd.int .i64) _ _ A37 y314.length y314 := (by rw [hA37]; exact hr37)
                                          rw [← hA37, ← hy37] at hcut37
                                          have HO318 := Aside0.mk (show Kd.V (Kd.int .i64) 3 _ w.heap.size _ (.slice A37 y314.length y314.length) y314 from Kd.V_mk (Nat.le_refl _) hr37)
                                          have HC318 := Aside0.mk (show y314.length ≤ y314.length from Nat.le_refl _)
                                          clear hr37 hC37 hroom37 hi037 hsz37
                                          have KY37 := Aside0.mk hy37
                                          have KA37 := Aside0.mk hA37
                                          clear hy37 hA37
                                          replace q37 := eq_true q37
                                          refine start_ (n := 12) (S := fun w' => w'.cell? ⟨gb302, 0, none⟩ = some (.slice Ao33 y311.length co33) ∧ w'.cell? ⟨gb302, 1, none⟩ = some (u303001)) (ds := [11]) #[false, false, false, false, false, false, false, false, false, false, false, false] (by kernel_rfl) rfl rfl ⟨(blk_cell BK302.out 0).trans rfl, (blk_cell BK302.out 1).trans rfl⟩ (fun hHeld => ?_); refine with_tabW wigeonref04_Parse.tab17 wigeonref04_Parse.bits17 (fun HT_ HW_ => ?_)
                                          generalize w35.drew = w36 at HO_303001 HO309 HO313 BK301 BK302 HB HO318 hHeld ⊢
                                          refine pure_ (i := 0) (N := some 61) (v := ?_) (a' := ?_) #[true, false, false, false, false, false, false, false, false, false, false, false] rfl rfl (any_of HT_.out (by kernel_rfl)) (fun _ _ _ h => h) (Or.inl ⟨by rfl, ?_⟩) ?_ ?_
                                          rotate_left
                                          · intro w'
                                            go_simp
                                            with_reducible rfl
                                          rotate_left
                                          · simp only [Act.put, List.setIfInBounds_toArray, List.set_cons_zero, List.set_cons_succ, i64_w, i32_w]
                                            rfl
                                          refine pure_ (i := 2) (N := some 63) (v := ?_) (a' := ?_) #[true, false, true, false, false, false, false, false, false, false, false, false] rfl rfl (any_of HT_.out (by kernel_rfl)) (fun _ _ _ h => h) (Or.inl ⟨by rfl, ?_⟩) ?_ ?_
                                          rotate_left
                                          · intro w'
                                            go_simp
                                            with_reducible rfl
                                          rotate_left
                                          · simp only [Act.put, List.setIfInBounds_toArray, List.set_cons_zero, List.set_cons_succ, i64_w, i32_w]
                                            rfl
                                          refine pure_ (i := 3) (N := some 64) (v := ?_) (a' := ?_) #[true, false, true, true, false, false, false, false, false, false, false, false] rfl rfl (any_of HT_.out (by kernel_rfl)) (fun _ _ _ h => h) (Or.inl ⟨by rfl, ?_⟩) ?_ ?_
                                          rotate_left
                                          · intro w'
                                            go_simp
                                            with_reducible rfl
                                          rotate_left
                                          · simp only [Act.put, List.setIfInBounds_toArray, List.set_cons_zero, List.set_cons_succ, i64_w, i32_w]
                                            rfl
                                          refine pure_ (i := 4) (N := some 65) (v := ?_) (a' := ?_) #[true, false, true, true, true, false, false, false, false, false, false, false] rfl rfl (any_of HT_.out (by kernel_rfl)) (fun _ _ _ h => h) (Or.inl ⟨by rfl, ?_⟩) ?_ ?_
                                          rotate_left
                                          · intro w'
                                            go_simp
                                            with_reducible rfl
                                          rotate_left
                                          · simp only [Act.put, List.setIfInBounds_toArray, List.set_cons_zero, List.set_cons_succ, i64_w, i32_w]
                                            rfl
                                          refine pure_ (i := 5) (N := some 66) (v := ?_) (a' := ?_) #[true, false, true, true, true, true, false, false, false, false, false, false] rfl rfl (any_of HT_.out (by kernel_rfl)) (fun _ _ _ h => h) (Or.inl ⟨by rfl, ?_⟩) ?_ ?_
                                          rotate_left
                                          · intro w'
                                            go_simp
                                            with_reducible rfl
                                          rotate_left
                                          · simp only [Act.put, List.setIfInBounds_toArray, List.set_cons_zero, List.set_cons_succ, i64_w, i32_w]
                                            rfl
                                          refine pure_ (i := 6) (N := some 67) (v := ?_) (a' := ?_) #[true, false, true, true, true, true, true, false, false, false, false, false] rfl rfl (any_of HT_.out (by kernel_rfl)) (fun _ _ _ h => h) (Or.inl ⟨by rfl, ?_⟩) ?_ ?_
                                          rotate_left
                                          · intro w'
                                            go_simp
                                            with_reducible rfl
                                          rotate_left
                                          · simp only [Act.put, List.setIfInBounds_toArray, List.set_cons_zero, List.set_cons_succ, i64_w, i32_w]
                                            rfl
                                          refine pure_ (i := 7) (N := some 68) (v := ?_) (a' := ?_) #[true, false, true, true, true, true, true, true, false, false, false, false] rfl rfl (any_of HT_.out (by kernel_rfl)) (fun _ _ _ h => h) (Or.inl ⟨by rfl, ?_⟩) ?_ ?_
                                          rotate_left
                                          · intro w'
                                            go_simp
                                            with_reducible rfl
                                          rotate_left
                                          · simp only [Act.put, List.setIfInBounds_toArray, List.set_cons_zero, List.set_cons_succ, i64_w, i32_w]
                                            rfl
                                          refine take_ (i := 1) (N := some 62) (v := ?_) (a' := ?_) #[true, true, true, true, true, true, true, true, false, false, false, false] rfl rfl (take_ofW HT_.out HW_.out (by kernel_rfl)) (fun _ _ _ h => h) (Or.inl ⟨by rfl, ?_⟩) hHeld ?_ ?_
                                          rotate_left
                                          · rintro w' ⟨s0, s1⟩
                                            go_simp
                                            with_reducible rfl
                                          rotate_left
                                          · simp only [Act.put, List.setIfInBounds_toArray, List.set_cons_zero, List.set_cons_succ, i64_w, i32_w]
                                            rfl
                                          refine one_ (i := 8) (N := some 69) #[true, true, true, true, true, true, true, true, true, false, false, false] rfl rfl (one_of HT_.out (by kernel_rfl)) (by decide) (fun K hK => ?_)
                                          refine value_ (w1 := ?_) (v := ?_) (by rfl) rfl ?_ ?_
                                          rotate_left 2
                                          · go_simp
                                            constructor
                                            · rfl
                                            · rfl
                                          refine hK.out _ _ ⟨(blk_cell (blk_alloc BK302.out _) 0).trans rfl, (blk_cell (blk_alloc BK302.out _) 1).trans rfl⟩ (fun hHeld => ?_)
                                          clear hK K
                                          refine norm_ (a' := ?_) ?_ ?_
                                          rotate_left
                                          · show Act.put _ (some 69) _ = _
                                            simp only [Act.put, List.setIfInBounds_toArray, List.set_cons_zero, List.set_cons_succ, i64_w, i32_w]
                                            rfl
                                          refine one_ (i := 9) (N := some 70) #[true, true, true, true, true, true, true, true, true, true, false, false] rfl rfl (one_of HT_.out (by kernel_rfl)) (by decide) (fun K hK => ?_)
                                          refine Kd.N_append_step (Kd.slice 3 (Kd.int .i64)) (w0 := w) w.heap.size (by rfl) (.tmp 62) (.tmp 69) 33 32 (.slice none 0 0) 24 rfl Tryd.underlying33 info32 rfl (by decide) (by omega) u303001 x303001_1 y314 [.slice A37 y314.length y314.length] (fun k_ => (w.heap.size ≤ k_) ∧ some k_ ≠ (.slice Ao33 y311.length co33 : Value).ownBlock ∧ k_ ≠ gb301 ∧ k_ ≠ gb302) (fun k_ => ((fun k_ => (w.heap.size ≤ k_) ∧ some k_ ≠ (.slice Ao33 y311.length co33 : Value).ownBlock ∧ k_ ≠ gb301 ∧ k_ ≠ gb302)) k_ ∧ some k_ ≠ (u303001 : Value).ownBlock) rfl rfl ?aP (fun _ hk => hk) ?aF ?aO ?aB ?aS ?aL ?_
                                          (case aP => exact (Kd.FK_slice_mk (Kd.V_reads' (Kd.V_mono (ok' := (fun k_ => ((fun k_ => (w.heap.size ≤ k_) ∧ some k_ ≠ (.slice Ao33 y311.length co33 : Value).ownBlock ∧ k_ ≠ gb301 ∧ k_ ≠ gb302)) k_ ∧ some k_ ≠ (u303001 : Value).ownBlock)) (HO318.out) (fun k_ hk => ⟨⟨hk.1.1.1.1, ⟨hk.1.1.1.2, ⟨hk.1.2, hk.2⟩⟩⟩, hk.1.1.2⟩))).2.1 (Kd.V_F (Kd.V_mono (ok' := (fun k_ => ((fun k_ => (w.heap.size ≤ k_) ∧ some k_ ≠ (.slice Ao33 y311.length co33 : Value).ownBlock ∧ k_ ≠ gb301 ∧ k_ ≠ gb302)) k_ ∧ some k_ ≠ (u303001 : Value).ownBlock)) (HO318.out) (fun k_ hk => ⟨⟨hk.1.1.1.1, ⟨hk.1.1.1.2, ⟨hk.1.2, hk.2⟩⟩⟩, hk.1.1.2⟩)))))
                                          (case aB => exact (by repeat (first | (with_reducible first | exact HB.out | apply below_alloc | apply pw_below_drewN | apply below_drew1 | refine below_set ?_ GE301.out | refine below_set ?_ GE302.out) | exact HB.out)))
                                          (case aF => exact (fun k_ hk => ⟨(Nat.le_trans (below_size (by repeat (first | (with_reducible first | exact HB.out | apply below_alloc | apply pw_below_drewN | apply below_drew1 | refine below_set ?_ GE301.out | refine below_set ?_ GE302.out) | exact HB.out))) hk), Kd.fresh' (Kd.R_lt (by (with_reducible repeat (first | apply Kd.R_alloc | apply Kd.R_drewN | apply Kd.R_drew)); exact HO313.out)) k_ hk, Kd.freshB (g := gb301) (o := .cells #[.slice none 0 0, .slice none 0 0] 35 (0, 0)) (by (with_reducible repeat (first | refine blk_drewN ?_ _ | refine blk_drew ?_ | refine blk_alloc ?_ _)); exact BK301.out) k_ hk, Kd.freshB (g := gb302) (o := .cells #[.slice Ao33 y311.length co33, u303001] 35 (0, 0)) (by (with_reducible repeat (first | refine blk_drewN ?_ _ | refine blk_drew ?_ | refine blk_alloc ?_ _)); exact BK302.out) k_ hk⟩))
                                          (case aO => exact (by (with_reducible repeat (first | apply Kd.N_alloc | apply Kd.N_drewN | apply Kd.N_drew)); first | exact Kd.N_mono HO_303001.out (fun _ hk => ⟨hk.1, ⟨hk.2.2.1, ⟨hk.2.2.2.1, hk.2.2.2.2⟩⟩⟩) | exact Kd.N_mono HO_303001.out (fun _ hk => by repeat' (first | exact hk.1 | exact hk.2.1 | exact hk.2.2.1 | exact hk.2.2.2.1 | exact hk.2.2.2.2 | apply And.intro))))
                                          (case aS => exact (below_size (by repeat (first | (with_reducible first | exact HB.out | apply below_alloc | apply pw_below_drewN | apply below_drew1 | refine below_set ?_ GE301.out | refine below_set ?_ GE302.out) | exact HB.out))))
                                          (case aL => have := LMc28.out; omega)
                                          intro v320 w38 ho hb hg hat
                                          rw [← Ny319.out] at ho
                                          have n0_ := Aside0.mk (blk_grown (g := gb301) (o := .cells #[.slice none 0 0, .slice none 0 0] 35 (0, 0)) (by (with_reducible repeat (first | refine blk_drewN ?_ _ | refine blk_drew ?_ | refine blk_alloc ?_ _)); exact BK301.out) hg (Kd.N_ne HO_303001.out BK301.out (by decide)))
                                          have n1_ := Aside0.mk (blk_grown (g := gb302) (o := .cells #[.slice Ao33 y311.length co33, u303001] 35 (0, 0)) (by (with_reducible repeat (first | refine blk_drewN ?_ _ | refine blk_drew ?_ | refine blk_alloc ?_ _)); exact BK302.out) hg (Kd.N_ne HO_303001.out BK302.out (by decide)))
                                          have n2_ := Aside0.mk (Kd.R_over' (by (with_reducible repeat (first | apply Kd.R_alloc | apply Kd.R_drewN | apply Kd.R_drew)); exact HO309.out) (Kd.N_typed (by (with_reducible repeat (first | apply Kd.N_alloc | apply Kd.N_drewN | apply Kd.N_drew)); exact HO_303001.out)) (by decide) hg)
                                          have n3_ := Aside0.mk (Kd.R_over' (by (with_reducible repeat (first | apply Kd.R_alloc | apply Kd.R_drewN | apply Kd.R_drew)); exact HO313.out) (Kd.N_typed (by (with_reducible repeat (first | apply Kd.N_alloc | apply Kd.N_drewN | apply Kd.N_drew)); exact HO_303001.out)) (by decide) hg)
                                          have n4_ := Aside0.mk (Kd.V_afterv (ok := (fun k_ => (w.heap.size ≤ k_) ∧ some k_ ≠ (.slice Ao33 y311.length co33 : Value).ownBlock ∧ k_ ≠ gb301 ∧ k_ ≠ gb302)) (by (with_reducible repeat (first | apply Kd.V_alloc | apply Kd.V_drewN | apply Kd.V_drew)); exact Kd.V_mono HO318.out (fun _ hk => ⟨⟨hk.1.1.1.1, ⟨hk.1.1.1.2, ⟨hk.1.2, hk.2⟩⟩⟩, hk.1.1.2⟩)) hg hat)
                                          have n5_ := Aside0.mk (hb)
                                          have n6_ := Aside0.mk (ho)
                                          clear BK301
                                          clear BK302
                                          clear HO309
                                          clear HO313
                                          clear HO318
                                          clear HB
                                          clear HO_303001
                                          have BK301 := n0_
                                          have BK302 := n1_
                                          have HO309 := n2_
                                          have HO313 := n3_
                                          have HO318 := n4_
                                          have HB := n5_
                                          have HO321 := n6_
                                          clear n0_ n1_ n2_ n3_ n4_ n5_ n6_
                                          clear ho hb hg hat
                                          obtain ⟨Ao39, co39, eo39⟩ := Kd.N_slice HO321.out
                                          (first | subst eo39 | (injection eo39 with f1_ f2_ f3_; have f4_ := f1_.symm; have f5_ := f3_.symm; clear f1_ f2_ f3_; subst f4_; subst f5_))
                                          refine hK.out _ _ ⟨(blk_cell BK302.out 0).trans rfl, (blk_cell BK302.out 1).trans rfl⟩ (fun hHeld => ?_)
                                          clear hK K
                                          refine norm_ (a' := ?_) ?_ ?_
                                          rotate_left
                                          · show Act.put _ (some 70) _ = _
                                            simp only [Act.put, List.setIfInBounds_toArray, List.set_cons_zero, List.set_cons_succ, i64_w, i32_w]
                                            rfl
                                          refine pure_ (i := 10) (N := some 71) (v := ?_) (a' := ?_) #[true, true, true, true, true, true, true, true, true, true, true, false] rfl rfl (any_of HT_.out (by kernel_rfl)) (fun _ _ _ h => h) (Or.inl ⟨by rfl, ?_⟩) ?_ ?_
                                          rotate_left
                                          · intro w'
                                            go_simp
                                            with_reducible rfl
                                          rotate_left
                                          · simp only [Act.put, List.setIfInBounds_toArray, List.set_cons_zero, List.set_cons_succ, i64_w, i32_w]
                                            rfl
                                          refine last_ (i := 11) (N := none) #[true, true, true, true, true, true, true, true, true, true, true, true] rfl rfl (one_of HT_.out (by kernel_rfl)) (by decide) (fun K hK => ?_)
                                          have hs40 : w38.cell? ⟨gb302, 1, none⟩ = some (u303001) := (blk_cell BK302.out 1).trans rfl
                                          have hfs40 := blk_frozen BK302.out 1
                                          have hns40_0 := NB301_302.out
                                          have hms40_0 := NB302_301.out
                                          refine skip_ (w1 := ?_) (by rfl) rfl ?_ ?_
                                          rotate_left
                                          · go_simp
                                            rfl
                                          refine hK.out _ _ ?_
                                          clear hK K
                                          refine done_ (done_of HT_.out (by kernel_rfl)) ?_
                                          try go_wp2
                                          go_roundg kj7
                                          case measure => have := HK1.out; have := HJ7.out; omega
                                          case rel => exact ⟨(([] : List Int)), (wrap64 (x7_1 + 1)), (wrap64 (x7_1 + 1)), (y311), (y319), (.slice Ao33 y311.length co33), (.slice Ao39 y319.length co39), (by first | rfl | (simp; done) | (simp [*]; done)), (by first | rfl | (simp; done) | (simp [*]; done)), H', ⟨by have := HK1.out; have := HJ7.out; omega⟩, ⟨by first | exact Kd.R_nil _ _ _ _ _ | exact Kd.N_nil _ _ _ _ _ | exact Kd.V_nil _ _ _ _ _ | exact Kd.Q_nil _ _ _ _ _ | exact Kd.S_nil _ _ _ _ _⟩, ⟨by (with_reducible repeat (first | apply Kd.R_alloc | apply Kd.R_drewN | apply Kd.R_drew)); exact Kd.R_mono (Kd.R_far (p := ⟨gb302, 1, none⟩) (Kd.R_types HO313.out BK302.out (by decide)) (fun _ hk => hk.2) (.slice Ao39 y319.length co39)) (fun _ hk => ⟨hk.1.1, (by simp [Value.ownBlock])⟩)⟩, ⟨by (with_reducible repeat (first | apply Kd.N_alloc | apply Kd.N_drewN | apply Kd.N_drew)); exact Kd.N_mono (Kd.N_far (p := ⟨gb302, 1, none⟩) (Kd.N_mono HO321.out (fun k_ hk => (⟨hk, hk.2.2.2⟩ : _ ∧ k_ ≠ gb302))) (fun _ hk => hk.2) (.slice Ao39 y319.length co39)) (fun _ hk => ⟨hk.1.1, ⟨(by simp [Value.ownBlock]), ⟨hk.1.2.1, ⟨hk.1.2.2.1, hk.1.2.2.2⟩⟩⟩⟩)⟩, ⟨by (with_reducible repeat (first | refine blk_drewN ?_ _ | refine blk_drew ?_ | refine blk_alloc ?_ _)); refine blk_far ?_ NB301_302.out _; (with_reducible repeat (first | refine blk_drewN ?_ _ | refine blk_drew ?_ | refine blk_alloc ?_ _)); exact BK301.out⟩, ⟨by (with_reducible repeat (first | refine blk_drewN ?_ _ | refine blk_drew ?_ | refine blk_alloc ?_ _)); refine blk_put (cs := #[.slice Ao33 y311.length co33, u303001]) ?_ 1 _ rfl; (with_reducible repeat (first | refine blk_drewN ?_ _ | refine blk_drew ?_ | refine blk_alloc ?_ _)); exact BK302.out⟩, ⟨by repeat (first | (with_reducible first | exact HB.out | apply below_alloc | apply pw_below_drewN | apply below_drew1 | refine below_set ?_ GE301.out | refine below_set ?_ GE302.out) | exact HB.out)⟩⟩
                                        · rw [if_neg c28] at H
                                          exact absurd H (by simp)
                                      · rw [if_neg c27] at H
                                        exact absurd H (by simp)
                                    · rw [if_neg c26] at H
                                      exact absurd H (by simp)
                                  · rw [if_neg c25] at H
                                    exact absurd H (by simp)
                                · rw [if_neg c24] at H
                                  exact absurd H (by simp)
                              · rw [if_neg c23] at H
                                have c23b0 : ((bt a0 x7_1) == 10) = false := beq_eq_false_iff_ne.mpr c23
                                have c23b1 : ((bt a0 x7_1) != 10) = true := bne_iff_ne.mpr c23
                                have H' := Aside0.mk H
                                clear H
                                go_wp2_with (first | ((with_reducible refine gate_callee (f := 37) rfl ?_); refine goesL_ (some 37) rfl rfl Tryd.func37 (by kernel_rfl) rfl #[.string (a0.extract (x6_1 : Int).toNat (x7_1 : Int).toNat)] rfl (by (try simp only [List.map_toArray, List.map_cons, List.map_nil]); first | done | rfl | (simp only [List.length_drop, List.length_take]; rfl)) ?_; (with_reducible refine (wigeonref04_number.calls kj7 (a0.extract (x6_1 : Int).toNat (x7_1 : Int).toNat) t305 true _ A17.out).mono ?_); rintro e w' ⟨rfl, ⟨nd, rfl⟩⟩; refine ⟨_, rfl, ?_⟩) | ((with_reducible refine gate_builtin (b := .append) (xs := #[.tmp 43, .tmp 45]) rfl ?_); at_builtin; refine Kd.R_append (Kd.int .i64) (w0 := w) w.heap.size rfl (.tmp 43) (.tmp 45) 32 3 (.int .i64 0) 8 rfl Tryd.underlying32 info3 rfl (by decide) (by omega) u5 x5_1 t305 [.int .i64 t305] (fun k_ => (w.heap.size ≤ k_) ∧ some k_ ≠ (u303000 : Value).ownBlock) (fun _ => False) rfl rfl ?aP (fun _ hk => hk.elim) ?aF ?aO ?aB ?aS ?aL ?_; (case aP => exact rfl); (case aB => exact (by repeat (first | (with_reducible first | exact HB.out | apply below_alloc | apply pw_below_drewN | apply below_drew1 | refine below_set ?_ GE301.out | refine below_set ?_ GE302.out) | exact HB.out))); (case aF => exact (fun k_ hk => ⟨(Nat.le_trans (below_size (by repeat (first | (with_reducible first | exact HB.out | apply below_alloc | apply pw_below_drewN | apply below_drew1 | refine below_set ?_ GE301.out | refine below_set ?_ GE302.out) | exact HB.out))) hk), Kd.fresh' (Kd.R_lt (by (with_reducible repeat (first | apply Kd.R_alloc | apply Kd.R_drewN | apply Kd.R_drew)); exact HO_303000.out)) k_ hk⟩)); (case aO => exact (by (with_reducible repeat (first | apply Kd.R_alloc | apply Kd.R_drewN | apply Kd.R_drew)); exact HO_5.out)); (case aS => exact (below_size (by repeat (first | (with_reducible first | exact HB.out | apply below_alloc | apply pw_below_drewN | apply below_drew1 | refine below_set ?_ GE301.out | refine below_set ?_ GE302.out) | exact HB.out)))); (case aL => have := LMc19.out; omega); intro v308 w41 ho hb hg hat; rw [← Ny307.out] at ho; have n0_ := Aside0.mk (Kd.R_after (ok := (fun k_ => (w.heap.size ≤ k_))) (by (with_reducible repeat (first | apply Kd.R_alloc | apply Kd.R_drewN | apply Kd.R_drew)); exact HO_303000.out) hg hat); have n1_ := Aside0.mk (Kd.N_afterv (ok := (fun k_ => (w.heap.size ≤ k_) ∧ some k_ ≠ (u303000 : Value).ownBlock ∧ k_ ≠ gb301 ∧ k_ ≠ gb302)) (by (with_reducible repeat (first | apply Kd.N_alloc | apply Kd.N_drewN | apply Kd.N_drew)); first | exact Kd.N_mono HO_303001.out (fun _ hk => ⟨⟨hk.1, ⟨hk.2.2.1, ⟨hk.2.2.2.1, hk.2.2.2.2⟩⟩⟩, hk.2.1⟩) | exact Kd.N_mono HO_303001.out (fun _ hk => by repeat' (first | exact hk.1 | exact hk.2.1 | exact hk.2.2.1 | exact hk.2.2.2.1 | exact hk.2.2.2.2 | apply And.intro))) hg hat); have n2_ := Aside0.mk (blk_grown (g := gb301) (o := .cells #[.slice none 0 0, .slice none 0 0] 35 (0, 0)) (by (with_reducible repeat (first | refine blk_drewN ?_ _ | refine blk_drew ?_ | refine blk_alloc ?_ _)); exact BK301.out) hg (Kd.R_ne HO_5.out BK301.out (by decide))); have n3_ := Aside0.mk (blk_grown (g := gb302) (o := .cells #[u303000, u303001] 35 (0, 0)) (by (with_reducible repeat (first | refine blk_drewN ?_ _ | refine blk_drew ?_ | refine blk_alloc ?_ _)); exact BK302.out) hg (Kd.R_ne HO_5.out BK302.out (by decide))); have n4_ := Aside0.mk (hb); have n5_ := Aside0.mk (ho); clear HO_303000; clear HO_303001; clear BK301; clear BK302; clear HB; clear HO_5; have HO_303000 := n0_; have HO_303001 := n1_; have BK301 := n2_; have BK302 := n3_; have HB := n4_; have HO309 := n5_; clear n0_ n1_ n2_ n3_ n4_ n5_; clear ho hb hg hat; have p22 : 0 ≤ (x7_1 : Int) := of_decide_eq_true (by first | (with_reducible assumption) | assumption); have q22 : x7_1 < (a0.size : Int) := of_decide_eq_true (by first | (with_reducible assumption) | assumption); have hx22 := bt_at a0 x7_1; replace p22 := eq_true p22; replace q22 := eq_true q22))
                                go_roundg kj7
                                case measure => have := HK1.out; have := HJ7.out; omega
                                case rel => exact ⟨(y307), (wrap64 (x7_1 + 1)), (wrap64 (x7_1 + 1)), (x303000_1), (x303001_1), (u303000), (u303001), (by first | rfl | (simp; done) | (simp [*]; done)), (by first | rfl | (simp; done) | (simp [*]; done)), H', ⟨by have := HK1.out; have := HJ7.out; omega⟩, ⟨by (with_reducible repeat (first | apply Kd.R_alloc | apply Kd.R_drewN | apply Kd.R_drew)); exact HO309.out⟩, ⟨by (with_reducible repeat (first | apply Kd.R_alloc | apply Kd.R_drewN | apply Kd.R_drew)); exact HO_303000.out⟩, ⟨by (with_reducible repeat (first | apply Kd.N_alloc | apply Kd.N_drewN | apply Kd.N_drew)); first | exact Kd.N_mono HO_303001.out (fun _ hk => ⟨hk.1.1, ⟨hk.2, ⟨hk.1.2.1, ⟨hk.1.2.2.1, hk.1.2.2.2⟩⟩⟩⟩) | exact Kd.N_mono HO_303001.out (fun _ hk => by repeat' (first | exact hk.1 | exact hk.2.1 | exact hk.2.2.1 | exact hk.2.2.2.1 | exact hk.2.2.2.2 | apply And.intro))⟩, ⟨by (with_reducible repeat (first | refine blk_drewN ?_ _ | refine blk_drew ?_ | refine blk_alloc ?_ _)); exact BK301.out⟩, ⟨by (with_reducible repeat (first | refine blk_drewN ?_ _ | refine blk_drew ?_ | refine blk_alloc ?_ _)); exact BK302.out⟩, ⟨by repeat (first | (with_reducible first | exact HB.out | apply below_alloc | apply pw_below_drewN | apply below_drew1 | refine below_set ?_ GE301.out | refine below_set ?_ GE302.out) | exact HB.out)⟩⟩
                            · rw [if_neg c21] at H
                              exact absurd H (by simp)
                          · rw [if_neg c20] at H
                            exact absurd H (by simp)
                        · rw [if_neg c19] at H
                          exact absurd H (by simp)
                      · replace c18 := Bool.eq_false_iff.mpr c18
                        subst c18
                        have H1 : (some (([] : List Int), ([] : List (List Int)), 2)) = some (r1, r2, r3) := by rw [if_neg (show ¬ (false = true) by decide)] at H; exact H
                        clear H
                        have H := H1
                        clear H1
                        simp only [Option.some.injEq, Prod.mk.injEq] at H
                        obtain ⟨rfl, rfl, rfl⟩ := H
                        go_wp2_with (first | ((with_reducible refine gate_callee (f := 37) rfl ?_); refine goesL_ (some 37) rfl rfl Tryd.func37 (by kernel_rfl) rfl #[.string (a0.extract (x6_1 : Int).toNat (x7_1 : Int).toNat)] rfl (by (try simp only [List.map_toArray, List.map_cons, List.map_nil]); first | done | rfl | (simp only [List.length_drop, List.length_take]; rfl)) ?_; (with_reducible refine (wigeonref04_number.calls kj7 (a0.extract (x6_1 : Int).toNat (x7_1 : Int).toNat) t305 false _ A17.out).mono ?_); rintro e w' ⟨rfl, ⟨nd, rfl⟩⟩; refine ⟨_, rfl, ?_⟩; (try (rw [drewN_self wc]; generalize hq_ : World.drewN wc _ = wc; have n0_ : Aside0 (Kd.R (Kd.int .i64) 3 wc w.heap.size (fun k_ => (w.heap.size ≤ k_) ∧ some k_ ≠ (u5 : Value).ownBlock) u303000 x303000_1) := ⟨by rw [← hq_]; exact (by (with_reducible repeat (first | apply Kd.R_alloc | apply Kd.R_drewN | apply Kd.R_drew)); exact HO_303000.out)⟩; have n1_ : Aside0 (Kd.N (Kd.slice 3 (Kd.int .i64)) 32 wc w.heap.size (fun k_ => (w.heap.size ≤ k_) ∧ some k_ ≠ (u303000 : Value).ownBlock ∧ some k_ ≠ (u5 : Value).ownBlock ∧ k_ ≠ gb301 ∧ k_ ≠ gb302) u303001 x303001_1) := ⟨by rw [← hq_]; exact (by (with_reducible repeat (first | apply Kd.N_alloc | apply Kd.N_drewN | apply Kd.N_drew)); first | exact Kd.N_mono HO_303001.out (fun _ hk => ⟨hk.1, ⟨hk.2.2.1, ⟨hk.2.1, ⟨hk.2.2.2.1, hk.2.2.2.2⟩⟩⟩⟩) | exact Kd.N_mono HO_303001.out (fun _ hk => by repeat' (first | exact hk.1 | exact hk.2.1 | exact hk.2.2.1 | exact hk.2.2.2.1 | exact hk.2.2.2.2 | apply And.intro)))⟩; have n2_ : Aside0 (Kd.R (Kd.int .i64) 3 wc w.heap.size (fun k_ => (w.heap.size ≤ k_) ∧ some k_ ≠ (u303000 : Value).ownBlock) u5 x5_1) := ⟨by rw [← hq_]; exact (by (with_reducible repeat (first | apply Kd.R_alloc | apply Kd.R_drewN | apply Kd.R_drew)); exact HO_5.out)⟩; have n3_ : Aside0 (wc.heap[gb301]? = some (.cells #[.slice none 0 0, .slice none 0 0] 35 (0, 0))) := ⟨by rw [← hq_]; exact (by (with_reducible repeat (first | refine blk_drewN ?_ _ | refine blk_drew ?_ | refine blk_alloc ?_ _)); exact BK301.out)⟩; have n4_ : Aside0 (wc.heap[gb302]? = some (.cells #[u303000, u303001] 35 (0, 0))) := ⟨by rw [← hq_]; exact (by (with_reducible repeat (first | refine blk_drewN ?_ _ | refine blk_drew ?_ | refine blk_alloc ?_ _)); exact BK302.out)⟩; have n5_ : Aside0 (Below w.heap.size w wc) := ⟨by rw [← hq_]; exact (by repeat (first | (with_reducible first | exact HB.out | apply below_alloc | apply pw_below_drewN | apply below_drew1 | refine below_set ?_ GE301.out | refine below_set ?_ GE302.out) | exact HB.out))⟩; clear HO_303000 HO_303001 HO_5 BK301 BK302 HB hq_; have HO_303000 := n0_; have HO_303001 := n1_; have HO_5 := n2_; have BK301 := n3_; have BK302 := n4_; have HB := n5_; clear n0_ n1_ n2_ n3_ n4_ n5_)); have hnb42 := NB301_302.out; have hnc42 := NB302_301.out; have hcz43_0 : wc.cell? ⟨gb301, 0, none⟩ = some (.slice none 0 0) := (blk_cell BK301.out 0).trans rfl; have hcz43_1 : wc.cell? ⟨gb301, 1, none⟩ = some (.slice none 0 0) := (blk_cell BK301.out 1).trans rfl; have hfz43_0 := blk_frozen BK301.out 0; have hfz43_1 := blk_frozen BK301.out 1))
                        refine bodyPost_ret (results_ct rfl _ _ gb301 35 #[.slice none 0 0, .slice none 0 0] (0, 0) _ rfl (by (with_reducible repeat (first | refine blk_drewN ?_ _ | refine blk_drew ?_ | refine blk_alloc ?_ _)); refine blk_put (cs := #[.slice none 0 0, .slice none 0 0]) ?_ 1 _ rfl; (with_reducible repeat (first | refine blk_drewN ?_ _ | refine blk_drew ?_ | refine blk_alloc ?_ _)); refine blk_put (cs := #[.slice none 0 0, .slice none 0 0]) ?_ 0 _ rfl; (with_reducible repeat (first | refine blk_drewN ?_ _ | refine blk_drew ?_ | refine blk_alloc ?_ _)); exact BK301.out) Tryd.underlying35 rfl (by kernel_rfl)) rfl ?_
                        exact ⟨_, _, by first | rfl | (simp [errW_none, errW_some] <;> rfl) | (simp [*, errW_none, errW_some] <;> rfl), by first | exact Kd.R_nil _ _ _ _ _ | exact Kd.N_nil _ _ _ _ _ | exact Kd.V_nil _ _ _ _ _ | exact Kd.Q_nil _ _ _ _ _ | exact Kd.S_nil _ _ _ _ _, by first | exact Kd.S_nil _ _ _ _ _ | exact Kd.N_nil _ _ _ _ _ | exact Kd.V_nil _ _ _ _ _ | exact Kd.Q_nil _ _ _ _ _ | exact Kd.R_nil _ _ _ _ _, by repeat (first | (with_reducible first | exact HB.out | apply below_alloc | apply pw_below_drewN | apply below_drew1 | refine below_set ?_ GE301.out | refine below_set ?_ GE302.out) | exact HB.out)⟩
                    · rw [if_neg c16] at H
                      exact absurd H (by simp)
                  · rw [if_neg c15] at H
                    exact absurd H (by simp)
                · rw [if_neg c14] at H
                  exact absurd H (by simp)
        · rw [if_neg c7] at H
          have c7b0 : decide (x7_1 < (a0.size : Int)) = false := decide_eq_false c7
          clear c7
          replace H := Option.bind_eq_some_iff.mp H
          obtain ⟨⟨t303, t304⟩, A440, H⟩ := H
          replace H : (if t304 = 0 then (if t303.toList = a0.toList then (some (x303000_1, x303001_1, 0)) else (some (([] : List Int), ([] : List (List Int)), 2))) else (some (([] : List Int), ([] : List (List Int)), 2))) = some (r1, r2, r3) := H
          have A44 := Aside0.mk A440
          clear A440
          by_cases c45 : t304 = 0
          · rw [if_pos c45] at H
            have c45b0 : (t304 == 0) = true := beq_iff_eq.mpr c45
            have c45b1 : (t304 != 0) = false := bne_eq_false_iff_eq.mpr c45
            clear c45
            by_cases c46 : t303.toList = a0.toList
            · rw [if_pos c46] at H
              have c46b0 : (t303.toList == a0.toList) = true := beq_iff_eq.mpr c46
              have c46b1 : (t303.toList != a0.toList) = false := bne_eq_false_iff_eq.mpr c46
              clear c46
              simp only [Option.some.injEq, Prod.mk.injEq] at H
              obtain ⟨rfl, rfl, rfl⟩ := H
              have hnb47 := NB302_301.out
              have hnc47 := NB301_302.out
              have hcz48_0 : wr.cell? ⟨gb302, 0, none⟩ = some (u303000) := (blk_cell BK302.out 0).trans rfl
              have hcz48_1 : wr.cell? ⟨gb302, 1, none⟩ = some (u303001) := (blk_cell BK302.out 1).trans rfl
              have hfz48_0 := blk_frozen BK302.out 0
              have hfz48_1 := blk_frozen BK302.out 1
              obtain ⟨Ao49, co49, eo49⟩ := Kd.R_slice HO_303000.out
              subst eo49
              obtain ⟨Ao50, co50, eo50⟩ := Kd.N_slice HO_303001.out
              subst eo50
              go_wp2_with (first | ((with_reducible refine gate_callee (f := 15) rfl ?_); refine goesL_ (some 74) rfl rfl Tryd.func15 (by kernel_rfl) rfl #[.agg #[.slice Ao49 x303000_1.length co49, .slice Ao50 x303001_1.length co50]] rfl (by (try simp only [List.map_toArray, List.map_cons, List.map_nil]); first | done | rfl | (simp only [List.length_drop, List.length_take]; rfl)) ?_; (with_reducible refine (wigeonref04_Format.calls k1 _ _ x303000_1 _ _ x303001_1 t303 t304 _ (Env.below hE (by repeat (first | (with_reducible first | exact HB.out | apply below_alloc | apply pw_below_drewN | apply below_drew1 | refine below_set ?_ GE301.out | refine below_set ?_ GE302.out) | exact HB.out))) ?side1 ?side2 ?side3 ?side4 A44.out).mono ?_); (case side1 => repeat (first | exact (Kd.R_reads' HO_303000.out).2.2 | (with_reducible refine Kd.C_alloc ?_ _) | (with_reducible refine Kd.C_drewN ?_ _) | (with_reducible refine Kd.C_drew ?_))); (case side2 => exact (Kd.R_reads' HO_303000.out).2.1); (case side3 => repeat (first | exact (Kd.N_reads' HO_303001.out).2.2 | (with_reducible refine Kd.C_alloc ?_ _) | (with_reducible refine Kd.C_drewN ?_ _) | (with_reducible refine Kd.C_drew ?_))); (case side4 => exact (Kd.N_reads' HO_303001.out).2.1); rintro e w51 ⟨rfl, hb⟩; refine ⟨_, rfl, ?_⟩; have n0_ := Aside0.mk (Kd.R_below (by (with_reducible repeat (first | apply Kd.R_alloc | apply Kd.R_drewN | apply Kd.R_drew)); exact HO_5.out) hb); have n1_ := Aside0.mk (Kd.R_below (by (with_reducible repeat (first | apply Kd.R_alloc | apply Kd.R_drewN | apply Kd.R_drew)); exact HO_303000.out) hb); have n2_ := Aside0.mk (Kd.N_below (by (with_reducible repeat (first | apply Kd.N_alloc | apply Kd.N_drewN | apply Kd.N_drew)); exact HO_303001.out) hb); have n3_ := Aside0.mk (blk_below (g := gb301) (o := .cells #[.slice none 0 0, .slice none 0 0] 35 (0, 0)) (by (with_reducible repeat (first | refine blk_drewN ?_ _ | refine blk_drew ?_ | refine blk_alloc ?_ _)); exact BK301.out) hb); have n4_ := Aside0.mk (blk_below (g := gb302) (o := .cells #[.slice Ao49 x303000_1.length co49, .slice Ao50 x303001_1.length co50] 35 (0, 0)) (by (with_reducible repeat (first | refine blk_drewN ?_ _ | refine blk_drew ?_ | refine blk_alloc ?_ _)); exact BK302.out) hb); have n5_ := Aside0.mk (below_step (by repeat (first | (with_reducible first | exact HB.out | apply below_alloc | apply pw_below_drewN | apply below_drew1 | refine below_set ?_ GE301.out | refine below_set ?_ GE302.out) | exact HB.out)) hb); clear HO_5; clear HO_303000; clear HO_303001; clear BK301; clear BK302; clear HB; have HO_5 := n0_; have HO_303000 := n1_; have HO_303001 := n2_; have BK301 := n3_; have BK302 := n4_; have HB := n5_; clear n0_ n1_ n2_ n3_ n4_ n5_; (try clear hb); (try clear hb2); (try clear hk); (try clear hi); have hcz52_0 : w51.cell? ⟨gb302, 0, none⟩ = some (.slice Ao49 x303000_1.length co49) := (blk_cell BK302.out 0).trans rfl; have hcz52_1 : w51.cell? ⟨gb302, 1, none⟩ = some (.slice Ao50 x303001_1.length co50) := (blk_cell BK302.out 1).trans rfl; have hfz52_0 := blk_frozen BK302.out 0; have hfz52_1 := blk_frozen BK302.out 1; have hcz53_0 : w51.cell? ⟨gb301, 0, none⟩ = some (.slice none 0 0) := (blk_cell BK301.out 0).trans rfl; have hcz53_1 : w51.cell? ⟨gb301, 1, none⟩ = some (.slice none 0 0) := (blk_cell BK301.out 1).trans rfl; have hfz53_0 := blk_frozen BK301.out 0; have hfz53_1 := blk_frozen BK301.out 1))
              refine bodyPost_ret (results_ct rfl _ _ gb301 35 #[.slice Ao49 x303000_1.length co49, .slice Ao50 x303001_1.length co50] (0, 0) _ rfl (by (with_reducible repeat (first | refine blk_drewN ?_ _ | refine blk_drew ?_ | refine blk_alloc ?_ _)); refine blk_put (cs := #[.slice Ao49 x303000_1.length co49, .slice none 0 0]) ?_ 1 _ rfl; (with_reducible repeat (first | refine blk_drewN ?_ _ | refine blk_drew ?_ | refine blk_alloc ?_ _)); refine blk_put (cs := #[.slice none 0 0, .slice none 0 0]) ?_ 0 _ rfl; (with_reducible repeat (first | refine blk_drewN ?_ _ | refine blk_drew ?_ | refine blk_alloc ?_ _)); exact BK301.out) Tryd.underlying35 rfl (by kernel_rfl)) rfl ?_
              exact ⟨_, _, by first | rfl | (simp [errW_none, errW_some] <;> rfl) | (simp [*, errW_none, errW_some] <;> rfl), by (with_reducible repeat (first | apply Kd.R_alloc | apply Kd.R_drewN | apply Kd.R_drew)); exact Kd.R_mono (Kd.R_far (p := ⟨gb301, 1, none⟩) (Kd.R_far (p := ⟨gb301, 0, none⟩) (Kd.R_types HO_303000.out BK301.out (by decide)) (fun _ hk => hk.2) (.slice Ao49 x303000_1.length co49)) (fun _ hk => hk.2) (.slice Ao50 x303001_1.length co50)) (fun _ hk => hk.1.1), by (with_reducible repeat (first | apply Kd.N_alloc | apply Kd.N_drewN | apply Kd.N_drew)); exact Kd.N_mono (Kd.N_far (p := ⟨gb301, 1, none⟩) (Kd.N_far (p := ⟨gb301, 0, none⟩) (Kd.N_mono HO_303001.out (fun k_ hk => (⟨hk, hk.2.2.2.1⟩ : _ ∧ k_ ≠ gb301))) (fun _ hk => hk.2) (.slice Ao49 x303000_1.length co49)) (fun _ hk => hk.2) (.slice Ao50 x303001_1.length co50)) (fun _ hk => ⟨hk.1.1, hk.1.2.2.1⟩), by repeat (first | (with_reducible first | exact HB.out | apply below_alloc | apply pw_below_drewN | apply below_drew1 | refine below_set ?_ GE301.out | refine below_set ?_ GE302.out) | exact HB.out)⟩
            · rw [if_neg c46] at H
              have c46b0 : (t303.toList == a0.toList) = false := beq_eq_false_iff_ne.mpr c46
              have c46b1 : (t303.toList != a0.toList) = true := bne_iff_ne.mpr c46
              simp only [Option.some.injEq, Prod.mk.injEq] at H
              obtain ⟨rfl, rfl, rfl⟩ := H
              have hnb54 := NB302_301.out
              have hnc54 := NB301_302.out
              have hcz55_0 : wr.cell? ⟨gb302, 0, none⟩ = some (u303000) := (blk_cell BK302.out 0).trans rfl
              have hcz55_1 : wr.cell? ⟨gb302, 1, none⟩ = some (u303001) := (blk_cell BK302.out 1).trans rfl
              have hfz55_0 := blk_frozen BK302.out 0
              have hfz55_1 := blk_frozen BK302.out 1
              obtain ⟨Ao56, co56, eo56⟩ := Kd.R_slice HO_303000.out
              subst eo56
              obtain ⟨Ao57, co57, eo57⟩ := Kd.N_slice HO_303001.out
              subst eo57
              go_wp2_with (first | ((with_reducible refine gate_callee (f := 15) rfl ?_); refine goesL_ (some 74) rfl rfl Tryd.func15 (by kernel_rfl) rfl #[.agg #[.slice Ao56 x303000_1.length co56, .slice Ao57 x303001_1.length co57]] rfl (by (try simp only [List.map_toArray, List.map_cons, List.map_nil]); first | done | rfl | (simp only [List.length_drop, List.length_take]; rfl)) ?_; (with_reducible refine (wigeonref04_Format.calls k1 _ _ x303000_1 _ _ x303001_1 t303 t304 _ (Env.below hE (by repeat (first | (with_reducible first | exact HB.out | apply below_alloc | apply pw_below_drewN | apply below_drew1 | refine below_set ?_ GE301.out | refine below_set ?_ GE302.out) | exact HB.out))) ?side1 ?side2 ?side3 ?side4 A44.out).mono ?_); (case side1 => repeat (first | exact (Kd.R_reads' HO_303000.out).2.2 | (with_reducible refine Kd.C_alloc ?_ _) | (with_reducible refine Kd.C_drewN ?_ _) | (with_reducible refine Kd.C_drew ?_))); (case side2 => exact (Kd.R_reads' HO_303000.out).2.1); (case side3 => repeat (first | exact (Kd.N_reads' HO_303001.out).2.2 | (with_reducible refine Kd.C_alloc ?_ _) | (with_reducible refine Kd.C_drewN ?_ _) | (with_reducible refine Kd.C_drew ?_))); (case side4 => exact (Kd.N_reads' HO_303001.out).2.1); rintro e w58 ⟨rfl, hb⟩; refine ⟨_, rfl, ?_⟩; have n0_ := Aside0.mk (Kd.R_below (by (with_reducible repeat (first | apply Kd.R_alloc | apply Kd.R_drewN | apply Kd.R_drew)); exact HO_5.out) hb); have n1_ := Aside0.mk (Kd.R_below (by (with_reducible repeat (first | apply Kd.R_alloc | apply Kd.R_drewN | apply Kd.R_drew)); exact HO_303000.out) hb); have n2_ := Aside0.mk (Kd.N_below (by (with_reducible repeat (first | apply Kd.N_alloc | apply Kd.N_drewN | apply Kd.N_drew)); exact HO_303001.out) hb); have n3_ := Aside0.mk (blk_below (g := gb301) (o := .cells #[.slice none 0 0, .slice none 0 0] 35 (0, 0)) (by (with_reducible repeat (first | refine blk_drewN ?_ _ | refine blk_drew ?_ | refine blk_alloc ?_ _)); exact BK301.out) hb); have n4_ := Aside0.mk (blk_below (g := gb302) (o := .cells #[.slice Ao56 x303000_1.length co56, .slice Ao57 x303001_1.length co57] 35 (0, 0)) (by (with_reducible repeat (first | refine blk_drewN ?_ _ | refine blk_drew ?_ | refine blk_alloc ?_ _)); exact BK302.out) hb); have n5_ := Aside0.mk (below_step (by repeat (first | (with_reducible first | exact HB.out | apply below_alloc | apply pw_below_drewN | apply below_drew1 | refine below_set ?_ GE301.out | refine below_set ?_ GE302.out) | exact HB.out)) hb); clear HO_5; clear HO_303000; clear HO_303001; clear BK301; clear BK302; clear HB; have HO_5 := n0_; have HO_303000 := n1_; have HO_303001 := n2_; have BK301 := n3_; have BK302 := n4_; have HB := n5_; clear n0_ n1_ n2_ n3_ n4_ n5_; (try clear hb); (try clear hb2); (try clear hk); (try clear hi); have hcz59_0 : w58.cell? ⟨gb301, 0, none⟩ = some (.slice none 0 0) := (blk_cell BK301.out 0).trans rfl; have hcz59_1 : w58.cell? ⟨gb301, 1, none⟩ = some (.slice none 0 0) := (blk_cell BK301.out 1).trans rfl; have hfz59_0 := blk_frozen BK301.out 0; have hfz59_1 := blk_frozen BK301.out 1))
              refine bodyPost_ret (results_ct rfl _ _ gb301 35 #[.slice none 0 0, .slice none 0 0] (0, 0) _ rfl (by (with_reducible repeat (first | refine blk_drewN ?_ _ | refine blk_drew ?_ | refine blk_alloc ?_ _)); refine blk_put (cs := #[.slice none 0 0, .slice none 0 0]) ?_ 1 _ rfl; (with_reducible repeat (first | refine blk_drewN ?_ _ | refine blk_drew ?_ | refine blk_alloc ?_ _)); refine blk_put (cs := #[.slice none 0 0, .slice none 0 0]) ?_ 0 _ rfl; (with_reducible repeat (first | refine blk_drewN ?_ _ | refine blk_drew ?_ | refine blk_alloc ?_ _)); exact BK301.out) Tryd.underlying35 rfl (by kernel_rfl)) rfl ?_
              exact ⟨_, _, by first | rfl | (simp [errW_none, errW_some] <;> rfl) | (simp [*, errW_none, errW_some] <;> rfl), by first | exact Kd.R_nil _ _ _ _ _ | exact Kd.N_nil _ _ _ _ _ | exact Kd.V_nil _ _ _ _ _ | exact Kd.Q_nil _ _ _ _ _ | exact Kd.S_nil _ _ _ _ _, by first | exact Kd.S_nil _ _ _ _ _ | exact Kd.N_nil _ _ _ _ _ | exact Kd.V_nil _ _ _ _ _ | exact Kd.Q_nil _ _ _ _ _ | exact Kd.R_nil _ _ _ _ _, by repeat (first | (with_reducible first | exact HB.out | apply below_alloc | apply pw_below_drewN | apply below_drew1 | refine below_set ?_ GE301.out | refine below_set ?_ GE302.out) | exact HB.out)⟩
          · rw [if_neg c45] at H
            have c45b0 : (t304 == 0) = false := beq_eq_false_iff_ne.mpr c45
            have c45b1 : (t304 != 0) = true := bne_iff_ne.mpr c45
            simp only [Option.some.injEq, Prod.mk.injEq] at H
            obtain ⟨rfl, rfl, rfl⟩ := H
            have hnb60 := NB302_301.out
            have hnc60 := NB301_302.out
            have hcz61_0 : wr.cell? ⟨gb302, 0, none⟩ = some (u303000) := (blk_cell BK302.out 0).trans rfl
            have hcz61_1 : wr.cell? ⟨gb302, 1, none⟩ = some (u303001) := (blk_cell BK302.out 1).trans rfl
            have hfz61_0 := blk_frozen BK302.out 0
            have hfz61_1 := blk_frozen BK302.out 1
            obtain ⟨Ao62, co62, eo62⟩ := Kd.R_slice HO_303000.out
            subst eo62
            obtain ⟨Ao63, co63, eo63⟩ := Kd.N_slice HO_303001.out
            subst eo63
            go_wp2_with (first | ((with_reducible refine gate_callee (f := 15) rfl ?_); refine goesL_ (some 74) rfl rfl Tryd.func15 (by kernel_rfl) rfl #[.agg #[.slice Ao62 x303000_1.length co62, .slice Ao63 x303001_1.length co63]] rfl (by (try simp only [List.map_toArray, List.map_cons, List.map_nil]); first | done | rfl | (simp only [List.length_drop, List.length_take]; rfl)) ?_; (with_reducible refine (wigeonref04_Format.calls k1 _ _ x303000_1 _ _ x303001_1 t303 t304 _ (Env.below hE (by repeat (first | (with_reducible first | exact HB.out | apply below_alloc | apply pw_below_drewN | apply below_drew1 | refine below_set ?_ GE301.out | refine below_set ?_ GE302.out) | exact HB.out))) ?side1 ?side2 ?side3 ?side4 A44.out).mono ?_); (case side1 => repeat (first | exact (Kd.R_reads' HO_303000.out).2.2 | (with_reducible refine Kd.C_alloc ?_ _) | (with_reducible refine Kd.C_drewN ?_ _) | (with_reducible refine Kd.C_drew ?_))); (case side2 => exact (Kd.R_reads' HO_303000.out).2.1); (case side3 => repeat (first | exact (Kd.N_reads' HO_303001.out).2.2 | (with_reducible refine Kd.C_alloc ?_ _) | (with_reducible refine Kd.C_drewN ?_ _) | (with_reducible refine Kd.C_drew ?_))); (case side4 => exact (Kd.N_reads' HO_303001.out).2.1); rintro e w64 ⟨rfl, hb⟩; refine ⟨_, rfl, ?_⟩; have n0_ := Aside0.mk (Kd.R_below (by (with_reducible repeat (first | apply Kd.R_alloc | apply Kd.R_drewN | apply Kd.R_drew)); exact HO_5.out) hb); have n1_ := Aside0.mk (Kd.R_below (by (with_reducible repeat (first | apply Kd.R_alloc | apply Kd.R_drewN | apply Kd.R_drew)); exact HO_303000.out) hb); have n2_ := Aside0.mk (Kd.N_below (by (with_reducible repeat (first | apply Kd.N_alloc | apply Kd.N_drewN | apply Kd.N_drew)); exact HO_303001.out) hb); have n3_ := Aside0.mk (blk_below (g := gb301) (o := .cells #[.slice none 0 0, .slice none 0 0] 35 (0, 0)) (by (with_reducible repeat (first | refine blk_drewN ?_ _ | refine blk_drew ?_ | refine blk_alloc ?_ _)); exact BK301.out) hb); have n4_ := Aside0.mk (blk_below (g := gb302) (o := .cells #[.slice Ao62 x303000_1.length co62, .slice Ao63 x303001_1.length co63] 35 (0, 0)) (by (with_reducible repeat (first | refine blk_drewN ?_ _ | refine blk_drew ?_ | refine blk_alloc ?_ _)); exact BK302.out) hb); have n5_ := Aside0.mk (below_step (by repeat (first | (with_reducible first | exact HB.out | apply below_alloc | apply pw_below_drewN | apply below_drew1 | refine below_set ?_ GE301.out | refine below_set ?_ GE302.out) | exact HB.out)) hb); clear HO_5; clear HO_303000; clear HO_303001; clear BK301; clear BK302; clear HB; have HO_5 := n0_; have HO_303000 := n1_; have HO_303001 := n2_; have BK301 := n3_; have BK302 := n4_; have HB := n5_; clear n0_ n1_ n2_ n3_ n4_ n5_; (try clear hb); (try clear hb2); (try clear hk); (try clear hi); have hcz65_0 : w64.cell? ⟨gb301, 0, none⟩ = some (.slice none 0 0) := (blk_cell BK301.out 0).trans rfl; have hcz65_1 : w64.cell? ⟨gb301, 1, none⟩ = some (.slice none 0 0) := (blk_cell BK301.out 1).trans rfl; have hfz65_0 := blk_frozen BK301.out 0; have hfz65_1 := blk_frozen BK301.out 1))
            refine bodyPost_ret (results_ct rfl _ _ gb301 35 #[.slice none 0 0, .slice none 0 0] (0, 0) _ rfl (by (with_reducible repeat (first | refine blk_drewN ?_ _ | refine blk_drew ?_ | refine blk_alloc ?_ _)); refine blk_put (cs := #[.slice none 0 0, .slice none 0 0]) ?_ 1 _ rfl; (with_reducible repeat (first | refine blk_drewN ?_ _ | refine blk_drew ?_ | refine blk_alloc ?_ _)); refine blk_put (cs := #[.slice none 0 0, .slice none 0 0]) ?_ 0 _ rfl; (with_reducible repeat (first | refine blk_drewN ?_ _ | refine blk_drew ?_ | refine blk_alloc ?_ _)); exact BK301.out) Tryd.underlying35 rfl (by kernel_rfl)) rfl ?_
            exact ⟨_, _, by first | rfl | (simp [errW_none, errW_some] <;> rfl) | (simp [*, errW_none, errW_some] <;> rfl), by first | exact Kd.R_nil _ _ _ _ _ | exact Kd.N_nil _ _ _ _ _ | exact Kd.V_nil _ _ _ _ _ | exact Kd.Q_nil _ _ _ _ _ | exact Kd.S_nil _ _ _ _ _, by first | exact Kd.S_nil _ _ _ _ _ | exact Kd.N_nil _ _ _ _ _ | exact Kd.V_nil _ _ _ _ _ | exact Kd.Q_nil _ _ _ _ _ | exact Kd.R_nil _ _ _ _ _, by repeat (first | (with_reducible first | exact HB.out | apply below_alloc | apply pw_below_drewN | apply below_drew1 | refine below_set ?_ GE301.out | refine below_set ?_ GE302.out) | exact HB.out)⟩

end Go.Proofs.YtjiheojjfnfmaaaDoor.LT

