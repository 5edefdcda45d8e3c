/- Of the text STx12, what the row of ScreenTexts reaches. -/
import Derived.Test.YtjiheojjfnfmaaaDoorZScreenTextsSTx0
import Derived.Test.YtjiheojjfnfmaaaDoorZScreenTextsSTx11
import Derived.Test.YtjiheojjfnfmaaaDoorZScreenTextsSTx16
namespace Go.Proofs.YtjiheojjfnfmaaaDoor.ST
open Go.RowKit Go.Proofs.YtjiheojjfnfmaaaDoorW.PrintWords Go.Proofs.YtjiheojjfnfmaaaDoorW.PrintLast Go.Proofs.YtjiheojjfnfmaaaDoorW.PrintMore
attribute [local go_sem] max2_int min2_int max_two min_two max_three min_three max_four min_four   -- for this text's walks alone
set_option linter.unusedVariables false
set_option linter.unusedSimpArgs false

mutual
def screen_touch.j3 : Nat → Int → Int → Int → Int → Int → Int → Int → Int → Option (Bool)
  | 0, _, _, _, _, _, _, _, _ => none
  | k + 1, x127000, x127001, x128000, x128001, x129000, x129001, x130000, x130001 => (screen_side.f x127000 x127001 x128000 x128001 x129000 x129001).bind fun t138 => ((screen_side.f x127000 x127001 x128000 x128001 x130000 x130001).bind fun t139 => (if (wrap64 (t138 * t139)) < 0 then ((screen_side.f x129000 x129001 x130000 x130001 x127000 x127001).bind fun t140 => ((screen_side.f x129000 x129001 x130000 x130001 x128000 x128001).bind fun t141 => (some (decide ((wrap64 (t140 * t141)) < 0))))) else (some false)))
def screen_touch.j0 : Nat → Bool → Int → Int → Int → Int → Int → Int → Int → Int → Option (Bool)
  | 0, _, _, _, _, _, _, _, _, _ => none
  | k + 1, x9, x127000, x127001, x128000, x128001, x129000, x129001, x130000, x130001 => if x9 = true then (some true) else ((screen_side.f x127000 x127001 x128000 x128001 x130000 x130001).bind fun t132 => (if t132 = 0 then ((screen_between.f x127000 x127001 x128000 x128001 x130000 x130001).bind fun t133 => (screen_touch.j1 k t133 x127000 x127001 x128000 x128001 x129000 x129001 x130000 x130001)) else (screen_touch.j1 k false x127000 x127001 x128000 x128001 x129000 x129001 x130000 x130001)))
def screen_touch.j1 : Nat → Bool → Int → Int → Int → Int → Int → Int → Int → Int → Option (Bool)
  | 0, _, _, _, _, _, _, _, _, _ => none
  | k + 1, x9, x127000, x127001, x128000, x128001, x129000, x129001, x130000, x130001 => if x9 = true then (some true) else ((screen_side.f x129000 x129001 x130000 x130001 x127000 x127001).bind fun t134 => (if t134 = 0 then ((screen_between.f x129000 x129001 x130000 x130001 x127000 x127001).bind fun t135 => (screen_touch.j2 k t135 x127000 x127001 x128000 x128001 x129000 x129001 x130000 x130001)) else (screen_touch.j2 k false x127000 x127001 x128000 x128001 x129000 x129001 x130000 x130001)))
def screen_touch.j2 : Nat → Bool → Int → Int → Int → Int → Int → Int → Int → Int → Option (Bool)
  | 0, _, _, _, _, _, _, _, _, _ => none
  | k + 1, x9, x127000, x127001, x128000, x128001, x129000, x129001, x130000, x130001 => if x9 = true then (some true) else ((screen_side.f x129000 x129001 x130000 x130001 x128000 x128001).bind fun t136 => (if t136 = 0 then ((screen_between.f x129000 x129001 x130000 x130001 x128000 x128001).bind fun t137 => (if t137 = true then (some true) else (screen_touch.j3 k x127000 x127001 x128000 x128001 x129000 x129001 x130000 x130001))) else (screen_touch.j3 k x127000 x127001 x128000 x128001 x129000 x129001 x130000 x130001)))
end
def screen_touch.f (k : Nat) (a0_0 : Int) (a0_1 : Int) (a1_0 : Int) (a1_1 : Int) (a2_0 : Int) (a2_1 : Int) (a3_0 : Int) (a3_1 : Int) : Option (Bool) := (screen_side.f a0_0 a0_1 a1_0 a1_1 a2_0 a2_1).bind fun t130 => (if t130 = 0 then ((screen_between.f a0_0 a0_1 a1_0 a1_1 a2_0 a2_1).bind fun t131 => (screen_touch.j0 k t131 a0_0 a0_1 a1_0 a1_1 a2_0 a2_1 a3_0 a3_1)) else (screen_touch.j0 k false a0_0 a0_1 a1_0 a1_1 a2_0 a2_1 a3_0 a3_1))
def screen_touch.T6 : Bool × List (List Nat × List Nat) := (true, [([], []), ([], []), ([], []), ([0, 1, 2], [0, 1, 2]), ([], []), ([], []), ([], []), ([4, 5, 6, 3], [4, 5, 6]), ([3, 7], [3, 7]), ([8], [8]), ([9, 7], [9]), ([10], [10]), ([10], [10]), ([10], [10]), ([11, 12, 13, 10, 10], [10, 11, 12, 13]), ([10], [10]), ([10], [10]), ([10], [10]), ([15, 16, 17, 14, 10], [10, 15, 16, 17]), ([14, 18, 10], [10, 14, 18]), ([19, 10], [10, 19]), ([10, 20], [10, 20]), ([21, 18, 0, 1, 2, 3, 4, 5, 6, 7, 8, 9, 10, 11, 12, 13, 14, 15, 16, 17, 18, 19, 20, 21], [21])])
def screen_touch.B6 : List Nat := [0, 0, 0, 7, 0, 0, 0, 127, 255, 511, 1023, 2047, 2047, 2047, 16383, 2047, 2047, 2047, 262143, 524287, 1048575, 2097151, 4194303]
theorem screen_touch.tab6 : rtab .any (opsOf Tryd.f59 6) = screen_touch.T6 := by kernel_rfl
theorem screen_touch.bits6 : waitsOk screen_touch.T6.2 screen_touch.B6 = true := by kernel_rfl
set_option maxHeartbeats 8000000 in
set_option maxRecDepth 100000 in
theorem screen_touch.calls (k : Nat) (a0_0 : Int) (a0_1 : Int) (a1_0 : Int) (a1_1 : Int) (a2_0 : Int) (a2_1 : Int) (a3_0 : Int) (a3_1 : Int) (r : Bool) (w : World) (h : screen_touch.f k a0_0 a0_1 a1_0 a1_1 a2_0 a2_1 a3_0 a3_1 = some r) :
    Calls Tryd.prog 59 #[.agg #[.int .i64 a0_0, .int .i64 a0_1], .agg #[.int .i64 a1_0, .int .i64 a1_1], .agg #[.int .i64 a2_0, .int .i64 a2_1], .agg #[.int .i64 a3_0, .int .i64 a3_1]] w fun e w' => e = .returned (.bool r) ∧ Below w.heap.size w w' := by
  have hu44 := Tryd.underlying44
  have HB := Aside0.mk (Below.refl w.heap.size w)
  have H : ((screen_side.f a0_0 a0_1 a1_0 a1_1 a2_0 a2_1).bind fun t130 => (if t130 = 0 then ((screen_between.f a0_0 a0_1 a1_0 a1_1 a2_0 a2_1).bind fun t131 => (screen_touch.j0 k t131 a0_0 a0_1 a1_0 a1_1 a2_0 a2_1 a3_0 a3_1)) else (screen_touch.j0 k false a0_0 a0_1 a1_0 a1_1 a2_0 a2_1 a3_0 a3_1))) = some r := h
  clear h
  have HC5 := Aside0.mk H
  clear H
  go_enter Tryd.func59, Tryd.ntmps59
  go_upto_block 0 with (first | ((with_reducible refine gate_dst (N := 4) rfl ?_); refine box_event ?hg (N := 4) ?hd (cs := #[.int .i64 a0_0, .int .i64 a0_1]) (t := 44) ?hr ?_; (case hd => rfl); (case hg => rfl); (case hr => first | (go_simp; done) | (go_simp; rfl)); intro gb126 hg w6 hbox hb; have n0_ := Aside0.mk (below_step (by repeat (first | (with_reducible first | exact HB.out | apply below_alloc | apply pw_below_drewN | apply below_drew1) | exact HB.out)) hb); have n1_ := Aside0.mk (hbox); have n2_ := Aside0.mk ((by rw [hg]; exact (below_size (by repeat (first | (with_reducible first | exact HB.out | apply below_alloc | apply pw_below_drewN | apply below_drew1) | exact HB.out))) : w.heap.size ≤ gb126)); have n3_ := Aside0.mk ((by rw [hg]; exact (below_size (by repeat (first | (with_reducible first | exact HB.out | apply below_alloc | apply pw_below_drewN | apply below_drew1) | exact HB.out))) : w.heap.size ≤ gb126)); clear HB; have HB := n0_; have BK126 := n1_; have GW126 := n2_; have GE126 := n3_; clear n0_ n1_ n2_ n3_; clear hb hbox hg) | ((with_reducible refine gate_dst (N := 5) rfl ?_); refine box_event ?hg (N := 5) ?hd (cs := #[.int .i64 a1_0, .int .i64 a1_1]) (t := 44) ?hr ?_; (case hd => rfl); (case hg => rfl); (case hr => first | (go_simp; done) | (go_simp; rfl)); intro gb127 hg w7 hbox hb; have n0_ := Aside0.mk (blk_below (g := gb126) (o := .cells #[.int .i64 a0_0, .int .i64 a0_1] 44 (0, 0)) (by (with_reducible repeat (first | refine blk_drewN ?_ _ | refine blk_drew ?_ | refine blk_alloc ?_ _)); exact BK126.out) hb); have n1_ := Aside0.mk (below_step (by repeat (first | (with_reducible first | exact HB.out | apply below_alloc | apply pw_below_drewN | apply below_drew1 | refine below_set ?_ GE126.out) | exact HB.out)) hb); have n2_ := Aside0.mk (hbox); have n3_ := Aside0.mk ((by rw [hg]; exact (below_size (by repeat (first | (with_reducible first | exact HB.out | apply below_alloc | apply pw_below_drewN | apply below_drew1 | refine below_set ?_ GE126.out) | exact HB.out))) : w.heap.size ≤ gb127)); have n4_ := Aside0.mk ((by rw [hg]; exact (below_size (by repeat (first | (with_reducible first | exact HB.out | apply below_alloc | apply pw_below_drewN | apply below_drew1 | refine below_set ?_ GE126.out) | exact HB.out))) : w.heap.size ≤ gb127)); have n5_ := Aside0.mk ((by rw [hg]; exact Nat.ne_of_lt (blk_lt (g := gb126) (o := .cells #[.int .i64 a0_0, .int .i64 a0_1] 44 (0, 0)) (by (with_reducible repeat (first | refine blk_drewN ?_ _ | refine blk_drew ?_ | refine blk_alloc ?_ _)); exact BK126.out)) : gb126 ≠ gb127)); have n6_ := Aside0.mk ((by rw [hg]; exact Nat.ne_of_gt (blk_lt (g := gb126) (o := .cells #[.int .i64 a0_0, .int .i64 a0_1] 44 (0, 0)) (by (with_reducible repeat (first | refine blk_drewN ?_ _ | refine blk_drew ?_ | refine blk_alloc ?_ _)); exact BK126.out)) : gb127 ≠ gb126)); clear BK126; clear HB; have BK126 := n0_; have HB := n1_; have BK127 := n2_; have GW127 := n3_; have GE127 := n4_; have NB126_127 := n5_; have NB127_126 := n6_; clear n0_ n1_ n2_ n3_ n4_ n5_ n6_; clear hb hbox hg) | ((with_reducible refine gate_dst (N := 6) rfl ?_); refine box_event ?hg (N := 6) ?hd (cs := #[.int .i64 a2_0, .int .i64 a2_1]) (t := 44) ?hr ?_; (case hd => rfl); (case hg => rfl); (case hr => first | (go_simp; done) | (go_simp; rfl)); intro gb128 hg w8 hbox hb; have n0_ := Aside0.mk (blk_below (g := gb126) (o := .cells #[.int .i64 a0_0, .int .i64 a0_1] 44 (0, 0)) (by (with_reducible repeat (first | refine blk_drewN ?_ _ | refine blk_drew ?_ | refine blk_alloc ?_ _)); exact BK126.out) hb); have n1_ := Aside0.mk (blk_below (g := gb127) (o := .cells #[.int .i64 a1_0, .int .i64 a1_1] 44 (0, 0)) (by (with_reducible repeat (first | refine blk_drewN ?_ _ | refine blk_drew ?_ | refine blk_alloc ?_ _)); exact BK127.out) hb); have n2_ := Aside0.mk (below_step (by repeat (first | (with_reducible first | exact HB.out | apply below_alloc | apply pw_below_drewN | apply below_drew1 | refine below_set ?_ GE126.out | refine below_set ?_ GE127.out) | exact HB.out)) hb); have n3_ := Aside0.mk (hbox); have n4_ := Aside0.mk ((by rw [hg]; exact (below_size (by repeat (first | (with_reducible first | exact HB.out | apply below_alloc | apply pw_below_drewN | apply below_drew1 | refine below_set ?_ GE126.out | refine below_set ?_ GE127.out) | exact HB.out))) : w.heap.size ≤ gb128)); have n5_ := Aside0.mk ((by rw [hg]; exact (below_size (by repeat (first | (with_reducible first | exact HB.out | apply below_alloc | apply pw_below_drewN | apply below_drew1 | refine below_set ?_ GE126.out | refine below_set ?_ GE127.out) | exact HB.out))) : w.heap.size ≤ gb128)); have n6_ := Aside0.mk ((by rw [hg]; exact Nat.ne_of_lt (blk_lt (g := gb126) (o := .cells #[.int .i64 a0_0, .int .i64 a0_1] 44 (0, 0)) (by (with_reducible repeat (first | refine blk_drewN ?_ _ | refine blk_drew ?_ | refine blk_alloc ?_ _)); exact BK126.out)) : gb126 ≠ gb128)); have n7_ := Aside0.mk ((by rw [hg]; exact Nat.ne_of_gt (blk_lt (g := gb126) (o := .cells #[.int .i64 a0_0, .int .i64 a0_1] 44 (0, 0)) (by (with_reducible repeat (first | refine blk_drewN ?_ _ | refine blk_drew ?_ | refine blk_alloc ?_ _)); exact BK126.out)) : gb128 ≠ gb126)); have n8_ := Aside0.mk ((by rw [hg]; exact Nat.ne_of_lt (blk_lt (g := gb127) (o := .cells #[.int .i64 a1_0, .int .i64 a1_1] 44 (0, 0)) (by (with_reducible repeat (first | refine blk_drewN ?_ _ | refine blk_drew ?_ | refine blk_alloc ?_ _)); exact BK127.out)) : gb127 ≠ gb128)); have n9_ := Aside0.mk ((by rw [hg]; exact Nat.ne_of_gt (blk_lt (g := gb127) (o := .cells #[.int .i64 a1_0, .int .i64 a1_1] 44 (0, 0)) (by (with_reducible repeat (first | refine blk_drewN ?_ _ | refine blk_drew ?_ | refine blk_alloc ?_ _)); exact BK127.out)) : gb128 ≠ gb127)); clear BK126; clear BK127; clear HB; have BK126 := n0_; have BK127 := n1_; have HB := n2_; have BK128 := n3_; have GW128 := n4_; have GE128 := n5_; have NB126_128 := n6_; have NB128_126 := n7_; have NB127_128 := n8_; have NB128_127 := n9_; clear n0_ n1_ n2_ n3_ n4_ n5_ n6_ n7_ n8_ n9_; clear hb hbox hg) | ((with_reducible refine gate_dst (N := 7) rfl ?_); refine box_event ?hg (N := 7) ?hd (cs := #[.int .i64 a3_0, .int .i64 a3_1]) (t := 44) ?hr ?_; (case hd => rfl); (case hg => rfl); (case hr => first | (go_simp; done) | (go_simp; rfl)); intro gb129 hg w9 hbox hb; have n0_ := Aside0.mk (blk_below (g := gb126) (o := .cells #[.int .i64 a0_0, .int .i64 a0_1] 44 (0, 0)) (by (with_reducible repeat (first | refine blk_drewN ?_ _ | refine blk_drew ?_ | refine blk_alloc ?_ _)); exact BK126.out) hb); have n1_ := Aside0.mk (blk_below (g := gb127) (o := .cells #[.int .i64 a1_0, .int .i64 a1_1] 44 (0, 0)) (by (with_reducible repeat (first | refine blk_drewN ?_ _ | refine blk_drew ?_ | refine blk_alloc ?_ _)); exact BK127.out) hb); have n2_ := Aside0.mk (blk_below (g := gb128) (o := .cells #[.int .i64 a2_0, .int .i64 a2_1] 44 (0, 0)) (by (with_reducible repeat (first | refine blk_drewN ?_ _ | refine blk_drew ?_ | refine blk_alloc ?_ _)); exact BK128.out) hb); have n3_ := Aside0.mk (below_step (by repeat (first | (with_reducible first | exact HB.out | apply below_alloc | apply pw_below_drewN | apply below_drew1 | refine below_set ?_ GE126.out | refine below_set ?_ GE127.out | refine below_set ?_ GE128.out) | exact HB.out)) hb); have n4_ := Aside0.mk (hbox); have n5_ := Aside0.mk ((by rw [hg]; exact (below_size (by repeat (first | (with_reducible first | exact HB.out | apply below_alloc | apply pw_below_drewN | apply below_drew1 | refine below_set ?_ GE126.out | refine below_set ?_ GE127.out | refine below_set ?_ GE128.out) | exact HB.out))) : w.heap.size ≤ gb129)); have n6_ := Aside0.mk ((by rw [hg]; exact (below_size (by repeat (first | (with_reducible first | exact HB.out | apply below_alloc | apply pw_below_drewN | apply below_drew1 | refine below_set ?_ GE126.out | refine below_set ?_ GE127.out | refine below_set ?_ GE128.out) | exact HB.out))) : w.heap.size ≤ gb129)); have n7_ := Aside0.mk ((by rw [hg]; exact Nat.ne_of_lt (blk_lt (g := gb126) (o := .cells #[.int .i64 a0_0, .int .i64 a0_1] 44 (0, 0)) (by (with_reducible repeat (first | refine blk_drewN ?_ _ | refine blk_drew ?_ | refine blk_alloc ?_ _)); exact BK126.out)) : gb126 ≠ gb129)); have n8_ := Aside0.mk ((by rw [hg]; exact Nat.ne_of_gt (blk_lt (g := gb126) (o := .cells #[.int .i64 a0_0, .int .i64 a0_1] 44 (0, 0)) (by (with_reducible repeat (first | refine blk_drewN ?_ _ | refine blk_drew ?_ | refine blk_alloc ?_ _)); exact BK126.out)) : gb129 ≠ gb126)); have n9_ := Aside0.mk ((by rw [hg]; exact Nat.ne_of_lt (blk_lt (g := gb127) (o := .cells #[.int .i64 a1_0, .int .i64 a1_1] 44 (0, 0)) (by (with_reducible repeat (first | refine blk_drewN ?_ _ | refine blk_drew ?_ | refine blk_alloc ?_ _)); exact BK127.out)) : gb127 ≠ gb129)); have n10_ := Aside0.mk ((by rw [hg]; exact Nat.ne_of_gt (blk_lt (g := gb127) (o := .cells #[.int .i64 a1_0, .int .i64 a1_1] 44 (0, 0)) (by (with_reducible repeat (first | refine blk_drewN ?_ _ | refine blk_drew ?_ | refine blk_alloc ?_ _)); exact BK127.out)) : gb129 ≠ gb127)); have n11_ := Aside0.mk ((by rw [hg]; exact Nat.ne_of_lt (blk_lt (g := gb128) (o := .cells #[.int .i64 a2_0, .int .i64 a2_1] 44 (0, 0)) (by (with_reducible repeat (first | refine blk_drewN ?_ _ | refine blk_drew ?_ | refine blk_alloc ?_ _)); exact BK128.out)) : gb128 ≠ gb129)); have n12_ := Aside0.mk ((by rw [hg]; exact Nat.ne_of_gt (blk_lt (g := gb128) (o := .cells #[.int .i64 a2_0, .int .i64 a2_1] 44 (0, 0)) (by (with_reducible repeat (first | refine blk_drewN ?_ _ | refine blk_drew ?_ | refine blk_alloc ?_ _)); exact BK128.out)) : gb129 ≠ gb128)); clear BK126; clear BK127; clear BK128; clear HB; have BK126 := n0_; have BK127 := n1_; have BK128 := n2_; have HB := n3_; have BK129 := n4_; have GW129 := n5_; have GE129 := n6_; have NB126_129 := n7_; have NB129_126 := n8_; have NB127_129 := n9_; have NB129_127 := n10_; have NB128_129 := n11_; have NB129_128 := n12_; clear n0_ n1_ n2_ n3_ n4_ n5_ n6_ n7_ n8_ n9_ n10_ n11_ n12_; clear hb hbox hg))
  (try simp only [Act.put, List.setIfInBounds_toArray, List.set_cons_zero, List.set_cons_succ])
  go_cut [] (fun wc => ∃ (kq : Nat), Aside0 (screen_touch.j3 kq a0_0 a0_1 a1_0 a1_1 a2_0 a2_1 a3_0 a3_1 = some r) ∧ Aside0 (kq ≤ k) ∧ Aside0 (wc.heap[gb126]? = some (.cells #[.int .i64 a0_0, .int .i64 a0_1] 44 (0, 0))) ∧ Aside0 (wc.heap[gb127]? = some (.cells #[.int .i64 a1_0, .int .i64 a1_1] 44 (0, 0))) ∧ Aside0 (wc.heap[gb128]? = some (.cells #[.int .i64 a2_0, .int .i64 a2_1] 44 (0, 0))) ∧ Aside0 (wc.heap[gb129]? = some (.cells #[.int .i64 a3_0, .int .i64 a3_1] 44 (0, 0))) ∧ Aside0 (Below w.heap.size w wc))
  case first =>
    have H := HC5.out
    clear HC5
    have HC10 := Aside0.mk H
    clear H
    go_upto_region 1 with (fail)
    go_cut [9] (fun v9 wc => ∃ (kq : Nat) (x9_9 : Bool), v9 = .bool x9_9 ∧ Aside0 (screen_touch.j0 kq x9_9 a0_0 a0_1 a1_0 a1_1 a2_0 a2_1 a3_0 a3_1 = some r) ∧ Aside0 (kq ≤ k) ∧ Aside0 (wc.heap[gb126]? = some (.cells #[.int .i64 a0_0, .int .i64 a0_1] 44 (0, 0))) ∧ Aside0 (wc.heap[gb127]? = some (.cells #[.int .i64 a1_0, .int .i64 a1_1] 44 (0, 0))) ∧ Aside0 (wc.heap[gb128]? = some (.cells #[.int .i64 a2_0, .int .i64 a2_1] 44 (0, 0))) ∧ Aside0 (wc.heap[gb129]? = some (.cells #[.int .i64 a3_0, .int .i64 a3_1] 44 (0, 0))) ∧ Aside0 (Below w.heap.size w wc))
    case first =>
      have H := HC10.out
      clear HC10
      replace H := Option.bind_eq_some_iff.mp H
      obtain ⟨t130, A110, H⟩ := H
      replace H : (if t130 = 0 then ((screen_between.f a0_0 a0_1 a1_0 a1_1 a2_0 a2_1).bind fun t131 => (screen_touch.j0 k t131 a0_0 a0_1 a1_0 a1_1 a2_0 a2_1 a3_0 a3_1)) else (screen_touch.j0 k false a0_0 a0_1 a1_0 a1_1 a2_0 a2_1 a3_0 a3_1)) = some r := H
      have A11 := Aside0.mk A110
      clear A110
      by_cases c12 : t130 = 0
      · rw [if_pos c12] at H
        have c12b0 : (t130 == 0) = true := beq_iff_eq.mpr c12
        have c12b1 : (t130 != 0) = false := bne_eq_false_iff_eq.mpr c12
        clear c12
        (first | rw [c12b0] | (simp only [i64_w, i32_w]; rw [c12b0]) | skip)
        replace H := Option.bind_eq_some_iff.mp H
        obtain ⟨t131, A130, H⟩ := H
        replace H : (screen_touch.j0 k t131 a0_0 a0_1 a1_0 a1_1 a2_0 a2_1 a3_0 a3_1) = some r := H
        have A13 := Aside0.mk A130
        clear A130
        have H' := Aside0.mk H
        clear H
        have hnb14 := NB126_127.out
        have hnc14 := NB127_126.out
        have hnb15 := NB126_128.out
        have hnc15 := NB128_126.out
        have hnb16 := NB126_129.out
        have hnc16 := NB129_126.out
        have hcz17_0 : w9.cell? ⟨gb126, 0, none⟩ = some (.int .i64 a0_0) := (blk_cell BK126.out 0).trans rfl
        have hcz17_1 : w9.cell? ⟨gb126, 1, none⟩ = some (.int .i64 a0_1) := (blk_cell BK126.out 1).trans rfl
        have hfz17_0 := blk_frozen BK126.out 0
        have hfz17_1 := blk_frozen BK126.out 1
        have hnb18 := NB127_128.out
        have hnc18 := NB128_127.out
        have hnb19 := NB127_129.out
        have hnc19 := NB129_127.out
        have hcz20_0 : w9.cell? ⟨gb127, 0, none⟩ = some (.int .i64 a1_0) := (blk_cell BK127.out 0).trans rfl
        have hcz20_1 : w9.cell? ⟨gb127, 1, none⟩ = some (.int .i64 a1_1) := (blk_cell BK127.out 1).trans rfl
        have hfz20_0 := blk_frozen BK127.out 0
        have hfz20_1 := blk_frozen BK127.out 1
        have hnb21 := NB128_129.out
        have hnc21 := NB129_128.out
        have hcz22_0 : w9.cell? ⟨gb128, 0, none⟩ = some (.int .i64 a2_0) := (blk_cell BK128.out 0).trans rfl
        have hcz22_1 : w9.cell? ⟨gb128, 1, none⟩ = some (.int .i64 a2_1) := (blk_cell BK128.out 1).trans rfl
        have hfz22_0 := blk_frozen BK128.out 0
        have hfz22_1 := blk_frozen BK128.out 1
        go_wp2_with (first | ((with_reducible refine gate_callee (f := 83) rfl ?_); refine goesL_ (some 13) rfl rfl Tryd.func83 (by kernel_rfl) rfl #[.agg #[.int .i64 a0_0, .int .i64 a0_1], .agg #[.int .i64 a1_0, .int .i64 a1_1], .agg #[.int .i64 a2_0, .int .i64 a2_1]] rfl (by (try simp only [List.map_toArray, List.map_cons, List.map_nil]); first | done | rfl | (simp only [List.length_drop, List.length_take]; rfl)) ?_; (with_reducible refine (screen_side.calls a0_0 a0_1 a1_0 a1_1 a2_0 a2_1 t130 _ A11.out).mono ?_); rintro e w23 ⟨rfl, hb⟩; refine ⟨_, rfl, ?_⟩; have n0_ := Aside0.mk (blk_below (g := gb126) (o := .cells #[.int .i64 a0_0, .int .i64 a0_1] 44 (0, 0)) (by (with_reducible repeat (first | refine blk_drewN ?_ _ | refine blk_drew ?_ | refine blk_alloc ?_ _)); exact BK126.out) hb); have n1_ := Aside0.mk (blk_below (g := gb127) (o := .cells #[.int .i64 a1_0, .int .i64 a1_1] 44 (0, 0)) (by (with_reducible repeat (first | refine blk_drewN ?_ _ | refine blk_drew ?_ | refine blk_alloc ?_ _)); exact BK127.out) hb); have n2_ := Aside0.mk (blk_below (g := gb128) (o := .cells #[.int .i64 a2_0, .int .i64 a2_1] 44 (0, 0)) (by (with_reducible repeat (first | refine blk_drewN ?_ _ | refine blk_drew ?_ | refine blk_alloc ?_ _)); exact BK128.out) hb); have n3_ := Aside0.mk (blk_below (g := gb129) (o := .cells #[.int .i64 a3_0, .int .i64 a3_1] 44 (0, 0)) (by (with_reducible repeat (first | refine blk_drewN ?_ _ | refine blk_drew ?_ | refine blk_alloc ?_ _)); exact BK129.out) hb); have n4_ := Aside0.mk (below_step (by repeat (first | (with_reducible first | exact HB.out | apply below_alloc | apply pw_below_drewN | apply below_drew1 | refine below_set ?_ GE126.out | refine below_set ?_ GE127.out | refine below_set ?_ GE128.out | refine below_set ?_ GE129.out) | exact HB.out)) hb); clear BK126; clear BK127; clear BK128; clear BK129; clear HB; have BK126 := n0_; have BK127 := n1_; have BK128 := n2_; have BK129 := n3_; have HB := n4_; clear n0_ n1_ n2_ n3_ n4_; (try clear hb); (try clear hb2); (try clear hk); (try clear hi); have hcz24_0 : w23.cell? ⟨gb126, 0, none⟩ = some (.int .i64 a0_0) := (blk_cell BK126.out 0).trans rfl; have hcz24_1 : w23.cell? ⟨gb126, 1, none⟩ = some (.int .i64 a0_1) := (blk_cell BK126.out 1).trans rfl; have hfz24_0 := blk_frozen BK126.out 0; have hfz24_1 := blk_frozen BK126.out 1; have hcz25_0 : w23.cell? ⟨gb127, 0, none⟩ = some (.int .i64 a1_0) := (blk_cell BK127.out 0).trans rfl; have hcz25_1 : w23.cell? ⟨gb127, 1, none⟩ = some (.int .i64 a1_1) := (blk_cell BK127.out 1).trans rfl; have hfz25_0 := blk_frozen BK127.out 0; have hfz25_1 := blk_frozen BK127.out 1; have hcz26_0 : w23.cell? ⟨gb128, 0, none⟩ = some (.int .i64 a2_0) := (blk_cell BK128.out 0).trans rfl; have hcz26_1 : w23.cell? ⟨gb128, 1, none⟩ = some (.int .i64 a2_1) := (blk_cell BK128.out 1).trans rfl; have hfz26_0 := blk_frozen BK128.out 0; have hfz26_1 := blk_frozen BK128.out 1) | (go_at_call 84; (with_reducible refine (screen_between.calls a0_0 a0_1 a1_0 a1_1 a2_0 a2_1 t131 _ A13.out).mono ?_); rintro e w27 ⟨rfl, hb⟩; have n0_ := Aside0.mk (blk_below (g := gb126) (o := .cells #[.int .i64 a0_0, .int .i64 a0_1] 44 (0, 0)) (by (with_reducible repeat (first | refine blk_drewN ?_ _ | refine blk_drew ?_ | refine blk_alloc ?_ _)); exact BK126.out) hb); have n1_ := Aside0.mk (blk_below (g := gb127) (o := .cells #[.int .i64 a1_0, .int .i64 a1_1] 44 (0, 0)) (by (with_reducible repeat (first | refine blk_drewN ?_ _ | refine blk_drew ?_ | refine blk_alloc ?_ _)); exact BK127.out) hb); have n2_ := Aside0.mk (blk_below (g := gb128) (o := .cells #[.int .i64 a2_0, .int .i64 a2_1] 44 (0, 0)) (by (with_reducible repeat (first | refine blk_drewN ?_ _ | refine blk_drew ?_ | refine blk_alloc ?_ _)); exact BK128.out) hb); have n3_ := Aside0.mk (blk_below (g := gb129) (o := .cells #[.int .i64 a3_0, .int .i64 a3_1] 44 (0, 0)) (by (with_reducible repeat (first | refine blk_drewN ?_ _ | refine blk_drew ?_ | refine blk_alloc ?_ _)); exact BK129.out) hb); have n4_ := Aside0.mk (below_step (by repeat (first | (with_reducible first | exact HB.out | apply below_alloc | apply pw_below_drewN | apply below_drew1 | refine below_set ?_ GE126.out | refine below_set ?_ GE127.out | refine below_set ?_ GE128.out | refine below_set ?_ GE129.out) | exact HB.out)) hb); clear BK126; clear BK127; clear BK128; clear BK129; clear HB; have BK126 := n0_; have BK127 := n1_; have BK128 := n2_; have BK129 := n3_; have HB := n4_; clear n0_ n1_ n2_ n3_ n4_; (try clear hb); (try clear hb2); (try clear hk); (try clear hi)))
        go_meet
        case rel => exact ⟨_, (t131), (by first | rfl | (simp; done) | (simp [*]; done)), H', ⟨by first | omega | exact Nat.le_refl _⟩, ⟨by (with_reducible repeat (first | refine blk_drewN ?_ _ | refine blk_drew ?_ | refine blk_alloc ?_ _)); exact BK126.out⟩, ⟨by (with_reducible repeat (first | refine blk_drewN ?_ _ | refine blk_drew ?_ | refine blk_alloc ?_ _)); exact BK127.out⟩, ⟨by (with_reducible repeat (first | refine blk_drewN ?_ _ | refine blk_drew ?_ | refine blk_alloc ?_ _)); exact BK128.out⟩, ⟨by (with_reducible repeat (first | refine blk_drewN ?_ _ | refine blk_drew ?_ | refine blk_alloc ?_ _)); exact BK129.out⟩, ⟨by repeat (first | (with_reducible first | exact HB.out | apply below_alloc | apply pw_below_drewN | apply below_drew1 | refine below_set ?_ GE126.out | refine below_set ?_ GE127.out | refine below_set ?_ GE128.out | refine below_set ?_ GE129.out) | exact HB.out)⟩⟩
      · rw [if_neg c12] at H
        have c12b0 : (t130 == 0) = false := beq_eq_false_iff_ne.mpr c12
        have c12b1 : (t130 != 0) = true := bne_iff_ne.mpr c12
        (first | rw [c12b0] | (simp only [i64_w, i32_w]; rw [c12b0]) | skip)
        have H' := Aside0.mk H
        clear H
        have hnb28 := NB126_127.out
        have hnc28 := NB127_126.out
        have hnb29 := NB126_128.out
        have hnc29 := NB128_126.out
        have hnb30 := NB126_129.out
        have hnc30 := NB129_126.out
        have hcz31_0 : w9.cell? ⟨gb126, 0, none⟩ = some (.int .i64 a0_0) := (blk_cell BK126.out 0).trans rfl
        have hcz31_1 : w9.cell? ⟨gb126, 1, none⟩ = some (.int .i64 a0_1) := (blk_cell BK126.out 1).trans rfl
        have hfz31_0 := blk_frozen BK126.out 0
        have hfz31_1 := blk_frozen BK126.out 1
        have hnb32 := NB127_128.out
        have hnc32 := NB128_127.out
        have hnb33 := NB127_129.out
        have hnc33 := NB129_127.out
        have hcz34_0 : w9.cell? ⟨gb127, 0, none⟩ = some (.int .i64 a1_0) := (blk_cell BK127.out 0).trans rfl
        have hcz34_1 : w9.cell? ⟨gb127, 1, none⟩ = some (.int .i64 a1_1) := (blk_cell BK127.out 1).trans rfl
        have hfz34_0 := blk_frozen BK127.out 0
        have hfz34_1 := blk_frozen BK127.out 1
        have hnb35 := NB128_129.out
        have hnc35 := NB129_128.out
        have hcz36_0 : w9.cell? ⟨gb128, 0, none⟩ = some (.int .i64 a2_0) := (blk_cell BK128.out 0).trans rfl
        have hcz36_1 : w9.cell? ⟨gb128, 1, none⟩ = some (.int .i64 a2_1) := (blk_cell BK128.out 1).trans rfl
        have hfz36_0 := blk_frozen BK128.out 0
        have hfz36_1 := blk_frozen BK128.out 1
        go_wp2_with (first | ((with_reducible refine gate_callee (f := 83) rfl ?_); refine goesL_ (some 13) rfl rfl Tryd.func83 (by kernel_rfl) rfl #[.agg #[.int .i64 a0_0, .int .i64 a0_1], .agg #[.int .i64 a1_0, .int .i64 a1_1], .agg #[.int .i64 a2_0, .int .i64 a2_1]] rfl (by (try simp only [List.map_toArray, List.map_cons, List.map_nil]); first | done | rfl | (simp only [List.length_drop, List.length_take]; rfl)) ?_; (with_reducible refine (screen_side.calls a0_0 a0_1 a1_0 a1_1 a2_0 a2_1 t130 _ A11.out).mono ?_); rintro e w37 ⟨rfl, hb⟩; refine ⟨_, rfl, ?_⟩; have n0_ := Aside0.mk (blk_below (g := gb126) (o := .cells #[.int .i64 a0_0, .int .i64 a0_1] 44 (0, 0)) (by (with_reducible repeat (first | refine blk_drewN ?_ _ | refine blk_drew ?_ | refine blk_alloc ?_ _)); exact BK126.out) hb); have n1_ := Aside0.mk (blk_below (g := gb127) (o := .cells #[.int .i64 a1_0, .int .i64 a1_1] 44 (0, 0)) (by (with_reducible repeat (first | refine blk_drewN ?_ _ | refine blk_drew ?_ | refine blk_alloc ?_ _)); exact BK127.out) hb); have n2_ := Aside0.mk (blk_below (g := gb128) (o := .cells #[.int .i64 a2_0, .int .i64 a2_1] 44 (0, 0)) (by (with_reducible repeat (first | refine blk_drewN ?_ _ | refine blk_drew ?_ | refine blk_alloc ?_ _)); exact BK128.out) hb); have n3_ := Aside0.mk (blk_below (g := gb129) (o := .cells #[.int .i64 a3_0, .int .i64 a3_1] 44 (0, 0)) (by (with_reducible repeat (first | refine blk_drewN ?_ _ | refine blk_drew ?_ | refine blk_alloc ?_ _)); exact BK129.out) hb); have n4_ := Aside0.mk (below_step (by repeat (first | (with_reducible first | exact HB.out | apply below_alloc | apply pw_below_drewN | apply below_drew1 | refine below_set ?_ GE126.out | refine below_set ?_ GE127.out | refine below_set ?_ GE128.out | refine below_set ?_ GE129.out) | exact HB.out)) hb); clear BK126; clear BK127; clear BK128; clear BK129; clear HB; have BK126 := n0_; have BK127 := n1_; have BK128 := n2_; have BK129 := n3_; have HB := n4_; clear n0_ n1_ n2_ n3_ n4_; (try clear hb); (try clear hb2); (try clear hk); (try clear hi)))
        go_meet
        case rel => exact ⟨_, (false), (by first | rfl | (simp; done) | (simp [*]; done)), H', ⟨by first | omega | exact Nat.le_refl _⟩, ⟨by (with_reducible repeat (first | refine blk_drewN ?_ _ | refine blk_drew ?_ | refine blk_alloc ?_ _)); exact BK126.out⟩, ⟨by (with_reducible repeat (first | refine blk_drewN ?_ _ | refine blk_drew ?_ | refine blk_alloc ?_ _)); exact BK127.out⟩, ⟨by (with_reducible repeat (first | refine blk_drewN ?_ _ | refine blk_drew ?_ | refine blk_alloc ?_ _)); exact BK128.out⟩, ⟨by (with_reducible repeat (first | refine blk_drewN ?_ _ | refine blk_drew ?_ | refine blk_alloc ?_ _)); exact BK129.out⟩, ⟨by repeat (first | (with_reducible first | exact HB.out | apply below_alloc | apply pw_below_drewN | apply below_drew1 | refine below_set ?_ GE126.out | refine below_set ?_ GE127.out | refine below_set ?_ GE128.out | refine below_set ?_ GE129.out) | exact HB.out)⟩⟩
    case rest =>
      clear HC10
      try clear c1
      try clear c2
      try clear p2
      try clear c3
      try clear c5
      try clear c8
      try clear c12
      try clear c12b0
      try clear c12b1
      try clear c14
      try clear c15
      try clear c16
      try clear c18
      try clear c19
      try clear c21
      try clear c28
      try clear c29
      try clear c30
      try clear c32
      try clear c33
      try clear c35
      try clear hcz17_0
      try clear hcz17_1
      try clear hcz20_0
      try clear hcz20_1
      try clear hcz22_0
      try clear hcz22_1
      try clear hcz24_0
      try clear hcz24_1
      try clear hcz25_0
      try clear hcz25_1
      try clear hcz26_0
      try clear hcz26_1
      try clear hcz31_0
      try clear hcz31_1
      try clear hcz34_0
      try clear hcz34_1
      try clear hcz36_0
      try clear hcz36_1
      try clear hfz17_0
      try clear hfz17_1
      try clear hfz20_0
      try clear hfz20_1
      try clear hfz22_0
      try clear hfz22_1
      try clear hfz24_0
      try clear hfz24_1
      try clear hfz25_0
      try clear hfz25_1
      try clear hfz26_0
      try clear hfz26_1
      try clear hfz31_0
      try clear hfz31_1
      try clear hfz34_0
      try clear hfz34_1
      try clear hfz36_0
      try clear hfz36_1
      obtain ⟨kq, x9_9, rfl, HA, HJ9, BK126, BK127, BK128, BK129, HB⟩ := hcut
      cases kq with
      | zero => exact absurd HA.out (by simp [screen_touch.j0])
      | succ kj9 =>
        have H := HA.out
        clear HA
        simp only [screen_touch.j0] at H
        by_cases c38 : x9_9 = true
        · subst c38
          have H1 : (some true) = some r := by rw [if_pos rfl] at H; exact H
          clear H
          have H := H1
          clear H1
          obtain rfl := Option.some.inj H
          go_wp2
          go_ret
          exact ⟨by first | rfl | (simp [errW_none, errW_some] <;> rfl) | (simp [*, errW_none, errW_some] <;> rfl), by repeat (first | (with_reducible first | exact HB.out | apply below_alloc | apply pw_below_drewN | apply below_drew1 | refine below_set ?_ GE126.out | refine below_set ?_ GE127.out | refine below_set ?_ GE128.out | refine below_set ?_ GE129.out) | exact HB.out)⟩
        · replace c38 := Bool.eq_false_iff.mpr c38
          subst c38
          have H1 : ((screen_side.f a0_0 a0_1 a1_0 a1_1 a3_0 a3_1).bind fun t132 => (if t132 = 0 then ((screen_between.f a0_0 a0_1 a1_0 a1_1 a3_0 a3_1).bind fun t133 => (screen_touch.j1 kj9 t133 a0_0 a0_1 a1_0 a1_1 a2_0 a2_1 a3_0 a3_1)) else (screen_touch.j1 kj9 false a0_0 a0_1 a1_0 a1_1 a2_0 a2_1 a3_0 a3_1))) = some r := by rw [if_neg (show ¬ (false = true) by decide)] at H; exact H
          clear H
          have H := H1
          clear H1
          have HC39 := Aside0.mk H
          clear H
          go_upto_region 2 with (fail)
          go_cut [9] (fun v9 wc => ∃ (kq : Nat) (x9_38 : Bool), v9 = .bool x9_38 ∧ Aside0 (screen_touch.j1 kq x9_38 a0_0 a0_1 a1_0 a1_1 a2_0 a2_1 a3_0 a3_1 = some r) ∧ Aside0 (kq ≤ kj9) ∧ Aside0 (wc.heap[gb126]? = some (.cells #[.int .i64 a0_0, .int .i64 a0_1] 44 (0, 0))) ∧ Aside0 (wc.heap[gb127]? = some (.cells #[.int .i64 a1_0, .int .i64 a1_1] 44 (0, 0))) ∧ Aside0 (wc.heap[gb128]? = some (.cells #[.int .i64 a2_0, .int .i64 a2_1] 44 (0, 0))) ∧ Aside0 (wc.heap[gb129]? = some (.cells #[.int .i64 a3_0, .int .i64 a3_1] 44 (0, 0))) ∧ Aside0 (Below w.heap.size w wc))
          case first =>
            have H := HC39.out
            clear HC39
            replace H := Option.bind_eq_some_iff.mp H
            obtain ⟨t132, A400, H⟩ := H
            replace H : (if t132 = 0 then ((screen_between.f a0_0 a0_1 a1_0 a1_1 a3_0 a3_1).bind fun t133 => (screen_touch.j1 kj9 t133 a0_0 a0_1 a1_0 a1_1 a2_0 a2_1 a3_0 a3_1)) else (screen_touch.j1 kj9 false a0_0 a0_1 a1_0 a1_1 a2_0 a2_1 a3_0 a3_1)) = some r := H
            have A40 := Aside0.mk A400
            clear A400
            by_cases c41 : t132 = 0
            · rw [if_pos c41] at H
              have c41b0 : (t132 == 0) = true := beq_iff_eq.mpr c41
              have c41b1 : (t132 != 0) = false := bne_eq_false_iff_eq.mpr c41
              clear c41
              (first | rw [c41b0] | (simp only [i64_w, i32_w]; rw [c41b0]) | skip)
              replace H := Option.bind_eq_some_iff.mp H
              obtain ⟨t133, A420, H⟩ := H
              replace H : (screen_touch.j1 kj9 t133 a0_0 a0_1 a1_0 a1_1 a2_0 a2_1 a3_0 a3_1) = some r := H
              have A42 := Aside0.mk A420
              clear A420
              have H' := Aside0.mk H
              clear H
              have hnb43 := NB126_127.out
              have hnc43 := NB127_126.out
              have hnb44 := NB126_128.out
              have hnc44 := NB128_126.out
              have hnb45 := NB126_129.out
              have hnc45 := NB129_126.out
              have hcz46_0 : wc.cell? ⟨gb126, 0, none⟩ = some (.int .i64 a0_0) := (blk_cell BK126.out 0).trans rfl
              have hcz46_1 : wc.cell? ⟨gb126, 1, none⟩ = some (.int .i64 a0_1) := (blk_cell BK126.out 1).trans rfl
              have hfz46_0 := blk_frozen BK126.out 0
              have hfz46_1 := blk_frozen BK126.out 1
              have hnb47 := NB127_128.out
              have hnc47 := NB128_127.out
              have hnb48 := NB127_129.out
              have hnc48 := NB129_127.out
              have hcz49_0 : wc.cell? ⟨gb127, 0, none⟩ = some (.int .i64 a1_0) := (blk_cell BK127.out 0).trans rfl
              have hcz49_1 : wc.cell? ⟨gb127, 1, none⟩ = some (.int .i64 a1_1) := (blk_cell BK127.out 1).trans rfl
              have hfz49_0 := blk_frozen BK127.out 0
              have hfz49_1 := blk_frozen BK127.out 1
              have hnb50 := NB129_128.out
              have hnc50 := NB128_129.out
              have hcz51_0 : wc.cell? ⟨gb129, 0, none⟩ = some (.int .i64 a3_0) := (blk_cell BK129.out 0).trans rfl
              have hcz51_1 : wc.cell? ⟨gb129, 1, none⟩ = some (.int .i64 a3_1) := (blk_cell BK129.out 1).trans rfl
              have hfz51_0 := blk_frozen BK129.out 0
              have hfz51_1 := blk_frozen BK129.out 1
              go_wp2_with (first | ((with_reducible refine gate_callee (f := 83) rfl ?_); refine goesL_ (some 24) rfl rfl Tryd.func83 (by kernel_rfl) rfl #[.agg #[.int .i64 a0_0, .int .i64 a0_1], .agg #[.int .i64 a1_0, .int .i64 a1_1], .agg #[.int .i64 a3_0, .int .i64 a3_1]] rfl (by (try simp only [List.map_toArray, List.map_cons, List.map_nil]); first | done | rfl | (simp only [List.length_drop, List.length_take]; rfl)) ?_; (with_reducible refine (screen_side.calls a0_0 a0_1 a1_0 a1_1 a3_0 a3_1 t132 _ A40.out).mono ?_); rintro e w52 ⟨rfl, hb⟩; refine ⟨_, rfl, ?_⟩; have n0_ := Aside0.mk (blk_below (g := gb126) (o := .cells #[.int .i64 a0_0, .int .i64 a0_1] 44 (0, 0)) (by (with_reducible repeat (first | refine blk_drewN ?_ _ | refine blk_drew ?_ | refine blk_alloc ?_ _)); exact BK126.out) hb); have n1_ := Aside0.mk (blk_below (g := gb127) (o := .cells #[.int .i64 a1_0, .int .i64 a1_1] 44 (0, 0)) (by (with_reducible repeat (first | refine blk_drewN ?_ _ | refine blk_drew ?_ | refine blk_alloc ?_ _)); exact BK127.out) hb); have n2_ := Aside0.mk (blk_below (g := gb128) (o := .cells #[.int .i64 a2_0, .int .i64 a2_1] 44 (0, 0)) (by (with_reducible repeat (first | refine blk_drewN ?_ _ | refine blk_drew ?_ | refine blk_alloc ?_ _)); exact BK128.out) hb); have n3_ := Aside0.mk (blk_below (g := gb129) (o := .cells #[.int .i64 a3_0, .int .i64 a3_1] 44 (0, 0)) (by (with_reducible repeat (first | refine blk_drewN ?_ _ | refine blk_drew ?_ | refine blk_alloc ?_ _)); exact BK129.out) hb); have n4_ := Aside0.mk (below_step (by repeat (first | (with_reducible first | exact HB.out | apply below_alloc | apply pw_below_drewN | apply below_drew1 | refine below_set ?_ GE126.out | refine below_set ?_ GE127.out | refine below_set ?_ GE128.out | refine below_set ?_ GE129.out) | exact HB.out)) hb); clear BK126; clear BK127; clear BK128; clear BK129; clear HB; have BK126 := n0_; have BK127 := n1_; have BK128 := n2_; have BK129 := n3_; have HB := n4_; clear n0_ n1_ n2_ n3_ n4_; (try clear hb); (try clear hb2); (try clear hk); (try clear hi); have hcz53_0 : w52.cell? ⟨gb126, 0, none⟩ = some (.int .i64 a0_0) := (blk_cell BK126.out 0).trans rfl; have hcz53_1 : w52.cell? ⟨gb126, 1, none⟩ = some (.int .i64 a0_1) := (blk_cell BK126.out 1).trans rfl; have hfz53_0 := blk_frozen BK126.out 0; have hfz53_1 := blk_frozen BK126.out 1; have hcz54_0 : w52.cell? ⟨gb127, 0, none⟩ = some (.int .i64 a1_0) := (blk_cell BK127.out 0).trans rfl; have hcz54_1 : w52.cell? ⟨gb127, 1, none⟩ = some (.int .i64 a1_1) := (blk_cell BK127.out 1).trans rfl; have hfz54_0 := blk_frozen BK127.out 0; have hfz54_1 := blk_frozen BK127.out 1; have hcz55_0 : w52.cell? ⟨gb129, 0, none⟩ = some (.int .i64 a3_0) := (blk_cell BK129.out 0).trans rfl; have hcz55_1 : w52.cell? ⟨gb129, 1, none⟩ = some (.int .i64 a3_1) := (blk_cell BK129.out 1).trans rfl; have hfz55_0 := blk_frozen BK129.out 0; have hfz55_1 := blk_frozen BK129.out 1) | (go_at_call 84; (with_reducible refine (screen_between.calls a0_0 a0_1 a1_0 a1_1 a3_0 a3_1 t133 _ A42.out).mono ?_); rintro e w56 ⟨rfl, hb⟩; have n0_ := Aside0.mk (blk_below (g := gb126) (o := .cells #[.int .i64 a0_0, .int .i64 a0_1] 44 (0, 0)) (by (with_reducible repeat (first | refine blk_drewN ?_ _ | refine blk_drew ?_ | refine blk_alloc ?_ _)); exact BK126.out) hb); have n1_ := Aside0.mk (blk_below (g := gb127) (o := .cells #[.int .i64 a1_0, .int .i64 a1_1] 44 (0, 0)) (by (with_reducible repeat (first | refine blk_drewN ?_ _ | refine blk_drew ?_ | refine blk_alloc ?_ _)); exact BK127.out) hb); have n2_ := Aside0.mk (blk_below (g := gb128) (o := .cells #[.int .i64 a2_0, .int .i64 a2_1] 44 (0, 0)) (by (with_reducible repeat (first | refine blk_drewN ?_ _ | refine blk_drew ?_ | refine blk_alloc ?_ _)); exact BK128.out) hb); have n3_ := Aside0.mk (blk_below (g := gb129) (o := .cells #[.int .i64 a3_0, .int .i64 a3_1] 44 (0, 0)) (by (with_reducible repeat (first | refine blk_drewN ?_ _ | refine blk_drew ?_ | refine blk_alloc ?_ _)); exact BK129.out) hb); have n4_ := Aside0.mk (below_step (by repeat (first | (with_reducible first | exact HB.out | apply below_alloc | apply pw_below_drewN | apply below_drew1 | refine below_set ?_ GE126.out | refine below_set ?_ GE127.out | refine below_set ?_ GE128.out | refine below_set ?_ GE129.out) | exact HB.out)) hb); clear BK126; clear BK127; clear BK128; clear BK129; clear HB; have BK126 := n0_; have BK127 := n1_; have BK128 := n2_; have BK129 := n3_; have HB := n4_; clear n0_ n1_ n2_ n3_ n4_; (try clear hb); (try clear hb2); (try clear hk); (try clear hi)))
              go_meet
              case rel => exact ⟨_, (t133), (by first | rfl | (simp; done) | (simp [*]; done)), H', ⟨by have := HJ9.out; first | omega | exact Nat.le_refl _⟩, ⟨by (with_reducible repeat (first | refine blk_drewN ?_ _ | refine blk_drew ?_ | refine blk_alloc ?_ _)); exact BK126.out⟩, ⟨by (with_reducible repeat (first | refine blk_drewN ?_ _ | refine blk_drew ?_ | refine blk_alloc ?_ _)); exact BK127.out⟩, ⟨by (with_reducible repeat (first | refine blk_drewN ?_ _ | refine blk_drew ?_ | refine blk_alloc ?_ _)); exact BK128.out⟩, ⟨by (with_reducible repeat (first | refine blk_drewN ?_ _ | refine blk_drew ?_ | refine blk_alloc ?_ _)); exact BK129.out⟩, ⟨by repeat (first | (with_reducible first | exact HB.out | apply below_alloc | apply pw_below_drewN | apply below_drew1 | refine below_set ?_ GE126.out | refine below_set ?_ GE127.out | refine below_set ?_ GE128.out | refine below_set ?_ GE129.out) | exact HB.out)⟩⟩
            · rw [if_neg c41] at H
              have c41b0 : (t132 == 0) = false := beq_eq_false_iff_ne.mpr c41
              have c41b1 : (t132 != 0) = true := bne_iff_ne.mpr c41
              (first | rw [c41b0] | (simp only [i64_w, i32_w]; rw [c41b0]) | skip)
              have H' := Aside0.mk H
              clear H
              have hnb57 := NB126_127.out
              have hnc57 := NB127_126.out
              have hnb58 := NB126_128.out
              have hnc58 := NB128_126.out
              have hnb59 := NB126_129.out
              have hnc59 := NB129_126.out
              have hcz60_0 : wc.cell? ⟨gb126, 0, none⟩ = some (.int .i64 a0_0) := (blk_cell BK126.out 0).trans rfl
              have hcz60_1 : wc.cell? ⟨gb126, 1, none⟩ = some (.int .i64 a0_1) := (blk_cell BK126.out 1).trans rfl
              have hfz60_0 := blk_frozen BK126.out 0
              have hfz60_1 := blk_frozen BK126.out 1
              have hnb61 := NB127_128.out
              have hnc61 := NB128_127.out
              have hnb62 := NB127_129.out
              have hnc62 := NB129_127.out
              have hcz63_0 : wc.cell? ⟨gb127, 0, none⟩ = some (.int .i64 a1_0) := (blk_cell BK127.out 0).trans rfl
              have hcz63_1 : wc.cell? ⟨gb127, 1, none⟩ = some (.int .i64 a1_1) := (blk_cell BK127.out 1).trans rfl
              have hfz63_0 := blk_frozen BK127.out 0
              have hfz63_1 := blk_frozen BK127.out 1
              have hnb64 := NB129_128.out
              have hnc64 := NB128_129.out
              have hcz65_0 : wc.cell? ⟨gb129, 0, none⟩ = some (.int .i64 a3_0) := (blk_cell BK129.out 0).trans rfl
              have hcz65_1 : wc.cell? ⟨gb129, 1, none⟩ = some (.int .i64 a3_1) := (blk_cell BK129.out 1).trans rfl
              have hfz65_0 := blk_frozen BK129.out 0
              have hfz65_1 := blk_frozen BK129.out 1
              go_wp2_with (first | ((with_reducible refine gate_callee (f := 83) rfl ?_); refine goesL_ (some 24) rfl rfl Tryd.func83 (by kernel_rfl) rfl #[.agg #[.int .i64 a0_0, .int .i64 a0_1], .agg #[.int .i64 a1_0, .int .i64 a1_1], .agg #[.int .i64 a3_0, .int .i64 a3_1]] rfl (by (try simp only [List.map_toArray, List.map_cons, List.map_nil]); first | done | rfl | (simp only [List.length_drop, List.length_take]; rfl)) ?_; (with_reducible refine (screen_side.calls a0_0 a0_1 a1_0 a1_1 a3_0 a3_1 t132 _ A40.out).mono ?_); rintro e w66 ⟨rfl, hb⟩; refine ⟨_, rfl, ?_⟩; have n0_ := Aside0.mk (blk_below (g := gb126) (o := .cells #[.int .i64 a0_0, .int .i64 a0_1] 44 (0, 0)) (by (with_reducible repeat (first | refine blk_drewN ?_ _ | refine blk_drew ?_ | refine blk_alloc ?_ _)); exact BK126.out) hb); have n1_ := Aside0.mk (blk_below (g := gb127) (o := .cells #[.int .i64 a1_0, .int .i64 a1_1] 44 (0, 0)) (by (with_reducible repeat (first | refine blk_drewN ?_ _ | refine blk_drew ?_ | refine blk_alloc ?_ _)); exact BK127.out) hb); have n2_ := Aside0.mk (blk_below (g := gb128) (o := .cells #[.int .i64 a2_0, .int .i64 a2_1] 44 (0, 0)) (by (with_reducible repeat (first | refine blk_drewN ?_ _ | refine blk_drew ?_ | refine blk_alloc ?_ _)); exact BK128.out) hb); have n3_ := Aside0.mk (blk_below (g := gb129) (o := .cells #[.int .i64 a3_0, .int .i64 a3_1] 44 (0, 0)) (by (with_reducible repeat (first | refine blk_drewN ?_ _ | refine blk_drew ?_ | refine blk_alloc ?_ _)); exact BK129.out) hb); have n4_ := Aside0.mk (below_step (by repeat (first | (with_reducible first | exact HB.out | apply below_alloc | apply pw_below_drewN | apply below_drew1 | refine below_set ?_ GE126.out | refine below_set ?_ GE127.out | refine below_set ?_ GE128.out | refine below_set ?_ GE129.out) | exact HB.out)) hb); clear BK126; clear BK127; clear BK128; clear BK129; clear HB; have BK126 := n0_; have BK127 := n1_; have BK128 := n2_; have BK129 := n3_; have HB := n4_; clear n0_ n1_ n2_ n3_ n4_; (try clear hb); (try clear hb2); (try clear hk); (try clear hi)))
              go_meet
              case rel => exact ⟨_, (false), (by first | rfl | (simp; done) | (simp [*]; done)), H', ⟨by have := HJ9.out; first | omega | exact Nat.le_refl _⟩, ⟨by (with_reducible repeat (first | refine blk_drewN ?_ _ | refine blk_drew ?_ | refine blk_alloc ?_ _)); exact BK126.out⟩, ⟨by (with_reducible repeat (first | refine blk_drewN ?_ _ | refine blk_drew ?_ | refine blk_alloc ?_ _)); exact BK127.out⟩, ⟨by (with_reducible repeat (first | refine blk_drewN ?_ _ | refine blk_drew ?_ | refine blk_alloc ?_ _)); exact BK128.out⟩, ⟨by (with_reducible repeat (first | refine blk_drewN ?_ _ | refine blk_drew ?_ | refine blk_alloc ?_ _)); exact BK129.out⟩, ⟨by repeat (first | (with_reducible first | exact HB.out | apply below_alloc | apply pw_below_drewN | apply below_drew1 | refine below_set ?_ GE126.out | refine below_set ?_ GE127.out | refine below_set ?_ GE128.out | refine below_set ?_ GE129.out) | exact HB.out)⟩⟩
          case rest =>
            clear HC39
            try clear c1
            try clear c2
            try clear p2
            try clear c3
            try clear c4
            try clear c5
            try clear c6
            try clear c8
            try clear c12
            try clear c12b0
            try clear c12b1
            try clear c14
            try clear c15
            try clear c16
            try clear c18
            try clear c19
            try clear c21
            try clear c28
            try clear c29
            try clear c30
            try clear c32
            try clear c33
            try clear c35
            try clear c38
            try clear c41
            try clear c41b0
            try clear c41b1
            try clear c43
            try clear c44
            try clear c45
            try clear c47
            try clear c48
            try clear c50
            try clear c57
            try clear c58
            try clear c59
            try clear c61
            try clear c62
            try clear c64
            try clear hcz17_0
            try clear hcz17_1
            try clear hcz20_0
            try clear hcz20_1
            try clear hcz22_0
            try clear hcz22_1
            try clear hcz24_0
            try clear hcz24_1
            try clear hcz25_0
            try clear hcz25_1
            try clear hcz26_0
            try clear hcz26_1
            try clear hcz31_0
            try clear hcz31_1
            try clear hcz34_0
            try clear hcz34_1
            try clear hcz36_0
            try clear hcz36_1
            try clear hcz46_0
            try clear hcz46_1
            try clear hcz49_0
            try clear hcz49_1
            try clear hcz51_0
            try clear hcz51_1
            try clear hcz53_0
            try clear hcz53_1
            try clear hcz54_0
            try clear hcz54_1
            try clear hcz55_0
            try clear hcz55_1
            try clear hcz60_0
            try clear hcz60_1
            try clear hcz63_0
            try clear hcz63_1
            try clear hcz65_0
            try clear hcz65_1
            try clear hfz17_0
            try clear hfz17_1
            try clear hfz20_0
            try clear hfz20_1
            try clear hfz22_0
            try clear hfz22_1
            try clear hfz24_0
            try clear hfz24_1
            try clear hfz25_0
            try clear hfz25_1
            try clear hfz26_0
            try clear hfz26_1
            try clear hfz31_0
            try clear hfz31_1
            try clear hfz34_0
            try clear hfz34_1
            try clear hfz36_0
            try clear hfz36_1
            try clear hfz46_0
            try clear hfz46_1
            try clear hfz49_0
            try clear hfz49_1
            try clear hfz51_0
            try clear hfz51_1
            try clear hfz53_0
            try clear hfz53_1
            try clear hfz54_0
            try clear hfz54_1
            try clear hfz55_0
            try clear hfz55_1
            try clear hfz60_0
            try clear hfz60_1
            try clear hfz63_0
            try clear hfz63_1
            try clear hfz65_0
            try clear hfz65_1
            try clear p2
            obtain ⟨kq, x9_38, rfl, HA, HJ38, BK126, BK127, BK128, BK129, HB⟩ := hcut
            cases kq with
            | zero => exact absurd HA.out (by simp [screen_touch.j1])
            | succ kj38 =>
              have H := HA.out
              clear HA
              simp only [screen_touch.j1] at H
              by_cases c67 : x9_38 = true
              · subst c67
                have H1 : (some true) = some r := by rw [if_pos rfl] at H; exact H
                clear H
                have H := H1
                clear H1
                obtain rfl := Option.some.inj H
                go_wp2
                go_ret
                exact ⟨by first | rfl | (simp [errW_none, errW_some] <;> rfl) | (simp [*, errW_none, errW_some] <;> rfl), by repeat (first | (with_reducible first | exact HB.out | apply below_alloc | apply pw_below_drewN | apply below_drew1 | refine below_set ?_ GE126.out | refine below_set ?_ GE127.out | refine below_set ?_ GE128.out | refine below_set ?_ GE129.out) | exact HB.out)⟩
              · replace c67 := Bool.eq_false_iff.mpr c67
                subst c67
                have H1 : ((screen_side.f a2_0 a2_1 a3_0 a3_1 a0_0 a0_1).bind fun t134 => (if t134 = 0 then ((screen_between.f a2_0 a2_1 a3_0 a3_1 a0_0 a0_1).bind fun t135 => (screen_touch.j2 kj38 t135 a0_0 a0_1 a1_0 a1_1 a2_0 a2_1 a3_0 a3_1)) else (screen_touch.j2 kj38 false a0_0 a0_1 a1_0 a1_1 a2_0 a2_1 a3_0 a3_1))) = some r := by rw [if_neg (show ¬ (false = true) by decide)] at H; exact H
                clear H
                have H := H1
                clear H1
                have HC68 := Aside0.mk H
                clear H
                go_upto_region 3 with (fail)
                go_cut [9] (fun v9 wc => ∃ (kq : Nat) (x9_67 : Bool), v9 = .bool x9_67 ∧ Aside0 (screen_touch.j2 kq x9_67 a0_0 a0_1 a1_0 a1_1 a2_0 a2_1 a3_0 a3_1 = some r) ∧ Aside0 (kq ≤ kj38) ∧ Aside0 (wc.heap[gb126]? = some (.cells #[.int .i64 a0_0, .int .i64 a0_1] 44 (0, 0))) ∧ Aside0 (wc.heap[gb127]? = some (.cells #[.int .i64 a1_0, .int .i64 a1_1] 44 (0, 0))) ∧ Aside0 (wc.heap[gb128]? = some (.cells #[.int .i64 a2_0, .int .i64 a2_1] 44 (0, 0))) ∧ Aside0 (wc.heap[gb129]? = some (.cells #[.int .i64 a3_0, .int .i64 a3_1] 44 (0, 0))) ∧ Aside0 (Below w.heap.size w wc))
                case first =>
                  have H := HC68.out
                  clear HC68
                  replace H := Option.bind_eq_some_iff.mp H
                  obtain ⟨t134, A690, H⟩ := H
                  replace H : (if t134 = 0 then ((screen_between.f a2_0 a2_1 a3_0 a3_1 a0_0 a0_1).bind fun t135 => (screen_touch.j2 kj38 t135 a0_0 a0_1 a1_0 a1_1 a2_0 a2_1 a3_0 a3_1)) else (screen_touch.j2 kj38 false a0_0 a0_1 a1_0 a1_1 a2_0 a2_1 a3_0 a3_1)) = some r := H
                  have A69 := Aside0.mk A690
                  clear A690
                  by_cases c70 : t134 = 0
                  · rw [if_pos c70] at H
                    have c70b0 : (t134 == 0) = true := beq_iff_eq.mpr c70
                    have c70b1 : (t134 != 0) = false := bne_eq_false_iff_eq.mpr c70
                    clear c70
                    (first | rw [c70b0] | (simp only [i64_w, i32_w]; rw [c70b0]) | skip)
                    replace H := Option.bind_eq_some_iff.mp H
                    obtain ⟨t135, A710, H⟩ := H
                    replace H : (screen_touch.j2 kj38 t135 a0_0 a0_1 a1_0 a1_1 a2_0 a2_1 a3_0 a3_1) = some r := H
                    have A71 := Aside0.mk A710
                    clear A710
                    have H' := Aside0.mk H
                    clear H
                    have hnb72 := NB128_126.out
                    have hnc72 := NB126_128.out
                    have hnb73 := NB128_127.out
                    have hnc73 := NB127_128.out
                    have hnb74 := NB128_129.out
                    have hnc74 := NB129_128.out
                    have hcz75_0 : wc.cell? ⟨gb128, 0, none⟩ = some (.int .i64 a2_0) := (blk_cell BK128.out 0).trans rfl
                    have hcz75_1 : wc.cell? ⟨gb128, 1, none⟩ = some (.int .i64 a2_1) := (blk_cell BK128.out 1).trans rfl
                    have hfz75_0 := blk_frozen BK128.out 0
                    have hfz75_1 := blk_frozen BK128.out 1
                    have hnb76 := NB129_126.out
                    have hnc76 := NB126_129.out
                    have hnb77 := NB129_127.out
                    have hnc77 := NB127_129.out
                    have hcz78_0 : wc.cell? ⟨gb129, 0, none⟩ = some (.int .i64 a3_0) := (blk_cell BK129.out 0).trans rfl
                    have hcz78_1 : wc.cell? ⟨gb129, 1, none⟩ = some (.int .i64 a3_1) := (blk_cell BK129.out 1).trans rfl
                    have hfz78_0 := blk_frozen BK129.out 0
                    have hfz78_1 := blk_frozen BK129.out 1
                    have hnb79 := NB126_127.out
                    have hnc79 := NB127_126.out
                    have hcz80_0 : wc.cell? ⟨gb126, 0, none⟩ = some (.int .i64 a0_0) := (blk_cell BK126.out 0).trans rfl
                    have hcz80_1 : wc.cell? ⟨gb126, 1, none⟩ = some (.int .i64 a0_1) := (blk_cell BK126.out 1).trans rfl
                    have hfz80_0 := blk_frozen BK126.out 0
                    have hfz80_1 := blk_frozen BK126.out 1
                    go_wp2_with (first | ((with_reducible refine gate_callee (f := 83) rfl ?_); refine goesL_ (some 35) rfl rfl Tryd.func83 (by kernel_rfl) rfl #[.agg #[.int .i64 a2_0, .int .i64 a2_1], .agg #[.int .i64 a3_0, .int .i64 a3_1], .agg #[.int .i64 a0_0, .int .i64 a0_1]] rfl (by (try simp only [List.map_toArray, List.map_cons, List.map_nil]); first | done | rfl | (simp only [List.length_drop, List.length_take]; rfl)) ?_; (with_reducible refine (screen_side.calls a2_0 a2_1 a3_0 a3_1 a0_0 a0_1 t134 _ A69.out).mono ?_); rintro e w81 ⟨rfl, hb⟩; refine ⟨_, rfl, ?_⟩; have n0_ := Aside0.mk (blk_below (g := gb126) (o := .cells #[.int .i64 a0_0, .int .i64 a0_1] 44 (0, 0)) (by (with_reducible repeat (first | refine blk_drewN ?_ _ | refine blk_drew ?_ | refine blk_alloc ?_ _)); exact BK126.out) hb); have n1_ := Aside0.mk (blk_below (g := gb127) (o := .cells #[.int .i64 a1_0, .int .i64 a1_1] 44 (0, 0)) (by (with_reducible repeat (first | refine blk_drewN ?_ _ | refine blk_drew ?_ | refine blk_alloc ?_ _)); exact BK127.out) hb); have n2_ := Aside0.mk (blk_below (g := gb128) (o := .cells #[.int .i64 a2_0, .int .i64 a2_1] 44 (0, 0)) (by (with_reducible repeat (first | refine blk_drewN ?_ _ | refine blk_drew ?_ | refine blk_alloc ?_ _)); exact BK128.out) hb); have n3_ := Aside0.mk (blk_below (g := gb129) (o := .cells #[.int .i64 a3_0, .int .i64 a3_1] 44 (0, 0)) (by (with_reducible repeat (first | refine blk_drewN ?_ _ | refine blk_drew ?_ | refine blk_alloc ?_ _)); exact BK129.out) hb); have n4_ := Aside0.mk (below_step (by repeat (first | (with_reducible first | exact HB.out | apply below_alloc | apply pw_below_drewN | apply below_drew1 | refine below_set ?_ GE126.out | refine below_set ?_ GE127.out | refine below_set ?_ GE128.out | refine below_set ?_ GE129.out) | exact HB.out)) hb); clear BK126; clear BK127; clear BK128; clear BK129; clear HB; have BK126 := n0_; have BK127 := n1_; have BK128 := n2_; have BK129 := n3_; have HB := n4_; clear n0_ n1_ n2_ n3_ n4_; (try clear hb); (try clear hb2); (try clear hk); (try clear hi); have hcz82_0 : w81.cell? ⟨gb128, 0, none⟩ = some (.int .i64 a2_0) := (blk_cell BK128.out 0).trans rfl; have hcz82_1 : w81.cell? ⟨gb128, 1, none⟩ = some (.int .i64 a2_1) := (blk_cell BK128.out 1).trans rfl; have hfz82_0 := blk_frozen BK128.out 0; have hfz82_1 := blk_frozen BK128.out 1; have hcz83_0 : w81.cell? ⟨gb129, 0, none⟩ = some (.int .i64 a3_0) := (blk_cell BK129.out 0).trans rfl; have hcz83_1 : w81.cell? ⟨gb129, 1, none⟩ = some (.int .i64 a3_1) := (blk_cell BK129.out 1).trans rfl; have hfz83_0 := blk_frozen BK129.out 0; have hfz83_1 := blk_frozen BK129.out 1; have hcz84_0 : w81.cell? ⟨gb126, 0, none⟩ = some (.int .i64 a0_0) := (blk_cell BK126.out 0).trans rfl; have hcz84_1 : w81.cell? ⟨gb126, 1, none⟩ = some (.int .i64 a0_1) := (blk_cell BK126.out 1).trans rfl; have hfz84_0 := blk_frozen BK126.out 0; have hfz84_1 := blk_frozen BK126.out 1) | (go_at_call 84; (with_reducible refine (screen_between.calls a2_0 a2_1 a3_0 a3_1 a0_0 a0_1 t135 _ A71.out).mono ?_); rintro e w85 ⟨rfl, hb⟩; have n0_ := Aside0.mk (blk_below (g := gb126) (o := .cells #[.int .i64 a0_0, .int .i64 a0_1] 44 (0, 0)) (by (with_reducible repeat (first | refine blk_drewN ?_ _ | refine blk_drew ?_ | refine blk_alloc ?_ _)); exact BK126.out) hb); have n1_ := Aside0.mk (blk_below (g := gb127) (o := .cells #[.int .i64 a1_0, .int .i64 a1_1] 44 (0, 0)) (by (with_reducible repeat (first | refine blk_drewN ?_ _ | refine blk_drew ?_ | refine blk_alloc ?_ _)); exact BK127.out) hb); have n2_ := Aside0.mk (blk_below (g := gb128) (o := .cells #[.int .i64 a2_0, .int .i64 a2_1] 44 (0, 0)) (by (with_reducible repeat (first | refine blk_drewN ?_ _ | refine blk_drew ?_ | refine blk_alloc ?_ _)); exact BK128.out) hb); have n3_ := Aside0.mk (blk_below (g := gb129) (o := .cells #[.int .i64 a3_0, .int .i64 a3_1] 44 (0, 0)) (by (with_reducible repeat (first | refine blk_drewN ?_ _ | refine blk_drew ?_ | refine blk_alloc ?_ _)); exact BK129.out) hb); have n4_ := Aside0.mk (below_step (by repeat (first | (with_reducible first | exact HB.out | apply below_alloc | apply pw_below_drewN | apply below_drew1 | refine below_set ?_ GE126.out | refine below_set ?_ GE127.out | refine below_set ?_ GE128.out | refine below_set ?_ GE129.out) | exact HB.out)) hb); clear BK126; clear BK127; clear BK128; clear BK129; clear HB; have BK126 := n0_; have BK127 := n1_; have BK128 := n2_; have BK129 := n3_; have HB := n4_; clear n0_ n1_ n2_ n3_ n4_; (try clear hb); (try clear hb2); (try clear hk); (try clear hi)))
                    go_meet
                    case rel => exact ⟨_, (t135), (by first | rfl | (simp; done) | (simp [*]; done)), H', ⟨by have := HJ9.out; have := HJ38.out; first | omega | exact Nat.le_refl _⟩, ⟨by (with_reducible repeat (first | refine blk_drewN ?_ _ | refine blk_drew ?_ | refine blk_alloc ?_ _)); exact BK126.out⟩, ⟨by (with_reducible repeat (first | refine blk_drewN ?_ _ | refine blk_drew ?_ | refine blk_alloc ?_ _)); exact BK127.out⟩, ⟨by (with_reducible repeat (first | refine blk_drewN ?_ _ | refine blk_drew ?_ | refine blk_alloc ?_ _)); exact BK128.out⟩, ⟨by (with_reducible repeat (first | refine blk_drewN ?_ _ | refine blk_drew ?_ | refine blk_alloc ?_ _)); exact BK129.out⟩, ⟨by repeat (first | (with_reducible first | exact HB.out | apply below_alloc | apply pw_below_drewN | apply below_drew1 | refine below_set ?_ GE126.out | refine below_set ?_ GE127.out | refine below_set ?_ GE128.out | refine below_set ?_ GE129.out) | exact HB.out)⟩⟩
                  · rw [if_neg c70] at H
                    have c70b0 : (t134 == 0) = false := beq_eq_false_iff_ne.mpr c70
                    have c70b1 : (t134 != 0) = true := bne_iff_ne.mpr c70
                    (first | rw [c70b0] | (simp only [i64_w, i32_w]; rw [c70b0]) | skip)
                    have H' := Aside0.mk H
                    clear H
                    have hnb86 := NB128_126.out
                    have hnc86 := NB126_128.out
                    have hnb87 := NB128_127.out
                    have hnc87 := NB127_128.out
                    have hnb88 := NB128_129.out
                    have hnc88 := NB129_128.out
                    have hcz89_0 : wc.cell? ⟨gb128, 0, none⟩ = some (.int .i64 a2_0) := (blk_cell BK128.out 0).trans rfl
                    have hcz89_1 : wc.cell? ⟨gb128, 1, none⟩ = some (.int .i64 a2_1) := (blk_cell BK128.out 1).trans rfl
                    have hfz89_0 := blk_frozen BK128.out 0
                    have hfz89_1 := blk_frozen BK128.out 1
                    have hnb90 := NB129_126.out
                    have hnc90 := NB126_129.out
                    have hnb91 := NB129_127.out
                    have hnc91 := NB127_129.out
                    have hcz92_0 : wc.cell? ⟨gb129, 0, none⟩ = some (.int .i64 a3_0) := (blk_cell BK129.out 0).trans rfl
                    have hcz92_1 : wc.cell? ⟨gb129, 1, none⟩ = some (.int .i64 a3_1) := (blk_cell BK129.out 1).trans rfl
                    have hfz92_0 := blk_frozen BK129.out 0
                    have hfz92_1 := blk_frozen BK129.out 1
                    have hnb93 := NB126_127.out
                    have hnc93 := NB127_126.out
                    have hcz94_0 : wc.cell? ⟨gb126, 0, none⟩ = some (.int .i64 a0_0) := (blk_cell BK126.out 0).trans rfl
                    have hcz94_1 : wc.cell? ⟨gb126, 1, none⟩ = some (.int .i64 a0_1) := (blk_cell BK126.out 1).trans rfl
                    have hfz94_0 := blk_frozen BK126.out 0
                    have hfz94_1 := blk_frozen BK126.out 1
                    go_wp2_with (first | ((with_reducible refine gate_callee (f := 83) rfl ?_); refine goesL_ (some 35) rfl rfl Tryd.func83 (by kernel_rfl) rfl #[.agg #[.int .i64 a2_0, .int .i64 a2_1], .agg #[.int .i64 a3_0, .int .i64 a3_1], .agg #[.int .i64 a0_0, .int .i64 a0_1]] rfl (by (try simp only [List.map_toArray, List.map_cons, List.map_nil]); first | done | rfl | (simp only [List.length_drop, List.length_take]; rfl)) ?_; (with_reducible refine (screen_side.calls a2_0 a2_1 a3_0 a3_1 a0_0 a0_1 t134 _ A69.out).mono ?_); rintro e w95 ⟨rfl, hb⟩; refine ⟨_, rfl, ?_⟩; have n0_ := Aside0.mk (blk_below (g := gb126) (o := .cells #[.int .i64 a0_0, .int .i64 a0_1] 44 (0, 0)) (by (with_reducible repeat (first | refine blk_drewN ?_ _ | refine blk_drew ?_ | refine blk_alloc ?_ _)); exact BK126.out) hb); have n1_ := Aside0.mk (blk_below (g := gb127) (o := .cells #[.int .i64 a1_0, .int .i64 a1_1] 44 (0, 0)) (by (with_reducible repeat (first | refine blk_drewN ?_ _ | refine blk_drew ?_ | refine blk_alloc ?_ _)); exact BK127.out) hb); have n2_ := Aside0.mk (blk_below (g := gb128) (o := .cells #[.int .i64 a2_0, .int .i64 a2_1] 44 (0, 0)) (by (with_reducible repeat (first | refine blk_drewN ?_ _ | refine blk_drew ?_ | refine blk_alloc ?_ _)); exact BK128.out) hb); have n3_ := Aside0.mk (blk_below (g := gb129) (o := .cells #[.int .i64 a3_0, .int .i64 a3_1] 44 (0, 0)) (by (with_reducible repeat (first | refine blk_drewN ?_ _ | refine blk_drew ?_ | refine blk_alloc ?_ _)); exact BK129.out) hb); have n4_ := Aside0.mk (below_step (by repeat (first | (with_reducible first | exact HB.out | apply below_alloc | apply pw_below_drewN | apply below_drew1 | refine below_set ?_ GE126.out | refine below_set ?_ GE127.out | refine below_set ?_ GE128.out | refine below_set ?_ GE129.out) | exact HB.out)) hb); clear BK126; clear BK127; clear BK128; clear BK129; clear HB; have BK126 := n0_; have BK127 := n1_; have BK128 := n2_; have BK129 := n3_; have HB := n4_; clear n0_ n1_ n2_ n3_ n4_; (try clear hb); (try clear hb2); (try clear hk); (try clear hi)))
                    go_meet
                    case rel => exact ⟨_, (false), (by first | rfl | (simp; done) | (simp [*]; done)), H', ⟨by have := HJ9.out; have := HJ38.out; first | omega | exact Nat.le_refl _⟩, ⟨by (with_reducible repeat (first | refine blk_drewN ?_ _ | refine blk_drew ?_ | refine blk_alloc ?_ _)); exact BK126.out⟩, ⟨by (with_reducible repeat (first | refine blk_drewN ?_ _ | refine blk_drew ?_ | refine blk_alloc ?_ _)); exact BK127.out⟩, ⟨by (with_reducible repeat (first | refine blk_drewN ?_ _ | refine blk_drew ?_ | refine blk_alloc ?_ _)); exact BK128.out⟩, ⟨by (with_reducible repeat (first | refine blk_drewN ?_ _ | refine blk_drew ?_ | refine blk_alloc ?_ _)); exact BK129.out⟩, ⟨by repeat (first | (with_reducible first | exact HB.out | apply below_alloc | apply pw_below_drewN | apply below_drew1 | refine below_set ?_ GE126.out | refine below_set ?_ GE127.out | refine below_set ?_ GE128.out | refine below_set ?_ GE129.out) | exact HB.out)⟩⟩
                case rest =>
                  clear HC68
                  try clear c1
                  try clear c2
                  try clear p2
                  try clear c3
                  try clear c4
                  try clear c5
                  try clear c6
                  try clear c7
                  try clear c8
                  try clear c9
                  try clear c12
                  try clear c12b0
                  try clear c12b1
                  try clear c14
                  try clear c15
                  try clear c16
                  try clear c18
                  try clear c19
                  try clear c21
                  try clear c28
                  try clear c29
                  try clear c30
                  try clear c32
                  try clear c33
                  try clear c35
                  try clear c38
                  try clear c41
                  try clear c41b0
                  try clear c41b1
                  try clear c43
                  try clear c44
                  try clear c45
                  try clear c47
                  try clear c48
                  try clear c50
                  try clear c57
                  try clear c58
                  try clear c59
                  try clear c61
                  try clear c62
                  try clear c64
                  try clear c67
                  try clear c70
                  try clear c70b0
                  try clear c70b1
                  try clear c72
                  try clear c73
                  try clear c74
                  try clear c76
                  try clear c77
                  try clear c79
                  try clear c83
                  try clear c86
                  try clear c87
                  try clear c88
                  try clear c90
                  try clear c91
                  try clear c93
                  try clear hcz17_0
                  try clear hcz17_1
                  try clear hcz20_0
                  try clear hcz20_1
                  try clear hcz22_0
                  try clear hcz22_1
                  try clear hcz24_0
                  try clear hcz24_1
                  try clear hcz25_0
                  try clear hcz25_1
                  try clear hcz26_0
                  try clear hcz26_1
                  try clear hcz31_0
                  try clear hcz31_1
                  try clear hcz34_0
                  try clear hcz34_1
                  try clear hcz36_0
                  try clear hcz36_1
                  try clear hcz46_0
                  try clear hcz46_1
                  try clear hcz49_0
                  try clear hcz49_1
                  try clear hcz51_0
                  try clear hcz51_1
                  try clear hcz53_0
                  try clear hcz53_1
                  try clear hcz54_0
                  try clear hcz54_1
                  try clear hcz55_0
                  try clear hcz55_1
                  try clear hcz60_0
                  try clear hcz60_1
                  try clear hcz63_0
                  try clear hcz63_1
                  try clear hcz65_0
                  try clear hcz65_1
                  try clear hcz75_0
                  try clear hcz75_1
                  try clear hcz78_0
                  try clear hcz78_1
                  try clear hcz80_0
                  try clear hcz80_1
                  try clear hcz82_0
                  try clear hcz82_1
                  try clear hcz83_0
                  try clear hcz83_1
                  try clear hcz84_0
                  try clear hcz84_1
                  try clear hcz89_0
                  try clear hcz89_1
                  try clear hcz92_0
                  try clear hcz92_1
                  try clear hcz94_0
                  try clear hcz94_1
                  try clear hfz17_0
                  try clear hfz17_1
                  try clear hfz20_0
                  try clear hfz20_1
                  try clear hfz22_0
                  try clear hfz22_1
                  try clear hfz24_0
                  try clear hfz24_1
                  try clear hfz25_0
                  try clear hfz25_1
                  try clear hfz26_0
                  try clear hfz26_1
                  try clear hfz31_0
                  try clear hfz31_1
                  try clear hfz34_0
                  try clear hfz34_1
                  try clear hfz36_0
                  try clear hfz36_1
                  try clear hfz46_0
                  try clear hfz46_1
                  try clear hfz49_0
                  try clear hfz49_1
                  try clear hfz51_0
                  try clear hfz51_1
                  try clear hfz53_0
                  try clear hfz53_1
                  try clear hfz54_0
                  try clear hfz54_1
                  try clear hfz55_0
                  try clear hfz55_1
                  try clear hfz60_0
                  try clear hfz60_1
                  try clear hfz63_0
                  try clear hfz63_1
                  try clear hfz65_0
                  try clear hfz65_1
                  try clear hfz75_0
                  try clear hfz75_1
                  try clear hfz78_0
                  try clear hfz78_1
                  try clear hfz80_0
                  try clear hfz80_1
                  try clear hfz82_0
                  try clear hfz82_1
                  try clear hfz83_0
                  try clear hfz83_1
                  try clear hfz84_0
                  try clear hfz84_1
                  try clear hfz89_0
                  try clear hfz89_1
                  try clear hfz92_0
                  try clear hfz92_1
                  try clear hfz94_0
                  try clear hfz94_1
                  try clear p2
                  obtain ⟨kq, x9_67, rfl, HA, HJ67, BK126, BK127, BK128, BK129, HB⟩ := hcut
                  cases kq with
                  | zero => exact absurd HA.out (by simp [screen_touch.j2])
                  | succ kj67 =>
                    have H := HA.out
                    clear HA
                    simp only [screen_touch.j2] at H
                    by_cases c96 : x9_67 = true
                    · subst c96
                      have H1 : (some true) = some r := by rw [if_pos rfl] at H; exact H
                      clear H
                      have H := H1
                      clear H1
                      obtain rfl := Option.some.inj H
                      go_wp2
                      go_ret
                      exact ⟨by first | rfl | (simp [errW_none, errW_some] <;> rfl) | (simp [*, errW_none, errW_some] <;> rfl), by repeat (first | (with_reducible first | exact HB.out | apply below_alloc | apply pw_below_drewN | apply below_drew1 | refine below_set ?_ GE126.out | refine below_set ?_ GE127.out | refine below_set ?_ GE128.out | refine below_set ?_ GE129.out) | exact HB.out)⟩
                    · replace c96 := Bool.eq_false_iff.mpr c96
                      subst c96
                      have H1 : ((screen_side.f a2_0 a2_1 a3_0 a3_1 a1_0 a1_1).bind fun t136 => (if t136 = 0 then ((screen_between.f a2_0 a2_1 a3_0 a3_1 a1_0 a1_1).bind fun t137 => (if t137 = true then (some true) else (screen_touch.j3 kj67 a0_0 a0_1 a1_0 a1_1 a2_0 a2_1 a3_0 a3_1))) else (screen_touch.j3 kj67 a0_0 a0_1 a1_0 a1_1 a2_0 a2_1 a3_0 a3_1))) = some r := by rw [if_neg (show ¬ (false = true) by decide)] at H; exact H
                      clear H
                      have H := H1
                      clear H1
                      replace H := Option.bind_eq_some_iff.mp H
                      obtain ⟨t136, A970, H⟩ := H
                      replace H : (if t136 = 0 then ((screen_between.f a2_0 a2_1 a3_0 a3_1 a1_0 a1_1).bind fun t137 => (if t137 = true then (some true) else (screen_touch.j3 kj67 a0_0 a0_1 a1_0 a1_1 a2_0 a2_1 a3_0 a3_1))) else (screen_touch.j3 kj67 a0_0 a0_1 a1_0 a1_1 a2_0 a2_1 a3_0 a3_1)) = some r := H
                      have A97 := Aside0.mk A970
                      clear A970
                      by_cases c98 : t136 = 0
                      · rw [if_pos c98] at H
                        have c98b0 : (t136 == 0) = true := beq_iff_eq.mpr c98
                        have c98b1 : (t136 != 0) = false := bne_eq_false_iff_eq.mpr c98
                        clear c98
                        replace H := Option.bind_eq_some_iff.mp H
                        obtain ⟨t137, A990, H⟩ := H
                        replace H : (if t137 = true then (some true) else (screen_touch.j3 kj67 a0_0 a0_1 a1_0 a1_1 a2_0 a2_1 a3_0 a3_1)) = some r := H
                        have A99 := Aside0.mk A990
                        clear A990
                        by_cases c100 : t137 = true
                        · subst c100
                          have H1 : (some true) = some r := by rw [if_pos rfl] at H; exact H
                          clear H
                          have H := H1
                          clear H1
                          obtain rfl := Option.some.inj H
                          have hnb101 := NB128_126.out
                          have hnc101 := NB126_128.out
                          have hnb102 := NB128_127.out
                          have hnc102 := NB127_128.out
                          have hnb103 := NB128_129.out
                          have hnc103 := NB129_128.out
                          have hcz104_0 : wc.cell? ⟨gb128, 0, none⟩ = some (.int .i64 a2_0) := (blk_cell BK128.out 0).trans rfl
                          have hcz104_1 : wc.cell? ⟨gb128, 1, none⟩ = some (.int .i64 a2_1) := (blk_cell BK128.out 1).trans rfl
                          have hfz104_0 := blk_frozen BK128.out 0
                          have hfz104_1 := blk_frozen BK128.out 1
                          have hnb105 := NB129_126.out
                          have hnc105 := NB126_129.out
                          have hnb106 := NB129_127.out
                          have hnc106 := NB127_129.out
                          have hcz107_0 : wc.cell? ⟨gb129, 0, none⟩ = some (.int .i64 a3_0) := (blk_cell BK129.out 0).trans rfl
                          have hcz107_1 : wc.cell? ⟨gb129, 1, none⟩ = some (.int .i64 a3_1) := (blk_cell BK129.out 1).trans rfl
                          have hfz107_0 := blk_frozen BK129.out 0
                          have hfz107_1 := blk_frozen BK129.out 1
                          have hnb108 := NB127_126.out
                          have hnc108 := NB126_127.out
                          have hcz109_0 : wc.cell? ⟨gb127, 0, none⟩ = some (.int .i64 a1_0) := (blk_cell BK127.out 0).trans rfl
                          have hcz109_1 : wc.cell? ⟨gb127, 1, none⟩ = some (.int .i64 a1_1) := (blk_cell BK127.out 1).trans rfl
                          have hfz109_0 := blk_frozen BK127.out 0
                          have hfz109_1 := blk_frozen BK127.out 1
                          go_wp2_with (first | ((with_reducible refine gate_callee (f := 83) rfl ?_); refine goesL_ (some 46) rfl rfl Tryd.func83 (by kernel_rfl) rfl #[.agg #[.int .i64 a2_0, .int .i64 a2_1], .agg #[.int .i64 a3_0, .int .i64 a3_1], .agg #[.int .i64 a1_0, .int .i64 a1_1]] rfl (by (try simp only [List.map_toArray, List.map_cons, List.map_nil]); first | done | rfl | (simp only [List.length_drop, List.length_take]; rfl)) ?_; (with_reducible refine (screen_side.calls a2_0 a2_1 a3_0 a3_1 a1_0 a1_1 t136 _ A97.out).mono ?_); rintro e w110 ⟨rfl, hb⟩; refine ⟨_, rfl, ?_⟩; have n0_ := Aside0.mk (blk_below (g := gb126) (o := .cells #[.int .i64 a0_0, .int .i64 a0_1] 44 (0, 0)) (by (with_reducible repeat (first | refine blk_drewN ?_ _ | refine blk_drew ?_ | refine blk_alloc ?_ _)); exact BK126.out) hb); have n1_ := Aside0.mk (blk_below (g := gb127) (o := .cells #[.int .i64 a1_0, .int .i64 a1_1] 44 (0, 0)) (by (with_reducible repeat (first | refine blk_drewN ?_ _ | refine blk_drew ?_ | refine blk_alloc ?_ _)); exact BK127.out) hb); have n2_ := Aside0.mk (blk_below (g := gb128) (o := .cells #[.int .i64 a2_0, .int .i64 a2_1] 44 (0, 0)) (by (with_reducible repeat (first | refine blk_drewN ?_ _ | refine blk_drew ?_ | refine blk_alloc ?_ _)); exact BK128.out) hb); have n3_ := Aside0.mk (blk_below (g := gb129) (o := .cells #[.int .i64 a3_0, .int .i64 a3_1] 44 (0, 0)) (by (with_reducible repeat (first | refine blk_drewN ?_ _ | refine blk_drew ?_ | refine blk_alloc ?_ _)); exact BK129.out) hb); have n4_ := Aside0.mk (below_step (by repeat (first | (with_reducible first | exact HB.out | apply below_alloc | apply pw_below_drewN | apply below_drew1 | refine below_set ?_ GE126.out | refine below_set ?_ GE127.out | refine below_set ?_ GE128.out | refine below_set ?_ GE129.out) | exact HB.out)) hb); clear BK126; clear BK127; clear BK128; clear BK129; clear HB; have BK126 := n0_; have BK127 := n1_; have BK128 := n2_; have BK129 := n3_; have HB := n4_; clear n0_ n1_ n2_ n3_ n4_; (try clear hb); (try clear hb2); (try clear hk); (try clear hi); have hcz111_0 : w110.cell? ⟨gb128, 0, none⟩ = some (.int .i64 a2_0) := (blk_cell BK128.out 0).trans rfl; have hcz111_1 : w110.cell? ⟨gb128, 1, none⟩ = some (.int .i64 a2_1) := (blk_cell BK128.out 1).trans rfl; have hfz111_0 := blk_frozen BK128.out 0; have hfz111_1 := blk_frozen BK128.out 1; have hcz112_0 : w110.cell? ⟨gb129, 0, none⟩ = some (.int .i64 a3_0) := (blk_cell BK129.out 0).trans rfl; have hcz112_1 : w110.cell? ⟨gb129, 1, none⟩ = some (.int .i64 a3_1) := (blk_cell BK129.out 1).trans rfl; have hfz112_0 := blk_frozen BK129.out 0; have hfz112_1 := blk_frozen BK129.out 1; have hcz113_0 : w110.cell? ⟨gb127, 0, none⟩ = some (.int .i64 a1_0) := (blk_cell BK127.out 0).trans rfl; have hcz113_1 : w110.cell? ⟨gb127, 1, none⟩ = some (.int .i64 a1_1) := (blk_cell BK127.out 1).trans rfl; have hfz113_0 := blk_frozen BK127.out 0; have hfz113_1 := blk_frozen BK127.out 1) | (go_at_call 84; (with_reducible refine (screen_between.calls a2_0 a2_1 a3_0 a3_1 a1_0 a1_1 true _ A99.out).mono ?_); rintro e w114 ⟨rfl, hb⟩; have n0_ := Aside0.mk (blk_below (g := gb126) (o := .cells #[.int .i64 a0_0, .int .i64 a0_1] 44 (0, 0)) (by (with_reducible repeat (first | refine blk_drewN ?_ _ | refine blk_drew ?_ | refine blk_alloc ?_ _)); exact BK126.out) hb); have n1_ := Aside0.mk (blk_below (g := gb127) (o := .cells #[.int .i64 a1_0, .int .i64 a1_1] 44 (0, 0)) (by (with_reducible repeat (first | refine blk_drewN ?_ _ | refine blk_drew ?_ | refine blk_alloc ?_ _)); exact BK127.out) hb); have n2_ := Aside0.mk (blk_below (g := gb128) (o := .cells #[.int .i64 a2_0, .int .i64 a2_1] 44 (0, 0)) (by (with_reducible repeat (first | refine blk_drewN ?_ _ | refine blk_drew ?_ | refine blk_alloc ?_ _)); exact BK128.out) hb); have n3_ := Aside0.mk (blk_below (g := gb129) (o := .cells #[.int .i64 a3_0, .int .i64 a3_1] 44 (0, 0)) (by (with_reducible repeat (first | refine blk_drewN ?_ _ | refine blk_drew ?_ | refine blk_alloc ?_ _)); exact BK129.out) hb); have n4_ := Aside0.mk (below_step (by repeat (first | (with_reducible first | exact HB.out | apply below_alloc | apply pw_below_drewN | apply below_drew1 | refine below_set ?_ GE126.out | refine below_set ?_ GE127.out | refine below_set ?_ GE128.out | refine below_set ?_ GE129.out) | exact HB.out)) hb); clear BK126; clear BK127; clear BK128; clear BK129; clear HB; have BK126 := n0_; have BK127 := n1_; have BK128 := n2_; have BK129 := n3_; have HB := n4_; clear n0_ n1_ n2_ n3_ n4_; (try clear hb); (try clear hb2); (try clear hk); (try clear hi)))
                          go_ret
                          exact ⟨by first | rfl | (simp [errW_none, errW_some] <;> rfl) | (simp [*, errW_none, errW_some] <;> rfl), by repeat (first | (with_reducible first | exact HB.out | apply below_alloc | apply pw_below_drewN | apply below_drew1 | refine below_set ?_ GE126.out | refine below_set ?_ GE127.out | refine below_set ?_ GE128.out | refine below_set ?_ GE129.out) | exact HB.out)⟩
                        · replace c100 := Bool.eq_false_iff.mpr c100
                          subst c100
                          have H1 : (screen_touch.j3 kj67 a0_0 a0_1 a1_0 a1_1 a2_0 a2_1 a3_0 a3_1) = some r := by rw [if_neg (show ¬ (false = true) by decide)] at H; exact H
                          clear H
                          have H := H1
                          clear H1
                          have H' := Aside0.mk H
                          clear H
                          have hnb115 := NB128_126.out
                          have hnc115 := NB126_128.out
                          have hnb116 := NB128_127.out
                          have hnc116 := NB127_128.out
                          have hnb117 := NB128_129.out
                          have hnc117 := NB129_128.out
                          have hcz118_0 : wc.cell? ⟨gb128, 0, none⟩ = some (.int .i64 a2_0) := (blk_cell BK128.out 0).trans rfl
                          have hcz118_1 : wc.cell? ⟨gb128, 1, none⟩ = some (.int .i64 a2_1) := (blk_cell BK128.out 1).trans rfl
                          have hfz118_0 := blk_frozen BK128.out 0
                          have hfz118_1 := blk_frozen BK128.out 1
                          have hnb119 := NB129_126.out
                          have hnc119 := NB126_129.out
                          have hnb120 := NB129_127.out
                          have hnc120 := NB127_129.out
                          have hcz121_0 : wc.cell? ⟨gb129, 0, none⟩ = some (.int .i64 a3_0) := (blk_cell BK129.out 0).trans rfl
                          have hcz121_1 : wc.cell? ⟨gb129, 1, none⟩ = some (.int .i64 a3_1) := (blk_cell BK129.out 1).trans rfl
                          have hfz121_0 := blk_frozen BK129.out 0
                          have hfz121_1 := blk_frozen BK129.out 1
                          have hnb122 := NB127_126.out
                          have hnc122 := NB126_127.out
                          have hcz123_0 : wc.cell? ⟨gb127, 0, none⟩ = some (.int .i64 a1_0) := (blk_cell BK127.out 0).trans rfl
                          have hcz123_1 : wc.cell? ⟨gb127, 1, none⟩ = some (.int .i64 a1_1) := (blk_cell BK127.out 1).trans rfl
                          have hfz123_0 := blk_frozen BK127.out 0
                          have hfz123_1 := blk_frozen BK127.out 1
                          go_wp2_with (first | ((with_reducible refine gate_callee (f := 83) rfl ?_); refine goesL_ (some 46) rfl rfl Tryd.func83 (by kernel_rfl) rfl #[.agg #[.int .i64 a2_0, .int .i64 a2_1], .agg #[.int .i64 a3_0, .int .i64 a3_1], .agg #[.int .i64 a1_0, .int .i64 a1_1]] rfl (by (try simp only [List.map_toArray, List.map_cons, List.map_nil]); first | done | rfl | (simp only [List.length_drop, List.length_take]; rfl)) ?_; (with_reducible refine (screen_side.calls a2_0 a2_1 a3_0 a3_1 a1_0 a1_1 t136 _ A97.out).mono ?_); rintro e w124 ⟨rfl, hb⟩; refine ⟨_, rfl, ?_⟩; have n0_ := Aside0.mk (blk_below (g := gb126) (o := .cells #[.int .i64 a0_0, .int .i64 a0_1] 44 (0, 0)) (by (with_reducible repeat (first | refine blk_drewN ?_ _ | refine blk_drew ?_ | refine blk_alloc ?_ _)); exact BK126.out) hb); have n1_ := Aside0.mk (blk_below (g := gb127) (o := .cells #[.int .i64 a1_0, .int .i64 a1_1] 44 (0, 0)) (by (with_reducible repeat (first | refine blk_drewN ?_ _ | refine blk_drew ?_ | refine blk_alloc ?_ _)); exact BK127.out) hb); have n2_ := Aside0.mk (blk_below (g := gb128) (o := .cells #[.int .i64 a2_0, .int .i64 a2_1] 44 (0, 0)) (by (with_reducible repeat (first | refine blk_drewN ?_ _ | refine blk_drew ?_ | refine blk_alloc ?_ _)); exact BK128.out) hb); have n3_ := Aside0.mk (blk_below (g := gb129) (o := .cells #[.int .i64 a3_0, .int .i64 a3_1] 44 (0, 0)) (by (with_reducible repeat (first | refine blk_drewN ?_ _ | refine blk_drew ?_ | refine blk_alloc ?_ _)); exact BK129.out) hb); have n4_ := Aside0.mk (below_step (by repeat (first | (with_reducible first | exact HB.out | apply below_alloc | apply pw_below_drewN | apply below_drew1 | refine below_set ?_ GE126.out | refine below_set ?_ GE127.out | refine below_set ?_ GE128.out | refine below_set ?_ GE129.out) | exact HB.out)) hb); clear BK126; clear BK127; clear BK128; clear BK129; clear HB; have BK126 := n0_; have BK127 := n1_; have BK128 := n2_; have BK129 := n3_; have HB := n4_; clear n0_ n1_ n2_ n3_ n4_; (try clear hb); (try clear hb2); (try clear hk); (try clear hi); have hcz125_0 : w124.cell? ⟨gb128, 0, none⟩ = some (.int .i64 a2_0) := (blk_cell BK128.out 0).trans rfl; have hcz125_1 : w124.cell? ⟨gb128, 1, none⟩ = some (.int .i64 a2_1) := (blk_cell BK128.out 1).trans rfl; have hfz125_0 := blk_frozen BK128.out 0; have hfz125_1 := blk_frozen BK128.out 1; have hcz126_0 : w124.cell? ⟨gb129, 0, none⟩ = some (.int .i64 a3_0) := (blk_cell BK129.out 0).trans rfl; have hcz126_1 : w124.cell? ⟨gb129, 1, none⟩ = some (.int .i64 a3_1) := (blk_cell BK129.out 1).trans rfl; have hfz126_0 := blk_frozen BK129.out 0; have hfz126_1 := blk_frozen BK129.out 1; have hcz127_0 : w124.cell? ⟨gb127, 0, none⟩ = some (.int .i64 a1_0) := (blk_cell BK127.out 0).trans rfl; have hcz127_1 : w124.cell? ⟨gb127, 1, none⟩ = some (.int .i64 a1_1) := (blk_cell BK127.out 1).trans rfl; have hfz127_0 := blk_frozen BK127.out 0; have hfz127_1 := blk_frozen BK127.out 1) | (go_at_call 84; (with_reducible refine (screen_between.calls a2_0 a2_1 a3_0 a3_1 a1_0 a1_1 false _ A99.out).mono ?_); rintro e w128 ⟨rfl, hb⟩; have n0_ := Aside0.mk (blk_below (g := gb126) (o := .cells #[.int .i64 a0_0, .int .i64 a0_1] 44 (0, 0)) (by (with_reducible repeat (first | refine blk_drewN ?_ _ | refine blk_drew ?_ | refine blk_alloc ?_ _)); exact BK126.out) hb); have n1_ := Aside0.mk (blk_below (g := gb127) (o := .cells #[.int .i64 a1_0, .int .i64 a1_1] 44 (0, 0)) (by (with_reducible repeat (first | refine blk_drewN ?_ _ | refine blk_drew ?_ | refine blk_alloc ?_ _)); exact BK127.out) hb); have n2_ := Aside0.mk (blk_below (g := gb128) (o := .cells #[.int .i64 a2_0, .int .i64 a2_1] 44 (0, 0)) (by (with_reducible repeat (first | refine blk_drewN ?_ _ | refine blk_drew ?_ | refine blk_alloc ?_ _)); exact BK128.out) hb); have n3_ := Aside0.mk (blk_below (g := gb129) (o := .cells #[.int .i64 a3_0, .int .i64 a3_1] 44 (0, 0)) (by (with_reducible repeat (first | refine blk_drewN ?_ _ | refine blk_drew ?_ | refine blk_alloc ?_ _)); exact BK129.out) hb); have n4_ := Aside0.mk (below_step (by repeat (first | (with_reducible first | exact HB.out | apply below_alloc | apply pw_below_drewN | apply below_drew1 | refine below_set ?_ GE126.out | refine below_set ?_ GE127.out | refine below_set ?_ GE128.out | refine below_set ?_ GE129.out) | exact HB.out)) hb); clear BK126; clear BK127; clear BK128; clear BK129; clear HB; have BK126 := n0_; have BK127 := n1_; have BK128 := n2_; have BK129 := n3_; have HB := n4_; clear n0_ n1_ n2_ n3_ n4_; (try clear hb); (try clear hb2); (try clear hk); (try clear hi)))
                          go_meet
                          case rel => exact ⟨_, H', ⟨by have := HJ9.out; have := HJ38.out; have := HJ67.out; first | omega | exact Nat.le_refl _⟩, ⟨by (with_reducible repeat (first | refine blk_drewN ?_ _ | refine blk_drew ?_ | refine blk_alloc ?_ _)); exact BK126.out⟩, ⟨by (with_reducible repeat (first | refine blk_drewN ?_ _ | refine blk_drew ?_ | refine blk_alloc ?_ _)); exact BK127.out⟩, ⟨by (with_reducible repeat (first | refine blk_drewN ?_ _ | refine blk_drew ?_ | refine blk_alloc ?_ _)); exact BK128.out⟩, ⟨by (with_reducible repeat (first | refine blk_drewN ?_ _ | refine blk_drew ?_ | refine blk_alloc ?_ _)); exact BK129.out⟩, ⟨by repeat (first | (with_reducible first | exact HB.out | apply below_alloc | apply pw_below_drewN | apply below_drew1 | refine below_set ?_ GE126.out | refine below_set ?_ GE127.out | refine below_set ?_ GE128.out | refine below_set ?_ GE129.out) | exact HB.out)⟩⟩
                      · rw [if_neg c98] at H
                        have c98b0 : (t136 == 0) = false := beq_eq_false_iff_ne.mpr c98
                        have c98b1 : (t136 != 0) = true := bne_iff_ne.mpr c98
                        have H' := Aside0.mk H
                        clear H
                        have hnb129 := NB128_126.out
                        have hnc129 := NB126_128.out
                        have hnb130 := NB128_127.out
                        have hnc130 := NB127_128.out
                        have hnb131 := NB128_129.out
                        have hnc131 := NB129_128.out
                        have hcz132_0 : wc.cell? ⟨gb128, 0, none⟩ = some (.int .i64 a2_0) := (blk_cell BK128.out 0).trans rfl
                        have hcz132_1 : wc.cell? ⟨gb128, 1, none⟩ = some (.int .i64 a2_1) := (blk_cell BK128.out 1).trans rfl
                        have hfz132_0 := blk_frozen BK128.out 0
                        have hfz132_1 := blk_frozen BK128.out 1
                        have hnb133 := NB129_126.out
                        have hnc133 := NB126_129.out
                        have hnb134 := NB129_127.out
                        have hnc134 := NB127_129.out
                        have hcz135_0 : wc.cell? ⟨gb129, 0, none⟩ = some (.int .i64 a3_0) := (blk_cell BK129.out 0).trans rfl
                        have hcz135_1 : wc.cell? ⟨gb129, 1, none⟩ = some (.int .i64 a3_1) := (blk_cell BK129.out 1).trans rfl
                        have hfz135_0 := blk_frozen BK129.out 0
                        have hfz135_1 := blk_frozen BK129.out 1
                        have hnb136 := NB127_126.out
                        have hnc136 := NB126_127.out
                        have hcz137_0 : wc.cell? ⟨gb127, 0, none⟩ = some (.int .i64 a1_0) := (blk_cell BK127.out 0).trans rfl
                        have hcz137_1 : wc.cell? ⟨gb127, 1, none⟩ = some (.int .i64 a1_1) := (blk_cell BK127.out 1).trans rfl
                        have hfz137_0 := blk_frozen BK127.out 0
                        have hfz137_1 := blk_frozen BK127.out 1
                        go_wp2_with (first | ((with_reducible refine gate_callee (f := 83) rfl ?_); refine goesL_ (some 46) rfl rfl Tryd.func83 (by kernel_rfl) rfl #[.agg #[.int .i64 a2_0, .int .i64 a2_1], .agg #[.int .i64 a3_0, .int .i64 a3_1], .agg #[.int .i64 a1_0, .int .i64 a1_1]] rfl (by (try simp only [List.map_toArray, List.map_cons, List.map_nil]); first | done | rfl | (simp only [List.length_drop, List.length_take]; rfl)) ?_; (with_reducible refine (screen_side.calls a2_0 a2_1 a3_0 a3_1 a1_0 a1_1 t136 _ A97.out).mono ?_); rintro e w138 ⟨rfl, hb⟩; refine ⟨_, rfl, ?_⟩; have n0_ := Aside0.mk (blk_below (g := gb126) (o := .cells #[.int .i64 a0_0, .int .i64 a0_1] 44 (0, 0)) (by (with_reducible repeat (first | refine blk_drewN ?_ _ | refine blk_drew ?_ | refine blk_alloc ?_ _)); exact BK126.out) hb); have n1_ := Aside0.mk (blk_below (g := gb127) (o := .cells #[.int .i64 a1_0, .int .i64 a1_1] 44 (0, 0)) (by (with_reducible repeat (first | refine blk_drewN ?_ _ | refine blk_drew ?_ | refine blk_alloc ?_ _)); exact BK127.out) hb); have n2_ := Aside0.mk (blk_below (g := gb128) (o := .cells #[.int .i64 a2_0, .int .i64 a2_1] 44 (0, 0)) (by (with_reducible repeat (first | refine blk_drewN ?_ _ | refine blk_drew ?_ | refine blk_alloc ?_ _)); exact BK128.out) hb); have n3_ := Aside0.mk (blk_below (g := gb129) (o := .cells #[.int .i64 a3_0, .int .i64 a3_1] 44 (0, 0)) (by (with_reducible repeat (first | refine blk_drewN ?_ _ | refine blk_drew ?_ | refine blk_alloc ?_ _)); exact BK129.out) hb); have n4_ := Aside0.mk (below_step (by repeat (first | (with_reducible first | exact HB.out | apply below_alloc | apply pw_below_drewN | apply below_drew1 | refine below_set ?_ GE126.out | refine below_set ?_ GE127.out | refine below_set ?_ GE128.out | refine below_set ?_ GE129.out) | exact HB.out)) hb); clear BK126; clear BK127; clear BK128; clear BK129; clear HB; have BK126 := n0_; have BK127 := n1_; have BK128 := n2_; have BK129 := n3_; have HB := n4_; clear n0_ n1_ n2_ n3_ n4_; (try clear hb); (try clear hb2); (try clear hk); (try clear hi)))
                        go_meet
                        case rel => exact ⟨_, H', ⟨by have := HJ9.out; have := HJ38.out; have := HJ67.out; first | omega | exact Nat.le_refl _⟩, ⟨by (with_reducible repeat (first | refine blk_drewN ?_ _ | refine blk_drew ?_ | refine blk_alloc ?_ _)); exact BK126.out⟩, ⟨by (with_reducible repeat (first | refine blk_drewN ?_ _ | refine blk_drew ?_ | refine blk_alloc ?_ _)); exact BK127.out⟩, ⟨by (with_reducible repeat (first | refine blk_drewN ?_ _ | refine blk_drew ?_ | refine blk_alloc ?_ _)); exact BK128.out⟩, ⟨by (with_reducible repeat (first | refine blk_drewN ?_ _ | refine blk_drew ?_ | refine blk_alloc ?_ _)); exact BK129.out⟩, ⟨by repeat (first | (with_reducible first | exact HB.out | apply below_alloc | apply pw_below_drewN | apply below_drew1 | refine below_set ?_ GE126.out | refine below_set ?_ GE127.out | refine below_set ?_ GE128.out | refine below_set ?_ GE129.out) | exact HB.out)⟩⟩
  case rest =>
    clear HC5
    try clear c1
    try clear c2
    try clear p2
    try clear c3
    try clear c4
    try clear c5
    try clear c6
    try clear c7
    try clear c8
    try clear c9
    try clear c10
    try clear c11
    try clear c12
    try clear c12b0
    try clear c12b1
    try clear c13
    try clear c14
    try clear c15
    try clear c16
    try clear c18
    try clear c19
    try clear c21
    try clear c28
    try clear c29
    try clear c30
    try clear c32
    try clear c33
    try clear c35
    try clear c38
    try clear c41
    try clear c41b0
    try clear c41b1
    try clear c43
    try clear c44
    try clear c45
    try clear c47
    try clear c48
    try clear c50
    try clear c57
    try clear c58
    try clear c59
    try clear c61
    try clear c62
    try clear c64
    try clear c67
    try clear c70
    try clear c70b0
    try clear c70b1
    try clear c72
    try clear c73
    try clear c74
    try clear c76
    try clear c77
    try clear c79
    try clear c83
    try clear c86
    try clear c87
    try clear c88
    try clear c90
    try clear c91
    try clear c93
    try clear c96
    try clear c98
    try clear c98b0
    try clear c98b1
    try clear c100
    try clear c101
    try clear c102
    try clear c103
    try clear c105
    try clear c106
    try clear c108
    try clear c115
    try clear c116
    try clear c117
    try clear c119
    try clear c120
    try clear c122
    try clear c129
    try clear c130
    try clear c131
    try clear c133
    try clear c134
    try clear c136
    try clear hcz104_0
    try clear hcz104_1
    try clear hcz107_0
    try clear hcz107_1
    try clear hcz109_0
    try clear hcz109_1
    try clear hcz111_0
    try clear hcz111_1
    try clear hcz112_0
    try clear hcz112_1
    try clear hcz113_0
    try clear hcz113_1
    try clear hcz118_0
    try clear hcz118_1
    try clear hcz121_0
    try clear hcz121_1
    try clear hcz123_0
    try clear hcz123_1
    try clear hcz125_0
    try clear hcz125_1
    try clear hcz126_0
    try clear hcz126_1
    try clear hcz127_0
    try clear hcz127_1
    try clear hcz132_0
    try clear hcz132_1
    try clear hcz135_0
    try clear hcz135_1
    try clear hcz137_0
    try clear hcz137_1
    try clear hcz17_0
    try clear hcz17_1
    try clear hcz20_0
    try clear hcz20_1
    try clear hcz22_0
    try clear hcz22_1
    try clear hcz24_0
    try clear hcz24_1
    try clear hcz25_0
    try clear hcz25_1
    try clear hcz26_0
    try clear hcz26_1
    try clear hcz31_0
    try clear hcz31_1
    try clear hcz34_0
    try clear hcz34_1
    try clear hcz36_0
    try clear hcz36_1
    try clear hcz46_0
    try clear hcz46_1
    try clear hcz49_0
    try clear hcz49_1
    try clear hcz51_0
    try clear hcz51_1
    try clear hcz53_0
    try clear hcz53_1
    try clear hcz54_0
    try clear hcz54_1
    try clear hcz55_0
    try clear hcz55_1
    try clear hcz60_0
    try clear hcz60_1
    try clear hcz63_0
    try clear hcz63_1
    try clear hcz65_0
    try clear hcz65_1
    try clear hcz75_0
    try clear hcz75_1
    try clear hcz78_0
    try clear hcz78_1
    try clear hcz80_0
    try clear hcz80_1
    try clear hcz82_0
    try clear hcz82_1
    try clear hcz83_0
    try clear hcz83_1
    try clear hcz84_0
    try clear hcz84_1
    try clear hcz89_0
    try clear hcz89_1
    try clear hcz92_0
    try clear hcz92_1
    try clear hcz94_0
    try clear hcz94_1
    try clear hfz104_0
    try clear hfz104_1
    try clear hfz107_0
    try clear hfz107_1
    try clear hfz109_0
    try clear hfz109_1
    try clear hfz111_0
    try clear hfz111_1
    try clear hfz112_0
    try clear hfz112_1
    try clear hfz113_0
    try clear hfz113_1
    try clear hfz118_0
    try clear hfz118_1
    try clear hfz121_0
    try clear hfz121_1
    try clear hfz123_0
    try clear hfz123_1
    try clear hfz125_0
    try clear hfz125_1
    try clear hfz126_0
    try clear hfz126_1
    try clear hfz127_0
    try clear hfz127_1
    try clear hfz132_0
    try clear hfz132_1
    try clear hfz135_0
    try clear hfz135_1
    try clear hfz137_0
    try clear hfz137_1
    try clear hfz17_0
    try clear hfz17_1
    try clear hfz20_0
    try clear hfz20_1
    try clear hfz22_0
    try clear hfz22_1
    try clear hfz24_0
    try clear hfz24_1
    try clear hfz25_0
    try clear hfz25_1
    try clear hfz26_0
    try clear hfz26_1
    try clear hfz31_0
    try clear hfz31_1
    try clear hfz34_0
    try clear hfz34_1
    try clear hfz36_0
    try clear hfz36_1
    try clear hfz46_0
    try clear hfz46_1
    try clear hfz49_0
    try clear hfz49_1
    try clear hfz51_0
    try clear hfz51_1
    try clear hfz53_0
    try clear hfz53_1
    try clear hfz54_0
    try clear hfz54_1
    try clear hfz55_0
    try clear hfz55_1
    try clear hfz60_0
    try clear hfz60_1
    try clear hfz63_0
    try clear hfz63_1
    try clear hfz65_0
    try clear hfz65_1
    try clear hfz75_0
    try clear hfz75_1
    try clear hfz78_0
    try clear hfz78_1
    try clear hfz80_0
    try clear hfz80_1
    try clear hfz82_0
    try clear hfz82_1
    try clear hfz83_0
    try clear hfz83_1
    try clear hfz84_0
    try clear hfz84_1
    try clear hfz89_0
    try clear hfz89_1
    try clear hfz92_0
    try clear hfz92_1
    try clear hfz94_0
    try clear hfz94_1
    try clear p2
    obtain ⟨kq, HA, HJ4, BK126, BK127, BK128, BK129, HB⟩ := hcut
    cases kq with
    | zero => exact absurd HA.out (by simp [screen_touch.j3])
    | succ kj4 =>
      have H := HA.out
      clear HA
      simp only [screen_touch.j3] at H
      replace H := Option.bind_eq_some_iff.mp H
      obtain ⟨t138, A1390, H⟩ := H
      replace H : ((screen_side.f a0_0 a0_1 a1_0 a1_1 a3_0 a3_1).bind fun t139 => (if (wrap64 (t138 * t139)) < 0 then ((screen_side.f a2_0 a2_1 a3_0 a3_1 a0_0 a0_1).bind fun t140 => ((screen_side.f a2_0 a2_1 a3_0 a3_1 a1_0 a1_1).bind fun t141 => (some (decide ((wrap64 (t140 * t141)) < 0))))) else (some false))) = some r := H
      have A139 := Aside0.mk A1390
      clear A1390
      replace H := Option.bind_eq_some_iff.mp H
      obtain ⟨t139, A1400, H⟩ := H
      replace H : (if (wrap64 (t138 * t139)) < 0 then ((screen_side.f a2_0 a2_1 a3_0 a3_1 a0_0 a0_1).bind fun t140 => ((screen_side.f a2_0 a2_1 a3_0 a3_1 a1_0 a1_1).bind fun t141 => (some (decide ((wrap64 (t140 * t141)) < 0))))) else (some false)) = some r := H
      have A140 := Aside0.mk A1400
      clear A1400
      by_cases c141 : (wrap64 (t138 * t139)) < 0
      · rw [if_pos c141] at H
        have c141b0 : decide ((wrap64 (t138 * t139)) < 0) = true := decide_eq_true c141
        clear c141
        replace H := Option.bind_eq_some_iff.mp H
        obtain ⟨t140, A1420, H⟩ := H
        replace H : ((screen_side.f a2_0 a2_1 a3_0 a3_1 a1_0 a1_1).bind fun t141 => (some (decide ((wrap64 (t140 * t141)) < 0)))) = some r := H
        have A142 := Aside0.mk A1420
        clear A1420
        replace H := Option.bind_eq_some_iff.mp H
        obtain ⟨t141, A1430, H⟩ := H
        replace H : (some (decide ((wrap64 (t140 * t141)) < 0))) = some r := H
        have A143 := Aside0.mk A1430
        clear A1430
        obtain rfl := Option.some.inj H
        try go_wp2
        have n0_ := Aside0.mk (blk_drew BK126.out)
        have n1_ := Aside0.mk (blk_drew BK127.out)
        have n2_ := Aside0.mk (blk_drew BK128.out)
        have n3_ := Aside0.mk (blk_drew BK129.out)
        have n4_ := Aside0.mk (below_drew1 HB.out)
        clear BK126
        clear BK127
        clear BK128
        clear BK129
        clear HB
        have BK126 := n0_
        have BK127 := n1_
        have BK128 := n2_
        have BK129 := n3_
        have HB := n4_
        clear n0_ n1_ n2_ n3_ n4_
        refine start_ (n := 23) (S := fun w' => w'.cell? ⟨gb126, 0, none⟩ = some (.int .i64 a0_0) ∧ w'.cell? ⟨gb126, 1, none⟩ = some (.int .i64 a0_1) ∧ w'.cell? ⟨gb127, 0, none⟩ = some (.int .i64 a1_0) ∧ w'.cell? ⟨gb127, 1, none⟩ = some (.int .i64 a1_1) ∧ w'.cell? ⟨gb128, 0, none⟩ = some (.int .i64 a2_0) ∧ w'.cell? ⟨gb128, 1, none⟩ = some (.int .i64 a2_1) ∧ w'.cell? ⟨gb129, 0, none⟩ = some (.int .i64 a3_0) ∧ w'.cell? ⟨gb129, 1, none⟩ = some (.int .i64 a3_1)) (ds := []) #[false, false, false, false, false, false, false, false, false, false, false, false, false, false, false, false, false, false, false, false, false, false, false] (by kernel_rfl) rfl rfl ⟨(blk_cell BK126.out 0).trans rfl, (blk_cell BK126.out 1).trans rfl, (blk_cell BK127.out 0).trans rfl, (blk_cell BK127.out 1).trans rfl, (blk_cell BK128.out 0).trans rfl, (blk_cell BK128.out 1).trans rfl, (blk_cell BK129.out 0).trans rfl, (blk_cell BK129.out 1).trans rfl⟩ (fun hHeld => ?_); refine with_tabW screen_touch.tab6 screen_touch.bits6 (fun HT_ HW_ => ?_)
        generalize wc.drew = w144 at BK126 BK127 BK128 BK129 HB hHeld ⊢
        refine take_ (i := 0) (N := some 54) (v := ?_) (a' := ?_) #[true, false, false, false, false, false, false, false, false, false, false, false, false, false, false, false, false, false, false, false, false, false, false] rfl rfl (take_ofW HT_.out HW_.out (by kernel_rfl)) (fun _ _ _ h => h) (Or.inl ⟨by rfl, ?_⟩) hHeld ?_ ?_
        rotate_left
        · rintro w' ⟨s0, s1, s2, s3, s4, s5, s6, s7⟩
          go_simp
          with_reducible rfl
        rotate_left
        · simp only [Act.put, List.setIfInBounds_toArray, List.set_cons_zero, List.set_cons_succ, i64_w, i32_w]
          rfl
        refine take_ (i := 1) (N := some 55) (v := ?_) (a' := ?_) #[true, true, false, false, false, false, false, false, false, false, false, false, false, false, false, false, false, false, false, false, false, false, false] rfl rfl (take_ofW HT_.out HW_.out (by kernel_rfl)) (fun _ _ _ h => h) (Or.inl ⟨by rfl, ?_⟩) hHeld ?_ ?_
        rotate_left
        · rintro w' ⟨s0, s1, s2, s3, s4, s5, s6, s7⟩
          go_simp
          with_reducible rfl
        rotate_left
        · simp only [Act.put, List.setIfInBounds_toArray, List.set_cons_zero, List.set_cons_succ, i64_w, i32_w]
          rfl
        refine take_ (i := 2) (N := some 56) (v := ?_) (a' := ?_) #[true, true, true, false, false, false, false, false, false, false, false, false, false, false, false, false, false, false, false, false, false, false, false] rfl rfl (take_ofW HT_.out HW_.out (by kernel_rfl)) (fun _ _ _ h => h) (Or.inl ⟨by rfl, ?_⟩) hHeld ?_ ?_
        rotate_left
        · rintro w' ⟨s0, s1, s2, s3, s4, s5, s6, s7⟩
          go_simp
          with_reducible rfl
        rotate_left
        · simp only [Act.put, List.setIfInBounds_toArray, List.set_cons_zero, List.set_cons_succ, i64_w, i32_w]
          rfl
        refine take_ (i := 4) (N := some 58) (v := ?_) (a' := ?_) #[true, true, true, false, true, false, false, false, false, false, false, false, false, false, false, false, false, false, false, false, false, false, false] rfl rfl (take_ofW HT_.out HW_.out (by kernel_rfl)) (fun _ _ _ h => h) (Or.inl ⟨by rfl, ?_⟩) hHeld ?_ ?_
        rotate_left
        · rintro w' ⟨s0, s1, s2, s3, s4, s5, s6, s7⟩
          go_simp
          with_reducible rfl
        rotate_left
        · simp only [Act.put, List.setIfInBounds_toArray, List.set_cons_zero, List.set_cons_succ, i64_w, i32_w]
          rfl
        refine take_ (i := 5) (N := some 59) (v := ?_) (a' := ?_) #[true, true, true, false, true, true, false, false, false, false, false, false, false, false, false, false, false, false, false, false, false, false, false] rfl rfl (take_ofW HT_.out HW_.out (by kernel_rfl)) (fun _ _ _ h => h) (Or.inl ⟨by rfl, ?_⟩) hHeld ?_ ?_
        rotate_left
        · rintro w' ⟨s0, s1, s2, s3, s4, s5, s6, s7⟩
          go_simp
          with_reducible rfl
        rotate_left
        · simp only [Act.put, List.setIfInBounds_toArray, List.set_cons_zero, List.set_cons_succ, i64_w, i32_w]
          rfl
        refine take_ (i := 6) (N := some 60) (v := ?_) (a' := ?_) #[true, true, true, false, true, true, true, false, false, false, false, false, false, false, false, false, false, false, false, false, false, false, false] rfl rfl (take_ofW HT_.out HW_.out (by kernel_rfl)) (fun _ _ _ h => h) (Or.inl ⟨by rfl, ?_⟩) hHeld ?_ ?_
        rotate_left
        · rintro w' ⟨s0, s1, s2, s3, s4, s5, s6, s7⟩
          go_simp
          with_reducible rfl
        rotate_left
        · simp only [Act.put, List.setIfInBounds_toArray, List.set_cons_zero, List.set_cons_succ, i64_w, i32_w]
          rfl
        refine one_ (i := 3) (N := some 57) #[true, true, true, true, true, true, true, false, false, false, false, false, false, false, false, false, false, false, false, false, false, false, false] rfl rfl (one_of HT_.out (by kernel_rfl)) (by decide) (fun K hK => ?_)
        refine goes_ Tryd.func83 (by kernel_rfl) rfl #[.agg #[.int .i64 a0_0, .int .i64 a0_1], .agg #[.int .i64 a1_0, .int .i64 a1_1], .agg #[.int .i64 a2_0, .int .i64 a2_1]] (by rfl) rfl rfl (by (try simp only [List.map_toArray, List.map_cons, List.map_nil]); first | done | rfl | (simp only [List.length_drop, List.length_take]; rfl)) ?_
        with_reducible refine (screen_side.calls a0_0 a0_1 a1_0 a1_1 a2_0 a2_1 t138 _ A139.out).mono ?_
        rintro e w145 ⟨rfl, hb⟩
        refine ⟨_, rfl, ?_⟩
        have n0_ := Aside0.mk (blk_below (g := gb126) (o := .cells #[.int .i64 a0_0, .int .i64 a0_1] 44 (0, 0)) (by (with_reducible repeat (first | refine blk_drewN ?_ _ | refine blk_drew ?_ | refine blk_alloc ?_ _)); exact BK126.out) hb)
        have n1_ := Aside0.mk (blk_below (g := gb127) (o := .cells #[.int .i64 a1_0, .int .i64 a1_1] 44 (0, 0)) (by (with_reducible repeat (first | refine blk_drewN ?_ _ | refine blk_drew ?_ | refine blk_alloc ?_ _)); exact BK127.out) hb)
        have n2_ := Aside0.mk (blk_below (g := gb128) (o := .cells #[.int .i64 a2_0, .int .i64 a2_1] 44 (0, 0)) (by (with_reducible repeat (first | refine blk_drewN ?_ _ | refine blk_drew ?_ | refine blk_alloc ?_ _)); exact BK128.out) hb)
        have n3_ := Aside0.mk (blk_below (g := gb129) (o := .cells #[.int .i64 a3_0, .int .i64 a3_1] 44 (0, 0)) (by (with_reducible repeat (first | refine blk_drewN ?_ _ | refine blk_drew ?_ | refine blk_alloc ?_ _)); exact BK129.out) hb)
        have n4_ := Aside0.mk (below_step (by repeat (first | (with_reducible first | exact HB.out | apply below_alloc | apply pw_below_drewN | apply below_drew1 | refine below_set ?_ GE126.out | refine below_set ?_ GE127.out | refine below_set ?_ GE128.out | refine below_set ?_ GE129.out) | exact HB.out)) hb)
        clear BK126
        clear BK127
        clear BK128
        clear BK129
        clear HB
        have BK126 := n0_
        have BK127 := n1_
        have BK128 := n2_
        have BK129 := n3_
        have HB := n4_
        clear n0_ n1_ n2_ n3_ n4_
        (try clear hb)
        (try clear hb2)
        (try clear hk)
        (try clear hi)
        refine hK.out _ _ ⟨(blk_cell BK126.out 0).trans rfl, (blk_cell BK126.out 1).trans rfl, (blk_cell BK127.out 0).trans rfl, (blk_cell BK127.out 1).trans rfl, (blk_cell BK128.out 0).trans rfl, (blk_cell BK128.out 1).trans rfl, (blk_cell BK129.out 0).trans rfl, (blk_cell BK129.out 1).trans rfl⟩ (fun hHeld => ?_)
        clear hK K
        refine norm_ (a' := ?_) ?_ ?_
        rotate_left
        · show Act.put _ (some 57) _ = _
          simp only [Act.put, List.setIfInBounds_toArray, List.set_cons_zero, List.set_cons_succ, i64_w, i32_w]
          rfl
        refine one_ (i := 7) (N := some 61) #[true, true, true, true, true, true, true, true, false, false, false, false, false, false, false, false, false, false, false, false, false, false, false] rfl rfl (one_of HT_.out (by kernel_rfl)) (by decide) (fun K hK => ?_)
        refine goes_ Tryd.func83 (by kernel_rfl) rfl #[.agg #[.int .i64 a0_0, .int .i64 a0_1], .agg #[.int .i64 a1_0, .int .i64 a1_1], .agg #[.int .i64 a3_0, .int .i64 a3_1]] (by rfl) rfl rfl (by (try simp only [List.map_toArray, List.map_cons, List.map_nil]); first | done | rfl | (simp only [List.length_drop, List.length_take]; rfl)) ?_
        with_reducible refine (screen_side.calls a0_0 a0_1 a1_0 a1_1 a3_0 a3_1 t139 _ A140.out).mono ?_
        rintro e w146 ⟨rfl, hb⟩
        refine ⟨_, rfl, ?_⟩
        have n0_ := Aside0.mk (blk_below (g := gb126) (o := .cells #[.int .i64 a0_0, .int .i64 a0_1] 44 (0, 0)) (by (with_reducible repeat (first | refine blk_drewN ?_ _ | refine blk_drew ?_ | refine blk_alloc ?_ _)); exact BK126.out) hb)
        have n1_ := Aside0.mk (blk_below (g := gb127) (o := .cells #[.int .i64 a1_0, .int .i64 a1_1] 44 (0, 0)) (by (with_reducible repeat (first | refine blk_drewN ?_ _ | refine blk_drew ?_ | refine blk_alloc ?_ _)); exact BK127.out) hb)
        have n2_ := Aside0.mk (blk_below (g := gb128) (o := .cells #[.int .i64 a2_0, .int .i64 a2_1] 44 (0, 0)) (by (with_reducible repeat (first | refine blk_drewN ?_ _ | refine blk_drew ?_ | refine blk_alloc ?_ _)); exact BK128.out) hb)
        have n3_ := Aside0.mk (blk_below (g := gb129) (o := .cells #[.int .i64 a3_0, .int .i64 a3_1] 44 (0, 0)) (by (with_reducible repeat (first | refine blk_drewN ?_ _ | refine blk_drew ?_ | refine blk_alloc ?_ _)); exact BK129.out) hb)
        have n4_ := Aside0.mk (below_step (by repeat (first | (with_reducible first | exact HB.out | apply below_alloc | apply pw_below_drewN | apply below_drew1 | refine below_set ?_ GE126.out | refine below_set ?_ GE127.out | refine below_set ?_ GE128.out | refine below_set ?_ GE129.out) | exact HB.out)) hb)
        clear BK126
        clear BK127
        clear BK128
        clear BK129
        clear HB
        have BK126 := n0_
        have BK127 := n1_
        have BK128 := n2_
        have BK129 := n3_
        have HB := n4_
        clear n0_ n1_ n2_ n3_ n4_
        (try clear hb)
        (try clear hb2)
        (try clear hk)
        (try clear hi)
        refine hK.out _ _ ⟨(blk_cell BK126.out 0).trans rfl, (blk_cell BK126.out 1).trans rfl, (blk_cell BK127.out 0).trans rfl, (blk_cell BK127.out 1).trans rfl, (blk_cell BK128.out 0).trans rfl, (blk_cell BK128.out 1).trans rfl, (blk_cell BK129.out 0).trans rfl, (blk_cell BK129.out 1).trans rfl⟩ (fun hHeld => ?_)
        clear hK K
        refine norm_ (a' := ?_) ?_ ?_
        rotate_left
        · show Act.put _ (some 61) _ = _
          simp only [Act.put, List.setIfInBounds_toArray, List.set_cons_zero, List.set_cons_succ, i64_w, i32_w]
          rfl
        refine pure_ (i := 8) (N := some 62) (v := ?_) (a' := ?_) #[true, true, true, true, true, true, true, true, true, false, false, false, false, false, false, false, false, false, false, false, false, false, false] rfl rfl (any_of HT_.out (by kernel_rfl)) (fun _ _ _ h => h) (Or.inl ⟨by rfl, ?_⟩) ?_ ?_
        rotate_left
        · intro w'
          go_simp
          with_reducible rfl
        rotate_left
        · simp only [Act.put, List.setIfInBounds_toArray, List.set_cons_zero, List.set_cons_succ, i64_w, i32_w]
          rfl
        refine pure_ (i := 9) (N := some 63) (v := ?_) (a' := ?_) #[true, true, true, true, true, true, true, true, true, true, false, false, false, false, false, false, false, false, false, false, false, false, false] rfl rfl (any_of HT_.out (by kernel_rfl)) (fun _ _ _ h => h) (Or.inl ⟨by rfl, ?_⟩) ?_ ?_
        rotate_left
        · intro w'
          go_simp
          with_reducible rfl
        rotate_left
        · simp only [Act.put, List.setIfInBounds_toArray, List.set_cons_zero, List.set_cons_succ, i64_w, i32_w]
          rfl
        refine pure_ (i := 10) (N := some 64) (v := ?_) (a' := ?_) #[true, true, true, true, true, true, true, true, true, true, true, false, false, false, false, false, false, false, false, false, false, false, false] rfl rfl (any_of HT_.out (by kernel_rfl)) (fun _ _ _ h => h) (Or.inl ⟨by rfl, ?_⟩) ?_ ?_
        rotate_left
        · intro w'
          go_simp
          with_reducible rfl
        rotate_left
        · simp only [Act.put, List.setIfInBounds_toArray, List.set_cons_zero, List.set_cons_succ, i64_w, i32_w]
          rfl
        refine take_ (i := 11) (N := some 65) (v := ?_) (a' := ?_) #[true, true, true, true, true, true, true, true, true, true, true, true, false, false, false, false, false, false, false, false, false, false, false] rfl rfl (take_ofW HT_.out HW_.out (by kernel_rfl)) (fun _ _ _ h => h) (Or.inl ⟨by rfl, ?_⟩) hHeld ?_ ?_
        rotate_left
        · rintro w' ⟨s0, s1, s2, s3, s4, s5, s6, s7⟩
          go_simp
          with_reducible rfl
        rotate_left
        · simp only [Act.put, List.setIfInBounds_toArray, List.set_cons_zero, List.set_cons_succ, i64_w, i32_w]
          rfl
        refine take_ (i := 12) (N := some 66) (v := ?_) (a' := ?_) #[true, true, true, true, true, true, true, true, true, true, true, true, true, false, false, false, false, false, false, false, false, false, false] rfl rfl (take_ofW HT_.out HW_.out (by kernel_rfl)) (fun _ _ _ h => h) (Or.inl ⟨by rfl, ?_⟩) hHeld ?_ ?_
        rotate_left
        · rintro w' ⟨s0, s1, s2, s3, s4, s5, s6, s7⟩
          go_simp
          with_reducible rfl
        rotate_left
        · simp only [Act.put, List.setIfInBounds_toArray, List.set_cons_zero, List.set_cons_succ, i64_w, i32_w]
          rfl
        refine take_ (i := 13) (N := some 67) (v := ?_) (a' := ?_) #[true, true, true, true, true, true, true, true, true, true, true, true, true, true, false, false, false, false, false, false, false, false, false] rfl rfl (take_ofW HT_.out HW_.out (by kernel_rfl)) (fun _ _ _ h => h) (Or.inl ⟨by rfl, ?_⟩) hHeld ?_ ?_
        rotate_left
        · rintro w' ⟨s0, s1, s2, s3, s4, s5, s6, s7⟩
          go_simp
          with_reducible rfl
        rotate_left
        · simp only [Act.put, List.setIfInBounds_toArray, List.set_cons_zero, List.set_cons_succ, i64_w, i32_w]
          rfl
        refine take_ (i := 15) (N := some 69) (v := ?_) (a' := ?_) #[true, true, true, true, true, true, true, true, true, true, true, true, true, true, false, true, false, false, false, false, false, false, false] rfl rfl (take_ofW HT_.out HW_.out (by kernel_rfl)) (fun _ _ _ h => h) (Or.inl ⟨by rfl, ?_⟩) hHeld ?_ ?_
        rotate_left
        · rintro w' ⟨s0, s1, s2, s3, s4, s5, s6, s7⟩
          go_simp
          with_reducible rfl
        rotate_left
        · simp only [Act.put, List.setIfInBounds_toArray, List.set_cons_zero, List.set_cons_succ, i64_w, i32_w]
          rfl
        refine take_ (i := 16) (N := some 70) (v := ?_) (a' := ?_) #[true, true, true, true, true, true, true, true, true, true, true, true, true, true, false, true, true, false, false, false, false, false, false] rfl rfl (take_ofW HT_.out HW_.out (by kernel_rfl)) (fun _ _ _ h => h) (Or.inl ⟨by rfl, ?_⟩) hHeld ?_ ?_
        rotate_left
        · rintro w' ⟨s0, s1, s2, s3, s4, s5, s6, s7⟩
          go_simp
          with_reducible rfl
        rotate_left
        · simp only [Act.put, List.setIfInBounds_toArray, List.set_cons_zero, List.set_cons_succ, i64_w, i32_w]
          rfl
        refine take_ (i := 17) (N := some 71) (v := ?_) (a' := ?_) #[true, true, true, true, true, true, true, true, true, true, true, true, true, true, false, true, true, true, false, false, false, false, false] rfl rfl (take_ofW HT_.out HW_.out (by kernel_rfl)) (fun _ _ _ h => h) (Or.inl ⟨by rfl, ?_⟩) hHeld ?_ ?_
        rotate_left
        · rintro w' ⟨s0, s1, s2, s3, s4, s5, s6, s7⟩
          go_simp
          with_reducible rfl
        rotate_left
        · simp only [Act.put, List.setIfInBounds_toArray, List.set_cons_zero, List.set_cons_succ, i64_w, i32_w]
          rfl
        refine one_ (i := 14) (N := some 68) #[true, true, true, true, true, true, true, true, true, true, true, true, true, true, true, true, true, true, false, false, false, false, false] rfl rfl (one_of HT_.out (by kernel_rfl)) (by decide) (fun K hK => ?_)
        refine goes_ Tryd.func83 (by kernel_rfl) rfl #[.agg #[.int .i64 a2_0, .int .i64 a2_1], .agg #[.int .i64 a3_0, .int .i64 a3_1], .agg #[.int .i64 a0_0, .int .i64 a0_1]] (by rfl) rfl rfl (by (try simp only [List.map_toArray, List.map_cons, List.map_nil]); first | done | rfl | (simp only [List.length_drop, List.length_take]; rfl)) ?_
        with_reducible refine (screen_side.calls a2_0 a2_1 a3_0 a3_1 a0_0 a0_1 t140 _ A142.out).mono ?_
        rintro e w147 ⟨rfl, hb⟩
        refine ⟨_, rfl, ?_⟩
        have n0_ := Aside0.mk (blk_below (g := gb126) (o := .cells #[.int .i64 a0_0, .int .i64 a0_1] 44 (0, 0)) (by (with_reducible repeat (first | refine blk_drewN ?_ _ | refine blk_drew ?_ | refine blk_alloc ?_ _)); exact BK126.out) hb)
        have n1_ := Aside0.mk (blk_below (g := gb127) (o := .cells #[.int .i64 a1_0, .int .i64 a1_1] 44 (0, 0)) (by (with_reducible repeat (first | refine blk_drewN ?_ _ | refine blk_drew ?_ | refine blk_alloc ?_ _)); exact BK127.out) hb)
        have n2_ := Aside0.mk (blk_below (g := gb128) (o := .cells #[.int .i64 a2_0, .int .i64 a2_1] 44 (0, 0)) (by (with_reducible repeat (first | refine blk_drewN ?_ _ | refine blk_drew ?_ | refine blk_alloc ?_ _)); exact BK128.out) hb)
        have n3_ := Aside0.mk (blk_below (g := gb129) (o := .cells #[.int .i64 a3_0, .int .i64 a3_1] 44 (0, 0)) (by (with_reducible repeat (first | refine blk_drewN ?_ _ | refine blk_drew ?_ | refine blk_alloc ?_ _)); exact BK129.out) hb)
        have n4_ := Aside0.mk (below_step (by repeat (first | (with_reducible first | exact HB.out | apply below_alloc | apply pw_below_drewN | apply below_drew1 | refine below_set ?_ GE126.out | refine below_set ?_ GE127.out | refine below_set ?_ GE128.out | refine below_set ?_ GE129.out) | exact HB.out)) hb)
        clear BK126
        clear BK127
        clear BK128
        clear BK129
        clear HB
        have BK126 := n0_
        have BK127 := n1_
        have BK128 := n2_
        have BK129 := n3_
        have HB := n4_
        clear n0_ n1_ n2_ n3_ n4_
        (try clear hb)
        (try clear hb2)
        (try clear hk)
        (try clear hi)
        refine hK.out _ _ ⟨(blk_cell BK126.out 0).trans rfl, (blk_cell BK126.out 1).trans rfl, (blk_cell BK127.out 0).trans rfl, (blk_cell BK127.out 1).trans rfl, (blk_cell BK128.out 0).trans rfl, (blk_cell BK128.out 1).trans rfl, (blk_cell BK129.out 0).trans rfl, (blk_cell BK129.out 1).trans rfl⟩ (fun hHeld => ?_)
        clear hK K
        refine norm_ (a' := ?_) ?_ ?_
        rotate_left
        · show Act.put _ (some 68) _ = _
          simp only [Act.put, List.setIfInBounds_toArray, List.set_cons_zero, List.set_cons_succ, i64_w, i32_w]
          rfl
        refine one_ (i := 18) (N := some 72) #[true, true, true, true, true, true, true, true, true, true, true, true, true, true, true, true, true, true, true, false, false, false, false] rfl rfl (one_of HT_.out (by kernel_rfl)) (by decide) (fun K hK => ?_)
        refine goes_ Tryd.func83 (by kernel_rfl) rfl #[.agg #[.int .i64 a2_0, .int .i64 a2_1], .agg #[.int .i64 a3_0, .int .i64 a3_1], .agg #[.int .i64 a1_0, .int .i64 a1_1]] (by rfl) rfl rfl (by (try simp only [List.map_toArray, List.map_cons, List.map_nil]); first | done | rfl | (simp only [List.length_drop, List.length_take]; rfl)) ?_
        with_reducible refine (screen_side.calls a2_0 a2_1 a3_0 a3_1 a1_0 a1_1 t141 _ A143.out).mono ?_
        rintro e w148 ⟨rfl, hb⟩
        refine ⟨_, rfl, ?_⟩
        have n0_ := Aside0.mk (blk_below (g := gb126) (o := .cells #[.int .i64 a0_0, .int .i64 a0_1] 44 (0, 0)) (by (with_reducible repeat (first | refine blk_drewN ?_ _ | refine blk_drew ?_ | refine blk_alloc ?_ _)); exact BK126.out) hb)
        have n1_ := Aside0.mk (blk_below (g := gb127) (o := .cells #[.int .i64 a1_0, .int .i64 a1_1] 44 (0, 0)) (by (with_reducible repeat (first | refine blk_drewN ?_ _ | refine blk_drew ?_ | refine blk_alloc ?_ _)); exact BK127.out) hb)
        have n2_ := Aside0.mk (blk_below (g := gb128) (o := .cells #[.int .i64 a2_0, .int .i64 a2_1] 44 (0, 0)) (by (with_reducible repeat (first | refine blk_drewN ?_ _ | refine blk_drew ?_ | refine blk_alloc ?_ _)); exact BK128.out) hb)
        have n3_ := Aside0.mk (blk_below (g := gb129) (o := .cells #[.int .i64 a3_0, .int .i64 a3_1] 44 (0, 0)) (by (with_reducible repeat (first | refine blk_drewN ?_ _ | refine blk_drew ?_ | refine blk_alloc ?_ _)); exact BK129.out) hb)
        have n4_ := Aside0.mk (below_step (by repeat (first | (with_reducible first | exact HB.out | apply below_alloc | apply pw_below_drewN | apply below_drew1 | refine below_set ?_ GE126.out | refine below_set ?_ GE127.out | refine below_set ?_ GE128.out | refine below_set ?_ GE129.out) | exact HB.out)) hb)
        clear BK126
        clear BK127
        clear BK128
        clear BK129
        clear HB
        have BK126 := n0_
        have BK127 := n1_
        have BK128 := n2_
        have BK129 := n3_
        have HB := n4_
        clear n0_ n1_ n2_ n3_ n4_
        (try clear hb)
        (try clear hb2)
        (try clear hk)
        (try clear hi)
        refine hK.out _ _ ⟨(blk_cell BK126.out 0).trans rfl, (blk_cell BK126.out 1).trans rfl, (blk_cell BK127.out 0).trans rfl, (blk_cell BK127.out 1).trans rfl, (blk_cell BK128.out 0).trans rfl, (blk_cell BK128.out 1).trans rfl, (blk_cell BK129.out 0).trans rfl, (blk_cell BK129.out 1).trans rfl⟩ (fun hHeld => ?_)
        clear hK K
        refine norm_ (a' := ?_) ?_ ?_
        rotate_left
        · show Act.put _ (some 72) _ = _
          simp only [Act.put, List.setIfInBounds_toArray, List.set_cons_zero, List.set_cons_succ, i64_w, i32_w]
          rfl
        refine pure_ (i := 19) (N := some 73) (v := ?_) (a' := ?_) #[true, true, true, true, true, true, true, true, true, true, true, true, true, true, true, true, true, true, true, true, false, false, false] rfl rfl (any_of HT_.out (by kernel_rfl)) (fun _ _ _ h => h) (Or.inl ⟨by rfl, ?_⟩) ?_ ?_
        rotate_left
        · intro w'
          go_simp
          with_reducible rfl
        rotate_left
        · simp only [Act.put, List.setIfInBounds_toArray, List.set_cons_zero, List.set_cons_succ, i64_w, i32_w]
          rfl
        refine pure_ (i := 20) (N := some 74) (v := ?_) (a' := ?_) #[true, true, true, true, true, true, true, true, true, true, true, true, true, true, true, true, true, true, true, true, true, false, false] rfl rfl (any_of HT_.out (by kernel_rfl)) (fun _ _ _ h => h) (Or.inl ⟨by rfl, ?_⟩) ?_ ?_
        rotate_left
        · intro w'
          go_simp
          with_reducible rfl
        rotate_left
        · simp only [Act.put, List.setIfInBounds_toArray, List.set_cons_zero, List.set_cons_succ, i64_w, i32_w]
          rfl
        refine pure_ (i := 21) (N := some 75) (v := ?_) (a' := ?_) #[true, true, true, true, true, true, true, true, true, true, true, true, true, true, true, true, true, true, true, true, true, true, false] rfl rfl (any_of HT_.out (by kernel_rfl)) (fun _ _ _ h => h) (Or.inl ⟨by rfl, ?_⟩) ?_ ?_
        rotate_left
        · intro w'
          go_simp
          with_reducible rfl
        rotate_left
        · simp only [Act.put, List.setIfInBounds_toArray, List.set_cons_zero, List.set_cons_succ, i64_w, i32_w]
          rfl
        refine pure_ (i := 22) (N := some 8) (v := ?_) (a' := ?_) #[true, true, true, true, true, true, true, true, true, true, true, true, true, true, true, true, true, true, true, true, true, true, true] rfl rfl (any_of HT_.out (by kernel_rfl)) (fun _ _ _ h => h) (Or.inl ⟨by rfl, ?_⟩) ?_ ?_
        rotate_left
        · intro w'
          go_simp
          with_reducible rfl
        rotate_left
        · simp only [Act.put, List.setIfInBounds_toArray, List.set_cons_zero, List.set_cons_succ, i64_w, i32_w]
          rfl
        refine done_ (done_of HT_.out (by kernel_rfl)) ?_
        try go_wp2
        go_ret
        exact ⟨by first | rfl | (simp [errW_none, errW_some] <;> rfl) | (simp [*, errW_none, errW_some] <;> rfl), by repeat (first | (with_reducible first | exact HB.out | apply below_alloc | apply pw_below_drewN | apply below_drew1 | refine below_set ?_ GE126.out | refine below_set ?_ GE127.out | refine below_set ?_ GE128.out | refine below_set ?_ GE129.out) | exact HB.out)⟩
      · rw [if_neg c141] at H
        have c141b0 : decide ((wrap64 (t138 * t139)) < 0) = false := decide_eq_false c141
        clear c141
        obtain rfl := Option.some.inj H
        try go_wp2
        have n0_ := Aside0.mk (blk_drew BK126.out)
        have n1_ := Aside0.mk (blk_drew BK127.out)
        have n2_ := Aside0.mk (blk_drew BK128.out)
        have n3_ := Aside0.mk (blk_drew BK129.out)
        have n4_ := Aside0.mk (below_drew1 HB.out)
        clear BK126
        clear BK127
        clear BK128
        clear BK129
        clear HB
        have BK126 := n0_
        have BK127 := n1_
        have BK128 := n2_
        have BK129 := n3_
        have HB := n4_
        clear n0_ n1_ n2_ n3_ n4_
        refine start_ (n := 23) (S := fun w' => w'.cell? ⟨gb126, 0, none⟩ = some (.int .i64 a0_0) ∧ w'.cell? ⟨gb126, 1, none⟩ = some (.int .i64 a0_1) ∧ w'.cell? ⟨gb127, 0, none⟩ = some (.int .i64 a1_0) ∧ w'.cell? ⟨gb127, 1, none⟩ = some (.int .i64 a1_1) ∧ w'.cell? ⟨gb128, 0, none⟩ = some (.int .i64 a2_0) ∧ w'.cell? ⟨gb128, 1, none⟩ = some (.int .i64 a2_1) ∧ w'.cell? ⟨gb129, 0, none⟩ = some (.int .i64 a3_0) ∧ w'.cell? ⟨gb129, 1, none⟩ = some (.int .i64 a3_1)) (ds := []) #[false, false, false, false, false, false, false, false, false, false, false, false, false, false, false, false, false, false, false, false, false, false, false] (by kernel_rfl) rfl rfl ⟨(blk_cell BK126.out 0).trans rfl, (blk_cell BK126.out 1).trans rfl, (blk_cell BK127.out 0).trans rfl, (blk_cell BK127.out 1).trans rfl, (blk_cell BK128.out 0).trans rfl, (blk_cell BK128.out 1).trans rfl, (blk_cell BK129.out 0).trans rfl, (blk_cell BK129.out 1).trans rfl⟩ (fun hHeld => ?_); refine with_tabW screen_touch.tab6 screen_touch.bits6 (fun HT_ HW_ => ?_)
        generalize wc.drew = w149 at BK126 BK127 BK128 BK129 HB hHeld ⊢
        refine take_ (i := 0) (N := some 54) (v := ?_) (a' := ?_) #[true, false, false, false, false, false, false, false, false, false, false, false, false, false, false, false, false, false, false, false, false, false, false] rfl rfl (take_ofW HT_.out HW_.out (by kernel_rfl)) (fun _ _ _ h => h) (Or.inl ⟨by rfl, ?_⟩) hHeld ?_ ?_
        rotate_left
        · rintro w' ⟨s0, s1, s2, s3, s4, s5, s6, s7⟩
          go_simp
          with_reducible rfl
        rotate_left
        · simp only [Act.put, List.setIfInBounds_toArray, List.set_cons_zero, List.set_cons_succ, i64_w, i32_w]
          rfl
        refine take_ (i := 1) (N := some 55) (v := ?_) (a' := ?_) #[true, true, false, false, false, false, false, false, false, false, false, false, false, false, false, false, false, false, false, false, false, false, false] rfl rfl (take_ofW HT_.out HW_.out (by kernel_rfl)) (fun _ _ _ h => h) (Or.inl ⟨by rfl, ?_⟩) hHeld ?_ ?_
        rotate_left
        · rintro w' ⟨s0, s1, s2, s3, s4, s5, s6, s7⟩
          go_simp
          with_reducible rfl
        rotate_left
        · simp only [Act.put, List.setIfInBounds_toArray, List.set_cons_zero, List.set_cons_succ, i64_w, i32_w]
          rfl
        refine take_ (i := 2) (N := some 56) (v := ?_) (a' := ?_) #[true, true, true, false, false, false, false, false, false, false, false, false, false, false, false, false, false, false, false, false, false, false, false] rfl rfl (take_ofW HT_.out HW_.out (by kernel_rfl)) (fun _ _ _ h => h) (Or.inl ⟨by rfl, ?_⟩) hHeld ?_ ?_
        rotate_left
        · rintro w' ⟨s0, s1, s2, s3, s4, s5, s6, s7⟩
          go_simp
          with_reducible rfl
        rotate_left
        · simp only [Act.put, List.setIfInBounds_toArray, List.set_cons_zero, List.set_cons_succ, i64_w, i32_w]
          rfl
        refine take_ (i := 4) (N := some 58) (v := ?_) (a' := ?_) #[true, true, true, false, true, false, false, false, false, false, false, false, false, false, false, false, false, false, false, false, false, false, false] rfl rfl (take_ofW HT_.out HW_.out (by kernel_rfl)) (fun _ _ _ h => h) (Or.inl ⟨by rfl, ?_⟩) hHeld ?_ ?_
        rotate_left
        · rintro w' ⟨s0, s1, s2, s3, s4, s5, s6, s7⟩
          go_simp
          with_reducible rfl
        rotate_left
        · simp only [Act.put, List.setIfInBounds_toArray, List.set_cons_zero, List.set_cons_succ, i64_w, i32_w]
          rfl
        refine take_ (i := 5) (N := some 59) (v := ?_) (a' := ?_) #[true, true, true, false, true, true, false, false, false, false, false, false, false, false, false, false, false, false, false, false, false, false, false] rfl rfl (take_ofW HT_.out HW_.out (by kernel_rfl)) (fun _ _ _ h => h) (Or.inl ⟨by rfl, ?_⟩) hHeld ?_ ?_
        rotate_left
        · rintro w' ⟨s0, s1, s2, s3, s4, s5, s6, s7⟩
          go_simp
          with_reducible rfl
        rotate_left
        · simp only [Act.put, List.setIfInBounds_toArray, List.set_cons_zero, List.set_cons_succ, i64_w, i32_w]
          rfl
        refine take_ (i := 6) (N := some 60) (v := ?_) (a' := ?_) #[true, true, true, false, true, true, true, false, false, false, false, false, false, false, false, false, false, false, false, false, false, false, false] rfl rfl (take_ofW HT_.out HW_.out (by kernel_rfl)) (fun _ _ _ h => h) (Or.inl ⟨by rfl, ?_⟩) hHeld ?_ ?_
        rotate_left
        · rintro w' ⟨s0, s1, s2, s3, s4, s5, s6, s7⟩
          go_simp
          with_reducible rfl
        rotate_left
        · simp only [Act.put, List.setIfInBounds_toArray, List.set_cons_zero, List.set_cons_succ, i64_w, i32_w]
          rfl
        refine one_ (i := 3) (N := some 57) #[true, true, true, true, true, true, true, false, false, false, false, false, false, false, false, false, false, false, false, false, false, false, false] rfl rfl (one_of HT_.out (by kernel_rfl)) (by decide) (fun K hK => ?_)
        refine goes_ Tryd.func83 (by kernel_rfl) rfl #[.agg #[.int .i64 a0_0, .int .i64 a0_1], .agg #[.int .i64 a1_0, .int .i64 a1_1], .agg #[.int .i64 a2_0, .int .i64 a2_1]] (by rfl) rfl rfl (by (try simp only [List.map_toArray, List.map_cons, List.map_nil]); first | done | rfl | (simp only [List.length_drop, List.length_take]; rfl)) ?_
        with_reducible refine (screen_side.calls a0_0 a0_1 a1_0 a1_1 a2_0 a2_1 t138 _ A139.out).mono ?_
        rintro e w150 ⟨rfl, hb⟩
        refine ⟨_, rfl, ?_⟩
        have n0_ := Aside0.mk (blk_below (g := gb126) (o := .cells #[.int .i64 a0_0, .int .i64 a0_1] 44 (0, 0)) (by (with_reducible repeat (first | refine blk_drewN ?_ _ | refine blk_drew ?_ | refine blk_alloc ?_ _)); exact BK126.out) hb)
        have n1_ := Aside0.mk (blk_below (g := gb127) (o := .cells #[.int .i64 a1_0, .int .i64 a1_1] 44 (0, 0)) (by (with_reducible repeat (first | refine blk_drewN ?_ _ | refine blk_drew ?_ | refine blk_alloc ?_ _)); exact BK127.out) hb)
        have n2_ := Aside0.mk (blk_below (g := gb128) (o := .cells #[.int .i64 a2_0, .int .i64 a2_1] 44 (0, 0)) (by (with_reducible repeat (first | refine blk_drewN ?_ _ | refine blk_drew ?_ | refine blk_alloc ?_ _)); exact BK128.out) hb)
        have n3_ := Aside0.mk (blk_below (g := gb129) (o := .cells #[.int .i64 a3_0, .int .i64 a3_1] 44 (0, 0)) (by (with_reducible repeat (first | refine blk_drewN ?_ _ | refine blk_drew ?_ | refine blk_alloc ?_ _)); exact BK129.out) hb)
        have n4_ := Aside0.mk (below_step (by repeat (first | (with_reducible first | exact HB.out | apply below_alloc | apply pw_below_drewN | apply below_drew1 | refine below_set ?_ GE126.out | refine below_set ?_ GE127.out | refine below_set ?_ GE128.out | refine below_set ?_ GE129.out) | exact HB.out)) hb)
        clear BK126
        clear BK127
        clear BK128
        clear BK129
        clear HB
        have BK126 := n0_
        have BK127 := n1_
        have BK128 := n2_
        have BK129 := n3_
        have HB := n4_
        clear n0_ n1_ n2_ n3_ n4_
        (try clear hb)
        (try clear hb2)
        (try clear hk)
        (try clear hi)
        refine hK.out _ _ ⟨(blk_cell BK126.out 0).trans rfl, (blk_cell BK126.out 1).trans rfl, (blk_cell BK127.out 0).trans rfl, (blk_cell BK127.out 1).trans rfl, (blk_cell BK128.out 0).trans rfl, (blk_cell BK128.out 1).trans rfl, (blk_cell BK129.out 0).trans rfl, (blk_cell BK129.out 1).trans rfl⟩ (fun hHeld => ?_)
        clear hK K
        refine norm_ (a' := ?_) ?_ ?_
        rotate_left
        · show Act.put _ (some 57) _ = _
          simp only [Act.put, List.setIfInBounds_toArray, List.set_cons_zero, List.set_cons_succ, i64_w, i32_w]
          rfl
        refine one_ (i := 7) (N := some 61) #[true, true, true, true, true, true, true, true, false, false, false, false, false, false, false, false, false, false, false, false, false, false, false] rfl rfl (one_of HT_.out (by kernel_rfl)) (by decide) (fun K hK => ?_)
        refine goes_ Tryd.func83 (by kernel_rfl) rfl #[.agg #[.int .i64 a0_0, .int .i64 a0_1], .agg #[.int .i64 a1_0, .int .i64 a1_1], .agg #[.int .i64 a3_0, .int .i64 a3_1]] (by rfl) rfl rfl (by (try simp only [List.map_toArray, List.map_cons, List.map_nil]); first | done | rfl | (simp only [List.length_drop, List.length_take]; rfl)) ?_
        with_reducible refine (screen_side.calls a0_0 a0_1 a1_0 a1_1 a3_0 a3_1 t139 _ A140.out).mono ?_
        rintro e w151 ⟨rfl, hb⟩
        refine ⟨_, rfl, ?_⟩
        have n0_ := Aside0.mk (blk_below (g := gb126) (o := .cells #[.int .i64 a0_0, .int .i64 a0_1] 44 (0, 0)) (by (with_reducible repeat (first | refine blk_drewN ?_ _ | refine blk_drew ?_ | refine blk_alloc ?_ _)); exact BK126.out) hb)
        have n1_ := Aside0.mk (blk_below (g := gb127) (o := .cells #[.int .i64 a1_0, .int .i64 a1_1] 44 (0, 0)) (by (with_reducible repeat (first | refine blk_drewN ?_ _ | refine blk_drew ?_ | refine blk_alloc ?_ _)); exact BK127.out) hb)
        have n2_ := Aside0.mk (blk_below (g := gb128) (o := .cells #[.int .i64 a2_0, .int .i64 a2_1] 44 (0, 0)) (by (with_reducible repeat (first | refine blk_drewN ?_ _ | refine blk_drew ?_ | refine blk_alloc ?_ _)); exact BK128.out) hb)
        have n3_ := Aside0.mk (blk_below (g := gb129) (o := .cells #[.int .i64 a3_0, .int .i64 a3_1] 44 (0, 0)) (by (with_reducible repeat (first | refine blk_drewN ?_ _ | refine blk_drew ?_ | refine blk_alloc ?_ _)); exact BK129.out) hb)
        have n4_ := Aside0.mk (below_step (by repeat (first | (with_reducible first | exact HB.out | apply below_alloc | apply pw_below_drewN | apply below_drew1 | refine below_set ?_ GE126.out | refine below_set ?_ GE127.out | refine below_set ?_ GE128.out | refine below_set ?_ GE129.out) | exact HB.out)) hb)
        clear BK126
        clear BK127
        clear BK128
        clear BK129
        clear HB
        have BK126 := n0_
        have BK127 := n1_
        have BK128 := n2_
        have BK129 := n3_
        have HB := n4_
        clear n0_ n1_ n2_ n3_ n4_
        (try clear hb)
        (try clear hb2)
        (try clear hk)
        (try clear hi)
        refine hK.out _ _ ⟨(blk_cell BK126.out 0).trans rfl, (blk_cell BK126.out 1).trans rfl, (blk_cell BK127.out 0).trans rfl, (blk_cell BK127.out 1).trans rfl, (blk_cell BK128.out 0).trans rfl, (blk_cell BK128.out 1).trans rfl, (blk_cell BK129.out 0).trans rfl, (blk_cell BK129.out 1).trans rfl⟩ (fun hHeld => ?_)
        clear hK K
        refine norm_ (a' := ?_) ?_ ?_
        rotate_left
        · show Act.put _ (some 61) _ = _
          simp only [Act.put, List.setIfInBounds_toArray, List.set_cons_zero, List.set_cons_succ, i64_w, i32_w]
          rfl
        refine pure_ (i := 8) (N := some 62) (v := ?_) (a' := ?_) #[true, true, true, true, true, true, true, true, true, false, false, false, false, false, false, false, false, false, false, false, false, false, false] rfl rfl (any_of HT_.out (by kernel_rfl)) (fun _ _ _ h => h) (Or.inl ⟨by rfl, ?_⟩) ?_ ?_
        rotate_left
        · intro w'
          go_simp
          with_reducible rfl
        rotate_left
        · simp only [Act.put, List.setIfInBounds_toArray, List.set_cons_zero, List.set_cons_succ, i64_w, i32_w]
          rfl
        refine pure_ (i := 9) (N := some 63) (v := ?_) (a' := ?_) #[true, true, true, true, true, true, true, true, true, true, false, false, false, false, false, false, false, false, false, false, false, false, false] rfl rfl (any_of HT_.out (by kernel_rfl)) (fun _ _ _ h => h) (Or.inl ⟨by rfl, ?_⟩) ?_ ?_
        rotate_left
        · intro w'
          go_simp
          with_reducible rfl
        rotate_left
        · simp only [Act.put, List.setIfInBounds_toArray, List.set_cons_zero, List.set_cons_succ, i64_w, i32_w]
          rfl
        refine pure_ (i := 10) (N := some 64) (v := ?_) (a' := ?_) #[true, true, true, true, true, true, true, true, true, true, true, false, false, false, false, false, false, false, false, false, false, false, false] rfl rfl (any_of HT_.out (by kernel_rfl)) (fun _ _ _ h => h) (Or.inl ⟨by rfl, ?_⟩) ?_ ?_
        rotate_left
        · intro w'
          go_simp
          with_reducible rfl
        rotate_left
        · simp only [Act.put, List.setIfInBounds_toArray, List.set_cons_zero, List.set_cons_succ, i64_w, i32_w]
          rfl
        refine pure_ (i := 11) (N := some 65) (v := undef) (a' := ?_) #[true, true, true, true, true, true, true, true, true, true, true, true, false, false, false, false, false, false, false, false, false, false, false] rfl rfl (any_of HT_.out (by kernel_rfl)) (fun _ _ _ h => h) (Or.inr ⟨by rfl, rfl⟩) ?_ ?_
        rotate_left
        · simp only [Act.put, List.setIfInBounds_toArray, List.set_cons_zero, List.set_cons_succ, i64_w, i32_w]
          rfl
        refine pure_ (i := 12) (N := some 66) (v := undef) (a' := ?_) #[true, true, true, true, true, true, true, true, true, true, true, true, true, false, false, false, false, false, false, false, false, false, false] rfl rfl (any_of HT_.out (by kernel_rfl)) (fun _ _ _ h => h) (Or.inr ⟨by rfl, rfl⟩) ?_ ?_
        rotate_left
        · simp only [Act.put, List.setIfInBounds_toArray, List.set_cons_zero, List.set_cons_succ, i64_w, i32_w]
          rfl
        refine pure_ (i := 13) (N := some 67) (v := undef) (a' := ?_) #[true, true, true, true, true, true, true, true, true, true, true, true, true, true, false, false, false, false, false, false, false, false, false] rfl rfl (any_of HT_.out (by kernel_rfl)) (fun _ _ _ h => h) (Or.inr ⟨by rfl, rfl⟩) ?_ ?_
        rotate_left
        · simp only [Act.put, List.setIfInBounds_toArray, List.set_cons_zero, List.set_cons_succ, i64_w, i32_w]
          rfl
        refine pure_ (i := 14) (N := some 68) (v := undef) (a' := ?_) #[true, true, true, true, true, true, true, true, true, true, true, true, true, true, true, false, false, false, false, false, false, false, false] rfl rfl (any_of HT_.out (by kernel_rfl)) (fun _ _ _ h => h) (Or.inr ⟨by rfl, rfl⟩) ?_ ?_
        rotate_left
        · simp only [Act.put, List.setIfInBounds_toArray, List.set_cons_zero, List.set_cons_succ, i64_w, i32_w]
          rfl
        refine pure_ (i := 15) (N := some 69) (v := undef) (a' := ?_) #[true, true, true, true, true, true, true, true, true, true, true, true, true, true, true, true, false, false, false, false, false, false, false] rfl rfl (any_of HT_.out (by kernel_rfl)) (fun _ _ _ h => h) (Or.inr ⟨by rfl, rfl⟩) ?_ ?_
        rotate_left
        · simp only [Act.put, List.setIfInBounds_toArray, List.set_cons_zero, List.set_cons_succ, i64_w, i32_w]
          rfl
        refine pure_ (i := 16) (N := some 70) (v := undef) (a' := ?_) #[true, true, true, true, true, true, true, true, true, true, true, true, true, true, true, true, true, false, false, false, false, false, false] rfl rfl (any_of HT_.out (by kernel_rfl)) (fun _ _ _ h => h) (Or.inr ⟨by rfl, rfl⟩) ?_ ?_
        rotate_left
        · simp only [Act.put, List.setIfInBounds_toArray, List.set_cons_zero, List.set_cons_succ, i64_w, i32_w]
          rfl
        refine pure_ (i := 17) (N := some 71) (v := undef) (a' := ?_) #[true, true, true, true, true, true, true, true, true, true, true, true, true, true, true, true, true, true, false, false, false, false, false] rfl rfl (any_of HT_.out (by kernel_rfl)) (fun _ _ _ h => h) (Or.inr ⟨by rfl, rfl⟩) ?_ ?_
        rotate_left
        · simp only [Act.put, List.setIfInBounds_toArray, List.set_cons_zero, List.set_cons_succ, i64_w, i32_w]
          rfl
        refine pure_ (i := 18) (N := some 72) (v := undef) (a' := ?_) #[true, true, true, true, true, true, true, true, true, true, true, true, true, true, true, true, true, true, true, false, false, false, false] rfl rfl (any_of HT_.out (by kernel_rfl)) (fun _ _ _ h => h) (Or.inr ⟨by rfl, rfl⟩) ?_ ?_
        rotate_left
        · simp only [Act.put, List.setIfInBounds_toArray, List.set_cons_zero, List.set_cons_succ, i64_w, i32_w]
          rfl
        refine pure_ (i := 19) (N := some 73) (v := undef) (a' := ?_) #[true, true, true, true, true, true, true, true, true, true, true, true, true, true, true, true, true, true, true, true, false, false, false] rfl rfl (any_of HT_.out (by kernel_rfl)) (fun _ _ _ h => h) (Or.inr ⟨by rfl, rfl⟩) ?_ ?_
        rotate_left
        · simp only [Act.put, List.setIfInBounds_toArray, List.set_cons_zero, List.set_cons_succ, i64_w, i32_w]
          rfl
        refine pure_ (i := 20) (N := some 74) (v := undef) (a' := ?_) #[true, true, true, true, true, true, true, true, true, true, true, true, true, true, true, true, true, true, true, true, true, false, false] rfl rfl (any_of HT_.out (by kernel_rfl)) (fun _ _ _ h => h) (Or.inr ⟨by rfl, rfl⟩) ?_ ?_
        rotate_left
        · simp only [Act.put, List.setIfInBounds_toArray, List.set_cons_zero, List.set_cons_succ, i64_w, i32_w]
          rfl
        refine pure_ (i := 21) (N := some 75) (v := ?_) (a' := ?_) #[true, true, true, true, true, true, true, true, true, true, true, true, true, true, true, true, true, true, true, true, true, true, false] rfl rfl (any_of HT_.out (by kernel_rfl)) (fun _ _ _ h => h) (Or.inl ⟨by rfl, ?_⟩) ?_ ?_
        rotate_left
        · intro w'
          go_simp
          with_reducible rfl
        rotate_left
        · simp only [Act.put, List.setIfInBounds_toArray, List.set_cons_zero, List.set_cons_succ, i64_w, i32_w]
          rfl
        refine pure_ (i := 22) (N := some 8) (v := ?_) (a' := ?_) #[true, true, true, true, true, true, true, true, true, true, true, true, true, true, true, true, true, true, true, true, true, true, true] rfl rfl (any_of HT_.out (by kernel_rfl)) (fun _ _ _ h => h) (Or.inl ⟨by rfl, ?_⟩) ?_ ?_
        rotate_left
        · intro w'
          go_simp
          with_reducible rfl
        rotate_left
        · simp only [Act.put, List.setIfInBounds_toArray, List.set_cons_zero, List.set_cons_succ, i64_w, i32_w]
          rfl
        refine done_ (done_of HT_.out (by kernel_rfl)) ?_
        try go_wp2
        go_ret
        exact ⟨by first | rfl | (simp [errW_none, errW_some] <;> rfl) | (simp [*, errW_none, errW_some] <;> rfl), by repeat (first | (with_reducible first | exact HB.out | apply below_alloc | apply pw_below_drewN | apply below_drew1 | refine below_set ?_ GE126.out | refine below_set ?_ GE127.out | refine below_set ?_ GE128.out | refine below_set ?_ GE129.out) | exact HB.out)⟩

end Go.Proofs.YtjiheojjfnfmaaaDoor.ST

