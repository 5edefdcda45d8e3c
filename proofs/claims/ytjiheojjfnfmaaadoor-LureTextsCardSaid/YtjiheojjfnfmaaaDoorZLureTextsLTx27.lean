/- Of the text LTx27, what the row of LureTexts reaches. -/
import Derived.Test.YtjiheojjfnfmaaaDoorZLureTextsLTx0
import Derived.Test.YtjiheojjfnfmaaaDoorZLureTextsLTx1
import Derived.Test.YtjiheojjfnfmaaaDoorZLureTextsLTx15
import Derived.Test.YtjiheojjfnfmaaaDoorZLureTextsLTx16
import Derived.Test.YtjiheojjfnfmaaaDoorZLureTextsLTx23
import Derived.Test.YtjiheojjfnfmaaaDoorZLureTextsLTx26
namespace Go.Proofs.YtjiheojjfnfmaaaDoor.LT
open Go.RowKit Go.Proofs.YtjiheojjfnfmaaaDoorW.PrintWords Go.Proofs.YtjiheojjfnfmaaaDoorW.PrintLast Go.Proofs.YtjiheojjfnfmaaaDoorW.PrintMore
attribute [local go_sem] max2_int min2_int max_two min_two max_three min_three max_four min_four   -- for this text's walks alone
set_option linter.unusedVariables false
set_option linter.unusedSimpArgs false

mutual
def lure_Parse.l0 : Nat → ByteArray → List ByteArray → Int → Int → List Int → List (List Int) → Option (List Int × (List (List Int)) × Int)
  | 0, _, _, _, _, _, _ => none
  | k + 1, x0, x19, x20, x21, x271000, x271001 => if x21 < x20 then (if 0 ≤ x21 then (if x21 < (x19.length : Int) then ((strings_Split.f k (rdOf ByteArray.empty x19 x21) (⟨#[32]⟩ : ByteArray)).bind fun t276 => (if 0 ≤ (t276.length : Int) then (if ((t276.length : Int) : Int).toNat ≤ 35184372088832 then (lure_Parse.l1 k x0 (List.replicate ((t276.length : Int) : Int).toNat 0) x19 x20 x21 t276 (t276.length : Int) 0 x271000 x271001) else (none)) else (none))) else (none)) else (none)) else ((lure_Validate.f k x271000 x271001).bind fun t299 => (if t299 = 0 then ((lure_format.f k x271000 x271001).bind fun t300 => (if t300.toList = x0.toList then (some (x271000, x271001, 0)) else (some (([] : List Int), ([] : List (List Int)), 2)))) else (some (([] : List Int), ([] : List (List Int)), 2))))
def lure_Parse.l1 : Nat → ByteArray → List Int → List ByteArray → Int → Int → List ByteArray → Int → Int → List Int → List (List Int) → Option (List Int × (List (List Int)) × Int)
  | 0, _, _, _, _, _, _, _, _, _, _ => none
  | k + 1, x0, x8, x19, x20, x21, x30, x31, x32, x271000, x271001 => if x32 < x31 then (if 0 ≤ x32 then (if x32 < (x30.length : Int) then ((strconv_Atoi_29.f (rdOf ByteArray.empty x30 x32)).bind fun bt283 => (if bt283.2.isNone = true then (if x32 < (x8.length : Int) then (lure_Parse.l1 k x0 (x8.set (x32 : Int).toNat bt283.1) x19 x20 x21 x30 x31 (wrap64 (x32 + 1)) x271000 x271001) else (none)) else (some (([] : List Int), ([] : List (List Int)), 2)))) else (none)) else (none)) else (if 0 < (x8.length : Int) then (if x271000.length < 17592186044416 then (if 1 ≤ (x8.length : Int) then (if x271001.length < 5864062014805 then (lure_Parse.l0 k x0 x19 x20 (wrap64 (x21 + 1)) (x271000 ++ [rd x8 0]) (x271001 ++ [(x8.drop 1)])) else (none)) else (none)) else (none)) else (none))
end
def lure_Parse.f (k : Nat) (a0 : ByteArray) : Option (List Int × (List (List Int)) × Int) := if (a0.size : Int) > 4000 then (some (([] : List Int), ([] : List (List Int)), 3)) else ((strings_TrimSuffix.f a0 (⟨#[10]⟩ : ByteArray)).bind fun t271 => ((strings_Split.f k t271 (⟨#[10]⟩ : ByteArray)).bind fun t272 => (lure_Parse.l0 k a0 t272 (t272.length : Int) 0 ([] : List Int) ([] : List (List Int)))))
def lure_Parse.T17 : Bool × List (List Nat × List Nat) := (true, [([], []), ([0], [0]), ([], []), ([2], [2]), ([3], [3]), ([4], [4]), ([1, 5], [1, 5]), ([0, 1, 2, 3, 4, 5, 6], []), ([7, 6, 6, 0, 1, 2, 3, 4, 5, 6], [6, 7])])
def lure_Parse.B17 : List Nat := [0, 1, 0, 4, 12, 28, 63, 127, 255]
theorem lure_Parse.tab17 : rtab .any (opsOf Tryd.f16 17) = lure_Parse.T17 := by kernel_rfl
theorem lure_Parse.bits17 : waitsOk lure_Parse.T17.2 lure_Parse.B17 = true := by kernel_rfl
def lure_Parse.T18 : Bool × List (List Nat × List Nat) := (true, [([], []), ([0], [0]), ([], []), ([2], [2]), ([3], [3]), ([1, 4], [1, 4]), ([0, 1, 2, 3, 4, 5], []), ([6, 5, 5, 0, 1, 2, 3, 4, 5], [5, 6])])
def lure_Parse.B18 : List Nat := [0, 1, 0, 4, 12, 31, 63, 127]
theorem lure_Parse.tab18 : rtab .any (opsOf Tryd.f16 18) = lure_Parse.T18 := by kernel_rfl
theorem lure_Parse.bits18 : waitsOk lure_Parse.T18.2 lure_Parse.B18 = true := by kernel_rfl
set_option maxHeartbeats 8000000 in
set_option maxRecDepth 100000 in
theorem lure_Parse.calls (k : Nat) (a0 : ByteArray) (r1 : List Int) (r2 : List (List Int)) (r3 : Int) (w : World) (hE : Env w) (h : lure_Parse.f k a0 = some (r1, r2, r3)) :
    Calls Tryd.prog 16 #[.string a0] w fun e w' => ∃ v0_ v1_ : Value, e = .returned (.tuple #[.agg #[v0_, v1_], .int .i64 r3]) ∧ Kd.R (Kd.int .i64) 3 w' w.heap.size (fun k_ => (w.heap.size ≤ k_)) v0_ r1 ∧ Kd.N (Kd.slice 3 (Kd.int .i64)) 32 w' w.heap.size (fun k_ => (w.heap.size ≤ k_) ∧ some k_ ≠ (v0_ : Value).ownBlock) v1_ r2 ∧ Below w.heap.size w w' := by
  have hu35 := Tryd.underlying35
  have hu55 := Tryd.underlying55
  have hu101 := Tryd.underlying101
  have HB := Aside0.mk (Below.refl w.heap.size w)
  have H : (if (a0.size : Int) > 4000 then (some (([] : List Int), ([] : List (List Int)), 3)) else ((strings_TrimSuffix.f a0 (⟨#[10]⟩ : ByteArray)).bind fun t271 => ((strings_Split.f k t271 (⟨#[10]⟩ : ByteArray)).bind fun t272 => (lure_Parse.l0 k a0 t272 (t272.length : Int) 0 ([] : List Int) ([] : List (List Int)))))) = some (r1, r2, r3) := h
  clear h
  by_cases c2 : (a0.size : Int) > 4000
  · rw [if_pos c2] at H
    have c2b0 : decide (4000 < (a0.size : Int)) = true := decide_eq_true c2
    have c2b1 : decide (4000 < a0.size) = true := decide_eq_true (by omega)
    clear c2
    simp only [Option.some.injEq, Prod.mk.injEq] at H
    obtain ⟨rfl, rfl, rfl⟩ := H
    go_enter Tryd.func16, Tryd.ntmps16
    go_wp2_with (first | ((with_reducible refine gate_dst (N := 2) rfl ?_); refine box_event ?hg (N := 2) ?hd (cs := #[.slice none 0 0, .slice none 0 0]) (t := 35) ?hr ?_; (case hd => rfl); (case hg => rfl); (case hr => first | (go_simp; done) | (go_simp; rfl)); intro gb269 hg w3 hbox hb; have n0_ := Aside0.mk (below_step (by repeat (first | (with_reducible first | exact HB.out | apply below_alloc | apply pw_below_drewN | apply below_drew1) | exact HB.out)) hb); have n1_ := Aside0.mk (hbox); have n2_ := Aside0.mk ((by rw [hg]; exact (below_size (by repeat (first | (with_reducible first | exact HB.out | apply below_alloc | apply pw_below_drewN | apply below_drew1) | exact HB.out))) : w.heap.size ≤ gb269)); have n3_ := Aside0.mk ((by rw [hg]; exact (below_size (by repeat (first | (with_reducible first | exact HB.out | apply below_alloc | apply pw_below_drewN | apply below_drew1) | exact HB.out))) : w.heap.size ≤ gb269)); clear HB; have HB := n0_; have BK269 := n1_; have GW269 := n2_; have GE269 := n3_; clear n0_ n1_ n2_ n3_; clear hb hbox hg; have hcz4_0 : w3.cell? ⟨gb269, 0, none⟩ = some (.slice none 0 0) := (blk_cell BK269.out 0).trans rfl; have hcz4_1 : w3.cell? ⟨gb269, 1, none⟩ = some (.slice none 0 0) := (blk_cell BK269.out 1).trans rfl; have hfz4_0 := blk_frozen BK269.out 0; have hfz4_1 := blk_frozen BK269.out 1))
    refine bodyPost_ret (results_ct rfl _ _ gb269 35 #[.slice none 0 0, .slice none 0 0] (0, 0) _ rfl (by (with_reducible repeat (first | refine blk_drewN ?_ _ | refine blk_drew ?_ | refine blk_alloc ?_ _)); refine blk_put (cs := #[.slice none 0 0, .slice none 0 0]) ?_ 1 _ rfl; (with_reducible repeat (first | refine blk_drewN ?_ _ | refine blk_drew ?_ | refine blk_alloc ?_ _)); refine blk_put (cs := #[.slice none 0 0, .slice none 0 0]) ?_ 0 _ rfl; (with_reducible repeat (first | refine blk_drewN ?_ _ | refine blk_drew ?_ | refine blk_alloc ?_ _)); exact BK269.out) Tryd.underlying35 rfl (by kernel_rfl)) rfl ?_
    exact ⟨_, _, by first | rfl | (simp [errW_none, errW_some] <;> rfl) | (simp [*, errW_none, errW_some] <;> rfl), by first | exact Kd.R_nil _ _ _ _ _ | exact Kd.N_nil _ _ _ _ _ | exact Kd.V_nil _ _ _ _ _ | exact Kd.Q_nil _ _ _ _ _ | exact Kd.S_nil _ _ _ _ _, by first | exact Kd.S_nil _ _ _ _ _ | exact Kd.N_nil _ _ _ _ _ | exact Kd.V_nil _ _ _ _ _ | exact Kd.Q_nil _ _ _ _ _ | exact Kd.R_nil _ _ _ _ _, by repeat (first | (with_reducible first | exact HB.out | apply below_alloc | apply pw_below_drewN | apply below_drew1 | refine below_set ?_ GE269.out) | exact HB.out)⟩
  · rw [if_neg c2] at H
    have c2b0 : decide (4000 < (a0.size : Int)) = false := decide_eq_false c2
    have c2b1 : decide (4000 < a0.size) = false := decide_eq_false (by omega)
    clear c2
    replace H := Option.bind_eq_some_iff.mp H
    obtain ⟨t271, A50, H⟩ := H
    replace H : ((strings_Split.f k t271 (⟨#[10]⟩ : ByteArray)).bind fun t272 => (lure_Parse.l0 k a0 t272 (t272.length : Int) 0 ([] : List Int) ([] : List (List Int)))) = some (r1, r2, r3) := H
    have A5 := Aside0.mk A50
    clear A50
    replace H := Option.bind_eq_some_iff.mp H
    obtain ⟨t272, A60, H⟩ := H
    replace H : (lure_Parse.l0 k a0 t272 (t272.length : Int) 0 ([] : List Int) ([] : List (List Int))) = some (r1, r2, r3) := H
    have A6 := Aside0.mk A60
    clear A60
    have H' := Aside0.mk H
    clear H
    go_enter Tryd.func16, Tryd.ntmps16
    go_wp2_with (first | ((with_reducible refine gate_dst (N := 2) rfl ?_); refine box_event ?hg (N := 2) ?hd (cs := #[.slice none 0 0, .slice none 0 0]) (t := 35) ?hr ?_; (case hd => rfl); (case hg => rfl); (case hr => first | (go_simp; done) | (go_simp; rfl)); intro gb269 hg w7 hbox hb; have n0_ := Aside0.mk (below_step (by repeat (first | (with_reducible first | exact HB.out | apply below_alloc | apply pw_below_drewN | apply below_drew1) | exact HB.out)) hb); have n1_ := Aside0.mk (hbox); have n2_ := Aside0.mk ((by rw [hg]; exact (below_size (by repeat (first | (with_reducible first | exact HB.out | apply below_alloc | apply pw_below_drewN | apply below_drew1) | exact HB.out))) : w.heap.size ≤ gb269)); have n3_ := Aside0.mk ((by rw [hg]; exact (below_size (by repeat (first | (with_reducible first | exact HB.out | apply below_alloc | apply pw_below_drewN | apply below_drew1) | exact HB.out))) : w.heap.size ≤ gb269)); clear HB; have HB := n0_; have BK269 := n1_; have GW269 := n2_; have GE269 := n3_; clear n0_ n1_ n2_ n3_; clear hb hbox hg) | ((with_reducible refine gate_dst (N := 4) rfl ?_); refine box_event ?hg (N := 4) ?hd (cs := #[.slice none 0 0, .slice none 0 0]) (t := 35) ?hr ?_; (case hd => rfl); (case hg => rfl); (case hr => first | (go_simp; done) | (go_simp; rfl)); intro gb270 hg w8 hbox hb; have n0_ := Aside0.mk (blk_below (g := gb269) (o := .cells #[.slice none 0 0, .slice none 0 0] 35 (0, 0)) (by (with_reducible repeat (first | refine blk_drewN ?_ _ | refine blk_drew ?_ | refine blk_alloc ?_ _)); exact BK269.out) hb); have n1_ := Aside0.mk (below_step (by repeat (first | (with_reducible first | exact HB.out | apply below_alloc | apply pw_below_drewN | apply below_drew1 | refine below_set ?_ GE269.out) | exact HB.out)) hb); have n2_ := Aside0.mk (hbox); have n3_ := Aside0.mk ((by rw [hg]; exact (below_size (by repeat (first | (with_reducible first | exact HB.out | apply below_alloc | apply pw_below_drewN | apply below_drew1 | refine below_set ?_ GE269.out) | exact HB.out))) : w.heap.size ≤ gb270)); have n4_ := Aside0.mk ((by rw [hg]; exact (below_size (by repeat (first | (with_reducible first | exact HB.out | apply below_alloc | apply pw_below_drewN | apply below_drew1 | refine below_set ?_ GE269.out) | exact HB.out))) : w.heap.size ≤ gb270)); have n5_ := Aside0.mk ((by rw [hg]; exact Nat.ne_of_lt (blk_lt (g := gb269) (o := .cells #[.slice none 0 0, .slice none 0 0] 35 (0, 0)) (by (with_reducible repeat (first | refine blk_drewN ?_ _ | refine blk_drew ?_ | refine blk_alloc ?_ _)); exact BK269.out)) : gb269 ≠ gb270)); have n6_ := Aside0.mk ((by rw [hg]; exact Nat.ne_of_gt (blk_lt (g := gb269) (o := .cells #[.slice none 0 0, .slice none 0 0] 35 (0, 0)) (by (with_reducible repeat (first | refine blk_drewN ?_ _ | refine blk_drew ?_ | refine blk_alloc ?_ _)); exact BK269.out)) : gb270 ≠ gb269)); clear BK269; clear HB; have BK269 := n0_; have HB := n1_; have BK270 := n2_; have GW270 := n3_; have GE270 := n4_; have NB269_270 := n5_; have NB270_269 := n6_; clear n0_ n1_ n2_ n3_ n4_ n5_ n6_; clear hb hbox hg) | ((with_reducible refine gate_callee (f := 28) rfl ?_); refine goesL_ (some 18) rfl rfl Tryd.func28 (by kernel_rfl) rfl #[.string a0, .string (⟨#[10]⟩ : ByteArray)] rfl (by (try simp only [List.map_toArray, List.map_cons, List.map_nil]); first | done | rfl | (simp only [List.length_drop, List.length_take]; rfl)) ?_; (with_reducible refine (strings_TrimSuffix.calls a0 (⟨#[10]⟩ : ByteArray) t271 _ A5.out).mono ?_); rintro e w' ⟨rfl, ⟨nd, rfl⟩⟩; refine ⟨_, rfl, ?_⟩) | ((with_reducible refine gate_callee (f := 27) rfl ?_); refine goesL_ (some 19) rfl rfl Tryd.func27 (by kernel_rfl) rfl #[.string t271, .string (⟨#[10]⟩ : ByteArray)] rfl (by (try simp only [List.map_toArray, List.map_cons, List.map_nil]); first | done | rfl | (simp only [List.length_drop, List.length_take]; rfl)) ?_; (with_reducible refine (strings_Split.calls k t271 (⟨#[10]⟩ : ByteArray) t272 _ A6.out).mono ?_); rintro e w9 ⟨v273, rfl, ho0, hb⟩; refine ⟨_, rfl, ?_⟩; have n0_ := Aside0.mk (Kd.R_lower (Kd.R_newM (M := fun k_ => (w.heap.size ≤ k_)) ho0 (below_size (by repeat (first | (with_reducible first | exact HB.out | apply below_alloc | apply pw_below_drewN | apply below_drew1 | refine below_set ?_ GE269.out | refine below_set ?_ GE270.out) | exact HB.out))) (fun k_ h_ => h_)) (below_size (by repeat (first | (with_reducible first | exact HB.out | apply below_alloc | apply pw_below_drewN | apply below_drew1 | refine below_set ?_ GE269.out | refine below_set ?_ GE270.out) | exact HB.out)))); have n1_ := Aside0.mk (blk_below (g := gb269) (o := .cells #[.slice none 0 0, .slice none 0 0] 35 (0, 0)) (by (with_reducible repeat (first | refine blk_drewN ?_ _ | refine blk_drew ?_ | refine blk_alloc ?_ _)); exact BK269.out) hb); have n2_ := Aside0.mk (blk_below (g := gb270) (o := .cells #[.slice none 0 0, .slice none 0 0] 35 (0, 0)) (by (with_reducible repeat (first | refine blk_drewN ?_ _ | refine blk_drew ?_ | refine blk_alloc ?_ _)); exact BK270.out) hb); have n3_ := Aside0.mk (below_step (by repeat (first | (with_reducible first | exact HB.out | apply below_alloc | apply pw_below_drewN | apply below_drew1 | refine below_set ?_ GE269.out | refine below_set ?_ GE270.out) | exact HB.out)) hb); clear BK269; clear BK270; clear HB; have HO274 := n0_; have BK269 := n1_; have BK270 := n2_; have HB := n3_; clear n0_ n1_ n2_ n3_; (try clear hb); (try clear hb2); (try clear hk); (try clear hi); (try clear ho0); obtain ⟨Ao10, co10, eo10⟩ := Kd.R_slice HO274.out; subst eo10))
    go_loopg [21] k (fun kq v21 w' => ∃ (x21_1 : Int) (x271000_1 : List Int) (x271001_1 : List (List Int)) (u271000 : Value) (u271001 : Value), v21 = .int .i64 x21_1 ∧ Aside0 (lure_Parse.l0 kq a0 t272 (t272.length : Int) x21_1 x271000_1 x271001_1 = some (r1, r2, r3)) ∧ Aside0 (kq ≤ k) ∧ Aside0 (Kd.R Kd.string 9 w' w.heap.size (fun k_ => (w.heap.size ≤ k_)) (.slice Ao10 t272.length co10) t272) ∧ Aside0 (Kd.R (Kd.int .i64) 3 w' w.heap.size (fun k_ => (w.heap.size ≤ k_)) u271000 x271000_1) ∧ Aside0 (Kd.N (Kd.slice 3 (Kd.int .i64)) 32 w' w.heap.size (fun k_ => (w.heap.size ≤ k_) ∧ some k_ ≠ ((.slice Ao10 t272.length co10) : Value).ownBlock ∧ some k_ ≠ (u271000 : Value).ownBlock ∧ k_ ≠ gb269 ∧ k_ ≠ gb270) u271001 x271001_1) ∧ Aside0 (w'.heap[gb269]? = some (.cells #[(.slice none 0 0), (.slice none 0 0)] 35 (0, 0))) ∧ Aside0 (w'.heap[gb270]? = some (.cells #[u271000, u271001] 35 (0, 0))) ∧ Aside0 (Below w.heap.size w w'))
    case atStart => exact ⟨(0), (([] : List Int)), (([] : List (List Int))), (.slice none 0 0), (.slice none 0 0), (by first | rfl | (simp; done) | (simp [*]; done)), H', ⟨Nat.le_refl _⟩, ⟨by (with_reducible repeat (first | apply Kd.R_alloc | apply Kd.R_drewN | apply Kd.R_drew)); exact Kd.R_mono HO274.out (fun _ hk => hk.1)⟩, ⟨by first | exact Kd.R_nil _ _ _ _ _ | exact Kd.N_nil _ _ _ _ _ | exact Kd.V_nil _ _ _ _ _ | exact Kd.Q_nil _ _ _ _ _ | exact Kd.S_nil _ _ _ _ _⟩, ⟨by first | exact Kd.S_nil _ _ _ _ _ | exact Kd.N_nil _ _ _ _ _ | exact Kd.V_nil _ _ _ _ _ | exact Kd.Q_nil _ _ _ _ _ | exact Kd.R_nil _ _ _ _ _⟩, ⟨by (with_reducible repeat (first | refine blk_drewN ?_ _ | refine blk_drew ?_ | refine blk_alloc ?_ _)); exact BK269.out⟩, ⟨by (with_reducible repeat (first | refine blk_drewN ?_ _ | refine blk_drew ?_ | refine blk_alloc ?_ _)); exact BK270.out⟩, ⟨by repeat (first | (with_reducible first | exact HB.out | apply below_alloc | apply pw_below_drewN | apply below_drew1 | refine below_set ?_ GE269.out | refine below_set ?_ GE270.out) | exact HB.out)⟩⟩
    case round =>
      clear H'
      try clear c1
      try clear c2
      try clear c2b0
      try clear c2b1
      try clear p2
      try clear hcz4_0
      try clear hcz4_1
      try clear hfz4_0
      try clear hfz4_1
      obtain ⟨x21_1, x271000_1, x271001_1, u271000, u271001, rfl, HA, HK1, HO_19, HO_271000, HO_271001, BK269, BK270, HB⟩ := hrel
      cases gk with
      | zero => exact absurd HA.out (by simp [lure_Parse.l0])
      | succ k1 =>
        have H := HA.out
        clear HA
        simp only [lure_Parse.l0] at H
        by_cases c11 : x21_1 < (t272.length : Int)
        · rw [if_pos c11] at H
          have c11b0 : decide (x21_1 < (t272.length : Int)) = true := decide_eq_true c11
          clear c11
          by_cases c12 : 0 ≤ x21_1
          · rw [if_pos c12] at H
            have c12b0 : decide (0 ≤ x21_1) = true := decide_eq_true c12
            clear c12
            by_cases c13 : x21_1 < (t272.length : Int)
            · rw [if_pos c13] at H
              have c13b0 : decide (x21_1 < (t272.length : Int)) = true := decide_eq_true c13
              clear c13
              replace H := Option.bind_eq_some_iff.mp H
              obtain ⟨t276, A140, H⟩ := H
              replace H : (if 0 ≤ (t276.length : Int) then (if ((t276.length : Int) : Int).toNat ≤ 35184372088832 then (lure_Parse.l1 k1 a0 (List.replicate ((t276.length : Int) : Int).toNat 0) t272 (t272.length : Int) x21_1 t276 (t276.length : Int) 0 x271000_1 x271001_1) else (none)) else (none)) = some (r1, r2, r3) := H
              have A14 := Aside0.mk A140
              clear A140
              by_cases c15 : 0 ≤ (t276.length : Int)
              · rw [if_pos c15] at H
                have c15b0 := eq_true c15
                have c15b1 : decide (0 ≤ (t276.length : Int)) = true := decide_eq_true c15
                clear c15
                by_cases c16 : ((t276.length : Int) : Int).toNat ≤ 35184372088832
                · rw [if_pos c16] at H
                  have c16b0 := eq_true c16
                  have c16b1 : decide (((t276.length : Int) : Int).toNat ≤ 35184372088832) = true := decide_eq_true c16
                  clear c16
                  obtain ⟨y279, hy279⟩ : ∃ y_ : List Int, y_ = (List.replicate ((t276.length : Int) : Int).toNat 0) := ⟨_, rfl⟩
                  replace H : (lure_Parse.l1 k1 a0 y279 t272 (t272.length : Int) x21_1 t276 (t276.length : Int) 0 x271000_1 x271001_1) = some (r1, r2, r3) := by first | (rw [hy279]; with_reducible exact H) | (have H2_ := (Option.bind_some _ _).symm.trans H; rw [hy279]; with_reducible exact H2_) | (have H2_ := (Option.bind_some _ _).symm.trans H; with_reducible exact H2_) | with_reducible exact H | (rw [hy279]; exact H) | exact H
                  have Ny279 := Aside0.mk hy279
                  clear hy279
                  have H' := Aside0.mk H
                  clear H
                  have p275 : 0 ≤ (x21_1 : Int) := of_decide_eq_true (by first | (with_reducible assumption) | assumption)
                  have q275 : x21_1 < (t272.length : Int) := of_decide_eq_true (by first | (with_reducible assumption) | assumption)
                  obtain ⟨ad275, e275, hx275_0⟩ := Kd.at_string (Kd.R_reads' HO_19.out).2.2 x21_1 p275 q275
                  cases e275
                  replace p275 := eq_true p275
                  replace q275 := eq_true q275
                  go_wp2_with (first | ((with_reducible refine gate_callee (f := 27) rfl ?_); refine goesL_ (some 26) rfl rfl Tryd.func27 (by kernel_rfl) rfl #[.string (rdOf ByteArray.empty t272 x21_1), .string (⟨#[32]⟩ : ByteArray)] rfl (by (try simp only [List.map_toArray, List.map_cons, List.map_nil]); first | done | rfl | (simp only [List.length_drop, List.length_take]; rfl)) ?_; (with_reducible refine (strings_Split.calls k1 (rdOf ByteArray.empty t272 x21_1) (⟨#[32]⟩ : ByteArray) t276 _ A14.out).mono ?_); rintro e w17 ⟨v277, rfl, ho0, hb⟩; refine ⟨_, rfl, ?_⟩; have n0_ := Aside0.mk (Kd.R_elder' (by (with_reducible repeat (first | apply Kd.R_alloc | apply Kd.R_drewN | apply Kd.R_drew)); exact HO_19.out) (Kd.R_base ho0) hb); have n1_ := Aside0.mk (Kd.R_below (by (with_reducible repeat (first | apply Kd.R_alloc | apply Kd.R_drewN | apply Kd.R_drew)); exact HO_271000.out) hb); have n2_ := Aside0.mk (Kd.N_elder' (by (with_reducible repeat (first | apply Kd.N_alloc | apply Kd.N_drewN | apply Kd.N_drew)); exact HO_271001.out) (Kd.R_base ho0) hb); have n3_ := Aside0.mk (Kd.R_lower (Kd.R_new' (Kd.R_newM (M := fun k_ => (w.heap.size ≤ k_)) ho0 (below_size (by repeat (first | (with_reducible first | exact HB.out | apply below_alloc | apply pw_below_drewN | apply below_drew1 | refine below_set ?_ GE269.out | refine below_set ?_ GE270.out) | exact HB.out))) (fun k_ h_ => h_)) (Kd.R_lt (by (with_reducible repeat (first | apply Kd.R_alloc | apply Kd.R_drewN | apply Kd.R_drew)); exact HO_19.out))) (below_size (by repeat (first | (with_reducible first | exact HB.out | apply below_alloc | apply pw_below_drewN | apply below_drew1 | refine below_set ?_ GE269.out | refine below_set ?_ GE270.out) | exact HB.out)))); have n4_ := Aside0.mk (blk_below (g := gb269) (o := .cells #[.slice none 0 0, .slice none 0 0] 35 (0, 0)) (by (with_reducible repeat (first | refine blk_drewN ?_ _ | refine blk_drew ?_ | refine blk_alloc ?_ _)); exact BK269.out) hb); have n5_ := Aside0.mk (blk_below (g := gb270) (o := .cells #[u271000, u271001] 35 (0, 0)) (by (with_reducible repeat (first | refine blk_drewN ?_ _ | refine blk_drew ?_ | refine blk_alloc ?_ _)); exact BK270.out) hb); have n6_ := Aside0.mk (below_step (by repeat (first | (with_reducible first | exact HB.out | apply below_alloc | apply pw_below_drewN | apply below_drew1 | refine below_set ?_ GE269.out | refine below_set ?_ GE270.out) | exact HB.out)) hb); clear HO_19; clear HO_271000; clear HO_271001; clear BK269; clear BK270; clear HB; have HO_19 := n0_; have HO_271000 := n1_; have HO_271001 := n2_; have HO278 := n3_; have BK269 := n4_; have BK270 := n5_; have HB := n6_; clear n0_ n1_ n2_ n3_ n4_ n5_ n6_; (try clear hb); (try clear hb2); (try clear hk); (try clear hi); (try clear ho0); obtain ⟨Ao18, co18, eo18⟩ := Kd.R_slice HO278.out; subst eo18) | ((with_reducible refine gate_dst (N := 29) rfl ?_); refine Kd.R_make (Kd.int .i64) _ 3 rfl (N := 29) rfl 32 _ _ rfl (t276.length : Int) rfl rfl Tryd.underlying32 (.int .i64 0) 8 info3 rfl (by decide) (by omega) 0 (ok := fun _ => True) (okp := fun _ => True) rfl (fun _ hk => hk) trivial (of_decide_eq_true (by first | (with_reducible assumption) | assumption)) (Nat.le_trans (Nat.mul_le_mul_right _ (of_decide_eq_true (by first | (with_reducible assumption) | assumption) : (t276.length : Int).toNat ≤ 35184372088832)) (by omega)) (Below.refl _ _) (Nat.le_refl _) ?_; intro v280 w19 ho20 hb hg_ hnew_; clear hg_ hnew_; (first | rw [← Ny279.out] at ho20 | (simp only [Int.reduceToNat] at ho20; rw [← Ny279.out] at ho20)); have n0_ := Aside0.mk (Kd.R_below (by (with_reducible repeat (first | apply Kd.R_alloc | apply Kd.R_drewN | apply Kd.R_drew)); exact HO_19.out) hb); have n1_ := Aside0.mk (Kd.R_elder' (by (with_reducible repeat (first | apply Kd.R_alloc | apply Kd.R_drewN | apply Kd.R_drew)); exact HO_271000.out) (Kd.R_base ho20) hb); have n2_ := Aside0.mk (Kd.N_elder' (by (with_reducible repeat (first | apply Kd.N_alloc | apply Kd.N_drewN | apply Kd.N_drew)); exact HO_271001.out) (Kd.R_base ho20) hb); have n3_ := Aside0.mk (Kd.R_below (by (with_reducible repeat (first | apply Kd.R_alloc | apply Kd.R_drewN | apply Kd.R_drew)); exact HO278.out) hb); have n4_ := Aside0.mk (Kd.R_lower (Kd.R_new' (Kd.R_newM (M := fun k_ => (w.heap.size ≤ k_)) ho20 (below_size (by repeat (first | (with_reducible first | exact HB.out | apply below_alloc | apply pw_below_drewN | apply below_drew1 | refine below_set ?_ GE269.out | refine below_set ?_ GE270.out) | exact HB.out))) (fun k_ h_ => h_)) (Kd.R_lt (by (with_reducible repeat (first | apply Kd.R_alloc | apply Kd.R_drewN | apply Kd.R_drew)); exact HO_271000.out))) (below_size (by repeat (first | (with_reducible first | exact HB.out | apply below_alloc | apply pw_below_drewN | apply below_drew1 | refine below_set ?_ GE269.out | refine below_set ?_ GE270.out) | exact HB.out)))); have n5_ := Aside0.mk (blk_below (g := gb269) (o := .cells #[.slice none 0 0, .slice none 0 0] 35 (0, 0)) (by (with_reducible repeat (first | refine blk_drewN ?_ _ | refine blk_drew ?_ | refine blk_alloc ?_ _)); exact BK269.out) hb); have n6_ := Aside0.mk (blk_below (g := gb270) (o := .cells #[u271000, u271001] 35 (0, 0)) (by (with_reducible repeat (first | refine blk_drewN ?_ _ | refine blk_drew ?_ | refine blk_alloc ?_ _)); exact BK270.out) hb); have n7_ := Aside0.mk (below_step (by repeat (first | (with_reducible first | exact HB.out | apply below_alloc | apply pw_below_drewN | apply below_drew1 | refine below_set ?_ GE269.out | refine below_set ?_ GE270.out) | exact HB.out)) hb); clear HO_19; clear HO_271000; clear HO_271001; clear HO278; clear BK269; clear BK270; clear HB; have HO_19 := n0_; have HO_271000 := n1_; have HO_271001 := n2_; have HO278 := n3_; have HO281 := n4_; have BK269 := n5_; have BK270 := n6_; have HB := n7_; clear n0_ n1_ n2_ n3_ n4_ n5_ n6_ n7_; clear hb ho20))
                  go_loopg [32] k1 (fun kq v32 w' => ∃ (x8_2 : List Int) (x32_2 : Int), v32 = .int .i64 x32_2 ∧ Aside0 (lure_Parse.l1 kq a0 x8_2 t272 (t272.length : Int) x21_1 t276 (t276.length : Int) x32_2 x271000_1 x271001_1 = some (r1, r2, r3)) ∧ Aside0 (kq ≤ k1) ∧ Aside0 (Kd.R (Kd.int .i64) 3 w' w.heap.size (fun k_ => (w.heap.size ≤ k_) ∧ some k_ ≠ (u271000 : Value).ownBlock) v280 x8_2) ∧ Aside0 (Kd.R Kd.string 9 w' w.heap.size (fun k_ => (w.heap.size ≤ k_) ∧ some k_ ≠ ((.slice Ao18 t276.length co18) : Value).ownBlock) (.slice (some ad275) t272.length co10) t272) ∧ Aside0 (Kd.R Kd.string 9 w' w.heap.size (fun k_ => (w.heap.size ≤ k_) ∧ some k_ ≠ ((.slice (some ad275) t272.length co10) : Value).ownBlock) (.slice Ao18 t276.length co18) t276) ∧ Aside0 (Kd.R (Kd.int .i64) 3 w' w.heap.size (fun k_ => (w.heap.size ≤ k_) ∧ some k_ ≠ (v280 : Value).ownBlock) u271000 x271000_1) ∧ Aside0 (Kd.N (Kd.slice 3 (Kd.int .i64)) 32 w' w.heap.size (fun k_ => (w.heap.size ≤ k_) ∧ some k_ ≠ (v280 : Value).ownBlock ∧ some k_ ≠ ((.slice (some ad275) t272.length co10) : Value).ownBlock ∧ some k_ ≠ ((.slice Ao18 t276.length co18) : Value).ownBlock ∧ some k_ ≠ (u271000 : Value).ownBlock ∧ k_ ≠ gb269 ∧ k_ ≠ gb270) u271001 x271001_1) ∧ Aside0 (w'.heap[gb269]? = some (.cells #[(.slice none 0 0), (.slice none 0 0)] 35 (0, 0))) ∧ Aside0 (w'.heap[gb270]? = some (.cells #[u271000, u271001] 35 (0, 0))) ∧ Aside0 (Below w.heap.size w w'))
                  case atStart => exact ⟨(y279), (0), (by first | rfl | (simp; done) | (simp [*]; done)), H', ⟨Nat.le_refl _⟩, ⟨by (with_reducible repeat (first | apply Kd.R_alloc | apply Kd.R_drewN | apply Kd.R_drew)); exact Kd.R_mono HO281.out (fun _ hk => ⟨hk.1.1, hk.2⟩)⟩, ⟨by (with_reducible repeat (first | apply Kd.R_alloc | apply Kd.R_drewN | apply Kd.R_drew)); exact HO_19.out⟩, ⟨by (with_reducible repeat (first | apply Kd.R_alloc | apply Kd.R_drewN | apply Kd.R_drew)); exact Kd.R_mono HO278.out (fun _ hk => ⟨hk.1.1, hk.2⟩)⟩, ⟨by (with_reducible repeat (first | apply Kd.R_alloc | apply Kd.R_drewN | apply Kd.R_drew)); exact HO_271000.out⟩, ⟨by (with_reducible repeat (first | apply Kd.N_alloc | apply Kd.N_drewN | apply Kd.N_drew)); exact Kd.N_mono HO_271001.out (fun _ hk => ⟨hk.1.1.1, ⟨hk.2, ⟨hk.1.1.2.1, ⟨hk.1.2, ⟨hk.1.1.2.2.1, ⟨hk.1.1.2.2.2.1, hk.1.1.2.2.2.2⟩⟩⟩⟩⟩⟩)⟩, ⟨by (with_reducible repeat (first | refine blk_drewN ?_ _ | refine blk_drew ?_ | refine blk_alloc ?_ _)); exact BK269.out⟩, ⟨by (with_reducible repeat (first | refine blk_drewN ?_ _ | refine blk_drew ?_ | refine blk_alloc ?_ _)); exact BK270.out⟩, ⟨by repeat (first | (with_reducible first | exact HB.out | apply below_alloc | apply pw_below_drewN | apply below_drew1 | refine below_set ?_ GE269.out | refine below_set ?_ GE270.out) | exact HB.out)⟩⟩
                  case round =>
                    clear H'
                    try clear c1
                    try clear c2
                    try clear c2b0
                    try clear c2b1
                    try clear p2
                    try clear q2
                    try clear hx2
                    try clear c11
                    try clear c11b0
                    try clear c12
                    try clear c12b0
                    try clear c13
                    try clear c13b0
                    try clear c15
                    try clear c15b0
                    try clear c15b1
                    try clear c16
                    try clear c16b0
                    try clear c16b1
                    try clear hcz4_0
                    try clear hcz4_1
                    try clear hfz4_0
                    try clear hfz4_1
                    try clear hx275_0
                    try clear p2
                    try clear p275
                    try clear q275
                    obtain ⟨x8_2, x32_2, rfl, HA, HK2, HO_8, HO_19, HO_30, HO_271000, HO_271001, BK269, BK270, HB⟩ := hrel
                    cases gk with
                    | zero => exact absurd HA.out (by simp [lure_Parse.l1])
                    | succ k2 =>
                      have H := HA.out
                      clear HA
                      simp only [lure_Parse.l1] at H
                      by_cases c21 : x32_2 < (t276.length : Int)
                      · rw [if_pos c21] at H
                        have c21b0 : decide (x32_2 < (t276.length : Int)) = true := decide_eq_true c21
                        clear c21
                        by_cases c22 : 0 ≤ x32_2
                        · rw [if_pos c22] at H
                          have c22b0 : decide (0 ≤ x32_2) = true := decide_eq_true c22
                          clear c22
                          by_cases c23 : x32_2 < (t276.length : Int)
                          · rw [if_pos c23] at H
                            have c23b0 : decide (x32_2 < (t276.length : Int)) = true := decide_eq_true c23
                            clear c23
                            replace H := Option.bind_eq_some_iff.mp H
                            obtain ⟨⟨t283, t284⟩, A240, H⟩ := H
                            replace H : (if t284.isNone = true then (if x32_2 < (x8_2.length : Int) then (lure_Parse.l1 k2 a0 (x8_2.set (x32_2 : Int).toNat t283) t272 (t272.length : Int) x21_1 t276 (t276.length : Int) (wrap64 (x32_2 + 1)) x271000_1 x271001_1) else (none)) else (some (([] : List Int), ([] : List (List Int)), 2))) = some (r1, r2, r3) := H
                            have A24 := Aside0.mk A240
                            clear A240
                            rcases t284 with _ | q285
                            · have H1 : (if x32_2 < (x8_2.length : Int) then (lure_Parse.l1 k2 a0 (x8_2.set (x32_2 : Int).toNat t283) t272 (t272.length : Int) x21_1 t276 (t276.length : Int) (wrap64 (x32_2 + 1)) x271000_1 x271001_1) else (none)) = some (r1, r2, r3) := by rw [if_pos (show (none : Option Int).isNone = true by rfl)] at H; exact H
                              clear H
                              have H := H1
                              clear H1
                              try simp only [errW_none, errW_some]
                              by_cases c25 : x32_2 < (x8_2.length : Int)
                              · rw [if_pos c25] at H
                                have c25b0 : decide (x32_2 < (x8_2.length : Int)) = true := decide_eq_true c25
                                clear c25
                                obtain ⟨y286, hy286⟩ : ∃ y_ : List Int, y_ = (x8_2.set (x32_2 : Int).toNat t283) := ⟨_, rfl⟩
                                replace H : (lure_Parse.l1 k2 a0 y286 t272 (t272.length : Int) x21_1 t276 (t276.length : Int) (wrap64 (x32_2 + 1)) x271000_1 x271001_1) = some (r1, r2, r3) := by first | (rw [hy286]; with_reducible exact H) | (have H2_ := (Option.bind_some _ _).symm.trans H; rw [hy286]; with_reducible exact H2_) | (have H2_ := (Option.bind_some _ _).symm.trans H; with_reducible exact H2_) | with_reducible exact H | (rw [hy286]; exact H) | exact H
                                have Ny286 := Aside0.mk hy286
                                clear hy286
                                have H' := Aside0.mk H
                                clear H
                                have p282 : 0 ≤ (x32_2 : Int) := of_decide_eq_true (by first | (with_reducible assumption) | assumption)
                                have q282 : x32_2 < (t276.length : Int) := of_decide_eq_true (by first | (with_reducible assumption) | assumption)
                                obtain ⟨ad282, e282, hx282_0⟩ := Kd.at_string (Kd.R_reads' HO_30.out).2.2 x32_2 p282 q282
                                cases e282
                                replace p282 := eq_true p282
                                replace q282 := eq_true q282
                                go_wp2_with (first | ((with_reducible refine gate_callee (f := 29) rfl ?_); refine goesL_ (some 39) rfl rfl Tryd.func29 (by kernel_rfl) rfl #[.string (rdOf ByteArray.empty t276 x32_2)] rfl (by (try simp only [List.map_toArray, List.map_cons, List.map_nil]); first | done | rfl | (simp only [List.length_drop, List.length_take]; rfl)) ?_; (with_reducible refine (strconv_Atoi_29.calls (rdOf ByteArray.empty t276 x32_2) t283 none _ (Env.below hE (by repeat (first | (with_reducible first | exact HB.out | apply below_alloc | apply pw_below_drewN | apply below_drew1 | refine below_set ?_ GE269.out | refine below_set ?_ GE270.out) | exact HB.out))) A24.out).mono ?_); rintro e w27 ⟨⟨v_, hv_, rfl⟩, hb⟩; (first | obtain rfl := ErrIs.of_none hv_ | obtain ⟨N_, rfl⟩ := ErrIs.of_some hv_ | skip); refine ⟨_, rfl, ?_⟩; have n0_ := Aside0.mk (Kd.R_below (by (with_reducible repeat (first | apply Kd.R_alloc | apply Kd.R_drewN | apply Kd.R_drew)); exact HO_8.out) hb); have n1_ := Aside0.mk (Kd.R_below (by (with_reducible repeat (first | apply Kd.R_alloc | apply Kd.R_drewN | apply Kd.R_drew)); exact HO_19.out) hb); have n2_ := Aside0.mk (Kd.R_below (by (with_reducible repeat (first | apply Kd.R_alloc | apply Kd.R_drewN | apply Kd.R_drew)); exact HO_30.out) hb); have n3_ := Aside0.mk (Kd.R_below (by (with_reducible repeat (first | apply Kd.R_alloc | apply Kd.R_drewN | apply Kd.R_drew)); exact HO_271000.out) hb); have n4_ := Aside0.mk (Kd.N_below (by (with_reducible repeat (first | apply Kd.N_alloc | apply Kd.N_drewN | apply Kd.N_drew)); exact HO_271001.out) hb); have n5_ := Aside0.mk (blk_below (g := gb269) (o := .cells #[.slice none 0 0, .slice none 0 0] 35 (0, 0)) (by (with_reducible repeat (first | refine blk_drewN ?_ _ | refine blk_drew ?_ | refine blk_alloc ?_ _)); exact BK269.out) hb); have n6_ := Aside0.mk (blk_below (g := gb270) (o := .cells #[u271000, u271001] 35 (0, 0)) (by (with_reducible repeat (first | refine blk_drewN ?_ _ | refine blk_drew ?_ | refine blk_alloc ?_ _)); exact BK270.out) hb); have n7_ := Aside0.mk (below_step (by repeat (first | (with_reducible first | exact HB.out | apply below_alloc | apply pw_below_drewN | apply below_drew1 | refine below_set ?_ GE269.out | refine below_set ?_ GE270.out) | exact HB.out)) hb); clear HO_8; clear HO_19; clear HO_30; clear HO_271000; clear HO_271001; clear BK269; clear BK270; clear HB; have HO_8 := n0_; have HO_19 := n1_; have HO_30 := n2_; have HO_271000 := n3_; have HO_271001 := n4_; have BK269 := n5_; have BK270 := n6_; have HB := n7_; clear n0_ n1_ n2_ n3_ n4_ n5_ n6_ n7_; (try clear hb); (try clear hb2); (try clear hk); (try clear hi); (try simp only [errW_none, errW_some]); have p26 : 0 ≤ (x32_2 : Int) := of_decide_eq_true (by first | (with_reducible assumption) | assumption); have q26 : (x32_2 : Int) < ((x8_2.length : Int) : Int) := of_decide_eq_true (by first | (with_reducible assumption) | assumption); obtain ⟨go26, co26, eo26, gb26, gl26, cl26, HG26⟩ := Kd.R_form HO_8.out (by omega); (first | cases eo26 | (injection eo26 with ea_ en_ ec_; (first | subst ea_ | (injection ea_ with ea_; subst ea_)); subst ec_; clear en_)); have GB26 := Aside0.mk gb26; have GG26 := Aside0.mk HG26; clear gb26 gl26 HG26; obtain ⟨hx26_0, hf26_0⟩ := Kd.R_celln 0 HO_8.out (x32_2 : Int) p26 q26; replace p26 := eq_true p26; replace q26 := eq_true q26; obtain ⟨hy28_, hz28_⟩ := Kd.R_celln 0 HO_8.out (x32_2 : Int) (of_decide_eq_true (by first | (with_reducible assumption) | assumption)) (of_decide_eq_true (by first | (with_reducible assumption) | assumption)); have HP28 := Kd.R_putg HO_8.out (x32_2 : Int) t283) | ((with_reducible refine gate_store (t := 3) (p := 48) rfl ?_); refine store_event (t := 3) (p := 48) (v := ?vo_w29) (w1 := (w27.setCell ⟨go26, (x32_2 : Int).toNat, none⟩ (.int .i64 t283))) ?hg ?ho ?hn ?hr ?_; (case ho => rfl); (case hg => rfl); (case hn => rfl); (case hr => first | (go_simp; done) | (go_simp; rfl)); intro w29 hw; have hg : w27.grownBy w29 (some go26) := (by rw [hw]; exact HP28.2); have hp_ : Kd.R (Kd.int .i64) 3 w29 w.heap.size (fun k_ => (w.heap.size ≤ k_) ∧ some k_ ≠ (u271000 : Value).ownBlock) (.slice (some ⟨go26, 0, none⟩) x8_2.length co26) y286 := (by rw [hw, Ny286.out]; exact HP28.1); clear HP28; have n0_ := Aside0.mk (hp_); have n1_ := Aside0.mk (Kd.R_over' (v := (.slice (some ⟨go26, 0, none⟩) x8_2.length co26)) (by (with_reducible repeat (first | apply Kd.R_alloc | apply Kd.R_drewN | apply Kd.R_drew)); exact HO_19.out) (Kd.R_typed HO_8.out) (by decide) hg); have n2_ := Aside0.mk (Kd.R_over' (v := (.slice (some ⟨go26, 0, none⟩) x8_2.length co26)) (by (with_reducible repeat (first | apply Kd.R_alloc | apply Kd.R_drewN | apply Kd.R_drew)); exact HO_30.out) (Kd.R_typed HO_8.out) (by decide) hg); have n3_ := Aside0.mk (Kd.R_after (v := (.slice (some ⟨go26, 0, none⟩) x8_2.length co26)) (v1 := (.slice (some ⟨go26, 0, none⟩) x8_2.length co26)) (ok := (fun k_ => (w.heap.size ≤ k_))) (by (with_reducible repeat (first | apply Kd.R_alloc | apply Kd.R_drewN | apply Kd.R_drew)); exact HO_271000.out) hg (.inl rfl)); have n4_ := Aside0.mk (Kd.N_afterv (v := (.slice (some ⟨go26, 0, none⟩) x8_2.length co26)) (v1 := (.slice (some ⟨go26, 0, none⟩) x8_2.length co26)) (ok := (fun k_ => (w.heap.size ≤ k_) ∧ some k_ ≠ (.slice (some ad275) t272.length co10 : Value).ownBlock ∧ some k_ ≠ (.slice (some ad282) t276.length co18 : Value).ownBlock ∧ some k_ ≠ (u271000 : Value).ownBlock ∧ k_ ≠ gb269 ∧ k_ ≠ gb270)) (by (with_reducible repeat (first | apply Kd.N_alloc | apply Kd.N_drewN | apply Kd.N_drew)); exact Kd.N_mono HO_271001.out (fun _ hk => ⟨⟨hk.1, ⟨hk.2.2.1, ⟨hk.2.2.2.1, ⟨hk.2.2.2.2.1, ⟨hk.2.2.2.2.2.1, hk.2.2.2.2.2.2⟩⟩⟩⟩⟩, hk.2.1⟩)) hg (.inl rfl)); have n5_ := Aside0.mk (blk_grown (g := gb269) (o := .cells #[.slice none 0 0, .slice none 0 0] 35 (0, 0)) (by (with_reducible repeat (first | refine blk_drewN ?_ _ | refine blk_drew ?_ | refine blk_alloc ?_ _)); exact BK269.out) hg (Kd.R_ne HO_8.out BK269.out (by decide))); have n6_ := Aside0.mk (blk_grown (g := gb270) (o := .cells #[u271000, u271001] 35 (0, 0)) (by (with_reducible repeat (first | refine blk_drewN ?_ _ | refine blk_drew ?_ | refine blk_alloc ?_ _)); exact BK270.out) hg (Kd.R_ne HO_8.out BK270.out (by decide))); have n7_ := Aside0.mk ((by rw [hw]; exact below_set (HB.out) GB26.out : Below w.heap.size w w29)); clear HO_8; clear HO_19; clear HO_30; clear HO_271000; clear HO_271001; clear BK269; clear BK270; clear HB; have HO_8 := n0_; have HO_19 := n1_; have HO_30 := n2_; have HO_271000 := n3_; have HO_271001 := n4_; have BK269 := n5_; have BK270 := n6_; have HB := n7_; clear n0_ n1_ n2_ n3_ n4_ n5_ n6_ n7_; clear hg hw hp_))
                                go_roundg k2
                                case measure => have := HK1.out; have := HK2.out; omega
                                case rel => exact ⟨(y286), (wrap64 (x32_2 + 1)), (by first | rfl | (simp; done) | (simp [*]; done)), H', ⟨by have := HK1.out; have := HK2.out; omega⟩, ⟨by (with_reducible repeat (first | apply Kd.R_alloc | apply Kd.R_drewN | apply Kd.R_drew)); exact HO_8.out⟩, ⟨by (with_reducible repeat (first | apply Kd.R_alloc | apply Kd.R_drewN | apply Kd.R_drew)); exact HO_19.out⟩, ⟨by (with_reducible repeat (first | apply Kd.R_alloc | apply Kd.R_drewN | apply Kd.R_drew)); exact HO_30.out⟩, ⟨by (with_reducible repeat (first | apply Kd.R_alloc | apply Kd.R_drewN | apply Kd.R_drew)); exact HO_271000.out⟩, ⟨by (with_reducible repeat (first | apply Kd.N_alloc | apply Kd.N_drewN | apply Kd.N_drew)); exact Kd.N_mono HO_271001.out (fun _ hk => ⟨hk.1.1, ⟨hk.2, ⟨hk.1.2.1, ⟨hk.1.2.2.1, ⟨hk.1.2.2.2.1, ⟨hk.1.2.2.2.2.1, hk.1.2.2.2.2.2⟩⟩⟩⟩⟩⟩)⟩, ⟨by (with_reducible repeat (first | refine blk_drewN ?_ _ | refine blk_drew ?_ | refine blk_alloc ?_ _)); exact BK269.out⟩, ⟨by (with_reducible repeat (first | refine blk_drewN ?_ _ | refine blk_drew ?_ | refine blk_alloc ?_ _)); exact BK270.out⟩, ⟨by repeat (first | (with_reducible first | exact HB.out | apply below_alloc | apply pw_below_drewN | apply below_drew1 | refine below_set ?_ GE269.out | refine below_set ?_ GE270.out) | exact HB.out)⟩⟩
                              · rw [if_neg c25] at H
                                exact absurd H (by simp)
                            · have H1 : (some (([] : List Int), ([] : List (List Int)), 2)) = some (r1, r2, r3) := by rw [if_neg (show ¬ (some q285).isNone = true by simp)] at H; exact H
                              clear H
                              have H := H1
                              clear H1
                              try simp only [errW_none, errW_some]
                              simp only [Option.some.injEq, Prod.mk.injEq] at H
                              obtain ⟨rfl, rfl, rfl⟩ := H
                              have p282 : 0 ≤ (x32_2 : Int) := of_decide_eq_true (by first | (with_reducible assumption) | assumption)
                              have q282 : x32_2 < (t276.length : Int) := of_decide_eq_true (by first | (with_reducible assumption) | assumption)
                              obtain ⟨ad282, e282, hx282_0⟩ := Kd.at_string (Kd.R_reads' HO_30.out).2.2 x32_2 p282 q282
                              cases e282
                              replace p282 := eq_true p282
                              replace q282 := eq_true q282
                              go_wp2_with (first | ((with_reducible refine gate_callee (f := 29) rfl ?_); refine goesL_ (some 39) rfl rfl Tryd.func29 (by kernel_rfl) rfl #[.string (rdOf ByteArray.empty t276 x32_2)] rfl (by (try simp only [List.map_toArray, List.map_cons, List.map_nil]); first | done | rfl | (simp only [List.length_drop, List.length_take]; rfl)) ?_; (with_reducible refine (strconv_Atoi_29.calls (rdOf ByteArray.empty t276 x32_2) t283 (some q285) _ (Env.below hE (by repeat (first | (with_reducible first | exact HB.out | apply below_alloc | apply pw_below_drewN | apply below_drew1 | refine below_set ?_ GE269.out | refine below_set ?_ GE270.out) | exact HB.out))) A24.out).mono ?_); rintro e w30 ⟨⟨v_, hv_, rfl⟩, hb⟩; (first | obtain rfl := ErrIs.of_none hv_ | obtain ⟨N_, rfl⟩ := ErrIs.of_some hv_ | skip); refine ⟨_, rfl, ?_⟩; have n0_ := Aside0.mk (Kd.R_below (by (with_reducible repeat (first | apply Kd.R_alloc | apply Kd.R_drewN | apply Kd.R_drew)); exact HO_8.out) hb); have n1_ := Aside0.mk (Kd.R_below (by (with_reducible repeat (first | apply Kd.R_alloc | apply Kd.R_drewN | apply Kd.R_drew)); exact HO_19.out) hb); have n2_ := Aside0.mk (Kd.R_below (by (with_reducible repeat (first | apply Kd.R_alloc | apply Kd.R_drewN | apply Kd.R_drew)); exact HO_30.out) hb); have n3_ := Aside0.mk (Kd.R_below (by (with_reducible repeat (first | apply Kd.R_alloc | apply Kd.R_drewN | apply Kd.R_drew)); exact HO_271000.out) hb); have n4_ := Aside0.mk (Kd.N_below (by (with_reducible repeat (first | apply Kd.N_alloc | apply Kd.N_drewN | apply Kd.N_drew)); exact HO_271001.out) hb); have n5_ := Aside0.mk (blk_below (g := gb269) (o := .cells #[.slice none 0 0, .slice none 0 0] 35 (0, 0)) (by (with_reducible repeat (first | refine blk_drewN ?_ _ | refine blk_drew ?_ | refine blk_alloc ?_ _)); exact BK269.out) hb); have n6_ := Aside0.mk (blk_below (g := gb270) (o := .cells #[u271000, u271001] 35 (0, 0)) (by (with_reducible repeat (first | refine blk_drewN ?_ _ | refine blk_drew ?_ | refine blk_alloc ?_ _)); exact BK270.out) hb); have n7_ := Aside0.mk (below_step (by repeat (first | (with_reducible first | exact HB.out | apply below_alloc | apply pw_below_drewN | apply below_drew1 | refine below_set ?_ GE269.out | refine below_set ?_ GE270.out) | exact HB.out)) hb); clear HO_8; clear HO_19; clear HO_30; clear HO_271000; clear HO_271001; clear BK269; clear BK270; clear HB; have HO_8 := n0_; have HO_19 := n1_; have HO_30 := n2_; have HO_271000 := n3_; have HO_271001 := n4_; have BK269 := n5_; have BK270 := n6_; have HB := n7_; clear n0_ n1_ n2_ n3_ n4_ n5_ n6_ n7_; (try clear hb); (try clear hb2); (try clear hk); (try clear hi); (try simp only [errW_none, errW_some]); have hnb31 := NB269_270.out; have hnc31 := NB270_269.out; have hcz32_0 : w30.cell? ⟨gb269, 0, none⟩ = some (.slice none 0 0) := (blk_cell BK269.out 0).trans rfl; have hcz32_1 : w30.cell? ⟨gb269, 1, none⟩ = some (.slice none 0 0) := (blk_cell BK269.out 1).trans rfl; have hfz32_0 := blk_frozen BK269.out 0; have hfz32_1 := blk_frozen BK269.out 1))
                              refine bodyPost_ret (results_ct rfl _ _ gb269 35 #[.slice none 0 0, .slice none 0 0] (0, 0) _ rfl (by (with_reducible repeat (first | refine blk_drewN ?_ _ | refine blk_drew ?_ | refine blk_alloc ?_ _)); refine blk_put (cs := #[.slice none 0 0, .slice none 0 0]) ?_ 1 _ rfl; (with_reducible repeat (first | refine blk_drewN ?_ _ | refine blk_drew ?_ | refine blk_alloc ?_ _)); refine blk_put (cs := #[.slice none 0 0, .slice none 0 0]) ?_ 0 _ rfl; (with_reducible repeat (first | refine blk_drewN ?_ _ | refine blk_drew ?_ | refine blk_alloc ?_ _)); exact BK269.out) Tryd.underlying35 rfl (by kernel_rfl)) rfl ?_
                              exact ⟨_, _, by first | rfl | (simp [errW_none, errW_some] <;> rfl) | (simp [*, errW_none, errW_some] <;> rfl), by first | exact Kd.R_nil _ _ _ _ _ | exact Kd.N_nil _ _ _ _ _ | exact Kd.V_nil _ _ _ _ _ | exact Kd.Q_nil _ _ _ _ _ | exact Kd.S_nil _ _ _ _ _, by first | exact Kd.S_nil _ _ _ _ _ | exact Kd.N_nil _ _ _ _ _ | exact Kd.V_nil _ _ _ _ _ | exact Kd.Q_nil _ _ _ _ _ | exact Kd.R_nil _ _ _ _ _, by repeat (first | (with_reducible first | exact HB.out | apply below_alloc | apply pw_below_drewN | apply below_drew1 | refine below_set ?_ GE269.out | refine below_set ?_ GE270.out) | exact HB.out)⟩
                          · rw [if_neg c23] at H
                            exact absurd H (by simp)
                        · rw [if_neg c22] at H
                          exact absurd H (by simp)
                      · rw [if_neg c21] at H
                        have c21b0 : decide (x32_2 < (t276.length : Int)) = false := decide_eq_false c21
                        clear c21
                        by_cases c33 : 0 < (x8_2.length : Int)
                        · rw [if_pos c33] at H
                          have c33b0 : decide (0 < (x8_2.length : Int)) = true := decide_eq_true c33
                          have c33b1 : decide (0 < x8_2.length) = true := decide_eq_true (by omega)
                          clear c33
                          by_cases c34 : x271000_1.length < 17592186044416
                          · rw [if_pos c34] at H
                            have LMc34 := Aside0.mk c34
                            clear c34
                            obtain ⟨y288, hy288⟩ : ∃ y_ : List Int, y_ = (x271000_1 ++ [rd x8_2 0]) := ⟨_, rfl⟩
                            replace H : (if 1 ≤ (x8_2.length : Int) then (if x271001_1.length < 5864062014805 then (lure_Parse.l0 k2 a0 t272 (t272.length : Int) (wrap64 (x21_1 + 1)) y288 (x271001_1 ++ [(x8_2.drop 1)])) else (none)) else (none)) = some (r1, r2, r3) := by first | (rw [hy288]; with_reducible exact H) | (have H2_ := (Option.bind_some _ _).symm.trans H; rw [hy288]; with_reducible exact H2_) | (have H2_ := (Option.bind_some _ _).symm.trans H; with_reducible exact H2_) | with_reducible exact H | (rw [hy288]; exact H) | exact H
                            have Ny288 := Aside0.mk hy288
                            clear hy288
                            by_cases c35 : 1 ≤ (x8_2.length : Int)
                            · rw [if_pos c35] at H
                              have c35b0 := eq_true c35
                              have c35b1 : decide (1 ≤ (x8_2.length : Int)) = true := decide_eq_true c35
                              clear c35
                              obtain ⟨y291, hy291⟩ : ∃ y_ : List Int, y_ = (x8_2.drop 1) := ⟨_, rfl⟩
                              replace H : (if x271001_1.length < 5864062014805 then (lure_Parse.l0 k2 a0 t272 (t272.length : Int) (wrap64 (x21_1 + 1)) y288 (x271001_1 ++ [y291])) else (none)) = some (r1, r2, r3) := by first | (rw [hy291]; with_reducible exact H) | (have H2_ := (Option.bind_some _ _).symm.trans H; rw [hy291]; with_reducible exact H2_) | (have H2_ := (Option.bind_some _ _).symm.trans H; with_reducible exact H2_) | with_reducible exact H | (rw [hy291]; exact H) | exact H
                              have Ny291 := Aside0.mk hy291
                              clear hy291
                              by_cases c36 : x271001_1.length < 5864062014805
                              · rw [if_pos c36] at H
                                have LMc36 := Aside0.mk c36
                                clear c36
                                obtain ⟨y296, hy296⟩ : ∃ y_ : List (List Int), y_ = (x271001_1 ++ [y291]) := ⟨_, rfl⟩
                                replace H : (lure_Parse.l0 k2 a0 t272 (t272.length : Int) (wrap64 (x21_1 + 1)) y288 y296) = some (r1, r2, r3) := by first | (rw [hy296]; with_reducible exact H) | (have H2_ := (Option.bind_some _ _).symm.trans H; rw [hy296]; with_reducible exact H2_) | (have H2_ := (Option.bind_some _ _).symm.trans H; with_reducible exact H2_) | with_reducible exact H | (rw [hy296]; exact H) | exact H
                                have Ny296 := Aside0.mk hy296
                                clear hy296
                                have H' := Aside0.mk H
                                clear H
                                try go_wp2
                                have n0_ := Aside0.mk (Kd.R_drew HO_8.out)
                                have n1_ := Aside0.mk (Kd.R_drew HO_19.out)
                                have n2_ := Aside0.mk (Kd.R_drew HO_30.out)
                                have n3_ := Aside0.mk (Kd.R_drew HO_271000.out)
                                have n4_ := Aside0.mk (Kd.N_drew HO_271001.out)
                                have n5_ := Aside0.mk (blk_drew BK269.out)
                                have n6_ := Aside0.mk (blk_drew BK270.out)
                                have n7_ := Aside0.mk (below_drew1 HB.out)
                                clear HO_8
                                clear HO_19
                                clear HO_30
                                clear HO_271000
                                clear HO_271001
                                clear BK269
                                clear BK270
                                clear HB
                                have HO_8 := n0_
                                have HO_19 := n1_
                                have HO_30 := n2_
                                have HO_271000 := n3_
                                have HO_271001 := n4_
                                have BK269 := n5_
                                have BK270 := n6_
                                have HB := n7_
                                clear n0_ n1_ n2_ n3_ n4_ n5_ n6_ n7_
                                obtain ⟨Ao38, co38, eo38⟩ := Kd.R_slice HO_8.out
                                (first | subst eo38 | (injection eo38 with f1_ f2_ f3_; have f4_ := f1_.symm; have f5_ := f3_.symm; clear f1_ f2_ f3_; subst f4_; subst f5_))
                                have p287 : 0 ≤ (0 : Int) := (by omega)
                                have q287 : 0 < (x8_2.length : Int) := of_decide_eq_true (by first | (with_reducible assumption) | assumption)
                                obtain ⟨ad287, e287, hx287_0⟩ := Kd.at_int (Kd.R_reads' HO_8.out).2.2 0 p287 q287
                                cases e287
                                have qi287 : (0 < x8_2.length) = True := eq_true (by omega)
                                (try rw [show ((0 : Int)).toNat = 0 from rfl] at hx287_0)
                                (try rw [Addr.add_zero'] at hx287_0)
                                replace p287 := eq_true p287
                                replace q287 := eq_true q287
                                refine start_ (n := 9) (S := fun w' => w'.cell? ⟨gb270, 0, none⟩ = some (u271000) ∧ w'.cell? ⟨gb270, 1, none⟩ = some (u271001) ∧ w'.cell? ad287 = some (.int .i64 (rd x8_2 0))) (ds := [6, 8]) #[false, false, false, false, false, false, false, false, false] (by kernel_rfl) rfl rfl ⟨(blk_cell BK270.out 0).trans rfl, (blk_cell BK270.out 1).trans rfl, hx287_0⟩ (fun hHeld => ?_); refine with_tabW lure_Parse.tab17 lure_Parse.bits17 (fun HT_ HW_ => ?_)
                                generalize wr.drew = w37 at HO_8 HO_19 HO_30 HO_271000 HO_271001 BK269 BK270 HB hx287_0 hHeld ⊢
                                refine pure_ (i := 0) (N := some 50) (v := ?_) (a' := ?_) #[true, false, false, false, false, false, false, false, false] rfl rfl (any_of HT_.out (by kernel_rfl)) (fun _ _ _ h => h) (Or.inl ⟨by rfl, ?_⟩) ?_ ?_
                                rotate_left
                                · intro w'
                                  go_simp
                                  with_reducible rfl
                                rotate_left
                                · simp only [Act.put, List.setIfInBounds_toArray, List.set_cons_zero, List.set_cons_succ, i64_w, i32_w]
                                  rfl
                                refine pure_ (i := 2) (N := some 52) (v := ?_) (a' := ?_) #[true, false, true, false, false, false, false, false, false] rfl rfl (any_of HT_.out (by kernel_rfl)) (fun _ _ _ h => h) (Or.inl ⟨by rfl, ?_⟩) ?_ ?_
                                rotate_left
                                · intro w'
                                  go_simp
                                  with_reducible rfl
                                rotate_left
                                · simp only [Act.put, List.setIfInBounds_toArray, List.set_cons_zero, List.set_cons_succ, i64_w, i32_w]
                                  rfl
                                refine pure_ (i := 3) (N := some 53) (v := ?_) (a' := ?_) #[true, false, true, true, false, false, false, false, false] rfl rfl (any_of HT_.out (by kernel_rfl)) (fun _ _ _ h => h) (Or.inl ⟨by rfl, ?_⟩) ?_ ?_
                                rotate_left
                                · intro w'
                                  go_simp
                                  with_reducible rfl
                                rotate_left
                                · simp only [Act.put, List.setIfInBounds_toArray, List.set_cons_zero, List.set_cons_succ, i64_w, i32_w]
                                  rfl
                                refine take_ (i := 1) (N := some 51) (v := ?_) (a' := ?_) #[true, true, true, true, false, false, false, false, false] rfl rfl (take_ofW HT_.out HW_.out (by kernel_rfl)) (fun _ _ _ h => h) (Or.inl ⟨by rfl, ?_⟩) hHeld ?_ ?_
                                rotate_left
                                · rintro w' ⟨s0, s1, s2⟩
                                  go_simp
                                  with_reducible rfl
                                rotate_left
                                · simp only [Act.put, List.setIfInBounds_toArray, List.set_cons_zero, List.set_cons_succ, i64_w, i32_w]
                                  rfl
                                refine take_ (i := 4) (N := some 54) (v := ?_) (a' := ?_) #[true, true, true, true, true, false, false, false, false] rfl rfl (take_ofW HT_.out HW_.out (by kernel_rfl)) (fun _ _ _ h => h) (Or.inl ⟨by rfl, ?_⟩) hHeld ?_ ?_
                                rotate_left
                                · rintro w' ⟨s0, s1, s2⟩
                                  go_simp
                                  with_reducible rfl
                                rotate_left
                                · simp only [Act.put, List.setIfInBounds_toArray, List.set_cons_zero, List.set_cons_succ, i64_w, i32_w]
                                  rfl
                                refine one_ (i := 5) (N := some 55) #[true, true, true, true, true, true, false, false, false] rfl rfl (one_of HT_.out (by kernel_rfl)) (by decide) (fun K hK => ?_)
                                refine value_ (w1 := ?_) (v := ?_) (by rfl) rfl ?_ ?_
                                rotate_left 2
                                · go_simp
                                  constructor
                                  · rfl
                                  · rfl
                                refine hK.out _ _ ⟨(blk_cell (blk_alloc BK270.out _) 0).trans rfl, (blk_cell (blk_alloc BK270.out _) 1).trans rfl, (World.cell?_alloc_lt _ _ _ (World.block_lt_of_cell? _ _ (hHeld.2.2))).trans (hHeld.2.2)⟩ (fun hHeld => ?_)
                                clear hK K
                                refine norm_ (a' := ?_) ?_ ?_
                                rotate_left
                                · show Act.put _ (some 55) _ = _
                                  simp only [Act.put, List.setIfInBounds_toArray, List.set_cons_zero, List.set_cons_succ, i64_w, i32_w]
                                  rfl
                                refine last_ (i := 6) (N := some 56) #[true, true, true, true, true, true, true, false, false] rfl rfl (one_of HT_.out (by kernel_rfl)) (by decide) (fun K hK => ?_)
                                refine Kd.R_append_step (Kd.int .i64) (w0 := w) w.heap.size (by rfl) (.tmp 51) (.tmp 55) 32 3 (.int .i64 0) 8 rfl Tryd.underlying32 info3 rfl (by decide) (by omega) u271000 x271000_1 (rd x8_2 0) [.int .i64 (rd x8_2 0)] (fun k_ => (w.heap.size ≤ k_) ∧ some k_ ≠ (.slice (some ad287) x8_2.length co38 : Value).ownBlock) (fun _ => False) rfl rfl ?aP (fun _ hk => hk.elim) ?aF ?aO ?aB ?aS ?aL ?_
                                (case aP => exact rfl)
                                (case aB => exact (by repeat (first | (with_reducible first | exact HB.out | apply below_alloc | apply pw_below_drewN | apply below_drew1 | refine below_set ?_ GE269.out | refine below_set ?_ GE270.out) | exact HB.out)))
                                (case aF => exact (fun k_ hk => ⟨(Nat.le_trans (below_size (by repeat (first | (with_reducible first | exact HB.out | apply below_alloc | apply pw_below_drewN | apply below_drew1 | refine below_set ?_ GE269.out | refine below_set ?_ GE270.out) | exact HB.out))) hk), Kd.fresh' (Kd.R_lt (by (with_reducible repeat (first | apply Kd.R_alloc | apply Kd.R_drewN | apply Kd.R_drew)); exact HO_8.out)) k_ hk⟩))
                                (case aO => exact (by (with_reducible repeat (first | apply Kd.R_alloc | apply Kd.R_drewN | apply Kd.R_drew)); exact HO_271000.out))
                                (case aS => exact (below_size (by repeat (first | (with_reducible first | exact HB.out | apply below_alloc | apply pw_below_drewN | apply below_drew1 | refine below_set ?_ GE269.out | refine below_set ?_ GE270.out) | exact HB.out))))
                                (case aL => have := LMc34.out; omega)
                                intro v289 w39 ho hb hg hat
                                rw [← Ny288.out] at ho
                                have n0_ := Aside0.mk (Kd.R_after (ok := (fun k_ => (w.heap.size ≤ k_))) (by (with_reducible repeat (first | apply Kd.R_alloc | apply Kd.R_drewN | apply Kd.R_drew)); exact HO_8.out) hg hat)
                                have n1_ := Aside0.mk (Kd.R_over' (by (with_reducible repeat (first | apply Kd.R_alloc | apply Kd.R_drewN | apply Kd.R_drew)); exact HO_19.out) (Kd.R_typed (by (with_reducible repeat (first | apply Kd.R_alloc | apply Kd.R_drewN | apply Kd.R_drew)); exact HO_271000.out)) (by decide) hg)
                                have n2_ := Aside0.mk (Kd.R_over' (by (with_reducible repeat (first | apply Kd.R_alloc | apply Kd.R_drewN | apply Kd.R_drew)); exact HO_30.out) (Kd.R_typed (by (with_reducible repeat (first | apply Kd.R_alloc | apply Kd.R_drewN | apply Kd.R_drew)); exact HO_271000.out)) (by decide) hg)
                                have n3_ := Aside0.mk (Kd.N_afterv (ok := (fun k_ => (w.heap.size ≤ k_) ∧ some k_ ≠ (.slice (some ad287) x8_2.length co38 : Value).ownBlock ∧ some k_ ≠ (.slice (some ad275) t272.length co10 : Value).ownBlock ∧ some k_ ≠ (.slice Ao18 t276.length co18 : Value).ownBlock ∧ k_ ≠ gb269 ∧ k_ ≠ gb270)) (by (with_reducible repeat (first | apply Kd.N_alloc | apply Kd.N_drewN | apply Kd.N_drew)); exact Kd.N_mono HO_271001.out (fun _ hk => ⟨⟨hk.1, ⟨hk.2.1, ⟨hk.2.2.1, ⟨hk.2.2.2.1, ⟨hk.2.2.2.2.2.1, hk.2.2.2.2.2.2⟩⟩⟩⟩⟩, hk.2.2.2.2.1⟩)) hg hat)
                                have n4_ := Aside0.mk (blk_grown (g := gb269) (o := .cells #[.slice none 0 0, .slice none 0 0] 35 (0, 0)) (by (with_reducible repeat (first | refine blk_drewN ?_ _ | refine blk_drew ?_ | refine blk_alloc ?_ _)); exact BK269.out) hg (Kd.R_ne HO_271000.out BK269.out (by decide)))
                                have n5_ := Aside0.mk (blk_grown (g := gb270) (o := .cells #[u271000, u271001] 35 (0, 0)) (by (with_reducible repeat (first | refine blk_drewN ?_ _ | refine blk_drew ?_ | refine blk_alloc ?_ _)); exact BK270.out) hg (Kd.R_ne HO_271000.out BK270.out (by decide)))
                                have n6_ := Aside0.mk (hb)
                                have n7_ := Aside0.mk (ho)
                                clear HO_8
                                clear HO_19
                                clear HO_30
                                clear HO_271001
                                clear BK269
                                clear BK270
                                clear HB
                                clear HO_271000
                                have HO_8 := n0_
                                have HO_19 := n1_
                                have HO_30 := n2_
                                have HO_271001 := n3_
                                have BK269 := n4_
                                have BK270 := n5_
                                have HB := n6_
                                have HO290 := n7_
                                clear n0_ n1_ n2_ n3_ n4_ n5_ n6_ n7_
                                clear ho hb hg hat
                                obtain ⟨Ao40, co40, eo40⟩ := Kd.R_slice HO290.out
                                (first | subst eo40 | (injection eo40 with f1_ f2_ f3_; have f4_ := f1_.symm; have f5_ := f3_.symm; clear f1_ f2_ f3_; subst f4_; subst f5_))
                                refine hK.out _ _ ?_
                                clear hK K
                                refine norm_ (a' := ?_) ?_ ?_
                                rotate_left
                                · show Act.put _ (some 56) _ = _
                                  simp only [Act.put, List.setIfInBounds_toArray, List.set_cons_zero, List.set_cons_succ, i64_w, i32_w]
                                  rfl
                                refine pure_ (i := 7) (N := some 57) (v := ?_) (a' := ?_) #[true, true, true, true, true, true, true, true, false] rfl rfl (any_of HT_.out (by kernel_rfl)) (fun _ _ _ h => h) (Or.inl ⟨by rfl, ?_⟩) ?_ ?_
                                rotate_left
                                · intro w'
                                  go_simp
                                  with_reducible rfl
                                rotate_left
                                · simp only [Act.put, List.setIfInBounds_toArray, List.set_cons_zero, List.set_cons_succ, i64_w, i32_w]
                                  rfl
                                refine last_ (i := 8) (N := none) #[true, true, true, true, true, true, true, true, true] rfl rfl (one_of HT_.out (by kernel_rfl)) (by decide) (fun K hK => ?_)
                                have hs41 : w39.cell? ⟨gb270, 0, none⟩ = some (u271000) := (blk_cell BK270.out 0).trans rfl
                                have hfs41 := blk_frozen BK270.out 0
                                have hns41_0 := NB269_270.out
                                have hms41_0 := NB270_269.out
                                refine skip_ (w1 := ?_) (by rfl) rfl ?_ ?_
                                rotate_left
                                · go_simp
                                  rfl
                                refine hK.out _ _ ?_
                                clear hK K
                                refine done_ (done_of HT_.out (by kernel_rfl)) ?_
                                try go_wp2
                                have n0_ : Aside0 (Kd.R (Kd.int .i64) 3 (w39.setCell ⟨gb270, 0, none⟩ (.slice Ao40 y288.length co40)) w.heap.size (fun k_ => (w.heap.size ≤ k_) ∧ some k_ ≠ (.slice Ao40 y288.length co40 : Value).ownBlock) (.slice (some ad287) x8_2.length co38) x8_2) := ⟨by (with_reducible repeat (first | apply Kd.R_alloc | apply Kd.R_drewN | apply Kd.R_drew)); exact Kd.R_mono (Kd.R_far (p := ⟨gb270, 0, none⟩) (Kd.R_types HO_8.out BK270.out (by decide)) (fun _ hk => hk.2) (.slice Ao40 y288.length co40)) (fun _ hk => ⟨hk.1.1, hk.1.2⟩)⟩
                                have n1_ : Aside0 (Kd.R Kd.string 9 (w39.setCell ⟨gb270, 0, none⟩ (.slice Ao40 y288.length co40)) w.heap.size (fun k_ => (w.heap.size ≤ k_) ∧ some k_ ≠ (.slice Ao18 t276.length co18 : Value).ownBlock) (.slice (some ad275) t272.length co10) t272) := ⟨by (with_reducible repeat (first | apply Kd.R_alloc | apply Kd.R_drewN | apply Kd.R_drew)); exact Kd.R_mono (Kd.R_far (p := ⟨gb270, 0, none⟩) (Kd.R_types HO_19.out BK270.out (by decide)) (fun _ hk => hk.2) (.slice Ao40 y288.length co40)) (fun _ hk => ⟨hk.1.1, hk.1.2⟩)⟩
                                have n2_ : Aside0 (Kd.R Kd.string 9 (w39.setCell ⟨gb270, 0, none⟩ (.slice Ao40 y288.length co40)) w.heap.size (fun k_ => (w.heap.size ≤ k_) ∧ some k_ ≠ (.slice (some ad275) t272.length co10 : Value).ownBlock) (.slice Ao18 t276.length co18) t276) := ⟨by (with_reducible repeat (first | apply Kd.R_alloc | apply Kd.R_drewN | apply Kd.R_drew)); exact Kd.R_mono (Kd.R_far (p := ⟨gb270, 0, none⟩) (Kd.R_types HO_30.out BK270.out (by decide)) (fun _ hk => hk.2) (.slice Ao40 y288.length co40)) (fun _ hk => ⟨hk.1.1, hk.1.2⟩)⟩
                                have n3_ : Aside0 (Kd.N (Kd.slice 3 (Kd.int .i64)) 32 (w39.setCell ⟨gb270, 0, none⟩ (.slice Ao40 y288.length co40)) w.heap.size (fun k_ => (w.heap.size ≤ k_) ∧ some k_ ≠ (.slice (some ad287) x8_2.length co38 : Value).ownBlock ∧ some k_ ≠ (.slice (some ad275) t272.length co10 : Value).ownBlock ∧ some k_ ≠ (.slice Ao18 t276.length co18 : Value).ownBlock ∧ some k_ ≠ (.slice Ao40 y288.length co40 : Value).ownBlock ∧ k_ ≠ gb269 ∧ k_ ≠ gb270) u271001 x271001_1) := ⟨by (with_reducible repeat (first | apply Kd.N_alloc | apply Kd.N_drewN | apply Kd.N_drew)); exact Kd.N_mono (Kd.N_far (p := ⟨gb270, 0, none⟩) (Kd.N_mono HO_271001.out (fun k_ hk => (⟨hk, hk.1.2.2.2.2.2⟩ : _ ∧ k_ ≠ gb270))) (fun _ hk => hk.2) (.slice Ao40 y288.length co40)) (fun _ hk => ⟨hk.1.1.1, ⟨hk.1.1.2.1, ⟨hk.1.1.2.2.1, ⟨hk.1.1.2.2.2.1, ⟨hk.1.2, ⟨hk.1.1.2.2.2.2.1, hk.1.1.2.2.2.2.2⟩⟩⟩⟩⟩⟩)⟩
                                have n4_ : Aside0 (Kd.R (Kd.int .i64) 3 (w39.setCell ⟨gb270, 0, none⟩ (.slice Ao40 y288.length co40)) w.heap.size (fun k_ => (w.heap.size ≤ k_) ∧ some k_ ≠ (.slice (some ad287) x8_2.length co38 : Value).ownBlock) (.slice Ao40 y288.length co40) y288) := ⟨by (with_reducible repeat (first | apply Kd.R_alloc | apply Kd.R_drewN | apply Kd.R_drew)); exact Kd.R_mono (Kd.R_far (p := ⟨gb270, 0, none⟩) (Kd.R_types HO290.out BK270.out (by decide)) (fun _ hk => hk.2) (.slice Ao40 y288.length co40)) (fun _ hk => ⟨hk.1.1, hk.1.2⟩)⟩
                                have n5_ : Aside0 ((w39.setCell ⟨gb270, 0, none⟩ (.slice Ao40 y288.length co40)).heap[gb269]? = some (.cells #[.slice none 0 0, .slice none 0 0] 35 (0, 0))) := ⟨by (with_reducible repeat (first | refine blk_drewN ?_ _ | refine blk_drew ?_ | refine blk_alloc ?_ _)); refine blk_far ?_ NB269_270.out _; (with_reducible repeat (first | refine blk_drewN ?_ _ | refine blk_drew ?_ | refine blk_alloc ?_ _)); exact BK269.out⟩
                                have n6_ : Aside0 ((w39.setCell ⟨gb270, 0, none⟩ (.slice Ao40 y288.length co40)).heap[gb270]? = some (.cells #[.slice Ao40 y288.length co40, u271001] 35 (0, 0))) := ⟨by (with_reducible repeat (first | refine blk_drewN ?_ _ | refine blk_drew ?_ | refine blk_alloc ?_ _)); refine blk_put (cs := #[u271000, u271001]) ?_ 0 _ rfl; (with_reducible repeat (first | refine blk_drewN ?_ _ | refine blk_drew ?_ | refine blk_alloc ?_ _)); exact BK270.out⟩
                                have n7_ : Aside0 (Below w.heap.size w (w39.setCell ⟨gb270, 0, none⟩ (.slice Ao40 y288.length co40))) := ⟨by repeat (first | (with_reducible first | exact HB.out | apply below_alloc | apply pw_below_drewN | apply below_drew1 | refine below_set ?_ GE269.out | refine below_set ?_ GE270.out) | exact HB.out)⟩
                                (try clear HO_8)
                                (try clear HO_19)
                                (try clear HO_30)
                                (try clear HO_271001)
                                (try clear HO290)
                                (try clear BK269)
                                (try clear BK270)
                                (try clear HB)
                                generalize (w39.setCell ⟨gb270, 0, none⟩ (.slice Ao40 y288.length co40)) = w42 at n0_ n1_ n2_ n3_ n4_ n5_ n6_ n7_ ⊢
                                have HO_8 := n0_
                                have HO_19 := n1_
                                have HO_30 := n2_
                                have HO_271001 := n3_
                                have HO290 := n4_
                                have BK269 := n5_
                                have BK270 := n6_
                                have HB := n7_
                                clear n0_ n1_ n2_ n3_ n4_ n5_ n6_ n7_
                                have n0_ := Aside0.mk (Kd.R_drew HO_8.out)
                                have n1_ := Aside0.mk (Kd.R_drew HO_19.out)
                                have n2_ := Aside0.mk (Kd.R_drew HO_30.out)
                                have n3_ := Aside0.mk (Kd.N_drew HO_271001.out)
                                have n4_ := Aside0.mk (Kd.R_drew HO290.out)
                                have n5_ := Aside0.mk (blk_drew BK269.out)
                                have n6_ := Aside0.mk (blk_drew BK270.out)
                                have n7_ := Aside0.mk (below_drew1 HB.out)
                                clear HO_8
                                clear HO_19
                                clear HO_30
                                clear HO_271001
                                clear HO290
                                clear BK269
                                clear BK270
                                clear HB
                                have HO_8 := n0_
                                have HO_19 := n1_
                                have HO_30 := n2_
                                have HO_271001 := n3_
                                have HO290 := n4_
                                have BK269 := n5_
                                have BK270 := n6_
                                have HB := n7_
                                clear n0_ n1_ n2_ n3_ n4_ n5_ n6_ n7_
                                have q44 : (1 : Int) ≤ ((x8_2.length : Int) : Int) := of_decide_eq_true (by first | (with_reducible assumption) | assumption)
                                obtain ⟨i044, hi044, _, hsz44, _⟩ := info_parts info3
                                have hroom44 : x8_2.length ≤ co38 := (Kd.R_reads' HO_8.out).2.1
                                have hC44 : Kd.F (Kd.int .i64) _ _ (some ad287) x8_2.length x8_2 := (Kd.V_at (base := w.heap.size) (Kd.R_V (Kd.R_types (Kd.R_types (Kd.R_apart' (Kd.R_apart' (Kd.R_apart' (HO_8.out) (Kd.R_typed HO_19.out) (by decide)) (Kd.R_typed HO_30.out) (by decide)) (Kd.N_typed HO_271001.out) (by decide)) BK269.out (by decide)) BK270.out (by decide)))).2.2
                                have hcut44 := cut_from (P := Tryd.prog) 32 3 .i64 Tryd.underlying32 hi044 1 hsz44 (some ad287) x8_2.length co38 1 (by omega) q44
                                have hr44 := Kd.F_cut (m := (1 : Int).toNat) (c := co38) hC44 (by omega) hroom44
                                obtain ⟨A44, hA44⟩ : ∃ A1, A1 = (if co38 = (1 : Int).toNat then (some ad287) else ((some ad287) : Option Addr).map (·.add ((1 : Int).toNat * 1))) := ⟨_, rfl⟩
                                obtain ⟨c44, hc44⟩ : ∃ c1, c1 = co38 - (1 : Int).toNat := ⟨_, rfl⟩
                                have hy44 : y291.length = x8_2.length - (1 : Int).toNat := (by rw [Ny291.out, List.length_drop] <;> omega)
                                rw [show (x8_2).drop (1 : Int).toNat = y291 from Ny291.out.symm] at hr44
                                replace hr44 : Kd.F (Kd.int .i64) _ _ A44 y291.length y291 := (by rw [hA44]; exact hr44)
                                rw [← hy44, ← hA44, ← hc44] at hcut44
                                have HO295 := Aside0.mk (show Kd.V (Kd.int .i64) 3 _ w.heap.size _ (.slice A44 y291.length c44) y291 from Kd.V_mk (by rw [hy44, hc44]; exact Nat.sub_le_sub_right hroom44 _) hr44)
                                have HC295 := Aside0.mk (show y291.length ≤ c44 from by rw [hy44, hc44]; exact Nat.sub_le_sub_right hroom44 _)
                                clear hr44 hC44 hroom44 hi044 hsz44 hc44
                                have KY44 := Aside0.mk hy44
                                have KA44 := Aside0.mk hA44
                                clear hy44 hA44
                                replace q44 := eq_true q44
                                refine start_ (n := 8) (S := fun w' => w'.cell? ⟨gb270, 0, none⟩ = some (.slice Ao40 y288.length co40) ∧ w'.cell? ⟨gb270, 1, none⟩ = some (u271001)) (ds := [7]) #[false, false, false, false, false, false, false, false] (by kernel_rfl) rfl rfl ⟨(blk_cell BK270.out 0).trans rfl, (blk_cell BK270.out 1).trans rfl⟩ (fun hHeld => ?_); refine with_tabW lure_Parse.tab18 lure_Parse.bits18 (fun HT_ HW_ => ?_)
                                generalize w42.drew = w43 at HO_8 HO_19 HO_30 HO_271001 HO290 BK269 BK270 HB HO295 hHeld ⊢
                                refine pure_ (i := 0) (N := some 58) (v := ?_) (a' := ?_) #[true, false, false, false, false, false, false, false] rfl rfl (any_of HT_.out (by kernel_rfl)) (fun _ _ _ h => h) (Or.inl ⟨by rfl, ?_⟩) ?_ ?_
                                rotate_left
                                · intro w'
                                  go_simp
                                  with_reducible rfl
                                rotate_left
                                · simp only [Act.put, List.setIfInBounds_toArray, List.set_cons_zero, List.set_cons_succ, i64_w, i32_w]
                                  rfl
                                refine pure_ (i := 2) (N := some 60) (v := ?_) (a' := ?_) #[true, false, true, false, false, false, false, false] rfl rfl (any_of HT_.out (by kernel_rfl)) (fun _ _ _ h => h) (Or.inl ⟨by rfl, ?_⟩) ?_ ?_
                                rotate_left
                                · intro w'
                                  go_simp
                                  with_reducible rfl
                                rotate_left
                                · simp only [Act.put, List.setIfInBounds_toArray, List.set_cons_zero, List.set_cons_succ, i64_w, i32_w]
                                  rfl
                                refine pure_ (i := 3) (N := some 61) (v := ?_) (a' := ?_) #[true, false, true, true, false, false, false, false] rfl rfl (any_of HT_.out (by kernel_rfl)) (fun _ _ _ h => h) (Or.inl ⟨by rfl, ?_⟩) ?_ ?_
                                rotate_left
                                · intro w'
                                  go_simp
                                  with_reducible rfl
                                rotate_left
                                · simp only [Act.put, List.setIfInBounds_toArray, List.set_cons_zero, List.set_cons_succ, i64_w, i32_w]
                                  rfl
                                refine take_ (i := 1) (N := some 59) (v := ?_) (a' := ?_) #[true, true, true, true, false, false, false, false] rfl rfl (take_ofW HT_.out HW_.out (by kernel_rfl)) (fun _ _ _ h => h) (Or.inl ⟨by rfl, ?_⟩) hHeld ?_ ?_
                                rotate_left
                                · rintro w' ⟨s0, s1⟩
                                  go_simp
                                  with_reducible rfl
                                rotate_left
                                · simp only [Act.put, List.setIfInBounds_toArray, List.set_cons_zero, List.set_cons_succ, i64_w, i32_w]
                                  rfl
                                refine one_ (i := 4) (N := some 62) #[true, true, true, true, true, false, false, false] rfl rfl (one_of HT_.out (by kernel_rfl)) (by decide) (fun K hK => ?_)
                                refine value_ (w1 := ?_) (v := ?_) (by rfl) rfl ?_ ?_
                                rotate_left 2
                                · go_simp
                                  constructor
                                  · rfl
                                  · rfl
                                refine hK.out _ _ ⟨(blk_cell (blk_alloc BK270.out _) 0).trans rfl, (blk_cell (blk_alloc BK270.out _) 1).trans rfl⟩ (fun hHeld => ?_)
                                clear hK K
                                refine norm_ (a' := ?_) ?_ ?_
                                rotate_left
                                · show Act.put _ (some 62) _ = _
                                  simp only [Act.put, List.setIfInBounds_toArray, List.set_cons_zero, List.set_cons_succ, i64_w, i32_w]
                                  rfl
                                refine one_ (i := 5) (N := some 63) #[true, true, true, true, true, true, false, false] rfl rfl (one_of HT_.out (by kernel_rfl)) (by decide) (fun K hK => ?_)
                                refine Kd.N_append_step (Kd.slice 3 (Kd.int .i64)) (w0 := w) w.heap.size (by rfl) (.tmp 59) (.tmp 62) 33 32 (.slice none 0 0) 24 rfl Tryd.underlying33 info32 rfl (by decide) (by omega) u271001 x271001_1 y291 [.slice A44 y291.length c44] (fun k_ => (w.heap.size ≤ k_) ∧ some k_ ≠ (.slice (some ad275) t272.length co10 : Value).ownBlock ∧ some k_ ≠ (.slice Ao18 t276.length co18 : Value).ownBlock ∧ some k_ ≠ (.slice Ao40 y288.length co40 : Value).ownBlock ∧ k_ ≠ gb269 ∧ k_ ≠ gb270) (fun k_ => ((fun k_ => (w.heap.size ≤ k_) ∧ some k_ ≠ (.slice (some ad275) t272.length co10 : Value).ownBlock ∧ some k_ ≠ (.slice Ao18 t276.length co18 : Value).ownBlock ∧ some k_ ≠ (.slice Ao40 y288.length co40 : Value).ownBlock ∧ k_ ≠ gb269 ∧ k_ ≠ gb270)) k_ ∧ some k_ ≠ (u271001 : Value).ownBlock) rfl rfl ?aP (fun _ hk => hk) ?aF ?aO ?aB ?aS ?aL ?_
                                (case aP => exact (Kd.FK_slice_mk (Kd.V_reads' (Kd.V_mono (ok' := (fun k_ => ((fun k_ => (w.heap.size ≤ k_) ∧ some k_ ≠ (.slice (some ad275) t272.length co10 : Value).ownBlock ∧ some k_ ≠ (.slice Ao18 t276.length co18 : Value).ownBlock ∧ some k_ ≠ (.slice Ao40 y288.length co40 : Value).ownBlock ∧ k_ ≠ gb269 ∧ k_ ≠ gb270)) k_ ∧ some k_ ≠ (u271001 : Value).ownBlock)) (HO295.out) (fun k_ hk => ⟨⟨hk.1.1.1.1.1.1, ⟨hk.1.1.1.1.2, ⟨hk.1.1.1.2, ⟨hk.1.1.1.1.1.2, ⟨hk.1.2, hk.2⟩⟩⟩⟩⟩, hk.1.1.2⟩))).2.1 (Kd.V_F (Kd.V_mono (ok' := (fun k_ => ((fun k_ => (w.heap.size ≤ k_) ∧ some k_ ≠ (.slice (some ad275) t272.length co10 : Value).ownBlock ∧ some k_ ≠ (.slice Ao18 t276.length co18 : Value).ownBlock ∧ some k_ ≠ (.slice Ao40 y288.length co40 : Value).ownBlock ∧ k_ ≠ gb269 ∧ k_ ≠ gb270)) k_ ∧ some k_ ≠ (u271001 : Value).ownBlock)) (HO295.out) (fun k_ hk => ⟨⟨hk.1.1.1.1.1.1, ⟨hk.1.1.1.1.2, ⟨hk.1.1.1.2, ⟨hk.1.1.1.1.1.2, ⟨hk.1.2, hk.2⟩⟩⟩⟩⟩, hk.1.1.2⟩)))))
                                (case aB => exact (by repeat (first | (with_reducible first | exact HB.out | apply below_alloc | apply pw_below_drewN | apply below_drew1 | refine below_set ?_ GE269.out | refine below_set ?_ GE270.out) | exact HB.out)))
                                (case aF => exact (fun k_ hk => ⟨(Nat.le_trans (below_size (by repeat (first | (with_reducible first | exact HB.out | apply below_alloc | apply pw_below_drewN | apply below_drew1 | refine below_set ?_ GE269.out | refine below_set ?_ GE270.out) | exact HB.out))) hk), Kd.fresh' (Kd.R_lt (by (with_reducible repeat (first | apply Kd.R_alloc | apply Kd.R_drewN | apply Kd.R_drew)); exact HO_19.out)) k_ hk, Kd.fresh' (Kd.R_lt (by (with_reducible repeat (first | apply Kd.R_alloc | apply Kd.R_drewN | apply Kd.R_drew)); exact HO_30.out)) k_ hk, Kd.fresh' (Kd.R_lt (by (with_reducible repeat (first | apply Kd.R_alloc | apply Kd.R_drewN | apply Kd.R_drew)); exact HO290.out)) k_ hk, Kd.freshB (g := gb269) (o := .cells #[.slice none 0 0, .slice none 0 0] 35 (0, 0)) (by (with_reducible repeat (first | refine blk_drewN ?_ _ | refine blk_drew ?_ | refine blk_alloc ?_ _)); exact BK269.out) k_ hk, Kd.freshB (g := gb270) (o := .cells #[.slice Ao40 y288.length co40, u271001] 35 (0, 0)) (by (with_reducible repeat (first | refine blk_drewN ?_ _ | refine blk_drew ?_ | refine blk_alloc ?_ _)); exact BK270.out) k_ hk⟩))
                                (case aO => exact (by (with_reducible repeat (first | apply Kd.N_alloc | apply Kd.N_drewN | apply Kd.N_drew)); exact Kd.N_mono HO_271001.out (fun _ hk => ⟨hk.1, ⟨hk.2.2.1, ⟨hk.2.2.2.1, ⟨hk.2.2.2.2.1, ⟨hk.2.2.2.2.2.1, hk.2.2.2.2.2.2⟩⟩⟩⟩⟩)))
                                (case aS => exact (below_size (by repeat (first | (with_reducible first | exact HB.out | apply below_alloc | apply pw_below_drewN | apply below_drew1 | refine below_set ?_ GE269.out | refine below_set ?_ GE270.out) | exact HB.out))))
                                (case aL => have := LMc36.out; omega)
                                intro v297 w45 ho hb hg hat
                                rw [← Ny296.out] at ho
                                have n0_ := Aside0.mk (Kd.R_over' (by (with_reducible repeat (first | apply Kd.R_alloc | apply Kd.R_drewN | apply Kd.R_drew)); exact HO_8.out) (Kd.N_typed (by (with_reducible repeat (first | apply Kd.N_alloc | apply Kd.N_drewN | apply Kd.N_drew)); exact HO_271001.out)) (by decide) hg)
                                have n1_ := Aside0.mk (Kd.R_over' (by (with_reducible repeat (first | apply Kd.R_alloc | apply Kd.R_drewN | apply Kd.R_drew)); exact HO_19.out) (Kd.N_typed (by (with_reducible repeat (first | apply Kd.N_alloc | apply Kd.N_drewN | apply Kd.N_drew)); exact HO_271001.out)) (by decide) hg)
                                have n2_ := Aside0.mk (Kd.R_over' (by (with_reducible repeat (first | apply Kd.R_alloc | apply Kd.R_drewN | apply Kd.R_drew)); exact HO_30.out) (Kd.N_typed (by (with_reducible repeat (first | apply Kd.N_alloc | apply Kd.N_drewN | apply Kd.N_drew)); exact HO_271001.out)) (by decide) hg)
                                have n3_ := Aside0.mk (blk_grown (g := gb269) (o := .cells #[.slice none 0 0, .slice none 0 0] 35 (0, 0)) (by (with_reducible repeat (first | refine blk_drewN ?_ _ | refine blk_drew ?_ | refine blk_alloc ?_ _)); exact BK269.out) hg (Kd.N_ne HO_271001.out BK269.out (by decide)))
                                have n4_ := Aside0.mk (blk_grown (g := gb270) (o := .cells #[.slice Ao40 y288.length co40, u271001] 35 (0, 0)) (by (with_reducible repeat (first | refine blk_drewN ?_ _ | refine blk_drew ?_ | refine blk_alloc ?_ _)); exact BK270.out) hg (Kd.N_ne HO_271001.out BK270.out (by decide)))
                                have n5_ := Aside0.mk (Kd.R_over' (by (with_reducible repeat (first | apply Kd.R_alloc | apply Kd.R_drewN | apply Kd.R_drew)); exact HO290.out) (Kd.N_typed (by (with_reducible repeat (first | apply Kd.N_alloc | apply Kd.N_drewN | apply Kd.N_drew)); exact HO_271001.out)) (by decide) hg)
                                have n6_ := Aside0.mk (Kd.V_afterv (ok := (fun k_ => (w.heap.size ≤ k_) ∧ some k_ ≠ (.slice (some ad275) t272.length co10 : Value).ownBlock ∧ some k_ ≠ (.slice Ao18 t276.length co18 : Value).ownBlock ∧ some k_ ≠ (.slice Ao40 y288.length co40 : Value).ownBlock ∧ k_ ≠ gb269 ∧ k_ ≠ gb270)) (by (with_reducible repeat (first | apply Kd.V_alloc | apply Kd.V_drewN | apply Kd.V_drew)); exact Kd.V_mono HO295.out (fun _ hk => ⟨⟨hk.1.1.1.1.1.1, ⟨hk.1.1.1.1.2, ⟨hk.1.1.1.2, ⟨hk.1.1.1.1.1.2, ⟨hk.1.2, hk.2⟩⟩⟩⟩⟩, hk.1.1.2⟩)) hg hat)
                                have n7_ := Aside0.mk (hb)
                                have n8_ := Aside0.mk (ho)
                                clear HO_8
                                clear HO_19
                                clear HO_30
                                clear BK269
                                clear BK270
                                clear HO290
                                clear HO295
                                clear HB
                                clear HO_271001
                                have HO_8 := n0_
                                have HO_19 := n1_
                                have HO_30 := n2_
                                have BK269 := n3_
                                have BK270 := n4_
                                have HO290 := n5_
                                have HO295 := n6_
                                have HB := n7_
                                have HO298 := n8_
                                clear n0_ n1_ n2_ n3_ n4_ n5_ n6_ n7_ n8_
                                clear ho hb hg hat
                                obtain ⟨Ao46, co46, eo46⟩ := Kd.N_slice HO298.out
                                (first | subst eo46 | (injection eo46 with f1_ f2_ f3_; have f4_ := f1_.symm; have f5_ := f3_.symm; clear f1_ f2_ f3_; subst f4_; subst f5_))
                                refine hK.out _ _ ⟨(blk_cell BK270.out 0).trans rfl, (blk_cell BK270.out 1).trans rfl⟩ (fun hHeld => ?_)
                                clear hK K
                                refine norm_ (a' := ?_) ?_ ?_
                                rotate_left
                                · show Act.put _ (some 63) _ = _
                                  simp only [Act.put, List.setIfInBounds_toArray, List.set_cons_zero, List.set_cons_succ, i64_w, i32_w]
                                  rfl
                                refine pure_ (i := 6) (N := some 64) (v := ?_) (a' := ?_) #[true, true, true, true, true, true, true, false] rfl rfl (any_of HT_.out (by kernel_rfl)) (fun _ _ _ h => h) (Or.inl ⟨by rfl, ?_⟩) ?_ ?_
                                rotate_left
                                · intro w'
                                  go_simp
                                  with_reducible rfl
                                rotate_left
                                · simp only [Act.put, List.setIfInBounds_toArray, List.set_cons_zero, List.set_cons_succ, i64_w, i32_w]
                                  rfl
                                refine last_ (i := 7) (N := none) #[true, true, true, true, true, true, true, true] rfl rfl (one_of HT_.out (by kernel_rfl)) (by decide) (fun K hK => ?_)
                                have hs47 : w45.cell? ⟨gb270, 1, none⟩ = some (u271001) := (blk_cell BK270.out 1).trans rfl
                                have hfs47 := blk_frozen BK270.out 1
                                have hns47_0 := NB269_270.out
                                have hms47_0 := NB270_269.out
                                refine skip_ (w1 := ?_) (by rfl) rfl ?_ ?_
                                rotate_left
                                · go_simp
                                  rfl
                                refine hK.out _ _ ?_
                                clear hK K
                                refine done_ (done_of HT_.out (by kernel_rfl)) ?_
                                try go_wp2
                                go_roundg k2
                                case measure => have := HK1.out; have := HK2.out; omega
                                case rel => exact ⟨(wrap64 (x21_1 + 1)), (y288), (y296), (.slice Ao40 y288.length co40), (.slice Ao46 y296.length co46), (by first | rfl | (simp; done) | (simp [*]; done)), H', ⟨by have := HK1.out; have := HK2.out; omega⟩, ⟨by (with_reducible repeat (first | apply Kd.R_alloc | apply Kd.R_drewN | apply Kd.R_drew)); exact Kd.R_mono (Kd.R_far (p := ⟨gb270, 1, none⟩) (Kd.R_types HO_19.out BK270.out (by decide)) (fun _ hk => hk.2) (.slice Ao46 y296.length co46)) (fun _ hk => hk.1.1)⟩, ⟨by (with_reducible repeat (first | apply Kd.R_alloc | apply Kd.R_drewN | apply Kd.R_drew)); exact Kd.R_mono (Kd.R_far (p := ⟨gb270, 1, none⟩) (Kd.R_types HO290.out BK270.out (by decide)) (fun _ hk => hk.2) (.slice Ao46 y296.length co46)) (fun _ hk => hk.1.1)⟩, ⟨by (with_reducible repeat (first | apply Kd.N_alloc | apply Kd.N_drewN | apply Kd.N_drew)); exact Kd.N_mono (Kd.N_far (p := ⟨gb270, 1, none⟩) (Kd.N_mono HO298.out (fun k_ hk => (⟨hk, hk.2.2.2.2.2⟩ : _ ∧ k_ ≠ gb270))) (fun _ hk => hk.2) (.slice Ao46 y296.length co46)) (fun _ hk => ⟨hk.1.1, ⟨hk.1.2.1, ⟨hk.1.2.2.2.1, ⟨hk.1.2.2.2.2.1, hk.1.2.2.2.2.2⟩⟩⟩⟩)⟩, ⟨by (with_reducible repeat (first | refine blk_drewN ?_ _ | refine blk_drew ?_ | refine blk_alloc ?_ _)); refine blk_far ?_ NB269_270.out _; (with_reducible repeat (first | refine blk_drewN ?_ _ | refine blk_drew ?_ | refine blk_alloc ?_ _)); exact BK269.out⟩, ⟨by (with_reducible repeat (first | refine blk_drewN ?_ _ | refine blk_drew ?_ | refine blk_alloc ?_ _)); refine blk_put (cs := #[.slice Ao40 y288.length co40, u271001]) ?_ 1 _ rfl; (with_reducible repeat (first | refine blk_drewN ?_ _ | refine blk_drew ?_ | refine blk_alloc ?_ _)); exact BK270.out⟩, ⟨by repeat (first | (with_reducible first | exact HB.out | apply below_alloc | apply pw_below_drewN | apply below_drew1 | refine below_set ?_ GE269.out | refine below_set ?_ GE270.out) | exact HB.out)⟩⟩
                              · rw [if_neg c36] at H
                                exact absurd H (by simp)
                            · rw [if_neg c35] at H
                              exact absurd H (by simp)
                          · rw [if_neg c34] at H
                            exact absurd H (by simp)
                        · rw [if_neg c33] at H
                          exact absurd H (by simp)
                · rw [if_neg c16] at H
                  exact absurd H (by simp)
              · rw [if_neg c15] at H
                exact absurd H (by simp)
            · rw [if_neg c13] at H
              exact absurd H (by simp)
          · rw [if_neg c12] at H
            exact absurd H (by simp)
        · rw [if_neg c11] at H
          have c11b0 : decide (x21_1 < (t272.length : Int)) = false := decide_eq_false c11
          clear c11
          replace H := Option.bind_eq_some_iff.mp H
          obtain ⟨t299, A480, H⟩ := H
          replace H : (if t299 = 0 then ((lure_format.f k1 x271000_1 x271001_1).bind fun t300 => (if t300.toList = a0.toList then (some (x271000_1, x271001_1, 0)) else (some (([] : List Int), ([] : List (List Int)), 2)))) else (some (([] : List Int), ([] : List (List Int)), 2))) = some (r1, r2, r3) := H
          have A48 := Aside0.mk A480
          clear A480
          by_cases c49 : t299 = 0
          · rw [if_pos c49] at H
            have c49b0 : (t299 == 0) = true := beq_iff_eq.mpr c49
            have c49b1 : (t299 != 0) = false := bne_eq_false_iff_eq.mpr c49
            clear c49
            replace H := Option.bind_eq_some_iff.mp H
            obtain ⟨t300, A500, H⟩ := H
            replace H : (if t300.toList = a0.toList then (some (x271000_1, x271001_1, 0)) else (some (([] : List Int), ([] : List (List Int)), 2))) = some (r1, r2, r3) := H
            have A50 := Aside0.mk A500
            clear A500
            by_cases c51 : t300.toList = a0.toList
            · rw [if_pos c51] at H
              have c51b0 : (t300.toList == a0.toList) = true := beq_iff_eq.mpr c51
              have c51b1 : (t300.toList != a0.toList) = false := bne_eq_false_iff_eq.mpr c51
              clear c51
              simp only [Option.some.injEq, Prod.mk.injEq] at H
              obtain ⟨rfl, rfl, rfl⟩ := H
              have hnb52 := NB270_269.out
              have hnc52 := NB269_270.out
              have hcz53_0 : wr.cell? ⟨gb270, 0, none⟩ = some (u271000) := (blk_cell BK270.out 0).trans rfl
              have hcz53_1 : wr.cell? ⟨gb270, 1, none⟩ = some (u271001) := (blk_cell BK270.out 1).trans rfl
              have hfz53_0 := blk_frozen BK270.out 0
              have hfz53_1 := blk_frozen BK270.out 1
              obtain ⟨Ao54, co54, eo54⟩ := Kd.R_slice HO_271000.out
              subst eo54
              obtain ⟨Ao55, co55, eo55⟩ := Kd.N_slice HO_271001.out
              subst eo55
              go_wp2_with (first | ((with_reducible refine gate_callee (f := 34) rfl ?_); refine goesL_ (some 67) rfl rfl Tryd.func34 (by kernel_rfl) rfl #[.agg #[.slice Ao54 x271000_1.length co54, .slice Ao55 x271001_1.length co55]] rfl (by (try simp only [List.map_toArray, List.map_cons, List.map_nil]); first | done | rfl | (simp only [List.length_drop, List.length_take]; rfl)) ?_; (with_reducible refine (lure_Validate.calls k1 _ _ x271000_1 _ _ x271001_1 t299 _ ?side1 ?side2 ?side3 ?side4 A48.out).mono ?_); (case side1 => repeat (first | exact (Kd.R_reads' HO_271000.out).2.2 | (with_reducible refine Kd.C_alloc ?_ _) | (with_reducible refine Kd.C_drewN ?_ _) | (with_reducible refine Kd.C_drew ?_))); (case side2 => exact (Kd.R_reads' HO_271000.out).2.1); (case side3 => repeat (first | exact (Kd.N_reads' HO_271001.out).2.2 | (with_reducible refine Kd.C_alloc ?_ _) | (with_reducible refine Kd.C_drewN ?_ _) | (with_reducible refine Kd.C_drew ?_))); (case side4 => exact (Kd.N_reads' HO_271001.out).2.1); rintro e w56 ⟨rfl, hb⟩; refine ⟨_, rfl, ?_⟩; have n0_ := Aside0.mk (Kd.R_below (by (with_reducible repeat (first | apply Kd.R_alloc | apply Kd.R_drewN | apply Kd.R_drew)); exact HO_19.out) hb); have n1_ := Aside0.mk (Kd.R_below (by (with_reducible repeat (first | apply Kd.R_alloc | apply Kd.R_drewN | apply Kd.R_drew)); exact HO_271000.out) hb); have n2_ := Aside0.mk (Kd.N_below (by (with_reducible repeat (first | apply Kd.N_alloc | apply Kd.N_drewN | apply Kd.N_drew)); exact HO_271001.out) hb); have n3_ := Aside0.mk (blk_below (g := gb269) (o := .cells #[.slice none 0 0, .slice none 0 0] 35 (0, 0)) (by (with_reducible repeat (first | refine blk_drewN ?_ _ | refine blk_drew ?_ | refine blk_alloc ?_ _)); exact BK269.out) hb); have n4_ := Aside0.mk (blk_below (g := gb270) (o := .cells #[.slice Ao54 x271000_1.length co54, .slice Ao55 x271001_1.length co55] 35 (0, 0)) (by (with_reducible repeat (first | refine blk_drewN ?_ _ | refine blk_drew ?_ | refine blk_alloc ?_ _)); exact BK270.out) hb); have n5_ := Aside0.mk (below_step (by repeat (first | (with_reducible first | exact HB.out | apply below_alloc | apply pw_below_drewN | apply below_drew1 | refine below_set ?_ GE269.out | refine below_set ?_ GE270.out) | exact HB.out)) hb); clear HO_19; clear HO_271000; clear HO_271001; clear BK269; clear BK270; clear HB; have HO_19 := n0_; have HO_271000 := n1_; have HO_271001 := n2_; have BK269 := n3_; have BK270 := n4_; have HB := n5_; clear n0_ n1_ n2_ n3_ n4_ n5_; (try clear hb); (try clear hb2); (try clear hk); (try clear hi); have hcz57_0 : w56.cell? ⟨gb270, 0, none⟩ = some (.slice Ao54 x271000_1.length co54) := (blk_cell BK270.out 0).trans rfl; have hcz57_1 : w56.cell? ⟨gb270, 1, none⟩ = some (.slice Ao55 x271001_1.length co55) := (blk_cell BK270.out 1).trans rfl; have hfz57_0 := blk_frozen BK270.out 0; have hfz57_1 := blk_frozen BK270.out 1) | (go_at_call 35; (with_reducible refine (lure_format.calls k1 _ _ x271000_1 _ _ x271001_1 t300 _ (Env.below hE (by repeat (first | (with_reducible first | exact HB.out | apply below_alloc | apply pw_below_drewN | apply below_drew1 | refine below_set ?_ GE269.out | refine below_set ?_ GE270.out) | exact HB.out))) ?side1 ?side2 ?side3 ?side4 A50.out).mono ?_); (case side1 => repeat (first | exact (Kd.R_reads' HO_271000.out).2.2 | (with_reducible refine Kd.C_alloc ?_ _) | (with_reducible refine Kd.C_drewN ?_ _) | (with_reducible refine Kd.C_drew ?_))); (case side2 => exact (Kd.R_reads' HO_271000.out).2.1); (case side3 => repeat (first | exact (Kd.N_reads' HO_271001.out).2.2 | (with_reducible refine Kd.C_alloc ?_ _) | (with_reducible refine Kd.C_drewN ?_ _) | (with_reducible refine Kd.C_drew ?_))); (case side4 => exact (Kd.N_reads' HO_271001.out).2.1); rintro e w58 ⟨rfl, hb⟩; have n0_ := Aside0.mk (Kd.R_below (by (with_reducible repeat (first | apply Kd.R_alloc | apply Kd.R_drewN | apply Kd.R_drew)); exact HO_19.out) hb); have n1_ := Aside0.mk (Kd.R_below (by (with_reducible repeat (first | apply Kd.R_alloc | apply Kd.R_drewN | apply Kd.R_drew)); exact HO_271000.out) hb); have n2_ := Aside0.mk (Kd.N_below (by (with_reducible repeat (first | apply Kd.N_alloc | apply Kd.N_drewN | apply Kd.N_drew)); exact HO_271001.out) hb); have n3_ := Aside0.mk (blk_below (g := gb269) (o := .cells #[.slice none 0 0, .slice none 0 0] 35 (0, 0)) (by (with_reducible repeat (first | refine blk_drewN ?_ _ | refine blk_drew ?_ | refine blk_alloc ?_ _)); exact BK269.out) hb); have n4_ := Aside0.mk (blk_below (g := gb270) (o := .cells #[.slice Ao54 x271000_1.length co54, .slice Ao55 x271001_1.length co55] 35 (0, 0)) (by (with_reducible repeat (first | refine blk_drewN ?_ _ | refine blk_drew ?_ | refine blk_alloc ?_ _)); exact BK270.out) hb); have n5_ := Aside0.mk (below_step (by repeat (first | (with_reducible first | exact HB.out | apply below_alloc | apply pw_below_drewN | apply below_drew1 | refine below_set ?_ GE269.out | refine below_set ?_ GE270.out) | exact HB.out)) hb); clear HO_19; clear HO_271000; clear HO_271001; clear BK269; clear BK270; clear HB; have HO_19 := n0_; have HO_271000 := n1_; have HO_271001 := n2_; have BK269 := n3_; have BK270 := n4_; have HB := n5_; clear n0_ n1_ n2_ n3_ n4_ n5_; (try clear hb); (try clear hb2); (try clear hk); (try clear hi); have hcz59_0 : w58.cell? ⟨gb270, 0, none⟩ = some (.slice Ao54 x271000_1.length co54) := (blk_cell BK270.out 0).trans rfl; have hcz59_1 : w58.cell? ⟨gb270, 1, none⟩ = some (.slice Ao55 x271001_1.length co55) := (blk_cell BK270.out 1).trans rfl; have hfz59_0 := blk_frozen BK270.out 0; have hfz59_1 := blk_frozen BK270.out 1; have hcz60_0 : w58.cell? ⟨gb269, 0, none⟩ = some (.slice none 0 0) := (blk_cell BK269.out 0).trans rfl; have hcz60_1 : w58.cell? ⟨gb269, 1, none⟩ = some (.slice none 0 0) := (blk_cell BK269.out 1).trans rfl; have hfz60_0 := blk_frozen BK269.out 0; have hfz60_1 := blk_frozen BK269.out 1))
              refine bodyPost_ret (results_ct rfl _ _ gb269 35 #[.slice Ao54 x271000_1.length co54, .slice Ao55 x271001_1.length co55] (0, 0) _ rfl (by (with_reducible repeat (first | refine blk_drewN ?_ _ | refine blk_drew ?_ | refine blk_alloc ?_ _)); refine blk_put (cs := #[.slice Ao54 x271000_1.length co54, .slice none 0 0]) ?_ 1 _ rfl; (with_reducible repeat (first | refine blk_drewN ?_ _ | refine blk_drew ?_ | refine blk_alloc ?_ _)); refine blk_put (cs := #[.slice none 0 0, .slice none 0 0]) ?_ 0 _ rfl; (with_reducible repeat (first | refine blk_drewN ?_ _ | refine blk_drew ?_ | refine blk_alloc ?_ _)); exact BK269.out) Tryd.underlying35 rfl (by kernel_rfl)) rfl ?_
              exact ⟨_, _, by first | rfl | (simp [errW_none, errW_some] <;> rfl) | (simp [*, errW_none, errW_some] <;> rfl), by (with_reducible repeat (first | apply Kd.R_alloc | apply Kd.R_drewN | apply Kd.R_drew)); exact Kd.R_mono (Kd.R_far (p := ⟨gb269, 1, none⟩) (Kd.R_far (p := ⟨gb269, 0, none⟩) (Kd.R_types HO_271000.out BK269.out (by decide)) (fun _ hk => hk.2) (.slice Ao54 x271000_1.length co54)) (fun _ hk => hk.2) (.slice Ao55 x271001_1.length co55)) (fun _ hk => hk.1), by (with_reducible repeat (first | apply Kd.N_alloc | apply Kd.N_drewN | apply Kd.N_drew)); exact Kd.N_mono (Kd.N_far (p := ⟨gb269, 1, none⟩) (Kd.N_far (p := ⟨gb269, 0, none⟩) (Kd.N_mono HO_271001.out (fun k_ hk => (⟨hk, hk.2.2.2.1⟩ : _ ∧ k_ ≠ gb269))) (fun _ hk => hk.2) (.slice Ao54 x271000_1.length co54)) (fun _ hk => hk.2) (.slice Ao55 x271001_1.length co55)) (fun _ hk => ⟨hk.1.1, hk.1.2.2.1⟩), by repeat (first | (with_reducible first | exact HB.out | apply below_alloc | apply pw_below_drewN | apply below_drew1 | refine below_set ?_ GE269.out | refine below_set ?_ GE270.out) | exact HB.out)⟩
            · rw [if_neg c51] at H
              have c51b0 : (t300.toList == a0.toList) = false := beq_eq_false_iff_ne.mpr c51
              have c51b1 : (t300.toList != a0.toList) = true := bne_iff_ne.mpr c51
              simp only [Option.some.injEq, Prod.mk.injEq] at H
              obtain ⟨rfl, rfl, rfl⟩ := H
              have hnb61 := NB270_269.out
              have hnc61 := NB269_270.out
              have hcz62_0 : wr.cell? ⟨gb270, 0, none⟩ = some (u271000) := (blk_cell BK270.out 0).trans rfl
              have hcz62_1 : wr.cell? ⟨gb270, 1, none⟩ = some (u271001) := (blk_cell BK270.out 1).trans rfl
              have hfz62_0 := blk_frozen BK270.out 0
              have hfz62_1 := blk_frozen BK270.out 1
              obtain ⟨Ao63, co63, eo63⟩ := Kd.R_slice HO_271000.out
              subst eo63
              obtain ⟨Ao64, co64, eo64⟩ := Kd.N_slice HO_271001.out
              subst eo64
              go_wp2_with (first | ((with_reducible refine gate_callee (f := 34) rfl ?_); refine goesL_ (some 67) rfl rfl Tryd.func34 (by kernel_rfl) rfl #[.agg #[.slice Ao63 x271000_1.length co63, .slice Ao64 x271001_1.length co64]] rfl (by (try simp only [List.map_toArray, List.map_cons, List.map_nil]); first | done | rfl | (simp only [List.length_drop, List.length_take]; rfl)) ?_; (with_reducible refine (lure_Validate.calls k1 _ _ x271000_1 _ _ x271001_1 t299 _ ?side1 ?side2 ?side3 ?side4 A48.out).mono ?_); (case side1 => repeat (first | exact (Kd.R_reads' HO_271000.out).2.2 | (with_reducible refine Kd.C_alloc ?_ _) | (with_reducible refine Kd.C_drewN ?_ _) | (with_reducible refine Kd.C_drew ?_))); (case side2 => exact (Kd.R_reads' HO_271000.out).2.1); (case side3 => repeat (first | exact (Kd.N_reads' HO_271001.out).2.2 | (with_reducible refine Kd.C_alloc ?_ _) | (with_reducible refine Kd.C_drewN ?_ _) | (with_reducible refine Kd.C_drew ?_))); (case side4 => exact (Kd.N_reads' HO_271001.out).2.1); rintro e w65 ⟨rfl, hb⟩; refine ⟨_, rfl, ?_⟩; have n0_ := Aside0.mk (Kd.R_below (by (with_reducible repeat (first | apply Kd.R_alloc | apply Kd.R_drewN | apply Kd.R_drew)); exact HO_19.out) hb); have n1_ := Aside0.mk (Kd.R_below (by (with_reducible repeat (first | apply Kd.R_alloc | apply Kd.R_drewN | apply Kd.R_drew)); exact HO_271000.out) hb); have n2_ := Aside0.mk (Kd.N_below (by (with_reducible repeat (first | apply Kd.N_alloc | apply Kd.N_drewN | apply Kd.N_drew)); exact HO_271001.out) hb); have n3_ := Aside0.mk (blk_below (g := gb269) (o := .cells #[.slice none 0 0, .slice none 0 0] 35 (0, 0)) (by (with_reducible repeat (first | refine blk_drewN ?_ _ | refine blk_drew ?_ | refine blk_alloc ?_ _)); exact BK269.out) hb); have n4_ := Aside0.mk (blk_below (g := gb270) (o := .cells #[.slice Ao63 x271000_1.length co63, .slice Ao64 x271001_1.length co64] 35 (0, 0)) (by (with_reducible repeat (first | refine blk_drewN ?_ _ | refine blk_drew ?_ | refine blk_alloc ?_ _)); exact BK270.out) hb); have n5_ := Aside0.mk (below_step (by repeat (first | (with_reducible first | exact HB.out | apply below_alloc | apply pw_below_drewN | apply below_drew1 | refine below_set ?_ GE269.out | refine below_set ?_ GE270.out) | exact HB.out)) hb); clear HO_19; clear HO_271000; clear HO_271001; clear BK269; clear BK270; clear HB; have HO_19 := n0_; have HO_271000 := n1_; have HO_271001 := n2_; have BK269 := n3_; have BK270 := n4_; have HB := n5_; clear n0_ n1_ n2_ n3_ n4_ n5_; (try clear hb); (try clear hb2); (try clear hk); (try clear hi); have hcz66_0 : w65.cell? ⟨gb270, 0, none⟩ = some (.slice Ao63 x271000_1.length co63) := (blk_cell BK270.out 0).trans rfl; have hcz66_1 : w65.cell? ⟨gb270, 1, none⟩ = some (.slice Ao64 x271001_1.length co64) := (blk_cell BK270.out 1).trans rfl; have hfz66_0 := blk_frozen BK270.out 0; have hfz66_1 := blk_frozen BK270.out 1) | (go_at_call 35; (with_reducible refine (lure_format.calls k1 _ _ x271000_1 _ _ x271001_1 t300 _ (Env.below hE (by repeat (first | (with_reducible first | exact HB.out | apply below_alloc | apply pw_below_drewN | apply below_drew1 | refine below_set ?_ GE269.out | refine below_set ?_ GE270.out) | exact HB.out))) ?side1 ?side2 ?side3 ?side4 A50.out).mono ?_); (case side1 => repeat (first | exact (Kd.R_reads' HO_271000.out).2.2 | (with_reducible refine Kd.C_alloc ?_ _) | (with_reducible refine Kd.C_drewN ?_ _) | (with_reducible refine Kd.C_drew ?_))); (case side2 => exact (Kd.R_reads' HO_271000.out).2.1); (case side3 => repeat (first | exact (Kd.N_reads' HO_271001.out).2.2 | (with_reducible refine Kd.C_alloc ?_ _) | (with_reducible refine Kd.C_drewN ?_ _) | (with_reducible refine Kd.C_drew ?_))); (case side4 => exact (Kd.N_reads' HO_271001.out).2.1); rintro e w67 ⟨rfl, hb⟩; have n0_ := Aside0.mk (Kd.R_below (by (with_reducible repeat (first | apply Kd.R_alloc | apply Kd.R_drewN | apply Kd.R_drew)); exact HO_19.out) hb); have n1_ := Aside0.mk (Kd.R_below (by (with_reducible repeat (first | apply Kd.R_alloc | apply Kd.R_drewN | apply Kd.R_drew)); exact HO_271000.out) hb); have n2_ := Aside0.mk (Kd.N_below (by (with_reducible repeat (first | apply Kd.N_alloc | apply Kd.N_drewN | apply Kd.N_drew)); exact HO_271001.out) hb); have n3_ := Aside0.mk (blk_below (g := gb269) (o := .cells #[.slice none 0 0, .slice none 0 0] 35 (0, 0)) (by (with_reducible repeat (first | refine blk_drewN ?_ _ | refine blk_drew ?_ | refine blk_alloc ?_ _)); exact BK269.out) hb); have n4_ := Aside0.mk (blk_below (g := gb270) (o := .cells #[.slice Ao63 x271000_1.length co63, .slice Ao64 x271001_1.length co64] 35 (0, 0)) (by (with_reducible repeat (first | refine blk_drewN ?_ _ | refine blk_drew ?_ | refine blk_alloc ?_ _)); exact BK270.out) hb); have n5_ := Aside0.mk (below_step (by repeat (first | (with_reducible first | exact HB.out | apply below_alloc | apply pw_below_drewN | apply below_drew1 | refine below_set ?_ GE269.out | refine below_set ?_ GE270.out) | exact HB.out)) hb); clear HO_19; clear HO_271000; clear HO_271001; clear BK269; clear BK270; clear HB; have HO_19 := n0_; have HO_271000 := n1_; have HO_271001 := n2_; have BK269 := n3_; have BK270 := n4_; have HB := n5_; clear n0_ n1_ n2_ n3_ n4_ n5_; (try clear hb); (try clear hb2); (try clear hk); (try clear hi); have hcz68_0 : w67.cell? ⟨gb269, 0, none⟩ = some (.slice none 0 0) := (blk_cell BK269.out 0).trans rfl; have hcz68_1 : w67.cell? ⟨gb269, 1, none⟩ = some (.slice none 0 0) := (blk_cell BK269.out 1).trans rfl; have hfz68_0 := blk_frozen BK269.out 0; have hfz68_1 := blk_frozen BK269.out 1))
              refine bodyPost_ret (results_ct rfl _ _ gb269 35 #[.slice none 0 0, .slice none 0 0] (0, 0) _ rfl (by (with_reducible repeat (first | refine blk_drewN ?_ _ | refine blk_drew ?_ | refine blk_alloc ?_ _)); refine blk_put (cs := #[.slice none 0 0, .slice none 0 0]) ?_ 1 _ rfl; (with_reducible repeat (first | refine blk_drewN ?_ _ | refine blk_drew ?_ | refine blk_alloc ?_ _)); refine blk_put (cs := #[.slice none 0 0, .slice none 0 0]) ?_ 0 _ rfl; (with_reducible repeat (first | refine blk_drewN ?_ _ | refine blk_drew ?_ | refine blk_alloc ?_ _)); exact BK269.out) Tryd.underlying35 rfl (by kernel_rfl)) rfl ?_
              exact ⟨_, _, by first | rfl | (simp [errW_none, errW_some] <;> rfl) | (simp [*, errW_none, errW_some] <;> rfl), by first | exact Kd.R_nil _ _ _ _ _ | exact Kd.N_nil _ _ _ _ _ | exact Kd.V_nil _ _ _ _ _ | exact Kd.Q_nil _ _ _ _ _ | exact Kd.S_nil _ _ _ _ _, by first | exact Kd.S_nil _ _ _ _ _ | exact Kd.N_nil _ _ _ _ _ | exact Kd.V_nil _ _ _ _ _ | exact Kd.Q_nil _ _ _ _ _ | exact Kd.R_nil _ _ _ _ _, by repeat (first | (with_reducible first | exact HB.out | apply below_alloc | apply pw_below_drewN | apply below_drew1 | refine below_set ?_ GE269.out | refine below_set ?_ GE270.out) | exact HB.out)⟩
          · rw [if_neg c49] at H
            have c49b0 : (t299 == 0) = false := beq_eq_false_iff_ne.mpr c49
            have c49b1 : (t299 != 0) = true := bne_iff_ne.mpr c49
            simp only [Option.some.injEq, Prod.mk.injEq] at H
            obtain ⟨rfl, rfl, rfl⟩ := H
            have hnb69 := NB270_269.out
            have hnc69 := NB269_270.out
            have hcz70_0 : wr.cell? ⟨gb270, 0, none⟩ = some (u271000) := (blk_cell BK270.out 0).trans rfl
            have hcz70_1 : wr.cell? ⟨gb270, 1, none⟩ = some (u271001) := (blk_cell BK270.out 1).trans rfl
            have hfz70_0 := blk_frozen BK270.out 0
            have hfz70_1 := blk_frozen BK270.out 1
            obtain ⟨Ao71, co71, eo71⟩ := Kd.R_slice HO_271000.out
            subst eo71
            obtain ⟨Ao72, co72, eo72⟩ := Kd.N_slice HO_271001.out
            subst eo72
            go_wp2_with (first | ((with_reducible refine gate_callee (f := 34) rfl ?_); refine goesL_ (some 67) rfl rfl Tryd.func34 (by kernel_rfl) rfl #[.agg #[.slice Ao71 x271000_1.length co71, .slice Ao72 x271001_1.length co72]] rfl (by (try simp only [List.map_toArray, List.map_cons, List.map_nil]); first | done | rfl | (simp only [List.length_drop, List.length_take]; rfl)) ?_; (with_reducible refine (lure_Validate.calls k1 _ _ x271000_1 _ _ x271001_1 t299 _ ?side1 ?side2 ?side3 ?side4 A48.out).mono ?_); (case side1 => repeat (first | exact (Kd.R_reads' HO_271000.out).2.2 | (with_reducible refine Kd.C_alloc ?_ _) | (with_reducible refine Kd.C_drewN ?_ _) | (with_reducible refine Kd.C_drew ?_))); (case side2 => exact (Kd.R_reads' HO_271000.out).2.1); (case side3 => repeat (first | exact (Kd.N_reads' HO_271001.out).2.2 | (with_reducible refine Kd.C_alloc ?_ _) | (with_reducible refine Kd.C_drewN ?_ _) | (with_reducible refine Kd.C_drew ?_))); (case side4 => exact (Kd.N_reads' HO_271001.out).2.1); rintro e w73 ⟨rfl, hb⟩; refine ⟨_, rfl, ?_⟩; have n0_ := Aside0.mk (Kd.R_below (by (with_reducible repeat (first | apply Kd.R_alloc | apply Kd.R_drewN | apply Kd.R_drew)); exact HO_19.out) hb); have n1_ := Aside0.mk (Kd.R_below (by (with_reducible repeat (first | apply Kd.R_alloc | apply Kd.R_drewN | apply Kd.R_drew)); exact HO_271000.out) hb); have n2_ := Aside0.mk (Kd.N_below (by (with_reducible repeat (first | apply Kd.N_alloc | apply Kd.N_drewN | apply Kd.N_drew)); exact HO_271001.out) hb); have n3_ := Aside0.mk (blk_below (g := gb269) (o := .cells #[.slice none 0 0, .slice none 0 0] 35 (0, 0)) (by (with_reducible repeat (first | refine blk_drewN ?_ _ | refine blk_drew ?_ | refine blk_alloc ?_ _)); exact BK269.out) hb); have n4_ := Aside0.mk (blk_below (g := gb270) (o := .cells #[.slice Ao71 x271000_1.length co71, .slice Ao72 x271001_1.length co72] 35 (0, 0)) (by (with_reducible repeat (first | refine blk_drewN ?_ _ | refine blk_drew ?_ | refine blk_alloc ?_ _)); exact BK270.out) hb); have n5_ := Aside0.mk (below_step (by repeat (first | (with_reducible first | exact HB.out | apply below_alloc | apply pw_below_drewN | apply below_drew1 | refine below_set ?_ GE269.out | refine below_set ?_ GE270.out) | exact HB.out)) hb); clear HO_19; clear HO_271000; clear HO_271001; clear BK269; clear BK270; clear HB; have HO_19 := n0_; have HO_271000 := n1_; have HO_271001 := n2_; have BK269 := n3_; have BK270 := n4_; have HB := n5_; clear n0_ n1_ n2_ n3_ n4_ n5_; (try clear hb); (try clear hb2); (try clear hk); (try clear hi); have hcz74_0 : w73.cell? ⟨gb269, 0, none⟩ = some (.slice none 0 0) := (blk_cell BK269.out 0).trans rfl; have hcz74_1 : w73.cell? ⟨gb269, 1, none⟩ = some (.slice none 0 0) := (blk_cell BK269.out 1).trans rfl; have hfz74_0 := blk_frozen BK269.out 0; have hfz74_1 := blk_frozen BK269.out 1))
            refine bodyPost_ret (results_ct rfl _ _ gb269 35 #[.slice none 0 0, .slice none 0 0] (0, 0) _ rfl (by (with_reducible repeat (first | refine blk_drewN ?_ _ | refine blk_drew ?_ | refine blk_alloc ?_ _)); refine blk_put (cs := #[.slice none 0 0, .slice none 0 0]) ?_ 1 _ rfl; (with_reducible repeat (first | refine blk_drewN ?_ _ | refine blk_drew ?_ | refine blk_alloc ?_ _)); refine blk_put (cs := #[.slice none 0 0, .slice none 0 0]) ?_ 0 _ rfl; (with_reducible repeat (first | refine blk_drewN ?_ _ | refine blk_drew ?_ | refine blk_alloc ?_ _)); exact BK269.out) Tryd.underlying35 rfl (by kernel_rfl)) rfl ?_
            exact ⟨_, _, by first | rfl | (simp [errW_none, errW_some] <;> rfl) | (simp [*, errW_none, errW_some] <;> rfl), by first | exact Kd.R_nil _ _ _ _ _ | exact Kd.N_nil _ _ _ _ _ | exact Kd.V_nil _ _ _ _ _ | exact Kd.Q_nil _ _ _ _ _ | exact Kd.S_nil _ _ _ _ _, by first | exact Kd.S_nil _ _ _ _ _ | exact Kd.N_nil _ _ _ _ _ | exact Kd.V_nil _ _ _ _ _ | exact Kd.Q_nil _ _ _ _ _ | exact Kd.R_nil _ _ _ _ _, by repeat (first | (with_reducible first | exact HB.out | apply below_alloc | apply pw_below_drewN | apply below_drew1 | refine below_set ?_ GE269.out | refine below_set ?_ GE270.out) | exact HB.out)⟩

end Go.Proofs.YtjiheojjfnfmaaaDoor.LT

