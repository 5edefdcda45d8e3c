/- Of the text LEx22, what the row of LureExchanges reaches. -/
import Derived.Test.YtnmaonampilmoaaZLureExchangesLEx0
import Derived.Test.YtnmaonampilmoaaZLureExchangesLEx1
import Derived.Test.YtnmaonampilmoaaZLureExchangesLEx13
import Derived.Test.YtnmaonampilmoaaZLureExchangesLEx18
import Derived.Test.YtnmaonampilmoaaZLureExchangesLEx19
import Derived.Test.YtnmaonampilmoaaZLureExchangesLEx20
import Derived.Test.YtnmaonampilmoaaZLureExchangesLEx21
namespace Go.Proofs.Ytnmaonampilmoaa.LE
open Go.RowKit Go.Proofs.YtnmaonampilmoaaW.PrintWords Go.Proofs.YtnmaonampilmoaaW.PrintLast Go.Proofs.YtnmaonampilmoaaW.PrintMore
attribute [local go_sem] max2_int min2_int max_two min_two max_three min_three max_four min_four   -- for this text's walks alone
set_option linter.unusedVariables false
set_option linter.unusedSimpArgs false

theorem law_some {α : Type} {c : Prop} [Decidable c] {x : Option α} {r : α} (h : (if c then x else none) = some r) : c ∧ x = some r := by
  by_cases hc : c
  · exact ⟨hc, by rw [if_pos hc] at h; exact h⟩
  · rw [if_neg hc] at h; exact absurd h (by simp)
mutual
def wigeonlaw04_LureExchanges.j0 : Nat → List Int → Bool → List Int → List (List Int) → Option (Bool)
  | 0, _, _, _, _ => none
  | k + 1, x1, x23, x241000, x241001 => if x23 = true then ((wigeonlaw04_known.f k).bind fun t242 => (some t242)) else ((wigeonref04_Copy.f k x241000 x241001).bind fun cp => (if cp = (x241000, x241001) then ((lure_Exchange.f k x241000 x241001).bind fun bt244 => ((wigeonref04_Exchange.f k x241000 x241001).bind fun bt252 => (if bt244.2.2 = bt252.2.2 then ((wigeonref04_Same.f k bt244.1 bt244.2.1 bt252.1 bt252.2.1).bind fun t260 => (wigeonlaw04_LureExchanges.j1 k x1 bt244.2.2 (!t260) x241000 x241001 x241000 x241001 bt244.1 bt244.2.1)) else (wigeonlaw04_LureExchanges.j1 k x1 bt244.2.2 true x241000 x241001 x241000 x241001 bt244.1 bt244.2.1)))) else (none)))
def wigeonlaw04_LureExchanges.j1 : Nat → List Int → Int → Bool → List Int → List (List Int) → List Int → List (List Int) → List Int → List (List Int) → Option (Bool)
  | 0, _, _, _, _, _, _, _, _, _ => none
  | k + 1, x1, x7, x45, x241000, x241001, x244000, x244001, x252000, x252001 => if x45 = true then (some false) else ((lure_Free.f k x241000 x241001 x1).bind fun bt261 => (if x7 = 0 then (wigeonlaw04_LureExchanges.j2 k x1 bt261.1 (bt261.2 != 0) x241000 x241001 x244000 x244001 x252000 x252001) else (wigeonlaw04_LureExchanges.j2 k x1 bt261.1 true x241000 x241001 x244000 x244001 x252000 x252001)))
def wigeonlaw04_LureExchanges.j2 : Nat → List Int → List Int → Bool → List Int → List (List Int) → List Int → List (List Int) → List Int → List (List Int) → Option (Bool)
  | 0, _, _, _, _, _, _, _, _, _ => none
  | k + 1, x1, x10, x57, x241000, x241001, x244000, x244001, x252000, x252001 => if x57 = true then ((wigeonref04_Same.f k x244000 x244001 x241000 x241001).bind fun t265 => (if t265 = true then ((wigeonlaw04_known.f k).bind fun t266 => (some t266)) else (some false))) else (wigeonlaw04_LureExchanges.l0 k x1 x10 ([] : List Int) 0 x241000 x241001 x244000 x244001 x252000 x252001)
def wigeonlaw04_LureExchanges.l0 : Nat → List Int → List Int → List Int → Int → List Int → List (List Int) → List Int → List (List Int) → List Int → List (List Int) → Option (Bool)
  | 0, _, _, _, _, _, _, _, _, _, _ => none
  | k + 1, x1, x10, x12, x13, x241000, x241001, x244000, x244001, x252000, x252001 => if x13 < (x241000.length : Int) then ((wigeonref04_Has.f k x1 x13).bind fun t267 => (if t267 = true then (wigeonlaw04_LureExchanges.l0 k x1 x10 x12 (wrap64 (x13 + 1)) x241000 x241001 x244000 x244001 x252000 x252001) else (if x12.length < 17592186044416 then (wigeonlaw04_LureExchanges.l0 k x1 x10 (x12 ++ [x13]) (wrap64 (x13 + 1)) x241000 x241001 x244000 x244001 x252000 x252001) else (none)))) else ((lure_Keeps.f k x252000 x252001 x12).bind fun bt271 => (if bt271.2 = 0 then ((wigeonref04_SameInts.f k bt271.1 x10).bind fun t275 => (wigeonlaw04_LureExchanges.j4 k (!t275) x241000 x241001 x244000 x244001 x252000 x252001)) else (wigeonlaw04_LureExchanges.j4 k true x241000 x241001 x244000 x244001 x252000 x252001)))
def wigeonlaw04_LureExchanges.j4 : Nat → Bool → List Int → List (List Int) → List Int → List (List Int) → List Int → List (List Int) → Option (Bool)
  | 0, _, _, _, _, _, _, _ => none
  | k + 1, x92, x241000, x241001, x244000, x244001, x252000, x252001 => if x92 = true then (some false) else (wigeonlaw04_LureExchanges.l1 k 0 x241000 x241001 x244000 x244001 x252000 x252001)
def wigeonlaw04_LureExchanges.l1 : Nat → Int → List Int → List (List Int) → List Int → List (List Int) → List Int → List (List Int) → Option (Bool)
  | 0, _, _, _, _, _, _, _ => none
  | k + 1, x16, x241000, x241001, x244000, x244001, x252000, x252001 => if x16 < (x252001.length : Int) then (if 0 ≤ x16 then (if x16 < (x252000.length : Int) then (if 0 < ((rd_L1 x252001 x16).length : Int) then (wigeonlaw04_LureExchanges.l1 k (wrap64 (x16 + 1)) x241000 x241001 x244000 x244001 (x252000.set (x16 : Int).toNat 7) (x252001.set (x16 : Int).toNat ((rd_L1 x252001 x16).set (0 : Int).toNat (-1)))) else (none)) else (none)) else (none)) else ((wigeonref04_Same.f k x244000 x244001 x241000 x241001).bind fun t281 => (if t281 = true then ((wigeonlaw04_known.f k).bind fun t282 => (some t282)) else (some false)))
end
def wigeonlaw04_LureExchanges.f (k : Nat) (l0_0 : List Int) (l0_1 : List (List Int)) (l1 : List Int) : Option (Bool) := (wigeonlaw04_Large.f k l0_0 l0_1).bind fun t241 => (if t241 = true then (wigeonlaw04_LureExchanges.j0 k l1 true l0_0 l0_1) else (wigeonlaw04_LureExchanges.j0 k l1 (decide ((l1.length : Int) > 100)) l0_0 l0_1))
set_option maxHeartbeats 8000000 in
set_option maxRecDepth 100000 in
theorem wigeonlaw04_LureExchanges.calls (k : Nat) (A0_0 : Option Addr) (c0_0 : Nat) (l0_0 : List Int) (A0_1 : Option Addr) (c0_1 : Nat) (l0_1 : List (List Int)) (A1 : Option Addr) (c1 : Nat) (l1 : List Int) (r : Bool) (w : World) (hr0_0 : Kd.C (Kd.int .i64) w A0_0 l0_0.length l0_0) (hc0_0 : l0_0.length ≤ c0_0) (hr0_1 : Kd.C (Kd.slice 3 (Kd.int .i64)) w A0_1 l0_1.length l0_1) (hc0_1 : l0_1.length ≤ c0_1) (hr1 : Kd.C (Kd.int .i64) w A1 l1.length l1) (hc1 : l1.length ≤ c1) (h : wigeonlaw04_LureExchanges.f k l0_0 l0_1 l1 = some r) :
    Calls Try.prog 13 #[.agg #[.slice A0_0 l0_0.length c0_0, .slice A0_1 l0_1.length c0_1], .slice A1 l1.length c1] w fun e w' => e = .returned (.bool r) ∧ Below w.heap.size w w' := by
  rename World => w00
  have hu25 := Try.underlying25
  have HR0_0 := Aside0.mk hr0_0
  have HC0_0 := Aside0.mk hc0_0
  clear hr0_0 hc0_0
  have HR0_1 := Aside0.mk hr0_1
  have HC0_1 := Aside0.mk hc0_1
  clear hr0_1 hc0_1
  have HR1 := Aside0.mk hr1
  have HC1 := Aside0.mk hc1
  clear hr1 hc1
  have HB := Aside0.mk (Below.refl w00.heap.size w00)
  have H : ((wigeonlaw04_Large.f k l0_0 l0_1).bind fun t241 => (if t241 = true then (wigeonlaw04_LureExchanges.j0 k l1 true l0_0 l0_1) else (wigeonlaw04_LureExchanges.j0 k l1 (decide ((l1.length : Int) > 100)) l0_0 l0_1))) = some r := h
  clear h
  have HC3 := Aside0.mk H
  clear H
  go_enter Try.func13, Try.ntmps13
  go_upto_region 1 with (first | ((with_reducible refine gate_dst (N := 2) rfl ?_); (try (refine gate_guard (by rfl) ?_; dsimp only)); refine box_event ?hg (N := 2) ?hd (cs := #[.slice A0_0 l0_0.length c0_0, .slice A0_1 l0_1.length c0_1]) (t := 25) ?hr ?_; (case hd => rfl); (case hg => rfl); (case hr => first | (go_simp; done) | (go_simp; rfl)); intro gb240 hg w4 hbox hb; have n0_ := Aside0.mk (below_step (by repeat (first | (with_reducible first | exact HB.out | apply below_alloc | apply pw_below_drewN | apply below_drew1) | exact HB.out)) hb); have n1_ := Aside0.mk (hbox); have n2_ := Aside0.mk ((by rw [hg]; exact (below_size (by repeat (first | (with_reducible first | exact HB.out | apply below_alloc | apply pw_below_drewN | apply below_drew1) | exact HB.out))) : w00.heap.size ≤ gb240)); have n3_ := Aside0.mk ((by rw [hg]; exact (below_size (by repeat (first | (with_reducible first | exact HB.out | apply below_alloc | apply pw_below_drewN | apply below_drew1) | exact HB.out))) : w00.heap.size ≤ gb240)); clear HB; have HB := n0_; have BK240 := n1_; have GW240 := n2_; have GE240 := n3_; clear n0_ n1_ n2_ n3_; clear hb hbox hg))
  (try simp only [Act.put, List.setIfInBounds_toArray, List.set_cons_zero, List.set_cons_succ])
  go_cut [23] (fun v23 wc => ∃ (kq : Nat) (x23_2 : Bool), v23 = .bool x23_2 ∧ Aside0 (wigeonlaw04_LureExchanges.j0 kq l1 x23_2 l0_0 l0_1 = some r) ∧ Aside0 (kq ≤ k) ∧ Aside0 (wc.heap[gb240]? = some (.cells #[(.slice A0_0 l0_0.length c0_0), (.slice A0_1 l0_1.length c0_1)] 25 (0, 0))) ∧ Aside0 (Below w00.heap.size w00 wc))
  case first =>
    have H := HC3.out
    clear HC3
    replace H := Option.bind_eq_some_iff.mp H
    obtain ⟨t241, A50, H⟩ := H
    replace H : (if t241 = true then (wigeonlaw04_LureExchanges.j0 k l1 true l0_0 l0_1) else (wigeonlaw04_LureExchanges.j0 k l1 (decide ((l1.length : Int) > 100)) l0_0 l0_1)) = some r := H
    have A5 := Aside0.mk A50
    clear A50
    by_cases c6 : t241 = true
    · subst c6
      have H1 : (wigeonlaw04_LureExchanges.j0 k l1 true l0_0 l0_1) = some r := by rw [if_pos rfl] at H; exact H
      clear H
      have H := H1
      clear H1
      have H' := Aside0.mk H
      clear H
      have hcz7_0 : w4.cell? ⟨gb240, 0, none⟩ = some (.slice A0_0 l0_0.length c0_0) := (blk_cell BK240.out 0).trans rfl
      have hcz7_1 : w4.cell? ⟨gb240, 1, none⟩ = some (.slice A0_1 l0_1.length c0_1) := (blk_cell BK240.out 1).trans rfl
      have hfz7_0 := blk_frozen BK240.out 0
      have hfz7_1 := blk_frozen BK240.out 1
      go_wp2_with (first | ((with_reducible refine gate_callee (f := 15) rfl ?_); refine goesL_ (some 18) rfl rfl Try.func15 (by kernel_rfl) rfl #[.agg #[.slice A0_0 l0_0.length c0_0, .slice A0_1 l0_1.length c0_1]] rfl (by (try simp only [List.map_toArray, List.map_cons, List.map_nil]); first | done | rfl | (simp only [List.length_drop, List.length_take]; rfl)) ?_; (with_reducible refine (wigeonlaw04_Large.calls k _ _ l0_0 _ _ l0_1 true _ ?side1 ?side2 ?side3 ?side4 A5.out).mono ?_); (case side1 => repeat (first | exact (Kd.C_below HR0_0.out HB.out) | (with_reducible refine Kd.C_alloc ?_ _) | (with_reducible refine Kd.C_drewN ?_ _) | (with_reducible refine Kd.C_drew ?_))); (case side2 => exact HC0_0.out); (case side3 => repeat (first | exact (Kd.C_below HR0_1.out HB.out) | (with_reducible refine Kd.C_alloc ?_ _) | (with_reducible refine Kd.C_drewN ?_ _) | (with_reducible refine Kd.C_drew ?_))); (case side4 => exact HC0_1.out); rintro e w8 ⟨rfl, hb⟩; refine ⟨_, rfl, ?_⟩; have n0_ := Aside0.mk (blk_below (g := gb240) (o := .cells #[.slice A0_0 l0_0.length c0_0, .slice A0_1 l0_1.length c0_1] 25 (0, 0)) (by (with_reducible repeat (first | refine blk_drewN ?_ _ | refine blk_drew ?_ | refine blk_alloc ?_ _)); exact BK240.out) hb); have n1_ := Aside0.mk (below_step (by repeat (first | (with_reducible first | exact HB.out | apply below_alloc | apply pw_below_drewN | apply below_drew1 | refine below_set ?_ GE240.out) | exact HB.out)) hb); clear BK240; clear HB; have BK240 := n0_; have HB := n1_; clear n0_ n1_; (try clear hb); (try clear hb2); (try clear hk); (try clear hi)))
      go_meet
      case rel => exact ⟨_, (true), (by first | rfl | (simp; done) | (simp [*]; done)), H', ⟨by first | omega | exact Nat.le_refl _⟩, ⟨by (with_reducible repeat (first | refine blk_drewN ?_ _ | refine blk_drew ?_ | refine blk_alloc ?_ _)); exact BK240.out⟩, ⟨by repeat (first | (with_reducible first | exact HB.out | apply below_alloc | apply pw_below_drewN | apply below_drew1 | refine below_set ?_ GE240.out) | exact HB.out)⟩⟩
    · replace c6 := Bool.eq_false_iff.mpr c6
      subst c6
      have H1 : (wigeonlaw04_LureExchanges.j0 k l1 (decide ((l1.length : Int) > 100)) l0_0 l0_1) = some r := by rw [if_neg (show ¬ (false = true) by decide)] at H; exact H
      clear H
      have H := H1
      clear H1
      have H' := Aside0.mk H
      clear H
      have hcz9_0 : w4.cell? ⟨gb240, 0, none⟩ = some (.slice A0_0 l0_0.length c0_0) := (blk_cell BK240.out 0).trans rfl
      have hcz9_1 : w4.cell? ⟨gb240, 1, none⟩ = some (.slice A0_1 l0_1.length c0_1) := (blk_cell BK240.out 1).trans rfl
      have hfz9_0 := blk_frozen BK240.out 0
      have hfz9_1 := blk_frozen BK240.out 1
      go_wp2_with (first | ((with_reducible refine gate_callee (f := 15) rfl ?_); refine goesL_ (some 18) rfl rfl Try.func15 (by kernel_rfl) rfl #[.agg #[.slice A0_0 l0_0.length c0_0, .slice A0_1 l0_1.length c0_1]] rfl (by (try simp only [List.map_toArray, List.map_cons, List.map_nil]); first | done | rfl | (simp only [List.length_drop, List.length_take]; rfl)) ?_; (with_reducible refine (wigeonlaw04_Large.calls k _ _ l0_0 _ _ l0_1 false _ ?side1 ?side2 ?side3 ?side4 A5.out).mono ?_); (case side1 => repeat (first | exact (Kd.C_below HR0_0.out HB.out) | (with_reducible refine Kd.C_alloc ?_ _) | (with_reducible refine Kd.C_drewN ?_ _) | (with_reducible refine Kd.C_drew ?_))); (case side2 => exact HC0_0.out); (case side3 => repeat (first | exact (Kd.C_below HR0_1.out HB.out) | (with_reducible refine Kd.C_alloc ?_ _) | (with_reducible refine Kd.C_drewN ?_ _) | (with_reducible refine Kd.C_drew ?_))); (case side4 => exact HC0_1.out); rintro e w10 ⟨rfl, hb⟩; refine ⟨_, rfl, ?_⟩; have n0_ := Aside0.mk (blk_below (g := gb240) (o := .cells #[.slice A0_0 l0_0.length c0_0, .slice A0_1 l0_1.length c0_1] 25 (0, 0)) (by (with_reducible repeat (first | refine blk_drewN ?_ _ | refine blk_drew ?_ | refine blk_alloc ?_ _)); exact BK240.out) hb); have n1_ := Aside0.mk (below_step (by repeat (first | (with_reducible first | exact HB.out | apply below_alloc | apply pw_below_drewN | apply below_drew1 | refine below_set ?_ GE240.out) | exact HB.out)) hb); clear BK240; clear HB; have BK240 := n0_; have HB := n1_; clear n0_ n1_; (try clear hb); (try clear hb2); (try clear hk); (try clear hi)))
      go_meet
      case rel => exact ⟨_, (decide ((l1.length : Int) > 100)), (by first | rfl | (simp; done) | (simp [*]; done)), H', ⟨by first | omega | exact Nat.le_refl _⟩, ⟨by (with_reducible repeat (first | refine blk_drewN ?_ _ | refine blk_drew ?_ | refine blk_alloc ?_ _)); exact BK240.out⟩, ⟨by repeat (first | (with_reducible first | exact HB.out | apply below_alloc | apply pw_below_drewN | apply below_drew1 | refine below_set ?_ GE240.out) | exact HB.out)⟩⟩
  case rest =>
    clear HC3
    try clear c1
    try clear p2
    try clear c6
    try clear hcz7_0
    try clear hcz7_1
    try clear hcz9_0
    try clear hcz9_1
    try clear hfz7_0
    try clear hfz7_1
    try clear hfz9_0
    try clear hfz9_1
    obtain ⟨kq, x23_2, rfl, HA, HJ2, BK240, HB⟩ := hcut
    cases kq with
    | zero => exact absurd HA.out (by simp [wigeonlaw04_LureExchanges.j0])
    | succ kj2 =>
      have H := HA.out
      clear HA
      simp only [wigeonlaw04_LureExchanges.j0] at H
      by_cases c11 : x23_2 = true
      · subst c11
        have H1 : ((wigeonlaw04_known.f kj2).bind fun t242 => (some t242)) = some r := by rw [if_pos rfl] at H; exact H
        clear H
        have H := H1
        clear H1
        replace H := Option.bind_eq_some_iff.mp H
        obtain ⟨t242, A120, H⟩ := H
        replace H : (some t242) = some r := H
        have A12 := Aside0.mk A120
        clear A120
        obtain rfl := Option.some.inj H
        go_wp2_with (first | ((with_reducible refine gate_callee (f := 16) rfl ?_); refine goesL_ (some 24) rfl rfl Try.func16 (by kernel_rfl) rfl #[] rfl (by (try simp only [List.map_toArray, List.map_cons, List.map_nil]); first | done | rfl | (simp only [List.length_drop, List.length_take]; rfl)) ?_; (with_reducible refine (wigeonlaw04_known.calls kj2  t242 _ A12.out).mono ?_); rintro e w13 ⟨rfl, hb⟩; refine ⟨_, rfl, ?_⟩; have n0_ := Aside0.mk (blk_below (g := gb240) (o := .cells #[.slice A0_0 l0_0.length c0_0, .slice A0_1 l0_1.length c0_1] 25 (0, 0)) (by (with_reducible repeat (first | refine blk_drewN ?_ _ | refine blk_drew ?_ | refine blk_alloc ?_ _)); exact BK240.out) hb); have n1_ := Aside0.mk (below_step (by repeat (first | (with_reducible first | exact HB.out | apply below_alloc | apply pw_below_drewN | apply below_drew1 | refine below_set ?_ GE240.out) | exact HB.out)) hb); clear BK240; clear HB; have BK240 := n0_; have HB := n1_; clear n0_ n1_; (try clear hb); (try clear hb2); (try clear hk); (try clear hi)))
        go_ret
        exact ⟨by first | rfl | (simp [errW_none, errW_some] <;> rfl) | (simp [*, errW_none, errW_some] <;> rfl), by repeat (first | (with_reducible first | exact HB.out | apply below_alloc | apply pw_below_drewN | apply below_drew1 | refine below_set ?_ GE240.out) | exact HB.out)⟩
      · replace c11 := Bool.eq_false_iff.mpr c11
        subst c11
        rw [if_neg (show ¬ (false = true) by decide)] at H
        obtain ⟨cp, ACP0, H1⟩ := Option.bind_eq_some_iff.mp H
        obtain ⟨ccp, H2⟩ := law_some H1
        clear H H1
        subst ccp
        have ACP := Aside0.mk ACP0
        have H := H2
        clear ACP0 H2
        replace H := Option.bind_eq_some_iff.mp H
        obtain ⟨⟨t244, t247, t250⟩, A140, H⟩ := H
        replace H : ((wigeonref04_Exchange.f kj2 l0_0 l0_1).bind fun bt252 => (if t250 = bt252.2.2 then ((wigeonref04_Same.f kj2 t244 t247 bt252.1 bt252.2.1).bind fun t260 => (wigeonlaw04_LureExchanges.j1 kj2 l1 t250 (!t260) l0_0 l0_1 l0_0 l0_1 t244 t247)) else (wigeonlaw04_LureExchanges.j1 kj2 l1 t250 true l0_0 l0_1 l0_0 l0_1 t244 t247))) = some r := H
        have A14 := Aside0.mk A140
        clear A140
        replace H := Option.bind_eq_some_iff.mp H
        obtain ⟨⟨t252, t255, t258⟩, A150, H⟩ := H
        replace H : (if t250 = t258 then ((wigeonref04_Same.f kj2 t244 t247 t252 t255).bind fun t260 => (wigeonlaw04_LureExchanges.j1 kj2 l1 t250 (!t260) l0_0 l0_1 l0_0 l0_1 t244 t247)) else (wigeonlaw04_LureExchanges.j1 kj2 l1 t250 true l0_0 l0_1 l0_0 l0_1 t244 t247)) = some r := H
        have A15 := Aside0.mk A150
        clear A150
        have HC16 := Aside0.mk H
        clear H
        have hcz17_0 : wc.cell? ⟨gb240, 0, none⟩ = some (.slice A0_0 l0_0.length c0_0) := (blk_cell BK240.out 0).trans rfl
        have hcz17_1 : wc.cell? ⟨gb240, 1, none⟩ = some (.slice A0_1 l0_1.length c0_1) := (blk_cell BK240.out 1).trans rfl
        have hfz17_0 := blk_frozen BK240.out 0
        have hfz17_1 := blk_frozen BK240.out 1
        go_upto_region 4 with (first | ((with_reducible refine gate_callee (f := 43) rfl ?_); refine goesL_ (some 26) rfl rfl Try.func43 (by kernel_rfl) rfl #[.agg #[.slice A0_0 l0_0.length c0_0, .slice A0_1 l0_1.length c0_1]] rfl (by (try simp only [List.map_toArray, List.map_cons, List.map_nil]); first | done | rfl | (simp only [List.length_drop, List.length_take]; rfl)) ?_; (with_reducible refine (wigeonref04_Copy.calls kj2 _ _ l0_0 _ _ l0_1 l0_0 l0_1 _ ?side1 ?side2 ?side3 ?side4 ACP.out).mono ?_); (case side1 => exact Kd.C_below HR0_0.out HB.out); (case side2 => exact HC0_0.out); (case side3 => exact Kd.C_below HR0_1.out HB.out); (case side4 => exact HC0_1.out); rintro e w17 ⟨vo0, vo1, rfl, ho0, ho1, hb⟩; refine ⟨_, rfl, ?_⟩; obtain ⟨B0, d0, eb0⟩ := Kd.R_slice ho0; obtain ⟨B1, d1, eb1⟩ := Kd.S_slice ho1; subst eb0; subst eb1; have n0_ := Aside0.mk (blk_below (g := gb240) (o := .cells #[.slice A0_0 l0_0.length c0_0, .slice A0_1 l0_1.length c0_1] 25 (0, 0)) BK240.out hb); have n1_ := Aside0.mk (below_step HB.out hb); have CO0 := Aside0.mk (Kd.R_reads' ho0); have CO1 := Aside0.mk (Kd.S_reads' ho1); clear BK240 HB hb ho0 ho1; have BK240 := n0_; have HB := n1_; clear n0_ n1_) | ((with_reducible refine gate_dst (N := 5) rfl ?_); (try (refine gate_guard (by rfl) ?_; dsimp only)); refine box_event ?hg (N := 5) ?hd (cs := #[.slice none 0 0, .slice none 0 0]) (t := 25) ?hr ?_; (case hd => rfl); (case hg => rfl); (case hr => first | (go_simp; done) | (go_simp; rfl)); intro gb243 hg w18 hbox hb; have n0_ := Aside0.mk (blk_below (g := gb240) (o := .cells #[.slice A0_0 l0_0.length c0_0, .slice A0_1 l0_1.length c0_1] 25 (0, 0)) BK240.out hb); have n1_ := Aside0.mk (below_step HB.out hb); have n2_ := Aside0.mk hbox; have NB240_243 := Aside0.mk ((by rw [hg]; exact Nat.ne_of_lt (blk_lt BK240.out)) : gb240 ≠ gb243); have NB243_240 := Aside0.mk (Ne.symm NB240_243.out); have GEo := Aside0.mk ((by rw [hg]; exact Nat.le_refl _) : w17.heap.size ≤ gb243); have GEw := Aside0.mk ((by rw [hg]; exact below_size HB.out) : w00.heap.size ≤ gb243); have HBo := Aside0.mk hb; clear BK240 HB hb hbox hg; have BK240 := n0_; have HB := n1_; have BK243 := n2_; clear n0_ n1_ n2_; have hcz20_0 : w18.cell? ⟨gb243, 0, none⟩ = some (.slice none 0 0) := (blk_cell BK243.out 0).trans rfl; have hcz20_1 : w18.cell? ⟨gb243, 1, none⟩ = some (.slice none 0 0) := (blk_cell BK243.out 1).trans rfl; have hfz20_0 := blk_frozen BK243.out 0; have hfz20_1 := blk_frozen BK243.out 1))
        (try simp only [Act.put, List.setIfInBounds_toArray, List.set_cons_zero, List.set_cons_succ])
        have n0_ : Aside0 (((w18.setCell ⟨gb243, 0, none⟩ (.slice B0 l0_0.length d0)).setCell ⟨gb243, 1, none⟩ (.slice B1 l0_1.length d1)).heap[gb240]? = some (.cells #[.slice A0_0 l0_0.length c0_0, .slice A0_1 l0_1.length c0_1] 25 (0, 0))) := ⟨by refine blk_far ?_ NB240_243.out _; refine blk_far ?_ NB240_243.out _; exact BK240.out⟩
        have n1_ : Aside0 (((w18.setCell ⟨gb243, 0, none⟩ (.slice B0 l0_0.length d0)).setCell ⟨gb243, 1, none⟩ (.slice B1 l0_1.length d1)).heap[gb243]? = some (.cells #[.slice B0 l0_0.length d0, .slice B1 l0_1.length d1] 25 (0, 0))) := ⟨by refine blk_put (cs := #[.slice B0 l0_0.length d0, .slice none 0 0]) ?_ 1 _ rfl; refine blk_put (cs := #[.slice none 0 0, .slice none 0 0]) ?_ 0 _ rfl; exact BK243.out⟩
        have n2_ : Aside0 (Below w00.heap.size w00 ((w18.setCell ⟨gb243, 0, none⟩ (.slice B0 l0_0.length d0)).setCell ⟨gb243, 1, none⟩ (.slice B1 l0_1.length d1))) := ⟨below_set (below_set HB.out GEw.out) GEw.out⟩
        have n3_ : Aside0 (Below w17.heap.size w17 ((w18.setCell ⟨gb243, 0, none⟩ (.slice B0 l0_0.length d0)).setCell ⟨gb243, 1, none⟩ (.slice B1 l0_1.length d1))) := ⟨below_set (below_set HBo.out GEo.out) GEo.out⟩
        clear BK240 BK243 HB hcz17_0 hcz17_1 hfz17_0 hfz17_1
        (try clear hcz20_0 hcz20_1 hfz20_0 hfz20_1)
        generalize (w18.setCell ⟨gb243, 0, none⟩ (.slice B0 l0_0.length d0)).setCell ⟨gb243, 1, none⟩ (.slice B1 l0_1.length d1) = w at n0_ n1_ n2_ n3_ ⊢
        have BK240 := n0_
        have BK243 := n1_
        have HBw := n2_
        have HRo_0 := Aside0.mk (Kd.C_below CO0.out.2.2 n3_.out)
        have HRo_1 := Aside0.mk (Kd.C_below CO1.out.2.2 n3_.out)
        have HCo_0 := Aside0.mk CO0.out.2.1
        have HCo_1 := Aside0.mk CO1.out.2.1
        have h0_ := Aside0.mk (Kd.C_below HR0_0.out HBw.out)
        have h1_ := Aside0.mk (Kd.C_below HR0_1.out HBw.out)
        have h2_ := Aside0.mk (Kd.C_below HR1.out HBw.out)
        clear HR0_0 HR0_1 HR1 n0_ n1_ n2_ n3_ CO0 CO1
        have HR0_0 := h0_
        have HR0_1 := h1_
        have HR1 := h2_
        clear h0_ h1_ h2_
        have HB := Aside0.mk (Below.refl w.heap.size w)
        have hcz20_0 : w.cell? ⟨gb243, 0, none⟩ = some (.slice B0 l0_0.length d0) := (blk_cell BK243.out 0).trans rfl
        have hcz20_1 : w.cell? ⟨gb243, 1, none⟩ = some (.slice B1 l0_1.length d1) := (blk_cell BK243.out 1).trans rfl
        have hfz20_0 := blk_frozen BK243.out 0
        have hfz20_1 := blk_frozen BK243.out 1
        have hcz17_0 : w.cell? ⟨gb240, 0, none⟩ = some (.slice A0_0 l0_0.length c0_0) := (blk_cell BK240.out 0).trans rfl
        have hcz17_1 : w.cell? ⟨gb240, 1, none⟩ = some (.slice A0_1 l0_1.length c0_1) := (blk_cell BK240.out 1).trans rfl
        have hfz17_0 := blk_frozen BK240.out 0
        have hfz17_1 := blk_frozen BK240.out 1
        go_upto_region 6 with (first | ((with_reducible refine gate_callee (f := 44) rfl ?_); refine goesL_ (some 29) rfl rfl Try.func44 (by kernel_rfl) rfl #[.agg #[.slice B0 l0_0.length d0, .slice B1 l0_1.length d1]] rfl (by (try simp only [List.map_toArray, List.map_cons, List.map_nil]); first | done | rfl | (simp only [List.length_drop, List.length_take]; rfl)) ?_; (with_reducible refine (lure_Exchange.calls kj2 _ _ l0_0 _ _ l0_1 t244 t247 t250 _ ?side1 ?side2 ?side3 ?side4 A14.out).mono ?_); (case side1 => exact Kd.C_below HRo_0.out (by repeat (first | (with_reducible first | exact HB.out | apply below_alloc | apply pw_below_drewN | apply below_drew1 | refine below_set ?_ GE240.out | refine below_set ?_ GE243.out) | exact HB.out))); (case side2 => exact HCo_0.out); (case side3 => exact Kd.C_below HRo_1.out (by repeat (first | (with_reducible first | exact HB.out | apply below_alloc | apply pw_below_drewN | apply below_drew1 | refine below_set ?_ GE240.out | refine below_set ?_ GE243.out) | exact HB.out))); (case side4 => exact HCo_1.out); rintro e w21 ⟨v245, v248, rfl, ho0, ho1, hb⟩; refine ⟨_, rfl, ?_⟩; have n0_ := Aside0.mk (Kd.R_lower ho0 (below_size (by repeat (first | (with_reducible first | exact HB.out | apply below_alloc | apply pw_below_drewN | apply below_drew1 | refine below_set ?_ GE240.out | refine below_set ?_ GE243.out) | exact HB.out)))); have n1_ := Aside0.mk (Kd.S_lower ho1 (below_size (by repeat (first | (with_reducible first | exact HB.out | apply below_alloc | apply pw_below_drewN | apply below_drew1 | refine below_set ?_ GE240.out | refine below_set ?_ GE243.out) | exact HB.out)))); have n2_ := Aside0.mk (blk_below (g := gb240) (o := .cells #[.slice A0_0 l0_0.length c0_0, .slice A0_1 l0_1.length c0_1] 25 (0, 0)) BK240.out hb); have n3_ := Aside0.mk (blk_below (g := gb243) (o := .cells #[.slice B0 l0_0.length d0, .slice B1 l0_1.length d1] 25 (0, 0)) BK243.out hb); have n4_ := Aside0.mk (below_step (by repeat (first | (with_reducible first | exact HB.out | apply below_alloc | apply pw_below_drewN | apply below_drew1 | refine below_set ?_ GE240.out | refine below_set ?_ GE243.out) | exact HB.out)) hb); clear BK240; clear BK243; clear HB; have HO246 := n0_; have HO249 := n1_; have BK240 := n2_; have BK243 := n3_; have HB := n4_; clear n0_ n1_ n2_ n3_ n4_; (try clear hb); (try clear hb2); (try clear hk); (try clear hi); (try clear ho0); (try clear ho1)) | ((with_reducible refine gate_dst (N := 6) rfl ?_); (try (refine gate_guard (by rfl) ?_; dsimp only)); refine box_event ?hg (N := 6) ?hd (cs := #[.slice none 0 0, .slice none 0 0]) (t := 25) ?hr ?_; (case hd => rfl); (case hg => rfl); (case hr => first | (go_simp; done) | (go_simp; rfl)); intro gb251 hg w22 hbox hb; have n0_ := Aside0.mk (Kd.R_below (by (with_reducible repeat (first | apply Kd.R_alloc | apply Kd.R_drewN | apply Kd.R_drew)); exact HO246.out) hb); have n1_ := Aside0.mk (Kd.S_below (by (with_reducible repeat (first | apply Kd.S_alloc | apply Kd.S_drewN | apply Kd.S_drew)); exact HO249.out) hb); have n2_ := Aside0.mk (blk_below (g := gb240) (o := .cells #[.slice A0_0 l0_0.length c0_0, .slice A0_1 l0_1.length c0_1] 25 (0, 0)) (by (with_reducible repeat (first | refine blk_drewN ?_ _ | refine blk_drew ?_ | refine blk_alloc ?_ _)); exact BK240.out) hb); have n3_ := Aside0.mk (blk_below (g := gb243) (o := .cells #[.slice B0 l0_0.length d0, .slice B1 l0_1.length d1] 25 (0, 0)) (by (with_reducible repeat (first | refine blk_drewN ?_ _ | refine blk_drew ?_ | refine blk_alloc ?_ _)); exact BK243.out) hb); have n4_ := Aside0.mk (below_step (by repeat (first | (with_reducible first | exact HB.out | apply below_alloc | apply pw_below_drewN | apply below_drew1 | refine below_set ?_ GE240.out | refine below_set ?_ GE243.out) | exact HB.out)) hb); have n5_ := Aside0.mk (hbox); have n6_ := Aside0.mk ((by rw [hg]; exact (below_size (by repeat (first | (with_reducible first | exact HB.out | apply below_alloc | apply pw_below_drewN | apply below_drew1 | refine below_set ?_ GE240.out | refine below_set ?_ GE243.out) | exact HB.out))) : w.heap.size ≤ gb251)); have n7_ := Aside0.mk ((by rw [hg]; exact (below_size (by repeat (first | (with_reducible first | exact HB.out | apply below_alloc | apply pw_below_drewN | apply below_drew1 | refine below_set ?_ GE240.out | refine below_set ?_ GE243.out) | exact HB.out))) : w.heap.size ≤ gb251)); have n8_ := Aside0.mk ((by rw [hg]; exact Nat.ne_of_lt (blk_lt (g := gb240) (o := .cells #[.slice A0_0 l0_0.length c0_0, .slice A0_1 l0_1.length c0_1] 25 (0, 0)) (by (with_reducible repeat (first | refine blk_drewN ?_ _ | refine blk_drew ?_ | refine blk_alloc ?_ _)); exact BK240.out)) : gb240 ≠ gb251)); have n9_ := Aside0.mk ((by rw [hg]; exact Nat.ne_of_gt (blk_lt (g := gb240) (o := .cells #[.slice A0_0 l0_0.length c0_0, .slice A0_1 l0_1.length c0_1] 25 (0, 0)) (by (with_reducible repeat (first | refine blk_drewN ?_ _ | refine blk_drew ?_ | refine blk_alloc ?_ _)); exact BK240.out)) : gb251 ≠ gb240)); have n10_ := Aside0.mk ((by rw [hg]; exact Nat.ne_of_lt (blk_lt (g := gb243) (o := .cells #[.slice B0 l0_0.length d0, .slice B1 l0_1.length d1] 25 (0, 0)) (by (with_reducible repeat (first | refine blk_drewN ?_ _ | refine blk_drew ?_ | refine blk_alloc ?_ _)); exact BK243.out)) : gb243 ≠ gb251)); have n11_ := Aside0.mk ((by rw [hg]; exact Nat.ne_of_gt (blk_lt (g := gb243) (o := .cells #[.slice B0 l0_0.length d0, .slice B1 l0_1.length d1] 25 (0, 0)) (by (with_reducible repeat (first | refine blk_drewN ?_ _ | refine blk_drew ?_ | refine blk_alloc ?_ _)); exact BK243.out)) : gb251 ≠ gb243)); clear HO246; clear HO249; clear BK240; clear BK243; clear HB; have HO246 := n0_; have HO249 := n1_; have BK240 := n2_; have BK243 := n3_; have HB := n4_; have BK251 := n5_; have GW251 := n6_; have GE251 := n7_; have NB240_251 := n8_; have NB251_240 := n9_; have NB243_251 := n10_; have NB251_243 := n11_; clear n0_ n1_ n2_ n3_ n4_ n5_ n6_ n7_ n8_ n9_ n10_ n11_; clear hb hbox hg; obtain ⟨Ao23, co23, eo23⟩ := Kd.R_slice HO246.out; subst eo23; have hnb24 := NB251_240.out; have hnc24 := NB240_251.out; have hnb25 := NB251_243.out; have hnc25 := NB243_251.out; have hcz26_0 : w22.cell? ⟨gb251, 0, none⟩ = some (.slice none 0 0) := (blk_cell BK251.out 0).trans rfl; have hcz26_1 : w22.cell? ⟨gb251, 1, none⟩ = some (.slice none 0 0) := (blk_cell BK251.out 1).trans rfl; have hfz26_0 := blk_frozen BK251.out 0; have hfz26_1 := blk_frozen BK251.out 1; obtain ⟨Ao27, co27, eo27⟩ := Kd.S_slice HO249.out; subst eo27; have hcz28_0 : w22.cell? ⟨gb240, 0, none⟩ = some (.slice A0_0 l0_0.length c0_0) := (blk_cell BK240.out 0).trans rfl; have hcz28_1 : w22.cell? ⟨gb240, 1, none⟩ = some (.slice A0_1 l0_1.length c0_1) := (blk_cell BK240.out 1).trans rfl; have hfz28_0 := blk_frozen BK240.out 0; have hfz28_1 := blk_frozen BK240.out 1) | ((with_reducible refine gate_callee (f := 45) rfl ?_); refine goesL_ (some 34) rfl rfl Try.func45 (by kernel_rfl) rfl #[.agg #[.slice A0_0 l0_0.length c0_0, .slice A0_1 l0_1.length c0_1]] rfl (by (try simp only [List.map_toArray, List.map_cons, List.map_nil]); first | done | rfl | (simp only [List.length_drop, List.length_take]; rfl)) ?_; (with_reducible refine (wigeonref04_Exchange.calls kj2 _ _ l0_0 _ _ l0_1 t252 t255 t258 _ ?side1 ?side2 ?side3 ?side4 A15.out).mono ?_); (case side1 => exact Kd.C_below HR0_0.out (by repeat (first | (with_reducible first | exact HB.out | apply below_alloc | apply pw_below_drewN | apply below_drew1 | refine below_set ?_ GE240.out | refine below_set ?_ GE243.out | refine below_set ?_ GE251.out) | exact HB.out))); (case side2 => exact HC0_0.out); (case side3 => exact Kd.C_below HR0_1.out (by repeat (first | (with_reducible first | exact HB.out | apply below_alloc | apply pw_below_drewN | apply below_drew1 | refine below_set ?_ GE240.out | refine below_set ?_ GE243.out | refine below_set ?_ GE251.out) | exact HB.out))); (case side4 => exact HC0_1.out); rintro e w29 ⟨v253, v256, rfl, ho0, ho1, hb⟩; refine ⟨_, rfl, ?_⟩; have n0_ := Aside0.mk (Kd.R_elder' (by (with_reducible repeat (first | apply Kd.R_alloc | apply Kd.R_drewN | apply Kd.R_drew)); exact (Kd.R_mono (Kd.R_far (p := ⟨gb251, 1, none⟩) (Kd.R_far (p := ⟨gb251, 0, none⟩) (Kd.R_types HO246.out BK251.out (by decide)) (fun _ hk => hk.2) (.slice Ao23 t244.length co23)) (fun _ hk => hk.2) (.slice Ao27 t247.length co27)) (fun _ h_ => h_.1))) (Kd.R_base ho0) hb); have n1_ := Aside0.mk (Kd.S_mono (Kd.S_told (Kd.S_told (Kd.S_old (by (with_reducible repeat (first | apply Kd.S_alloc | apply Kd.S_drewN | apply Kd.S_drew)); exact (Kd.S_mono (Kd.S_far (p := ⟨gb251, 1, none⟩) (Kd.S_far (p := ⟨gb251, 0, none⟩) (Kd.S_types HO249.out BK251.out (by decide)) (fun _ hk => hk.2) (.slice Ao23 t244.length co23)) (fun _ hk => hk.2) (.slice Ao27 t247.length co27)) (fun _ h_ => h_.1))) hb) (Kd.R_base ho0)) (Kd.S_base ho1)) (fun _ h_ => h_.1)); have n2_ := Aside0.mk (Kd.R_lower (Kd.R_new' ho0 (Kd.R_lt (by (with_reducible repeat (first | apply Kd.R_alloc | apply Kd.R_drewN | apply Kd.R_drew)); exact (Kd.R_mono (Kd.R_far (p := ⟨gb251, 1, none⟩) (Kd.R_far (p := ⟨gb251, 0, none⟩) (Kd.R_types HO246.out BK251.out (by decide)) (fun _ hk => hk.2) (.slice Ao23 t244.length co23)) (fun _ hk => hk.2) (.slice Ao27 t247.length co27)) (fun _ h_ => h_.1))))) (below_size (by repeat (first | (with_reducible first | exact HB.out | apply below_alloc | apply pw_below_drewN | apply below_drew1 | refine below_set ?_ GE240.out | refine below_set ?_ GE243.out | refine below_set ?_ GE251.out) | exact HB.out)))); have n3_ := Aside0.mk (Kd.S_lower (Kd.S_new' (Kd.S_new' ho1 (Kd.R_lt (by (with_reducible repeat (first | apply Kd.R_alloc | apply Kd.R_drewN | apply Kd.R_drew)); exact (Kd.R_mono (Kd.R_far (p := ⟨gb251, 1, none⟩) (Kd.R_far (p := ⟨gb251, 0, none⟩) (Kd.R_types HO246.out BK251.out (by decide)) (fun _ hk => hk.2) (.slice Ao23 t244.length co23)) (fun _ hk => hk.2) (.slice Ao27 t247.length co27)) (fun _ h_ => h_.1))))) (Kd.S_lt (by (with_reducible repeat (first | apply Kd.S_alloc | apply Kd.S_drewN | apply Kd.S_drew)); exact (Kd.S_mono (Kd.S_far (p := ⟨gb251, 1, none⟩) (Kd.S_far (p := ⟨gb251, 0, none⟩) (Kd.S_types HO249.out BK251.out (by decide)) (fun _ hk => hk.2) (.slice Ao23 t244.length co23)) (fun _ hk => hk.2) (.slice Ao27 t247.length co27)) (fun _ h_ => h_.1))))) (below_size (by repeat (first | (with_reducible first | exact HB.out | apply below_alloc | apply pw_below_drewN | apply below_drew1 | refine below_set ?_ GE240.out | refine below_set ?_ GE243.out | refine below_set ?_ GE251.out) | exact HB.out)))); have n4_ := Aside0.mk (blk_below (g := gb240) (o := .cells #[.slice A0_0 l0_0.length c0_0, .slice A0_1 l0_1.length c0_1] 25 (0, 0)) (by (with_reducible repeat (first | refine blk_drewN ?_ _ | refine blk_drew ?_ | refine blk_alloc ?_ _)); refine blk_far ?_ NB240_251.out _; (with_reducible repeat (first | refine blk_drewN ?_ _ | refine blk_drew ?_ | refine blk_alloc ?_ _)); refine blk_far ?_ NB240_251.out _; (with_reducible repeat (first | refine blk_drewN ?_ _ | refine blk_drew ?_ | refine blk_alloc ?_ _)); exact BK240.out) hb); have n5_ := Aside0.mk (blk_below (g := gb243) (o := .cells #[.slice B0 l0_0.length d0, .slice B1 l0_1.length d1] 25 (0, 0)) (by (with_reducible repeat (first | refine blk_drewN ?_ _ | refine blk_drew ?_ | refine blk_alloc ?_ _)); refine blk_far ?_ NB243_251.out _; (with_reducible repeat (first | refine blk_drewN ?_ _ | refine blk_drew ?_ | refine blk_alloc ?_ _)); refine blk_far ?_ NB243_251.out _; (with_reducible repeat (first | refine blk_drewN ?_ _ | refine blk_drew ?_ | refine blk_alloc ?_ _)); exact BK243.out) hb); have n6_ := Aside0.mk (blk_below (g := gb251) (o := .cells #[.slice Ao23 t244.length co23, .slice Ao27 t247.length co27] 25 (0, 0)) (by (with_reducible repeat (first | refine blk_drewN ?_ _ | refine blk_drew ?_ | refine blk_alloc ?_ _)); refine blk_put (cs := #[.slice Ao23 t244.length co23, .slice none 0 0]) ?_ 1 _ rfl; (with_reducible repeat (first | refine blk_drewN ?_ _ | refine blk_drew ?_ | refine blk_alloc ?_ _)); refine blk_put (cs := #[.slice none 0 0, .slice none 0 0]) ?_ 0 _ rfl; (with_reducible repeat (first | refine blk_drewN ?_ _ | refine blk_drew ?_ | refine blk_alloc ?_ _)); exact BK251.out) hb); have n7_ := Aside0.mk (below_step (by repeat (first | (with_reducible first | exact HB.out | apply below_alloc | apply pw_below_drewN | apply below_drew1 | refine below_set ?_ GE240.out | refine below_set ?_ GE243.out | refine below_set ?_ GE251.out) | exact HB.out)) hb); clear HO246; clear HO249; clear BK240; clear BK243; clear BK251; clear HB; have HO246 := n0_; have HO249 := n1_; have HO254 := n2_; have HO257 := n3_; have BK240 := n4_; have BK243 := n5_; have BK251 := n6_; have HB := n7_; clear n0_ n1_ n2_ n3_ n4_ n5_ n6_ n7_; (try clear hb); (try clear hb2); (try clear hk); (try clear hi); (try clear ho0); (try clear ho1)) | ((with_reducible refine gate_dst (N := 8) rfl ?_); (try (refine gate_guard (by rfl) ?_; dsimp only)); refine box_event ?hg (N := 8) ?hd (cs := #[.slice none 0 0, .slice none 0 0]) (t := 25) ?hr ?_; (case hd => rfl); (case hg => rfl); (case hr => first | (go_simp; done) | (go_simp; rfl)); intro gb259 hg w30 hbox hb; have n0_ := Aside0.mk (Kd.R_below (by (with_reducible repeat (first | apply Kd.R_alloc | apply Kd.R_drewN | apply Kd.R_drew)); exact HO246.out) hb); have n1_ := Aside0.mk (Kd.S_below (by (with_reducible repeat (first | apply Kd.S_alloc | apply Kd.S_drewN | apply Kd.S_drew)); exact HO249.out) hb); have n2_ := Aside0.mk (Kd.R_below (by (with_reducible repeat (first | apply Kd.R_alloc | apply Kd.R_drewN | apply Kd.R_drew)); exact HO254.out) hb); have n3_ := Aside0.mk (Kd.S_below (by (with_reducible repeat (first | apply Kd.S_alloc | apply Kd.S_drewN | apply Kd.S_drew)); exact HO257.out) hb); have n4_ := Aside0.mk (blk_below (g := gb240) (o := .cells #[.slice A0_0 l0_0.length c0_0, .slice A0_1 l0_1.length c0_1] 25 (0, 0)) (by (with_reducible repeat (first | refine blk_drewN ?_ _ | refine blk_drew ?_ | refine blk_alloc ?_ _)); exact BK240.out) hb); have n5_ := Aside0.mk (blk_below (g := gb243) (o := .cells #[.slice B0 l0_0.length d0, .slice B1 l0_1.length d1] 25 (0, 0)) (by (with_reducible repeat (first | refine blk_drewN ?_ _ | refine blk_drew ?_ | refine blk_alloc ?_ _)); exact BK243.out) hb); have n6_ := Aside0.mk (blk_below (g := gb251) (o := .cells #[.slice Ao23 t244.length co23, .slice Ao27 t247.length co27] 25 (0, 0)) (by (with_reducible repeat (first | refine blk_drewN ?_ _ | refine blk_drew ?_ | refine blk_alloc ?_ _)); exact BK251.out) hb); have n7_ := Aside0.mk (below_step (by repeat (first | (with_reducible first | exact HB.out | apply below_alloc | apply pw_below_drewN | apply below_drew1 | refine below_set ?_ GE240.out | refine below_set ?_ GE243.out | refine below_set ?_ GE251.out) | exact HB.out)) hb); have n8_ := Aside0.mk (hbox); have n9_ := Aside0.mk ((by rw [hg]; exact (below_size (by repeat (first | (with_reducible first | exact HB.out | apply below_alloc | apply pw_below_drewN | apply below_drew1 | refine below_set ?_ GE240.out | refine below_set ?_ GE243.out | refine below_set ?_ GE251.out) | exact HB.out))) : w.heap.size ≤ gb259)); have n10_ := Aside0.mk ((by rw [hg]; exact (below_size (by repeat (first | (with_reducible first | exact HB.out | apply below_alloc | apply pw_below_drewN | apply below_drew1 | refine below_set ?_ GE240.out | refine below_set ?_ GE243.out | refine below_set ?_ GE251.out) | exact HB.out))) : w.heap.size ≤ gb259)); have n11_ := Aside0.mk ((by rw [hg]; exact Nat.ne_of_lt (blk_lt (g := gb240) (o := .cells #[.slice A0_0 l0_0.length c0_0, .slice A0_1 l0_1.length c0_1] 25 (0, 0)) (by (with_reducible repeat (first | refine blk_drewN ?_ _ | refine blk_drew ?_ | refine blk_alloc ?_ _)); exact BK240.out)) : gb240 ≠ gb259)); have n12_ := Aside0.mk ((by rw [hg]; exact Nat.ne_of_gt (blk_lt (g := gb240) (o := .cells #[.slice A0_0 l0_0.length c0_0, .slice A0_1 l0_1.length c0_1] 25 (0, 0)) (by (with_reducible repeat (first | refine blk_drewN ?_ _ | refine blk_drew ?_ | refine blk_alloc ?_ _)); exact BK240.out)) : gb259 ≠ gb240)); have n13_ := Aside0.mk ((by rw [hg]; exact Nat.ne_of_lt (blk_lt (g := gb243) (o := .cells #[.slice B0 l0_0.length d0, .slice B1 l0_1.length d1] 25 (0, 0)) (by (with_reducible repeat (first | refine blk_drewN ?_ _ | refine blk_drew ?_ | refine blk_alloc ?_ _)); exact BK243.out)) : gb243 ≠ gb259)); have n14_ := Aside0.mk ((by rw [hg]; exact Nat.ne_of_gt (blk_lt (g := gb243) (o := .cells #[.slice B0 l0_0.length d0, .slice B1 l0_1.length d1] 25 (0, 0)) (by (with_reducible repeat (first | refine blk_drewN ?_ _ | refine blk_drew ?_ | refine blk_alloc ?_ _)); exact BK243.out)) : gb259 ≠ gb243)); have n15_ := Aside0.mk ((by rw [hg]; exact Nat.ne_of_lt (blk_lt (g := gb251) (o := .cells #[.slice Ao23 t244.length co23, .slice Ao27 t247.length co27] 25 (0, 0)) (by (with_reducible repeat (first | refine blk_drewN ?_ _ | refine blk_drew ?_ | refine blk_alloc ?_ _)); exact BK251.out)) : gb251 ≠ gb259)); have n16_ := Aside0.mk ((by rw [hg]; exact Nat.ne_of_gt (blk_lt (g := gb251) (o := .cells #[.slice Ao23 t244.length co23, .slice Ao27 t247.length co27] 25 (0, 0)) (by (with_reducible repeat (first | refine blk_drewN ?_ _ | refine blk_drew ?_ | refine blk_alloc ?_ _)); exact BK251.out)) : gb259 ≠ gb251)); clear HO246; clear HO249; clear HO254; clear HO257; clear BK240; clear BK243; clear BK251; clear HB; have HO246 := n0_; have HO249 := n1_; have HO254 := n2_; have HO257 := n3_; have BK240 := n4_; have BK243 := n5_; have BK251 := n6_; have HB := n7_; have BK259 := n8_; have GW259 := n9_; have GE259 := n10_; have NB240_259 := n11_; have NB259_240 := n12_; have NB243_259 := n13_; have NB259_243 := n14_; have NB251_259 := n15_; have NB259_251 := n16_; clear n0_ n1_ n2_ n3_ n4_ n5_ n6_ n7_ n8_ n9_ n10_ n11_ n12_ n13_ n14_ n15_ n16_; clear hb hbox hg; obtain ⟨Ao31, co31, eo31⟩ := Kd.R_slice HO254.out; subst eo31; have hnb32 := NB259_240.out; have hnc32 := NB240_259.out; have hnb33 := NB259_243.out; have hnc33 := NB243_259.out; have hnb34 := NB259_251.out; have hnc34 := NB251_259.out; have hcz35_0 : w30.cell? ⟨gb259, 0, none⟩ = some (.slice none 0 0) := (blk_cell BK259.out 0).trans rfl; have hcz35_1 : w30.cell? ⟨gb259, 1, none⟩ = some (.slice none 0 0) := (blk_cell BK259.out 1).trans rfl; have hfz35_0 := blk_frozen BK259.out 0; have hfz35_1 := blk_frozen BK259.out 1; obtain ⟨Ao36, co36, eo36⟩ := Kd.S_slice HO257.out; subst eo36))
        (try simp only [Act.put, List.setIfInBounds_toArray, List.set_cons_zero, List.set_cons_succ])
        go_cut [45] (fun v45 wc => ∃ (kq : Nat) (x45_15 : Bool), v45 = .bool x45_15 ∧ Aside0 (wigeonlaw04_LureExchanges.j1 kq l1 t250 x45_15 l0_0 l0_1 l0_0 l0_1 t244 t247 = some r) ∧ Aside0 (kq ≤ kj2) ∧ Aside0 (Kd.R (Kd.int .i64) 3 wc w.heap.size (fun k_ => some k_ ≠ ((.slice Ao31 t252.length co31) : Value).ownBlock) (.slice Ao23 t244.length co23) t244) ∧ Aside0 (Kd.S (Kd.slice 3 (Kd.int .i64)) 22 wc w.heap.size (fun k_ => some k_ ≠ ((.slice Ao23 t244.length co23) : Value).ownBlock ∧ some k_ ≠ ((.slice Ao31 t252.length co31) : Value).ownBlock ∧ some k_ ≠ ((.slice Ao36 t255.length co36) : Value).ownBlock) (.slice Ao27 t247.length co27) t247) ∧ Aside0 (Kd.R (Kd.int .i64) 3 wc w.heap.size (fun k_ => some k_ ≠ ((.slice Ao23 t244.length co23) : Value).ownBlock) (.slice Ao31 t252.length co31) t252) ∧ Aside0 (Kd.S (Kd.slice 3 (Kd.int .i64)) 22 wc w.heap.size (fun k_ => some k_ ≠ ((.slice Ao23 t244.length co23) : Value).ownBlock ∧ some k_ ≠ ((.slice Ao27 t247.length co27) : Value).ownBlock ∧ some k_ ≠ ((.slice Ao31 t252.length co31) : Value).ownBlock) (.slice Ao36 t255.length co36) t255) ∧ Aside0 (wc.heap[gb240]? = some (.cells #[(.slice A0_0 l0_0.length c0_0), (.slice A0_1 l0_1.length c0_1)] 25 (0, 0))) ∧ Aside0 (wc.heap[gb243]? = some (.cells #[(.slice B0 l0_0.length d0), (.slice B1 l0_1.length d1)] 25 (0, 0))) ∧ Aside0 (wc.heap[gb251]? = some (.cells #[(.slice Ao23 t244.length co23), (.slice Ao27 t247.length co27)] 25 (0, 0))) ∧ Aside0 (wc.heap[gb259]? = some (.cells #[(.slice Ao31 t252.length co31), (.slice Ao36 t255.length co36)] 25 (0, 0))) ∧ Aside0 (Below w.heap.size w wc))
        case first =>
          have H := HC16.out
          clear HC16
          by_cases c37 : t250 = t258
          · rw [if_pos c37] at H
            have c37b0 : (t250 == t258) = true := beq_iff_eq.mpr c37
            have c37b1 : (t250 != t258) = false := bne_eq_false_iff_eq.mpr c37
            clear c37
            (first | rw [c37b0] | (simp only [i64_w, i32_w]; rw [c37b0]) | skip)
            replace H := Option.bind_eq_some_iff.mp H
            obtain ⟨t260, A380, H⟩ := H
            replace H : (wigeonlaw04_LureExchanges.j1 kj2 l1 t250 (!t260) l0_0 l0_1 l0_0 l0_1 t244 t247) = some r := H
            have A38 := Aside0.mk A380
            clear A380
            have H' := Aside0.mk H
            clear H
            have hnb39 := NB251_240.out
            have hnc39 := NB240_251.out
            have hnb40 := NB251_243.out
            have hnc40 := NB243_251.out
            have hnb41 := NB251_259.out
            have hnc41 := NB259_251.out
            have hcz42_0 : w30.cell? ⟨gb251, 0, none⟩ = some (.slice Ao23 t244.length co23) := (blk_cell BK251.out 0).trans rfl
            have hcz42_1 : w30.cell? ⟨gb251, 1, none⟩ = some (.slice Ao27 t247.length co27) := (blk_cell BK251.out 1).trans rfl
            have hfz42_0 := blk_frozen BK251.out 0
            have hfz42_1 := blk_frozen BK251.out 1
            have hnb43 := NB259_240.out
            have hnc43 := NB240_259.out
            have hnb44 := NB259_243.out
            have hnc44 := NB243_259.out
            have hcz45_0 : w30.cell? ⟨gb259, 0, none⟩ = some (.slice none 0 0) := (blk_cell BK259.out 0).trans rfl
            have hcz45_1 : w30.cell? ⟨gb259, 1, none⟩ = some (.slice none 0 0) := (blk_cell BK259.out 1).trans rfl
            have hfz45_0 := blk_frozen BK259.out 0
            have hfz45_1 := blk_frozen BK259.out 1
            go_wp2_with (first | (go_at_call 46; (with_reducible refine (wigeonref04_Same.calls kj2 _ _ t244 _ _ t247 _ _ t252 _ _ t255 t260 _ ?side1 ?side2 ?side3 ?side4 ?side5 ?side6 ?side7 ?side8 A38.out).mono ?_); (case side1 => refine (Kd.R_reads' (e := 3) (base := w.heap.size) (ok := fun k_ => (True ∧ some k_ ≠ (.slice Ao31 t252.length co31 : Value).ownBlock)) (n := t244.length) (c := co23) ?_).2.2; exact (by (with_reducible repeat (first | apply Kd.R_alloc | apply Kd.R_drewN | apply Kd.R_drew)); exact (Kd.R_mono (Kd.R_far (p := ⟨gb259, 1, none⟩) (Kd.R_far (p := ⟨gb259, 0, none⟩) (Kd.R_types HO246.out BK259.out (by decide)) (fun _ hk => hk.2) (.slice Ao31 t252.length co31)) (fun _ hk => hk.2) (.slice Ao36 t255.length co36)) (fun _ h_ => h_.1)))); (case side2 => exact (Kd.R_reads' HO246.out).2.1); (case side3 => refine (Kd.S_reads' (e := 22) (base := w.heap.size) (ok := fun k_ => ((some k_ ≠ (.slice Ao23 t244.length co23 : Value).ownBlock ∧ some k_ ≠ (.slice Ao31 t252.length co31 : Value).ownBlock) ∧ some k_ ≠ (.slice Ao36 t255.length co36 : Value).ownBlock)) (n := t247.length) (c := co27) ?_).2.2; exact (by (with_reducible repeat (first | apply Kd.S_alloc | apply Kd.S_drewN | apply Kd.S_drew)); exact (Kd.S_mono (Kd.S_far (p := ⟨gb259, 1, none⟩) (Kd.S_far (p := ⟨gb259, 0, none⟩) (Kd.S_types HO249.out BK259.out (by decide)) (fun _ hk => hk.2) (.slice Ao31 t252.length co31)) (fun _ hk => hk.2) (.slice Ao36 t255.length co36)) (fun _ h_ => h_.1)))); (case side4 => exact (Kd.S_reads' HO249.out).2.1); (case side5 => refine (Kd.R_reads' (e := 3) (base := w.heap.size) (ok := fun k_ => (True ∧ some k_ ≠ (.slice Ao23 t244.length co23 : Value).ownBlock)) (n := t252.length) (c := co31) ?_).2.2; exact (by (with_reducible repeat (first | apply Kd.R_alloc | apply Kd.R_drewN | apply Kd.R_drew)); exact (Kd.R_mono (Kd.R_far (p := ⟨gb259, 1, none⟩) (Kd.R_far (p := ⟨gb259, 0, none⟩) (Kd.R_types HO254.out BK259.out (by decide)) (fun _ hk => hk.2) (.slice Ao31 t252.length co31)) (fun _ hk => hk.2) (.slice Ao36 t255.length co36)) (fun _ h_ => h_.1)))); (case side6 => exact (Kd.R_reads' HO254.out).2.1); (case side7 => refine (Kd.S_reads' (e := 22) (base := w.heap.size) (ok := fun k_ => ((some k_ ≠ (.slice Ao31 t252.length co31 : Value).ownBlock ∧ some k_ ≠ (.slice Ao23 t244.length co23 : Value).ownBlock) ∧ some k_ ≠ (.slice Ao27 t247.length co27 : Value).ownBlock)) (n := t255.length) (c := co36) ?_).2.2; exact (by (with_reducible repeat (first | apply Kd.S_alloc | apply Kd.S_drewN | apply Kd.S_drew)); exact (Kd.S_mono (Kd.S_far (p := ⟨gb259, 1, none⟩) (Kd.S_far (p := ⟨gb259, 0, none⟩) (Kd.S_types HO257.out BK259.out (by decide)) (fun _ hk => hk.2) (.slice Ao31 t252.length co31)) (fun _ hk => hk.2) (.slice Ao36 t255.length co36)) (fun _ h_ => h_.1)))); (case side8 => exact (Kd.S_reads' HO257.out).2.1); rintro e w46 ⟨rfl, hb⟩; have n0_ := Aside0.mk (Kd.R_below (by (with_reducible repeat (first | apply Kd.R_alloc | apply Kd.R_drewN | apply Kd.R_drew)); exact (Kd.R_mono (Kd.R_far (p := ⟨gb259, 1, none⟩) (Kd.R_far (p := ⟨gb259, 0, none⟩) (Kd.R_types HO246.out BK259.out (by decide)) (fun _ hk => hk.2) (.slice Ao31 t252.length co31)) (fun _ hk => hk.2) (.slice Ao36 t255.length co36)) (fun _ h_ => h_.1))) hb); have n1_ := Aside0.mk (Kd.S_below (by (with_reducible repeat (first | apply Kd.S_alloc | apply Kd.S_drewN | apply Kd.S_drew)); exact (Kd.S_mono (Kd.S_far (p := ⟨gb259, 1, none⟩) (Kd.S_far (p := ⟨gb259, 0, none⟩) (Kd.S_types HO249.out BK259.out (by decide)) (fun _ hk => hk.2) (.slice Ao31 t252.length co31)) (fun _ hk => hk.2) (.slice Ao36 t255.length co36)) (fun _ h_ => h_.1))) hb); have n2_ := Aside0.mk (Kd.R_below (by (with_reducible repeat (first | apply Kd.R_alloc | apply Kd.R_drewN | apply Kd.R_drew)); exact (Kd.R_mono (Kd.R_far (p := ⟨gb259, 1, none⟩) (Kd.R_far (p := ⟨gb259, 0, none⟩) (Kd.R_types HO254.out BK259.out (by decide)) (fun _ hk => hk.2) (.slice Ao31 t252.length co31)) (fun _ hk => hk.2) (.slice Ao36 t255.length co36)) (fun _ h_ => h_.1))) hb); have n3_ := Aside0.mk (Kd.S_below (by (with_reducible repeat (first | apply Kd.S_alloc | apply Kd.S_drewN | apply Kd.S_drew)); exact (Kd.S_mono (Kd.S_far (p := ⟨gb259, 1, none⟩) (Kd.S_far (p := ⟨gb259, 0, none⟩) (Kd.S_types HO257.out BK259.out (by decide)) (fun _ hk => hk.2) (.slice Ao31 t252.length co31)) (fun _ hk => hk.2) (.slice Ao36 t255.length co36)) (fun _ h_ => h_.1))) hb); have n4_ := Aside0.mk (blk_below (g := gb240) (o := .cells #[.slice A0_0 l0_0.length c0_0, .slice A0_1 l0_1.length c0_1] 25 (0, 0)) (by (with_reducible repeat (first | refine blk_drewN ?_ _ | refine blk_drew ?_ | refine blk_alloc ?_ _)); refine blk_far ?_ NB240_259.out _; (with_reducible repeat (first | refine blk_drewN ?_ _ | refine blk_drew ?_ | refine blk_alloc ?_ _)); refine blk_far ?_ NB240_259.out _; (with_reducible repeat (first | refine blk_drewN ?_ _ | refine blk_drew ?_ | refine blk_alloc ?_ _)); exact BK240.out) hb); have n5_ := Aside0.mk (blk_below (g := gb243) (o := .cells #[.slice B0 l0_0.length d0, .slice B1 l0_1.length d1] 25 (0, 0)) (by (with_reducible repeat (first | refine blk_drewN ?_ _ | refine blk_drew ?_ | refine blk_alloc ?_ _)); refine blk_far ?_ NB243_259.out _; (with_reducible repeat (first | refine blk_drewN ?_ _ | refine blk_drew ?_ | refine blk_alloc ?_ _)); refine blk_far ?_ NB243_259.out _; (with_reducible repeat (first | refine blk_drewN ?_ _ | refine blk_drew ?_ | refine blk_alloc ?_ _)); exact BK243.out) hb); have n6_ := Aside0.mk (blk_below (g := gb251) (o := .cells #[.slice Ao23 t244.length co23, .slice Ao27 t247.length co27] 25 (0, 0)) (by (with_reducible repeat (first | refine blk_drewN ?_ _ | refine blk_drew ?_ | refine blk_alloc ?_ _)); refine blk_far ?_ NB251_259.out _; (with_reducible repeat (first | refine blk_drewN ?_ _ | refine blk_drew ?_ | refine blk_alloc ?_ _)); refine blk_far ?_ NB251_259.out _; (with_reducible repeat (first | refine blk_drewN ?_ _ | refine blk_drew ?_ | refine blk_alloc ?_ _)); exact BK251.out) hb); have n7_ := Aside0.mk (blk_below (g := gb259) (o := .cells #[.slice Ao31 t252.length co31, .slice Ao36 t255.length co36] 25 (0, 0)) (by (with_reducible repeat (first | refine blk_drewN ?_ _ | refine blk_drew ?_ | refine blk_alloc ?_ _)); refine blk_put (cs := #[.slice Ao31 t252.length co31, .slice none 0 0]) ?_ 1 _ rfl; (with_reducible repeat (first | refine blk_drewN ?_ _ | refine blk_drew ?_ | refine blk_alloc ?_ _)); refine blk_put (cs := #[.slice none 0 0, .slice none 0 0]) ?_ 0 _ rfl; (with_reducible repeat (first | refine blk_drewN ?_ _ | refine blk_drew ?_ | refine blk_alloc ?_ _)); exact BK259.out) hb); have n8_ := Aside0.mk (below_step (by repeat (first | (with_reducible first | exact HB.out | apply below_alloc | apply pw_below_drewN | apply below_drew1 | refine below_set ?_ GE240.out | refine below_set ?_ GE243.out | refine below_set ?_ GE251.out | refine below_set ?_ GE259.out) | exact HB.out)) hb); clear HO246; clear HO249; clear HO254; clear HO257; clear BK240; clear BK243; clear BK251; clear BK259; clear HB; have HO246 := n0_; have HO249 := n1_; have HO254 := n2_; have HO257 := n3_; have BK240 := n4_; have BK243 := n5_; have BK251 := n6_; have BK259 := n7_; have HB := n8_; clear n0_ n1_ n2_ n3_ n4_ n5_ n6_ n7_ n8_; (try clear hb); (try clear hb2); (try clear hk); (try clear hi)))
            go_meet
            case rel => exact ⟨_, (!t260), (by first | rfl | (simp; done) | (simp [*]; done)), H', ⟨by have := HJ2.out; first | omega | exact Nat.le_refl _⟩, ⟨by (with_reducible repeat (first | apply Kd.R_alloc | apply Kd.R_drewN | apply Kd.R_drew)); exact Kd.R_mono HO246.out (fun _ hk => hk.2)⟩, ⟨by (with_reducible repeat (first | apply Kd.S_alloc | apply Kd.S_drewN | apply Kd.S_drew)); exact Kd.S_mono HO249.out (fun _ hk => ⟨hk.1.1, ⟨hk.1.2, hk.2⟩⟩)⟩, ⟨by (with_reducible repeat (first | apply Kd.R_alloc | apply Kd.R_drewN | apply Kd.R_drew)); exact Kd.R_mono HO254.out (fun _ hk => hk.2)⟩, ⟨by (with_reducible repeat (first | apply Kd.S_alloc | apply Kd.S_drewN | apply Kd.S_drew)); exact Kd.S_mono HO257.out (fun _ hk => ⟨hk.1.2, ⟨hk.2, hk.1.1⟩⟩)⟩, ⟨by (with_reducible repeat (first | refine blk_drewN ?_ _ | refine blk_drew ?_ | refine blk_alloc ?_ _)); exact BK240.out⟩, ⟨by (with_reducible repeat (first | refine blk_drewN ?_ _ | refine blk_drew ?_ | refine blk_alloc ?_ _)); exact BK243.out⟩, ⟨by (with_reducible repeat (first | refine blk_drewN ?_ _ | refine blk_drew ?_ | refine blk_alloc ?_ _)); exact BK251.out⟩, ⟨by (with_reducible repeat (first | refine blk_drewN ?_ _ | refine blk_drew ?_ | refine blk_alloc ?_ _)); exact BK259.out⟩, ⟨by repeat (first | (with_reducible first | exact HB.out | apply below_alloc | apply pw_below_drewN | apply below_drew1 | refine below_set ?_ GE240.out | refine below_set ?_ GE243.out | refine below_set ?_ GE251.out | refine below_set ?_ GE259.out) | exact HB.out)⟩⟩
          · rw [if_neg c37] at H
            have c37b0 : (t250 == t258) = false := beq_eq_false_iff_ne.mpr c37
            have c37b1 : (t250 != t258) = true := bne_iff_ne.mpr c37
            (first | rw [c37b0] | (simp only [i64_w, i32_w]; rw [c37b0]) | skip)
            have H' := Aside0.mk H
            clear H
            go_wp2
            go_meet
            case rel => exact ⟨_, (true), (by first | rfl | (simp; done) | (simp [*]; done)), H', ⟨by have := HJ2.out; first | omega | exact Nat.le_refl _⟩, ⟨by (with_reducible repeat (first | apply Kd.R_alloc | apply Kd.R_drewN | apply Kd.R_drew)); exact Kd.R_mono (Kd.R_far (p := ⟨gb259, 1, none⟩) (Kd.R_far (p := ⟨gb259, 0, none⟩) (Kd.R_types HO246.out BK259.out (by decide)) (fun _ hk => hk.2) (.slice Ao31 t252.length co31)) (fun _ hk => hk.2) (.slice Ao36 t255.length co36)) (fun _ hk => hk.1.2)⟩, ⟨by (with_reducible repeat (first | apply Kd.S_alloc | apply Kd.S_drewN | apply Kd.S_drew)); exact Kd.S_mono (Kd.S_far (p := ⟨gb259, 1, none⟩) (Kd.S_far (p := ⟨gb259, 0, none⟩) (Kd.S_types HO249.out BK259.out (by decide)) (fun _ hk => hk.2) (.slice Ao31 t252.length co31)) (fun _ hk => hk.2) (.slice Ao36 t255.length co36)) (fun _ hk => ⟨hk.1.1.1, ⟨hk.1.1.2, hk.1.2⟩⟩)⟩, ⟨by (with_reducible repeat (first | apply Kd.R_alloc | apply Kd.R_drewN | apply Kd.R_drew)); exact Kd.R_mono (Kd.R_far (p := ⟨gb259, 1, none⟩) (Kd.R_far (p := ⟨gb259, 0, none⟩) (Kd.R_types HO254.out BK259.out (by decide)) (fun _ hk => hk.2) (.slice Ao31 t252.length co31)) (fun _ hk => hk.2) (.slice Ao36 t255.length co36)) (fun _ hk => hk.1.2)⟩, ⟨by (with_reducible repeat (first | apply Kd.S_alloc | apply Kd.S_drewN | apply Kd.S_drew)); exact Kd.S_mono (Kd.S_far (p := ⟨gb259, 1, none⟩) (Kd.S_far (p := ⟨gb259, 0, none⟩) (Kd.S_types HO257.out BK259.out (by decide)) (fun _ hk => hk.2) (.slice Ao31 t252.length co31)) (fun _ hk => hk.2) (.slice Ao36 t255.length co36)) (fun _ hk => ⟨hk.1.1.2, ⟨hk.1.2, hk.1.1.1⟩⟩)⟩, ⟨by (with_reducible repeat (first | refine blk_drewN ?_ _ | refine blk_drew ?_ | refine blk_alloc ?_ _)); refine blk_far ?_ NB240_259.out _; (with_reducible repeat (first | refine blk_drewN ?_ _ | refine blk_drew ?_ | refine blk_alloc ?_ _)); refine blk_far ?_ NB240_259.out _; (with_reducible repeat (first | refine blk_drewN ?_ _ | refine blk_drew ?_ | refine blk_alloc ?_ _)); exact BK240.out⟩, ⟨by (with_reducible repeat (first | refine blk_drewN ?_ _ | refine blk_drew ?_ | refine blk_alloc ?_ _)); refine blk_far ?_ NB243_259.out _; (with_reducible repeat (first | refine blk_drewN ?_ _ | refine blk_drew ?_ | refine blk_alloc ?_ _)); refine blk_far ?_ NB243_259.out _; (with_reducible repeat (first | refine blk_drewN ?_ _ | refine blk_drew ?_ | refine blk_alloc ?_ _)); exact BK243.out⟩, ⟨by (with_reducible repeat (first | refine blk_drewN ?_ _ | refine blk_drew ?_ | refine blk_alloc ?_ _)); refine blk_far ?_ NB251_259.out _; (with_reducible repeat (first | refine blk_drewN ?_ _ | refine blk_drew ?_ | refine blk_alloc ?_ _)); refine blk_far ?_ NB251_259.out _; (with_reducible repeat (first | refine blk_drewN ?_ _ | refine blk_drew ?_ | refine blk_alloc ?_ _)); exact BK251.out⟩, ⟨by (with_reducible repeat (first | refine blk_drewN ?_ _ | refine blk_drew ?_ | refine blk_alloc ?_ _)); refine blk_put (cs := #[.slice Ao31 t252.length co31, .slice none 0 0]) ?_ 1 _ rfl; (with_reducible repeat (first | refine blk_drewN ?_ _ | refine blk_drew ?_ | refine blk_alloc ?_ _)); refine blk_put (cs := #[.slice none 0 0, .slice none 0 0]) ?_ 0 _ rfl; (with_reducible repeat (first | refine blk_drewN ?_ _ | refine blk_drew ?_ | refine blk_alloc ?_ _)); exact BK259.out⟩, ⟨by repeat (first | (with_reducible first | exact HB.out | apply below_alloc | apply pw_below_drewN | apply below_drew1 | refine below_set ?_ GE240.out | refine below_set ?_ GE243.out | refine below_set ?_ GE251.out | refine below_set ?_ GE259.out) | exact HB.out)⟩⟩
        case rest =>
          clear HC16
          try clear c1
          try clear c2
          try clear p2
          try clear c3
          try clear c4
          try clear c6
          try clear c11
          try clear c13
          try clear c15
          try clear c16
          try clear c19
          try clear c24
          try clear c25
          try clear c32
          try clear c33
          try clear c34
          try clear c37
          try clear c37b0
          try clear c37b1
          try clear c39
          try clear c40
          try clear c41
          try clear c43
          try clear c44
          try clear c45
          try clear hcz17_0
          try clear hcz17_1
          try clear hcz20_0
          try clear hcz20_1
          try clear hcz26_0
          try clear hcz26_1
          try clear hcz28_0
          try clear hcz28_1
          try clear hcz35_0
          try clear hcz35_1
          try clear hcz42_0
          try clear hcz42_1
          try clear hcz45_0
          try clear hcz45_1
          try clear hcz7_0
          try clear hcz7_1
          try clear hcz9_0
          try clear hcz9_1
          try clear hfz17_0
          try clear hfz17_1
          try clear hfz20_0
          try clear hfz20_1
          try clear hfz26_0
          try clear hfz26_1
          try clear hfz28_0
          try clear hfz28_1
          try clear hfz35_0
          try clear hfz35_1
          try clear hfz42_0
          try clear hfz42_1
          try clear hfz45_0
          try clear hfz45_1
          try clear hfz7_0
          try clear hfz7_1
          try clear hfz9_0
          try clear hfz9_1
          try clear p2
          obtain ⟨kq, x45_15, rfl, HA, HJ15, HO_252000, HO_252001, HO_260000, HO_260001, BK240, BK243, BK251, BK259, HB⟩ := hcut
          cases kq with
          | zero => exact absurd HA.out (by simp [wigeonlaw04_LureExchanges.j1])
          | succ kj15 =>
            have H := HA.out
            clear HA
            simp only [wigeonlaw04_LureExchanges.j1] at H
            by_cases c47 : x45_15 = true
            · subst c47
              have H1 : (some false) = some r := by rw [if_pos rfl] at H; exact H
              clear H
              have H := H1
              clear H1
              obtain rfl := Option.some.inj H
              go_wp2
              go_ret
              exact ⟨by first | rfl | (simp [errW_none, errW_some] <;> rfl) | (simp [*, errW_none, errW_some] <;> rfl), below_step HBw.out (by repeat (first | (with_reducible first | exact HB.out | apply below_alloc | apply pw_below_drewN | apply below_drew1 | refine below_set ?_ GE240.out | refine below_set ?_ GE243.out | refine below_set ?_ GE251.out | refine below_set ?_ GE259.out) | exact HB.out))⟩
            · replace c47 := Bool.eq_false_iff.mpr c47
              subst c47
              have H1 : ((lure_Free.f kj15 l0_0 l0_1 l1).bind fun bt261 => (if t250 = 0 then (wigeonlaw04_LureExchanges.j2 kj15 l1 bt261.1 (bt261.2 != 0) l0_0 l0_1 l0_0 l0_1 t244 t247) else (wigeonlaw04_LureExchanges.j2 kj15 l1 bt261.1 true l0_0 l0_1 l0_0 l0_1 t244 t247))) = some r := by rw [if_neg (show ¬ (false = true) by decide)] at H; exact H
              clear H
              have H := H1
              clear H1
              replace H := Option.bind_eq_some_iff.mp H
              obtain ⟨⟨t261, t264⟩, A480, H⟩ := H
              replace H : (if t250 = 0 then (wigeonlaw04_LureExchanges.j2 kj15 l1 t261 (t264 != 0) l0_0 l0_1 l0_0 l0_1 t244 t247) else (wigeonlaw04_LureExchanges.j2 kj15 l1 t261 true l0_0 l0_1 l0_0 l0_1 t244 t247)) = some r := H
              have A48 := Aside0.mk A480
              clear A480
              have HC49 := Aside0.mk H
              clear H
              have hnb50 := NB240_243.out
              have hnc50 := NB243_240.out
              have hnb51 := NB240_251.out
              have hnc51 := NB251_240.out
              have hnb52 := NB240_259.out
              have hnc52 := NB259_240.out
              have hcz53_0 : wc.cell? ⟨gb240, 0, none⟩ = some (.slice A0_0 l0_0.length c0_0) := (blk_cell BK240.out 0).trans rfl
              have hcz53_1 : wc.cell? ⟨gb240, 1, none⟩ = some (.slice A0_1 l0_1.length c0_1) := (blk_cell BK240.out 1).trans rfl
              have hfz53_0 := blk_frozen BK240.out 0
              have hfz53_1 := blk_frozen BK240.out 1
              go_upto_region 9 with (first | ((with_reducible refine gate_callee (f := 21) rfl ?_); refine goesL_ (some 49) rfl rfl Try.func21 (by kernel_rfl) rfl #[.agg #[.slice A0_0 l0_0.length c0_0, .slice A0_1 l0_1.length c0_1], .slice A1 l1.length c1] rfl (by (try simp only [List.map_toArray, List.map_cons, List.map_nil]); first | done | rfl | (simp only [List.length_drop, List.length_take]; rfl)) ?_; (with_reducible refine (lure_Free.calls kj15 _ _ l0_0 _ _ l0_1 (fun k_ => k_ < w.heap.size) _ _ l1 t261 t264 _ ?side1 ?side2 ?side3 ?side4 ?side5 A48.out).mono ?_); (case side1 => repeat (first | exact (Kd.C_below HR0_0.out HB.out) | (with_reducible refine Kd.C_alloc ?_ _) | (with_reducible refine Kd.C_drewN ?_ _) | (with_reducible refine Kd.C_drew ?_))); (case side2 => exact HC0_0.out); (case side3 => repeat (first | exact (Kd.C_below HR0_1.out HB.out) | (with_reducible refine Kd.C_alloc ?_ _) | (with_reducible refine Kd.C_drewN ?_ _) | (with_reducible refine Kd.C_drew ?_))); (case side4 => exact HC0_1.out); (case side5 => exact Kd.V_mk HC1.out (Kd.F_below (Kd.C_F (Kd.heap_int .i64) HR1.out) (by repeat (first | (with_reducible first | exact HB.out | apply below_alloc | apply pw_below_drewN | apply below_drew1 | refine below_set ?_ GE240.out | refine below_set ?_ GE243.out | refine below_set ?_ GE251.out | refine below_set ?_ GE259.out) | exact HB.out)))); rintro e w54 ⟨v262, rfl, ho0, hb⟩; refine ⟨_, rfl, ?_⟩; have n0_ := Aside0.mk (Kd.R_elder' (by (with_reducible repeat (first | apply Kd.R_alloc | apply Kd.R_drewN | apply Kd.R_drew)); exact HO_252000.out) (Kd.R_base ho0) hb); have n1_ := Aside0.mk (Kd.S_elder' (by (with_reducible repeat (first | apply Kd.S_alloc | apply Kd.S_drewN | apply Kd.S_drew)); exact HO_252001.out) (Kd.R_base ho0) hb); have n2_ := Aside0.mk (Kd.R_elder' (by (with_reducible repeat (first | apply Kd.R_alloc | apply Kd.R_drewN | apply Kd.R_drew)); exact HO_260000.out) (Kd.R_base ho0) hb); have n3_ := Aside0.mk (Kd.S_elder' (by (with_reducible repeat (first | apply Kd.S_alloc | apply Kd.S_drewN | apply Kd.S_drew)); exact HO_260001.out) (Kd.R_base ho0) hb); have n4_ := Aside0.mk (Kd.R_lower (Kd.R_new' (Kd.R_new' (Kd.R_mono (ok' := fun k_ => True) ho0 (fun _ hk_ => trivial)) (Kd.R_lt (by (with_reducible repeat (first | apply Kd.R_alloc | apply Kd.R_drewN | apply Kd.R_drew)); exact HO_252000.out))) (Kd.R_lt (by (with_reducible repeat (first | apply Kd.R_alloc | apply Kd.R_drewN | apply Kd.R_drew)); exact HO_260000.out))) (below_size (by repeat (first | (with_reducible first | exact HB.out | apply below_alloc | apply pw_below_drewN | apply below_drew1 | refine below_set ?_ GE240.out | refine below_set ?_ GE243.out | refine below_set ?_ GE251.out | refine below_set ?_ GE259.out) | exact HB.out)))); have n5_ := Aside0.mk (blk_below (g := gb240) (o := .cells #[.slice A0_0 l0_0.length c0_0, .slice A0_1 l0_1.length c0_1] 25 (0, 0)) (by (with_reducible repeat (first | refine blk_drewN ?_ _ | refine blk_drew ?_ | refine blk_alloc ?_ _)); exact BK240.out) hb); have n6_ := Aside0.mk (blk_below (g := gb243) (o := .cells #[.slice B0 l0_0.length d0, .slice B1 l0_1.length d1] 25 (0, 0)) (by (with_reducible repeat (first | refine blk_drewN ?_ _ | refine blk_drew ?_ | refine blk_alloc ?_ _)); exact BK243.out) hb); have n7_ := Aside0.mk (blk_below (g := gb251) (o := .cells #[.slice Ao23 t244.length co23, .slice Ao27 t247.length co27] 25 (0, 0)) (by (with_reducible repeat (first | refine blk_drewN ?_ _ | refine blk_drew ?_ | refine blk_alloc ?_ _)); exact BK251.out) hb); have n8_ := Aside0.mk (blk_below (g := gb259) (o := .cells #[.slice Ao31 t252.length co31, .slice Ao36 t255.length co36] 25 (0, 0)) (by (with_reducible repeat (first | refine blk_drewN ?_ _ | refine blk_drew ?_ | refine blk_alloc ?_ _)); exact BK259.out) hb); have n9_ := Aside0.mk (below_step (by repeat (first | (with_reducible first | exact HB.out | apply below_alloc | apply pw_below_drewN | apply below_drew1 | refine below_set ?_ GE240.out | refine below_set ?_ GE243.out | refine below_set ?_ GE251.out | refine below_set ?_ GE259.out) | exact HB.out)) hb); clear HO_252000; clear HO_252001; clear HO_260000; clear HO_260001; clear BK240; clear BK243; clear BK251; clear BK259; clear HB; have HO_252000 := n0_; have HO_252001 := n1_; have HO_260000 := n2_; have HO_260001 := n3_; have HO263 := n4_; have BK240 := n5_; have BK243 := n6_; have BK251 := n7_; have BK259 := n8_; have HB := n9_; clear n0_ n1_ n2_ n3_ n4_ n5_ n6_ n7_ n8_ n9_; (try clear hb); (try clear hb2); (try clear hk); (try clear hi); (try clear ho0)))
              (try simp only [Act.put, List.setIfInBounds_toArray, List.set_cons_zero, List.set_cons_succ])
              go_cut [57] (fun v57 wc => ∃ (kq : Nat) (x57_48 : Bool), v57 = .bool x57_48 ∧ Aside0 (wigeonlaw04_LureExchanges.j2 kq l1 t261 x57_48 l0_0 l0_1 l0_0 l0_1 t244 t247 = some r) ∧ Aside0 (kq ≤ kj15) ∧ Aside0 (Kd.R (Kd.int .i64) 3 wc w.heap.size (fun k_ => some k_ ≠ ((.slice Ao23 t244.length co23) : Value).ownBlock ∧ some k_ ≠ ((.slice Ao31 t252.length co31) : Value).ownBlock) v262 t261) ∧ Aside0 (Kd.R (Kd.int .i64) 3 wc w.heap.size (fun k_ => some k_ ≠ (v262 : Value).ownBlock ∧ some k_ ≠ ((.slice Ao31 t252.length co31) : Value).ownBlock) (.slice Ao23 t244.length co23) t244) ∧ Aside0 (Kd.S (Kd.slice 3 (Kd.int .i64)) 22 wc w.heap.size (fun k_ => some k_ ≠ (v262 : Value).ownBlock ∧ some k_ ≠ ((.slice Ao23 t244.length co23) : Value).ownBlock ∧ some k_ ≠ ((.slice Ao31 t252.length co31) : Value).ownBlock ∧ some k_ ≠ ((.slice Ao36 t255.length co36) : Value).ownBlock) (.slice Ao27 t247.length co27) t247) ∧ Aside0 (Kd.R (Kd.int .i64) 3 wc w.heap.size (fun k_ => some k_ ≠ (v262 : Value).ownBlock ∧ some k_ ≠ ((.slice Ao23 t244.length co23) : Value).ownBlock) (.slice Ao31 t252.length co31) t252) ∧ Aside0 (Kd.S (Kd.slice 3 (Kd.int .i64)) 22 wc w.heap.size (fun k_ => some k_ ≠ (v262 : Value).ownBlock ∧ some k_ ≠ ((.slice Ao23 t244.length co23) : Value).ownBlock ∧ some k_ ≠ ((.slice Ao27 t247.length co27) : Value).ownBlock ∧ some k_ ≠ ((.slice Ao31 t252.length co31) : Value).ownBlock) (.slice Ao36 t255.length co36) t255) ∧ Aside0 (wc.heap[gb240]? = some (.cells #[(.slice A0_0 l0_0.length c0_0), (.slice A0_1 l0_1.length c0_1)] 25 (0, 0))) ∧ Aside0 (wc.heap[gb243]? = some (.cells #[(.slice B0 l0_0.length d0), (.slice B1 l0_1.length d1)] 25 (0, 0))) ∧ Aside0 (wc.heap[gb251]? = some (.cells #[(.slice Ao23 t244.length co23), (.slice Ao27 t247.length co27)] 25 (0, 0))) ∧ Aside0 (wc.heap[gb259]? = some (.cells #[(.slice Ao31 t252.length co31), (.slice Ao36 t255.length co36)] 25 (0, 0))) ∧ Aside0 (Below w.heap.size w wc))
              case first =>
                have H := HC49.out
                clear HC49
                by_cases c55 : t250 = 0
                · rw [if_pos c55] at H
                  have c55b0 : (t250 == 0) = true := beq_iff_eq.mpr c55
                  have c55b1 : (t250 != 0) = false := bne_eq_false_iff_eq.mpr c55
                  clear c55
                  (first | rw [c55b0] | (simp only [i64_w, i32_w]; rw [c55b0]) | skip)
                  have H' := Aside0.mk H
                  clear H
                  go_wp2
                  go_meet
                  case rel => exact ⟨_, ((t264 != 0)), (by first | rfl | (simp; done) | (simp [*]; done)), H', ⟨by have := HJ2.out; have := HJ15.out; first | omega | exact Nat.le_refl _⟩, ⟨by (with_reducible repeat (first | apply Kd.R_alloc | apply Kd.R_drewN | apply Kd.R_drew)); exact Kd.R_mono HO263.out (fun _ hk => ⟨hk.1.2, hk.2⟩)⟩, ⟨by (with_reducible repeat (first | apply Kd.R_alloc | apply Kd.R_drewN | apply Kd.R_drew)); exact Kd.R_mono HO_252000.out (fun _ hk => ⟨hk.2, hk.1⟩)⟩, ⟨by (with_reducible repeat (first | apply Kd.S_alloc | apply Kd.S_drewN | apply Kd.S_drew)); exact Kd.S_mono HO_252001.out (fun _ hk => ⟨hk.2, ⟨hk.1.1, ⟨hk.1.2.1, hk.1.2.2⟩⟩⟩)⟩, ⟨by (with_reducible repeat (first | apply Kd.R_alloc | apply Kd.R_drewN | apply Kd.R_drew)); exact Kd.R_mono HO_260000.out (fun _ hk => ⟨hk.2, hk.1⟩)⟩, ⟨by (with_reducible repeat (first | apply Kd.S_alloc | apply Kd.S_drewN | apply Kd.S_drew)); exact Kd.S_mono HO_260001.out (fun _ hk => ⟨hk.2, ⟨hk.1.1, ⟨hk.1.2.1, hk.1.2.2⟩⟩⟩)⟩, ⟨by (with_reducible repeat (first | refine blk_drewN ?_ _ | refine blk_drew ?_ | refine blk_alloc ?_ _)); exact BK240.out⟩, ⟨by (with_reducible repeat (first | refine blk_drewN ?_ _ | refine blk_drew ?_ | refine blk_alloc ?_ _)); exact BK243.out⟩, ⟨by (with_reducible repeat (first | refine blk_drewN ?_ _ | refine blk_drew ?_ | refine blk_alloc ?_ _)); exact BK251.out⟩, ⟨by (with_reducible repeat (first | refine blk_drewN ?_ _ | refine blk_drew ?_ | refine blk_alloc ?_ _)); exact BK259.out⟩, ⟨by repeat (first | (with_reducible first | exact HB.out | apply below_alloc | apply pw_below_drewN | apply below_drew1 | refine below_set ?_ GE240.out | refine below_set ?_ GE243.out | refine below_set ?_ GE251.out | refine below_set ?_ GE259.out) | exact HB.out)⟩⟩
                · rw [if_neg c55] at H
                  have c55b0 : (t250 == 0) = false := beq_eq_false_iff_ne.mpr c55
                  have c55b1 : (t250 != 0) = true := bne_iff_ne.mpr c55
                  (first | rw [c55b0] | (simp only [i64_w, i32_w]; rw [c55b0]) | skip)
                  have H' := Aside0.mk H
                  clear H
                  go_wp2
                  go_meet
                  case rel => exact ⟨_, (true), (by first | rfl | (simp; done) | (simp [*]; done)), H', ⟨by have := HJ2.out; have := HJ15.out; first | omega | exact Nat.le_refl _⟩, ⟨by (with_reducible repeat (first | apply Kd.R_alloc | apply Kd.R_drewN | apply Kd.R_drew)); exact Kd.R_mono HO263.out (fun _ hk => ⟨hk.1.2, hk.2⟩)⟩, ⟨by (with_reducible repeat (first | apply Kd.R_alloc | apply Kd.R_drewN | apply Kd.R_drew)); exact Kd.R_mono HO_252000.out (fun _ hk => ⟨hk.2, hk.1⟩)⟩, ⟨by (with_reducible repeat (first | apply Kd.S_alloc | apply Kd.S_drewN | apply Kd.S_drew)); exact Kd.S_mono HO_252001.out (fun _ hk => ⟨hk.2, ⟨hk.1.1, ⟨hk.1.2.1, hk.1.2.2⟩⟩⟩)⟩, ⟨by (with_reducible repeat (first | apply Kd.R_alloc | apply Kd.R_drewN | apply Kd.R_drew)); exact Kd.R_mono HO_260000.out (fun _ hk => ⟨hk.2, hk.1⟩)⟩, ⟨by (with_reducible repeat (first | apply Kd.S_alloc | apply Kd.S_drewN | apply Kd.S_drew)); exact Kd.S_mono HO_260001.out (fun _ hk => ⟨hk.2, ⟨hk.1.1, ⟨hk.1.2.1, hk.1.2.2⟩⟩⟩)⟩, ⟨by (with_reducible repeat (first | refine blk_drewN ?_ _ | refine blk_drew ?_ | refine blk_alloc ?_ _)); exact BK240.out⟩, ⟨by (with_reducible repeat (first | refine blk_drewN ?_ _ | refine blk_drew ?_ | refine blk_alloc ?_ _)); exact BK243.out⟩, ⟨by (with_reducible repeat (first | refine blk_drewN ?_ _ | refine blk_drew ?_ | refine blk_alloc ?_ _)); exact BK251.out⟩, ⟨by (with_reducible repeat (first | refine blk_drewN ?_ _ | refine blk_drew ?_ | refine blk_alloc ?_ _)); exact BK259.out⟩, ⟨by repeat (first | (with_reducible first | exact HB.out | apply below_alloc | apply pw_below_drewN | apply below_drew1 | refine below_set ?_ GE240.out | refine below_set ?_ GE243.out | refine below_set ?_ GE251.out | refine below_set ?_ GE259.out) | exact HB.out)⟩⟩
              case rest =>
                clear HC49
                try clear c1
                try clear c2
                try clear p2
                try clear c3
                try clear c4
                try clear c5
                try clear c6
                try clear c11
                try clear c13
                try clear c15
                try clear c16
                try clear c19
                try clear c21
                try clear c24
                try clear c25
                try clear c32
                try clear c33
                try clear c34
                try clear c37
                try clear c37b0
                try clear c37b1
                try clear c39
                try clear c40
                try clear c41
                try clear c43
                try clear c44
                try clear c45
                try clear c47
                try clear c50
                try clear c51
                try clear c52
                try clear c55
                try clear c55b0
                try clear c55b1
                try clear hcz17_0
                try clear hcz17_1
                try clear hcz20_0
                try clear hcz20_1
                try clear hcz26_0
                try clear hcz26_1
                try clear hcz28_0
                try clear hcz28_1
                try clear hcz35_0
                try clear hcz35_1
                try clear hcz42_0
                try clear hcz42_1
                try clear hcz45_0
                try clear hcz45_1
                try clear hcz53_0
                try clear hcz53_1
                try clear hcz7_0
                try clear hcz7_1
                try clear hcz9_0
                try clear hcz9_1
                try clear hfz17_0
                try clear hfz17_1
                try clear hfz20_0
                try clear hfz20_1
                try clear hfz26_0
                try clear hfz26_1
                try clear hfz28_0
                try clear hfz28_1
                try clear hfz35_0
                try clear hfz35_1
                try clear hfz42_0
                try clear hfz42_1
                try clear hfz45_0
                try clear hfz45_1
                try clear hfz53_0
                try clear hfz53_1
                try clear hfz7_0
                try clear hfz7_1
                try clear hfz9_0
                try clear hfz9_1
                try clear p2
                obtain ⟨kq, x57_48, rfl, HA, HJ48, HO_10, HO_252000, HO_252001, HO_260000, HO_260001, BK240, BK243, BK251, BK259, HB⟩ := hcut
                cases kq with
                | zero => exact absurd HA.out (by simp [wigeonlaw04_LureExchanges.j2])
                | succ kj48 =>
                  have H := HA.out
                  clear HA
                  simp only [wigeonlaw04_LureExchanges.j2] at H
                  by_cases c56 : x57_48 = true
                  · subst c56
                    have H1 : ((wigeonref04_Same.f kj48 l0_0 l0_1 l0_0 l0_1).bind fun t265 => (if t265 = true then ((wigeonlaw04_known.f kj48).bind fun t266 => (some t266)) else (some false))) = some r := by rw [if_pos rfl] at H; exact H
                    clear H
                    have H := H1
                    clear H1
                    replace H := Option.bind_eq_some_iff.mp H
                    obtain ⟨t265, A570, H⟩ := H
                    replace H : (if t265 = true then ((wigeonlaw04_known.f kj48).bind fun t266 => (some t266)) else (some false)) = some r := H
                    have A57 := Aside0.mk A570
                    clear A570
                    by_cases c58 : t265 = true
                    · subst c58
                      have H1 : ((wigeonlaw04_known.f kj48).bind fun t266 => (some t266)) = some r := by rw [if_pos rfl] at H; exact H
                      clear H
                      have H := H1
                      clear H1
                      replace H := Option.bind_eq_some_iff.mp H
                      obtain ⟨t266, A590, H⟩ := H
                      replace H : (some t266) = some r := H
                      have A59 := Aside0.mk A590
                      clear A590
                      obtain rfl := Option.some.inj H
                      have hnb60 := NB243_240.out
                      have hnc60 := NB240_243.out
                      have hnb61 := NB243_251.out
                      have hnc61 := NB251_243.out
                      have hnb62 := NB243_259.out
                      have hnc62 := NB259_243.out
                      have hcz63_0 : wc.cell? ⟨gb243, 0, none⟩ = some (.slice B0 l0_0.length d0) := (blk_cell BK243.out 0).trans rfl
                      have hcz63_1 : wc.cell? ⟨gb243, 1, none⟩ = some (.slice B1 l0_1.length d1) := (blk_cell BK243.out 1).trans rfl
                      have hfz63_0 := blk_frozen BK243.out 0
                      have hfz63_1 := blk_frozen BK243.out 1
                      have hnb64 := NB240_251.out
                      have hnc64 := NB251_240.out
                      have hnb65 := NB240_259.out
                      have hnc65 := NB259_240.out
                      have hcz66_0 : wc.cell? ⟨gb240, 0, none⟩ = some (.slice A0_0 l0_0.length c0_0) := (blk_cell BK240.out 0).trans rfl
                      have hcz66_1 : wc.cell? ⟨gb240, 1, none⟩ = some (.slice A0_1 l0_1.length c0_1) := (blk_cell BK240.out 1).trans rfl
                      have hfz66_0 := blk_frozen BK240.out 0
                      have hfz66_1 := blk_frozen BK240.out 1
                      go_wp2_with (first | ((with_reducible refine gate_callee (f := 46) rfl ?_); refine goesL_ (some 60) rfl rfl Try.func46 (by kernel_rfl) rfl #[.agg #[.slice B0 l0_0.length d0, .slice B1 l0_1.length d1], .agg #[.slice A0_0 l0_0.length c0_0, .slice A0_1 l0_1.length c0_1]] rfl (by (try simp only [List.map_toArray, List.map_cons, List.map_nil]); first | done | rfl | (simp only [List.length_drop, List.length_take]; rfl)) ?_; (with_reducible refine (wigeonref04_Same.calls kj48 _ _ l0_0 _ _ l0_1 _ _ l0_0 _ _ l0_1 true _ ?side1 ?side2 ?side3 ?side4 ?side5 ?side6 ?side7 ?side8 A57.out).mono ?_); (case side1 => repeat (first | exact (Kd.C_below HRo_0.out HB.out) | (with_reducible refine Kd.C_alloc ?_ _) | (with_reducible refine Kd.C_drewN ?_ _) | (with_reducible refine Kd.C_drew ?_))); (case side2 => exact HCo_0.out); (case side3 => repeat (first | exact (Kd.C_below HRo_1.out HB.out) | (with_reducible refine Kd.C_alloc ?_ _) | (with_reducible refine Kd.C_drewN ?_ _) | (with_reducible refine Kd.C_drew ?_))); (case side4 => exact HCo_1.out); (case side5 => repeat (first | exact (Kd.C_below HR0_0.out HB.out) | (with_reducible refine Kd.C_alloc ?_ _) | (with_reducible refine Kd.C_drewN ?_ _) | (with_reducible refine Kd.C_drew ?_))); (case side6 => exact HC0_0.out); (case side7 => repeat (first | exact (Kd.C_below HR0_1.out HB.out) | (with_reducible refine Kd.C_alloc ?_ _) | (with_reducible refine Kd.C_drewN ?_ _) | (with_reducible refine Kd.C_drew ?_))); (case side8 => exact HC0_1.out); rintro e w67 ⟨rfl, hb⟩; refine ⟨_, rfl, ?_⟩; have n0_ := Aside0.mk (Kd.R_below (by (with_reducible repeat (first | apply Kd.R_alloc | apply Kd.R_drewN | apply Kd.R_drew)); exact HO_10.out) hb); have n1_ := Aside0.mk (Kd.R_below (by (with_reducible repeat (first | apply Kd.R_alloc | apply Kd.R_drewN | apply Kd.R_drew)); exact HO_252000.out) hb); have n2_ := Aside0.mk (Kd.S_below (by (with_reducible repeat (first | apply Kd.S_alloc | apply Kd.S_drewN | apply Kd.S_drew)); exact HO_252001.out) hb); have n3_ := Aside0.mk (Kd.R_below (by (with_reducible repeat (first | apply Kd.R_alloc | apply Kd.R_drewN | apply Kd.R_drew)); exact HO_260000.out) hb); have n4_ := Aside0.mk (Kd.S_below (by (with_reducible repeat (first | apply Kd.S_alloc | apply Kd.S_drewN | apply Kd.S_drew)); exact HO_260001.out) hb); have n5_ := Aside0.mk (blk_below (g := gb240) (o := .cells #[.slice A0_0 l0_0.length c0_0, .slice A0_1 l0_1.length c0_1] 25 (0, 0)) (by (with_reducible repeat (first | refine blk_drewN ?_ _ | refine blk_drew ?_ | refine blk_alloc ?_ _)); exact BK240.out) hb); have n6_ := Aside0.mk (blk_below (g := gb243) (o := .cells #[.slice B0 l0_0.length d0, .slice B1 l0_1.length d1] 25 (0, 0)) (by (with_reducible repeat (first | refine blk_drewN ?_ _ | refine blk_drew ?_ | refine blk_alloc ?_ _)); exact BK243.out) hb); have n7_ := Aside0.mk (blk_below (g := gb251) (o := .cells #[.slice Ao23 t244.length co23, .slice Ao27 t247.length co27] 25 (0, 0)) (by (with_reducible repeat (first | refine blk_drewN ?_ _ | refine blk_drew ?_ | refine blk_alloc ?_ _)); exact BK251.out) hb); have n8_ := Aside0.mk (blk_below (g := gb259) (o := .cells #[.slice Ao31 t252.length co31, .slice Ao36 t255.length co36] 25 (0, 0)) (by (with_reducible repeat (first | refine blk_drewN ?_ _ | refine blk_drew ?_ | refine blk_alloc ?_ _)); exact BK259.out) hb); have n9_ := Aside0.mk (below_step (by repeat (first | (with_reducible first | exact HB.out | apply below_alloc | apply pw_below_drewN | apply below_drew1 | refine below_set ?_ GE240.out | refine below_set ?_ GE243.out | refine below_set ?_ GE251.out | refine below_set ?_ GE259.out) | exact HB.out)) hb); clear HO_10; clear HO_252000; clear HO_252001; clear HO_260000; clear HO_260001; clear BK240; clear BK243; clear BK251; clear BK259; clear HB; have HO_10 := n0_; have HO_252000 := n1_; have HO_252001 := n2_; have HO_260000 := n3_; have HO_260001 := n4_; have BK240 := n5_; have BK243 := n6_; have BK251 := n7_; have BK259 := n8_; have HB := n9_; clear n0_ n1_ n2_ n3_ n4_ n5_ n6_ n7_ n8_ n9_; (try clear hb); (try clear hb2); (try clear hk); (try clear hi)) | (go_at_call 16; (with_reducible refine (wigeonlaw04_known.calls kj48  t266 _ A59.out).mono ?_); rintro e w68 ⟨rfl, hb⟩; have n0_ := Aside0.mk (Kd.R_below (by (with_reducible repeat (first | apply Kd.R_alloc | apply Kd.R_drewN | apply Kd.R_drew)); exact HO_10.out) hb); have n1_ := Aside0.mk (Kd.R_below (by (with_reducible repeat (first | apply Kd.R_alloc | apply Kd.R_drewN | apply Kd.R_drew)); exact HO_252000.out) hb); have n2_ := Aside0.mk (Kd.S_below (by (with_reducible repeat (first | apply Kd.S_alloc | apply Kd.S_drewN | apply Kd.S_drew)); exact HO_252001.out) hb); have n3_ := Aside0.mk (Kd.R_below (by (with_reducible repeat (first | apply Kd.R_alloc | apply Kd.R_drewN | apply Kd.R_drew)); exact HO_260000.out) hb); have n4_ := Aside0.mk (Kd.S_below (by (with_reducible repeat (first | apply Kd.S_alloc | apply Kd.S_drewN | apply Kd.S_drew)); exact HO_260001.out) hb); have n5_ := Aside0.mk (blk_below (g := gb240) (o := .cells #[.slice A0_0 l0_0.length c0_0, .slice A0_1 l0_1.length c0_1] 25 (0, 0)) (by (with_reducible repeat (first | refine blk_drewN ?_ _ | refine blk_drew ?_ | refine blk_alloc ?_ _)); exact BK240.out) hb); have n6_ := Aside0.mk (blk_below (g := gb243) (o := .cells #[.slice B0 l0_0.length d0, .slice B1 l0_1.length d1] 25 (0, 0)) (by (with_reducible repeat (first | refine blk_drewN ?_ _ | refine blk_drew ?_ | refine blk_alloc ?_ _)); exact BK243.out) hb); have n7_ := Aside0.mk (blk_below (g := gb251) (o := .cells #[.slice Ao23 t244.length co23, .slice Ao27 t247.length co27] 25 (0, 0)) (by (with_reducible repeat (first | refine blk_drewN ?_ _ | refine blk_drew ?_ | refine blk_alloc ?_ _)); exact BK251.out) hb); have n8_ := Aside0.mk (blk_below (g := gb259) (o := .cells #[.slice Ao31 t252.length co31, .slice Ao36 t255.length co36] 25 (0, 0)) (by (with_reducible repeat (first | refine blk_drewN ?_ _ | refine blk_drew ?_ | refine blk_alloc ?_ _)); exact BK259.out) hb); have n9_ := Aside0.mk (below_step (by repeat (first | (with_reducible first | exact HB.out | apply below_alloc | apply pw_below_drewN | apply below_drew1 | refine below_set ?_ GE240.out | refine below_set ?_ GE243.out | refine below_set ?_ GE251.out | refine below_set ?_ GE259.out) | exact HB.out)) hb); clear HO_10; clear HO_252000; clear HO_252001; clear HO_260000; clear HO_260001; clear BK240; clear BK243; clear BK251; clear BK259; clear HB; have HO_10 := n0_; have HO_252000 := n1_; have HO_252001 := n2_; have HO_260000 := n3_; have HO_260001 := n4_; have BK240 := n5_; have BK243 := n6_; have BK251 := n7_; have BK259 := n8_; have HB := n9_; clear n0_ n1_ n2_ n3_ n4_ n5_ n6_ n7_ n8_ n9_; (try clear hb); (try clear hb2); (try clear hk); (try clear hi)))
                      go_ret
                      exact ⟨by first | rfl | (simp [errW_none, errW_some] <;> rfl) | (simp [*, errW_none, errW_some] <;> rfl), below_step HBw.out (by repeat (first | (with_reducible first | exact HB.out | apply below_alloc | apply pw_below_drewN | apply below_drew1 | refine below_set ?_ GE240.out | refine below_set ?_ GE243.out | refine below_set ?_ GE251.out | refine below_set ?_ GE259.out) | exact HB.out))⟩
                    · replace c58 := Bool.eq_false_iff.mpr c58
                      subst c58
                      have H1 : (some false) = some r := by rw [if_neg (show ¬ (false = true) by decide)] at H; exact H
                      clear H
                      have H := H1
                      clear H1
                      obtain rfl := Option.some.inj H
                      have hnb69 := NB243_240.out
                      have hnc69 := NB240_243.out
                      have hnb70 := NB243_251.out
                      have hnc70 := NB251_243.out
                      have hnb71 := NB243_259.out
                      have hnc71 := NB259_243.out
                      have hcz72_0 : wc.cell? ⟨gb243, 0, none⟩ = some (.slice B0 l0_0.length d0) := (blk_cell BK243.out 0).trans rfl
                      have hcz72_1 : wc.cell? ⟨gb243, 1, none⟩ = some (.slice B1 l0_1.length d1) := (blk_cell BK243.out 1).trans rfl
                      have hfz72_0 := blk_frozen BK243.out 0
                      have hfz72_1 := blk_frozen BK243.out 1
                      have hnb73 := NB240_251.out
                      have hnc73 := NB251_240.out
                      have hnb74 := NB240_259.out
                      have hnc74 := NB259_240.out
                      have hcz75_0 : wc.cell? ⟨gb240, 0, none⟩ = some (.slice A0_0 l0_0.length c0_0) := (blk_cell BK240.out 0).trans rfl
                      have hcz75_1 : wc.cell? ⟨gb240, 1, none⟩ = some (.slice A0_1 l0_1.length c0_1) := (blk_cell BK240.out 1).trans rfl
                      have hfz75_0 := blk_frozen BK240.out 0
                      have hfz75_1 := blk_frozen BK240.out 1
                      go_wp2_with (first | ((with_reducible refine gate_callee (f := 46) rfl ?_); refine goesL_ (some 60) rfl rfl Try.func46 (by kernel_rfl) rfl #[.agg #[.slice B0 l0_0.length d0, .slice B1 l0_1.length d1], .agg #[.slice A0_0 l0_0.length c0_0, .slice A0_1 l0_1.length c0_1]] rfl (by (try simp only [List.map_toArray, List.map_cons, List.map_nil]); first | done | rfl | (simp only [List.length_drop, List.length_take]; rfl)) ?_; (with_reducible refine (wigeonref04_Same.calls kj48 _ _ l0_0 _ _ l0_1 _ _ l0_0 _ _ l0_1 false _ ?side1 ?side2 ?side3 ?side4 ?side5 ?side6 ?side7 ?side8 A57.out).mono ?_); (case side1 => repeat (first | exact (Kd.C_below HRo_0.out HB.out) | (with_reducible refine Kd.C_alloc ?_ _) | (with_reducible refine Kd.C_drewN ?_ _) | (with_reducible refine Kd.C_drew ?_))); (case side2 => exact HCo_0.out); (case side3 => repeat (first | exact (Kd.C_below HRo_1.out HB.out) | (with_reducible refine Kd.C_alloc ?_ _) | (with_reducible refine Kd.C_drewN ?_ _) | (with_reducible refine Kd.C_drew ?_))); (case side4 => exact HCo_1.out); (case side5 => repeat (first | exact (Kd.C_below HR0_0.out HB.out) | (with_reducible refine Kd.C_alloc ?_ _) | (with_reducible refine Kd.C_drewN ?_ _) | (with_reducible refine Kd.C_drew ?_))); (case side6 => exact HC0_0.out); (case side7 => repeat (first | exact (Kd.C_below HR0_1.out HB.out) | (with_reducible refine Kd.C_alloc ?_ _) | (with_reducible refine Kd.C_drewN ?_ _) | (with_reducible refine Kd.C_drew ?_))); (case side8 => exact HC0_1.out); rintro e w76 ⟨rfl, hb⟩; refine ⟨_, rfl, ?_⟩; have n0_ := Aside0.mk (Kd.R_below (by (with_reducible repeat (first | apply Kd.R_alloc | apply Kd.R_drewN | apply Kd.R_drew)); exact HO_10.out) hb); have n1_ := Aside0.mk (Kd.R_below (by (with_reducible repeat (first | apply Kd.R_alloc | apply Kd.R_drewN | apply Kd.R_drew)); exact HO_252000.out) hb); have n2_ := Aside0.mk (Kd.S_below (by (with_reducible repeat (first | apply Kd.S_alloc | apply Kd.S_drewN | apply Kd.S_drew)); exact HO_252001.out) hb); have n3_ := Aside0.mk (Kd.R_below (by (with_reducible repeat (first | apply Kd.R_alloc | apply Kd.R_drewN | apply Kd.R_drew)); exact HO_260000.out) hb); have n4_ := Aside0.mk (Kd.S_below (by (with_reducible repeat (first | apply Kd.S_alloc | apply Kd.S_drewN | apply Kd.S_drew)); exact HO_260001.out) hb); have n5_ := Aside0.mk (blk_below (g := gb240) (o := .cells #[.slice A0_0 l0_0.length c0_0, .slice A0_1 l0_1.length c0_1] 25 (0, 0)) (by (with_reducible repeat (first | refine blk_drewN ?_ _ | refine blk_drew ?_ | refine blk_alloc ?_ _)); exact BK240.out) hb); have n6_ := Aside0.mk (blk_below (g := gb243) (o := .cells #[.slice B0 l0_0.length d0, .slice B1 l0_1.length d1] 25 (0, 0)) (by (with_reducible repeat (first | refine blk_drewN ?_ _ | refine blk_drew ?_ | refine blk_alloc ?_ _)); exact BK243.out) hb); have n7_ := Aside0.mk (blk_below (g := gb251) (o := .cells #[.slice Ao23 t244.length co23, .slice Ao27 t247.length co27] 25 (0, 0)) (by (with_reducible repeat (first | refine blk_drewN ?_ _ | refine blk_drew ?_ | refine blk_alloc ?_ _)); exact BK251.out) hb); have n8_ := Aside0.mk (blk_below (g := gb259) (o := .cells #[.slice Ao31 t252.length co31, .slice Ao36 t255.length co36] 25 (0, 0)) (by (with_reducible repeat (first | refine blk_drewN ?_ _ | refine blk_drew ?_ | refine blk_alloc ?_ _)); exact BK259.out) hb); have n9_ := Aside0.mk (below_step (by repeat (first | (with_reducible first | exact HB.out | apply below_alloc | apply pw_below_drewN | apply below_drew1 | refine below_set ?_ GE240.out | refine below_set ?_ GE243.out | refine below_set ?_ GE251.out | refine below_set ?_ GE259.out) | exact HB.out)) hb); clear HO_10; clear HO_252000; clear HO_252001; clear HO_260000; clear HO_260001; clear BK240; clear BK243; clear BK251; clear BK259; clear HB; have HO_10 := n0_; have HO_252000 := n1_; have HO_252001 := n2_; have HO_260000 := n3_; have HO_260001 := n4_; have BK240 := n5_; have BK243 := n6_; have BK251 := n7_; have BK259 := n8_; have HB := n9_; clear n0_ n1_ n2_ n3_ n4_ n5_ n6_ n7_ n8_ n9_; (try clear hb); (try clear hb2); (try clear hk); (try clear hi)))
                      go_ret
                      exact ⟨by first | rfl | (simp [errW_none, errW_some] <;> rfl) | (simp [*, errW_none, errW_some] <;> rfl), below_step HBw.out (by repeat (first | (with_reducible first | exact HB.out | apply below_alloc | apply pw_below_drewN | apply below_drew1 | refine below_set ?_ GE240.out | refine below_set ?_ GE243.out | refine below_set ?_ GE251.out | refine below_set ?_ GE259.out) | exact HB.out))⟩
                  · replace c56 := Bool.eq_false_iff.mpr c56
                    subst c56
                    have H1 : (wigeonlaw04_LureExchanges.l0 kj48 l1 t261 ([] : List Int) 0 l0_0 l0_1 l0_0 l0_1 t244 t247) = some r := by rw [if_neg (show ¬ (false = true) by decide)] at H; exact H
                    clear H
                    have H := H1
                    clear H1
                    have H' := Aside0.mk H
                    clear H
                    go_wp2
                    go_loopg [12, 13] kj48 (fun kq v12 v13 w' => ∃ (x12_4 : List Int) (x13_4 : Int), v13 = .int .i64 x13_4 ∧ Aside0 (wigeonlaw04_LureExchanges.l0 kq l1 t261 x12_4 x13_4 l0_0 l0_1 l0_0 l0_1 t244 t247 = some r) ∧ Aside0 (kq ≤ kj48) ∧ Aside0 (Kd.R (Kd.int .i64) 3 w' w.heap.size (fun k_ => some k_ ≠ (v12 : Value).ownBlock ∧ some k_ ≠ ((.slice Ao23 t244.length co23) : Value).ownBlock ∧ some k_ ≠ ((.slice Ao31 t252.length co31) : Value).ownBlock) v262 t261) ∧ Aside0 (Kd.R (Kd.int .i64) 3 w' w.heap.size (fun k_ => some k_ ≠ (v262 : Value).ownBlock ∧ some k_ ≠ ((.slice Ao23 t244.length co23) : Value).ownBlock ∧ some k_ ≠ ((.slice Ao31 t252.length co31) : Value).ownBlock) v12 x12_4) ∧ Aside0 (Kd.R (Kd.int .i64) 3 w' w.heap.size (fun k_ => some k_ ≠ (v262 : Value).ownBlock ∧ some k_ ≠ (v12 : Value).ownBlock ∧ some k_ ≠ ((.slice Ao31 t252.length co31) : Value).ownBlock) (.slice Ao23 t244.length co23) t244) ∧ Aside0 (Kd.S (Kd.slice 3 (Kd.int .i64)) 22 w' w.heap.size (fun k_ => some k_ ≠ (v262 : Value).ownBlock ∧ some k_ ≠ (v12 : Value).ownBlock ∧ some k_ ≠ ((.slice Ao23 t244.length co23) : Value).ownBlock ∧ some k_ ≠ ((.slice Ao31 t252.length co31) : Value).ownBlock ∧ some k_ ≠ ((.slice Ao36 t255.length co36) : Value).ownBlock) (.slice Ao27 t247.length co27) t247) ∧ Aside0 (Kd.R (Kd.int .i64) 3 w' w.heap.size (fun k_ => some k_ ≠ (v262 : Value).ownBlock ∧ some k_ ≠ (v12 : Value).ownBlock ∧ some k_ ≠ ((.slice Ao23 t244.length co23) : Value).ownBlock) (.slice Ao31 t252.length co31) t252) ∧ Aside0 (Kd.S (Kd.slice 3 (Kd.int .i64)) 22 w' w.heap.size (fun k_ => some k_ ≠ (v262 : Value).ownBlock ∧ some k_ ≠ (v12 : Value).ownBlock ∧ some k_ ≠ ((.slice Ao23 t244.length co23) : Value).ownBlock ∧ some k_ ≠ ((.slice Ao27 t247.length co27) : Value).ownBlock ∧ some k_ ≠ ((.slice Ao31 t252.length co31) : Value).ownBlock) (.slice Ao36 t255.length co36) t255) ∧ Aside0 (w'.heap[gb240]? = some (.cells #[(.slice A0_0 l0_0.length c0_0), (.slice A0_1 l0_1.length c0_1)] 25 (0, 0))) ∧ Aside0 (w'.heap[gb243]? = some (.cells #[(.slice B0 l0_0.length d0), (.slice B1 l0_1.length d1)] 25 (0, 0))) ∧ Aside0 (w'.heap[gb251]? = some (.cells #[(.slice Ao23 t244.length co23), (.slice Ao27 t247.length co27)] 25 (0, 0))) ∧ Aside0 (w'.heap[gb259]? = some (.cells #[(.slice Ao31 t252.length co31), (.slice Ao36 t255.length co36)] 25 (0, 0))) ∧ Aside0 (Below w.heap.size w w'))
                    case atStart => exact ⟨(([] : List Int)), (0), (by first | rfl | (simp; done) | (simp [*]; done)), H', ⟨Nat.le_refl _⟩, ⟨by (with_reducible repeat (first | apply Kd.R_alloc | apply Kd.R_drewN | apply Kd.R_drew)); exact Kd.R_mono HO_10.out (fun _ hk => ⟨(by simp [Value.ownBlock]), ⟨hk.1, hk.2⟩⟩)⟩, ⟨by first | exact Kd.R_nil _ _ _ _ _ | exact Kd.N_nil _ _ _ _ _ | exact Kd.V_nil _ _ _ _ _ | exact Kd.Q_nil _ _ _ _ _ | exact Kd.S_nil _ _ _ _ _⟩, ⟨by (with_reducible repeat (first | apply Kd.R_alloc | apply Kd.R_drewN | apply Kd.R_drew)); exact Kd.R_mono HO_252000.out (fun _ hk => ⟨hk.1, ⟨(by simp [Value.ownBlock]), hk.2⟩⟩)⟩, ⟨by (with_reducible repeat (first | apply Kd.S_alloc | apply Kd.S_drewN | apply Kd.S_drew)); exact Kd.S_mono HO_252001.out (fun _ hk => ⟨hk.1, ⟨(by simp [Value.ownBlock]), ⟨hk.2.1, ⟨hk.2.2.1, hk.2.2.2⟩⟩⟩⟩)⟩, ⟨by (with_reducible repeat (first | apply Kd.R_alloc | apply Kd.R_drewN | apply Kd.R_drew)); exact Kd.R_mono HO_260000.out (fun _ hk => ⟨hk.1, ⟨(by simp [Value.ownBlock]), hk.2⟩⟩)⟩, ⟨by (with_reducible repeat (first | apply Kd.S_alloc | apply Kd.S_drewN | apply Kd.S_drew)); exact Kd.S_mono HO_260001.out (fun _ hk => ⟨hk.1, ⟨(by simp [Value.ownBlock]), ⟨hk.2.1, ⟨hk.2.2.1, hk.2.2.2⟩⟩⟩⟩)⟩, ⟨by (with_reducible repeat (first | refine blk_drewN ?_ _ | refine blk_drew ?_ | refine blk_alloc ?_ _)); exact BK240.out⟩, ⟨by (with_reducible repeat (first | refine blk_drewN ?_ _ | refine blk_drew ?_ | refine blk_alloc ?_ _)); exact BK243.out⟩, ⟨by (with_reducible repeat (first | refine blk_drewN ?_ _ | refine blk_drew ?_ | refine blk_alloc ?_ _)); exact BK251.out⟩, ⟨by (with_reducible repeat (first | refine blk_drewN ?_ _ | refine blk_drew ?_ | refine blk_alloc ?_ _)); exact BK259.out⟩, ⟨by repeat (first | (with_reducible first | exact HB.out | apply below_alloc | apply pw_below_drewN | apply below_drew1 | refine below_set ?_ GE240.out | refine below_set ?_ GE243.out | refine below_set ?_ GE251.out | refine below_set ?_ GE259.out) | exact HB.out)⟩⟩
                    case round =>
                      clear H'
                      try clear c1
                      try clear c2
                      try clear p2
                      try clear c3
                      try clear c4
                      try clear c5
                      try clear c6
                      try clear c7
                      try clear c11
                      try clear c13
                      try clear c15
                      try clear c16
                      try clear c19
                      try clear c21
                      try clear c24
                      try clear c25
                      try clear c32
                      try clear c33
                      try clear c34
                      try clear c37
                      try clear c37b0
                      try clear c37b1
                      try clear c39
                      try clear c40
                      try clear c41
                      try clear c43
                      try clear c44
                      try clear c45
                      try clear c46
                      try clear c47
                      try clear c50
                      try clear c51
                      try clear c52
                      try clear c55
                      try clear c55b0
                      try clear c55b1
                      try clear c56
                      try clear c58
                      try clear c60
                      try clear c61
                      try clear c62
                      try clear c64
                      try clear c65
                      try clear c69
                      try clear c70
                      try clear c71
                      try clear c73
                      try clear c74
                      try clear hcz17_0
                      try clear hcz17_1
                      try clear hcz20_0
                      try clear hcz20_1
                      try clear hcz26_0
                      try clear hcz26_1
                      try clear hcz28_0
                      try clear hcz28_1
                      try clear hcz35_0
                      try clear hcz35_1
                      try clear hcz42_0
                      try clear hcz42_1
                      try clear hcz45_0
                      try clear hcz45_1
                      try clear hcz53_0
                      try clear hcz53_1
                      try clear hcz63_0
                      try clear hcz63_1
                      try clear hcz66_0
                      try clear hcz66_1
                      try clear hcz72_0
                      try clear hcz72_1
                      try clear hcz75_0
                      try clear hcz75_1
                      try clear hcz7_0
                      try clear hcz7_1
                      try clear hcz9_0
                      try clear hcz9_1
                      try clear hfz17_0
                      try clear hfz17_1
                      try clear hfz20_0
                      try clear hfz20_1
                      try clear hfz26_0
                      try clear hfz26_1
                      try clear hfz28_0
                      try clear hfz28_1
                      try clear hfz35_0
                      try clear hfz35_1
                      try clear hfz42_0
                      try clear hfz42_1
                      try clear hfz45_0
                      try clear hfz45_1
                      try clear hfz53_0
                      try clear hfz53_1
                      try clear hfz63_0
                      try clear hfz63_1
                      try clear hfz66_0
                      try clear hfz66_1
                      try clear hfz72_0
                      try clear hfz72_1
                      try clear hfz75_0
                      try clear hfz75_1
                      try clear hfz7_0
                      try clear hfz7_1
                      try clear hfz9_0
                      try clear hfz9_1
                      try clear p2
                      obtain ⟨x12_4, x13_4, rfl, HA, HK4, HO_10, HO_12, HO_252000, HO_252001, HO_260000, HO_260001, BK240, BK243, BK251, BK259, HB⟩ := hrel
                      cases gk with
                      | zero => exact absurd HA.out (by simp [wigeonlaw04_LureExchanges.l0])
                      | succ k4 =>
                        have H := HA.out
                        clear HA
                        simp only [wigeonlaw04_LureExchanges.l0] at H
                        by_cases c77 : x13_4 < (l0_0.length : Int)
                        · rw [if_pos c77] at H
                          have c77b0 : decide (x13_4 < (l0_0.length : Int)) = true := decide_eq_true c77
                          clear c77
                          replace H := Option.bind_eq_some_iff.mp H
                          obtain ⟨t267, A780, H⟩ := H
                          replace H : (if t267 = true then (wigeonlaw04_LureExchanges.l0 k4 l1 t261 x12_4 (wrap64 (x13_4 + 1)) l0_0 l0_1 l0_0 l0_1 t244 t247) else (if x12_4.length < 17592186044416 then (wigeonlaw04_LureExchanges.l0 k4 l1 t261 (x12_4 ++ [x13_4]) (wrap64 (x13_4 + 1)) l0_0 l0_1 l0_0 l0_1 t244 t247) else (none))) = some r := H
                          have A78 := Aside0.mk A780
                          clear A780
                          by_cases c79 : t267 = true
                          · subst c79
                            have H1 : (wigeonlaw04_LureExchanges.l0 k4 l1 t261 x12_4 (wrap64 (x13_4 + 1)) l0_0 l0_1 l0_0 l0_1 t244 t247) = some r := by rw [if_pos rfl] at H; exact H
                            clear H
                            have H := H1
                            clear H1
                            have H' := Aside0.mk H
                            clear H
                            have hnb80 := NB240_243.out
                            have hnc80 := NB243_240.out
                            have hnb81 := NB240_251.out
                            have hnc81 := NB251_240.out
                            have hnb82 := NB240_259.out
                            have hnc82 := NB259_240.out
                            have hcz83_0 : wr.cell? ⟨gb240, 0, none⟩ = some (.slice A0_0 l0_0.length c0_0) := (blk_cell BK240.out 0).trans rfl
                            have hcz83_1 : wr.cell? ⟨gb240, 1, none⟩ = some (.slice A0_1 l0_1.length c0_1) := (blk_cell BK240.out 1).trans rfl
                            have hfz83_0 := blk_frozen BK240.out 0
                            have hfz83_1 := blk_frozen BK240.out 1
                            go_wp2_with (first | ((with_reducible refine gate_callee (f := 32) rfl ?_); refine goesL_ (some 73) rfl rfl Try.func32 (by kernel_rfl) rfl #[.slice A1 l1.length c1, .int .i64 x13_4] rfl (by (try simp only [List.map_toArray, List.map_cons, List.map_nil]); first | done | rfl | (simp only [List.length_drop, List.length_take]; rfl)) ?_; (with_reducible refine (wigeonref04_Has.calls k4 _ _ l1 x13_4 true _ ?side1 ?side2 A78.out).mono ?_); (case side1 => repeat (first | exact (Kd.C_below HR1.out HB.out) | (with_reducible refine Kd.C_alloc ?_ _) | (with_reducible refine Kd.C_drewN ?_ _) | (with_reducible refine Kd.C_drew ?_))); (case side2 => exact HC1.out); rintro e w' ⟨rfl, ⟨nd, rfl⟩⟩; refine ⟨_, rfl, ?_⟩))
                            go_roundg k4
                            case measure => have := HJ2.out; have := HJ15.out; have := HJ48.out; have := HK4.out; omega
                            case rel => exact ⟨(x12_4), (wrap64 (x13_4 + 1)), (by first | rfl | (simp; done) | (simp [*]; done)), H', ⟨by have := HJ2.out; have := HJ15.out; have := HJ48.out; have := HK4.out; omega⟩, ⟨by (with_reducible repeat (first | apply Kd.R_alloc | apply Kd.R_drewN | apply Kd.R_drew)); exact HO_10.out⟩, ⟨by (with_reducible repeat (first | apply Kd.R_alloc | apply Kd.R_drewN | apply Kd.R_drew)); exact HO_12.out⟩, ⟨by (with_reducible repeat (first | apply Kd.R_alloc | apply Kd.R_drewN | apply Kd.R_drew)); exact HO_252000.out⟩, ⟨by (with_reducible repeat (first | apply Kd.S_alloc | apply Kd.S_drewN | apply Kd.S_drew)); exact HO_252001.out⟩, ⟨by (with_reducible repeat (first | apply Kd.R_alloc | apply Kd.R_drewN | apply Kd.R_drew)); exact HO_260000.out⟩, ⟨by (with_reducible repeat (first | apply Kd.S_alloc | apply Kd.S_drewN | apply Kd.S_drew)); exact HO_260001.out⟩, ⟨by (with_reducible repeat (first | refine blk_drewN ?_ _ | refine blk_drew ?_ | refine blk_alloc ?_ _)); exact BK240.out⟩, ⟨by (with_reducible repeat (first | refine blk_drewN ?_ _ | refine blk_drew ?_ | refine blk_alloc ?_ _)); exact BK243.out⟩, ⟨by (with_reducible repeat (first | refine blk_drewN ?_ _ | refine blk_drew ?_ | refine blk_alloc ?_ _)); exact BK251.out⟩, ⟨by (with_reducible repeat (first | refine blk_drewN ?_ _ | refine blk_drew ?_ | refine blk_alloc ?_ _)); exact BK259.out⟩, ⟨by repeat (first | (with_reducible first | exact HB.out | apply below_alloc | apply pw_below_drewN | apply below_drew1 | refine below_set ?_ GE240.out | refine below_set ?_ GE243.out | refine below_set ?_ GE251.out | refine below_set ?_ GE259.out) | exact HB.out)⟩⟩
                          · replace c79 := Bool.eq_false_iff.mpr c79
                            subst c79
                            have H1 : (if x12_4.length < 17592186044416 then (wigeonlaw04_LureExchanges.l0 k4 l1 t261 (x12_4 ++ [x13_4]) (wrap64 (x13_4 + 1)) l0_0 l0_1 l0_0 l0_1 t244 t247) else (none)) = some r := by rw [if_neg (show ¬ (false = true) by decide)] at H; exact H
                            clear H
                            have H := H1
                            clear H1
                            by_cases c84 : x12_4.length < 17592186044416
                            · rw [if_pos c84] at H
                              have LMc84 := Aside0.mk c84
                              clear c84
                              obtain ⟨y268, hy268⟩ : ∃ y_ : List Int, y_ = (x12_4 ++ [x13_4]) := ⟨_, rfl⟩
                              replace H : (wigeonlaw04_LureExchanges.l0 k4 l1 t261 y268 (wrap64 (x13_4 + 1)) l0_0 l0_1 l0_0 l0_1 t244 t247) = some r := by first | (rw [hy268]; with_reducible exact H) | (have H2_ := (Option.bind_some _ _).symm.trans H; rw [hy268]; with_reducible exact H2_) | (have H2_ := (Option.bind_some _ _).symm.trans H; with_reducible exact H2_) | with_reducible exact H | (rw [hy268]; exact H) | exact H
                              have Ny268 := Aside0.mk hy268
                              clear hy268
                              have H' := Aside0.mk H
                              clear H
                              have hnb85 := NB240_243.out
                              have hnc85 := NB243_240.out
                              have hnb86 := NB240_251.out
                              have hnc86 := NB251_240.out
                              have hnb87 := NB240_259.out
                              have hnc87 := NB259_240.out
                              have hcz88_0 : wr.cell? ⟨gb240, 0, none⟩ = some (.slice A0_0 l0_0.length c0_0) := (blk_cell BK240.out 0).trans rfl
                              have hcz88_1 : wr.cell? ⟨gb240, 1, none⟩ = some (.slice A0_1 l0_1.length c0_1) := (blk_cell BK240.out 1).trans rfl
                              have hfz88_0 := blk_frozen BK240.out 0
                              have hfz88_1 := blk_frozen BK240.out 1
                              go_wp2_with (first | ((with_reducible refine gate_callee (f := 32) rfl ?_); refine goesL_ (some 73) rfl rfl Try.func32 (by kernel_rfl) rfl #[.slice A1 l1.length c1, .int .i64 x13_4] rfl (by (try simp only [List.map_toArray, List.map_cons, List.map_nil]); first | done | rfl | (simp only [List.length_drop, List.length_take]; rfl)) ?_; (with_reducible refine (wigeonref04_Has.calls k4 _ _ l1 x13_4 false _ ?side1 ?side2 A78.out).mono ?_); (case side1 => repeat (first | exact (Kd.C_below HR1.out HB.out) | (with_reducible refine Kd.C_alloc ?_ _) | (with_reducible refine Kd.C_drewN ?_ _) | (with_reducible refine Kd.C_drew ?_))); (case side2 => exact HC1.out); rintro e w' ⟨rfl, ⟨nd, rfl⟩⟩; refine ⟨_, rfl, ?_⟩) | ((with_reducible refine gate_builtin (b := .append) (xs := #[.tmp 75, .tmp 77]) rfl ?_); (try (refine gate_guard (by rfl) ?_; dsimp only)); at_builtin; refine Kd.R_append (Kd.int .i64) (w0 := w) w.heap.size rfl (.tmp 75) (.tmp 77) 22 3 (.int .i64 0) 8 rfl Try.underlying22 info3 rfl (by decide) (by omega) u12 x12_4 x13_4 [.int .i64 x13_4] (fun k_ => some k_ ≠ (v262 : Value).ownBlock ∧ some k_ ≠ (.slice Ao23 t244.length co23 : Value).ownBlock ∧ some k_ ≠ (.slice Ao31 t252.length co31 : Value).ownBlock) (fun _ => False) rfl rfl ?aP (fun _ hk => hk.elim) ?aF ?aO ?aB ?aS ?aL ?_; (case aP => exact rfl); (case aB => exact (by repeat (first | (with_reducible first | exact HB.out | apply below_alloc | apply pw_below_drewN | apply below_drew1 | refine below_set ?_ GE240.out | refine below_set ?_ GE243.out | refine below_set ?_ GE251.out | refine below_set ?_ GE259.out) | exact HB.out))); (case aF => exact (fun k_ hk => ⟨Kd.fresh' (Kd.R_lt (by (with_reducible repeat (first | apply Kd.R_alloc | apply Kd.R_drewN | apply Kd.R_drew)); exact HO_10.out)) k_ hk, Kd.fresh' (Kd.R_lt (by (with_reducible repeat (first | apply Kd.R_alloc | apply Kd.R_drewN | apply Kd.R_drew)); exact HO_252000.out)) k_ hk, Kd.fresh' (Kd.R_lt (by (with_reducible repeat (first | apply Kd.R_alloc | apply Kd.R_drewN | apply Kd.R_drew)); exact HO_260000.out)) k_ hk⟩)); (case aO => exact (by (with_reducible repeat (first | apply Kd.R_alloc | apply Kd.R_drewN | apply Kd.R_drew)); exact HO_12.out)); (case aS => exact (below_size (by repeat (first | (with_reducible first | exact HB.out | apply below_alloc | apply pw_below_drewN | apply below_drew1 | refine below_set ?_ GE240.out | refine below_set ?_ GE243.out | refine below_set ?_ GE251.out | refine below_set ?_ GE259.out) | exact HB.out)))); (case aL => have := LMc84.out; omega); intro v269 w89 ho hb hg hat; rw [← Ny268.out] at ho; have n0_ := Aside0.mk (Kd.R_after (ok := (fun k_ => some k_ ≠ (.slice Ao23 t244.length co23 : Value).ownBlock ∧ some k_ ≠ (.slice Ao31 t252.length co31 : Value).ownBlock)) (by (with_reducible repeat (first | apply Kd.R_alloc | apply Kd.R_drewN | apply Kd.R_drew)); exact Kd.R_mono HO_10.out (fun _ hk => ⟨⟨hk.2.1, hk.2.2⟩, hk.1⟩)) hg hat); have n1_ := Aside0.mk (Kd.R_after (ok := (fun k_ => some k_ ≠ (v262 : Value).ownBlock ∧ some k_ ≠ (.slice Ao31 t252.length co31 : Value).ownBlock)) (by (with_reducible repeat (first | apply Kd.R_alloc | apply Kd.R_drewN | apply Kd.R_drew)); exact Kd.R_mono HO_252000.out (fun _ hk => ⟨⟨hk.1, hk.2.2⟩, hk.2.1⟩)) hg hat); have n2_ := Aside0.mk (Kd.S_after (ok := (fun k_ => some k_ ≠ (v262 : Value).ownBlock ∧ some k_ ≠ (.slice Ao23 t244.length co23 : Value).ownBlock ∧ some k_ ≠ (.slice Ao31 t252.length co31 : Value).ownBlock ∧ some k_ ≠ (.slice Ao36 t255.length co36 : Value).ownBlock)) (by (with_reducible repeat (first | apply Kd.S_alloc | apply Kd.S_drewN | apply Kd.S_drew)); exact Kd.S_mono HO_252001.out (fun _ hk => ⟨⟨hk.1, ⟨hk.2.2.1, ⟨hk.2.2.2.1, hk.2.2.2.2⟩⟩⟩, hk.2.1⟩)) hg hat); have n3_ := Aside0.mk (Kd.R_after (ok := (fun k_ => some k_ ≠ (v262 : Value).ownBlock ∧ some k_ ≠ (.slice Ao23 t244.length co23 : Value).ownBlock)) (by (with_reducible repeat (first | apply Kd.R_alloc | apply Kd.R_drewN | apply Kd.R_drew)); exact Kd.R_mono HO_260000.out (fun _ hk => ⟨⟨hk.1, hk.2.2⟩, hk.2.1⟩)) hg hat); have n4_ := Aside0.mk (Kd.S_after (ok := (fun k_ => some k_ ≠ (v262 : Value).ownBlock ∧ some k_ ≠ (.slice Ao23 t244.length co23 : Value).ownBlock ∧ some k_ ≠ (.slice Ao27 t247.length co27 : Value).ownBlock ∧ some k_ ≠ (.slice Ao31 t252.length co31 : Value).ownBlock)) (by (with_reducible repeat (first | apply Kd.S_alloc | apply Kd.S_drewN | apply Kd.S_drew)); exact Kd.S_mono HO_260001.out (fun _ hk => ⟨⟨hk.1, ⟨hk.2.2.1, ⟨hk.2.2.2.1, hk.2.2.2.2⟩⟩⟩, hk.2.1⟩)) hg hat); have n5_ := Aside0.mk (blk_grown (g := gb240) (o := .cells #[.slice A0_0 l0_0.length c0_0, .slice A0_1 l0_1.length c0_1] 25 (0, 0)) (by (with_reducible repeat (first | refine blk_drewN ?_ _ | refine blk_drew ?_ | refine blk_alloc ?_ _)); exact BK240.out) hg (Kd.R_ne HO_12.out BK240.out (by decide))); have n6_ := Aside0.mk (blk_grown (g := gb243) (o := .cells #[.slice B0 l0_0.length d0, .slice B1 l0_1.length d1] 25 (0, 0)) (by (with_reducible repeat (first | refine blk_drewN ?_ _ | refine blk_drew ?_ | refine blk_alloc ?_ _)); exact BK243.out) hg (Kd.R_ne HO_12.out BK243.out (by decide))); have n7_ := Aside0.mk (blk_grown (g := gb251) (o := .cells #[.slice Ao23 t244.length co23, .slice Ao27 t247.length co27] 25 (0, 0)) (by (with_reducible repeat (first | refine blk_drewN ?_ _ | refine blk_drew ?_ | refine blk_alloc ?_ _)); exact BK251.out) hg (Kd.R_ne HO_12.out BK251.out (by decide))); have n8_ := Aside0.mk (blk_grown (g := gb259) (o := .cells #[.slice Ao31 t252.length co31, .slice Ao36 t255.length co36] 25 (0, 0)) (by (with_reducible repeat (first | refine blk_drewN ?_ _ | refine blk_drew ?_ | refine blk_alloc ?_ _)); exact BK259.out) hg (Kd.R_ne HO_12.out BK259.out (by decide))); have n9_ := Aside0.mk (hb); have n10_ := Aside0.mk (ho); clear HO_10; clear HO_252000; clear HO_252001; clear HO_260000; clear HO_260001; clear BK240; clear BK243; clear BK251; clear BK259; clear HB; clear HO_12; have HO_10 := n0_; have HO_252000 := n1_; have HO_252001 := n2_; have HO_260000 := n3_; have HO_260001 := n4_; have BK240 := n5_; have BK243 := n6_; have BK251 := n7_; have BK259 := n8_; have HB := n9_; have HO270 := n10_; clear n0_ n1_ n2_ n3_ n4_ n5_ n6_ n7_ n8_ n9_ n10_; clear ho hb hg hat))
                              go_roundg k4
                              case measure => have := HJ2.out; have := HJ15.out; have := HJ48.out; have := HK4.out; omega
                              case rel => exact ⟨(y268), (wrap64 (x13_4 + 1)), (by first | rfl | (simp; done) | (simp [*]; done)), H', ⟨by have := HJ2.out; have := HJ15.out; have := HJ48.out; have := HK4.out; omega⟩, ⟨by (with_reducible repeat (first | apply Kd.R_alloc | apply Kd.R_drewN | apply Kd.R_drew)); exact Kd.R_mono HO_10.out (fun _ hk => ⟨hk.2, ⟨hk.1.1, hk.1.2⟩⟩)⟩, ⟨by (with_reducible repeat (first | apply Kd.R_alloc | apply Kd.R_drewN | apply Kd.R_drew)); exact HO270.out⟩, ⟨by (with_reducible repeat (first | apply Kd.R_alloc | apply Kd.R_drewN | apply Kd.R_drew)); exact Kd.R_mono HO_252000.out (fun _ hk => ⟨hk.1.1, ⟨hk.2, hk.1.2⟩⟩)⟩, ⟨by (with_reducible repeat (first | apply Kd.S_alloc | apply Kd.S_drewN | apply Kd.S_drew)); exact Kd.S_mono HO_252001.out (fun _ hk => ⟨hk.1.1, ⟨hk.2, ⟨hk.1.2.1, ⟨hk.1.2.2.1, hk.1.2.2.2⟩⟩⟩⟩)⟩, ⟨by (with_reducible repeat (first | apply Kd.R_alloc | apply Kd.R_drewN | apply Kd.R_drew)); exact Kd.R_mono HO_260000.out (fun _ hk => ⟨hk.1.1, ⟨hk.2, hk.1.2⟩⟩)⟩, ⟨by (with_reducible repeat (first | apply Kd.S_alloc | apply Kd.S_drewN | apply Kd.S_drew)); exact Kd.S_mono HO_260001.out (fun _ hk => ⟨hk.1.1, ⟨hk.2, ⟨hk.1.2.1, ⟨hk.1.2.2.1, hk.1.2.2.2⟩⟩⟩⟩)⟩, ⟨by (with_reducible repeat (first | refine blk_drewN ?_ _ | refine blk_drew ?_ | refine blk_alloc ?_ _)); exact BK240.out⟩, ⟨by (with_reducible repeat (first | refine blk_drewN ?_ _ | refine blk_drew ?_ | refine blk_alloc ?_ _)); exact BK243.out⟩, ⟨by (with_reducible repeat (first | refine blk_drewN ?_ _ | refine blk_drew ?_ | refine blk_alloc ?_ _)); exact BK251.out⟩, ⟨by (with_reducible repeat (first | refine blk_drewN ?_ _ | refine blk_drew ?_ | refine blk_alloc ?_ _)); exact BK259.out⟩, ⟨by repeat (first | (with_reducible first | exact HB.out | apply below_alloc | apply pw_below_drewN | apply below_drew1 | refine below_set ?_ GE240.out | refine below_set ?_ GE243.out | refine below_set ?_ GE251.out | refine below_set ?_ GE259.out) | exact HB.out)⟩⟩
                            · rw [if_neg c84] at H
                              exact absurd H (by simp)
                        · rw [if_neg c77] at H
                          have c77b0 : decide (x13_4 < (l0_0.length : Int)) = false := decide_eq_false c77
                          clear c77
                          replace H := Option.bind_eq_some_iff.mp H
                          obtain ⟨⟨t271, t274⟩, A900, H⟩ := H
                          replace H : (if t274 = 0 then ((wigeonref04_SameInts.f k4 t271 t261).bind fun t275 => (wigeonlaw04_LureExchanges.j4 k4 (!t275) l0_0 l0_1 l0_0 l0_1 t244 t247)) else (wigeonlaw04_LureExchanges.j4 k4 true l0_0 l0_1 l0_0 l0_1 t244 t247)) = some r := H
                          have A90 := Aside0.mk A900
                          clear A900
                          have HC91 := Aside0.mk H
                          clear H
                          have hnb92 := NB240_243.out
                          have hnc92 := NB243_240.out
                          have hnb93 := NB240_251.out
                          have hnc93 := NB251_240.out
                          have hnb94 := NB240_259.out
                          have hnc94 := NB259_240.out
                          have hcz95_0 : wr.cell? ⟨gb240, 0, none⟩ = some (.slice A0_0 l0_0.length c0_0) := (blk_cell BK240.out 0).trans rfl
                          have hcz95_1 : wr.cell? ⟨gb240, 1, none⟩ = some (.slice A0_1 l0_1.length c0_1) := (blk_cell BK240.out 1).trans rfl
                          have hfz95_0 := blk_frozen BK240.out 0
                          have hfz95_1 := blk_frozen BK240.out 1
                          have hnb96 := NB251_243.out
                          have hnc96 := NB243_251.out
                          have hnb97 := NB251_259.out
                          have hnc97 := NB259_251.out
                          have hcz98_0 : wr.cell? ⟨gb251, 0, none⟩ = some (.slice Ao23 t244.length co23) := (blk_cell BK251.out 0).trans rfl
                          have hcz98_1 : wr.cell? ⟨gb251, 1, none⟩ = some (.slice Ao27 t247.length co27) := (blk_cell BK251.out 1).trans rfl
                          have hfz98_0 := blk_frozen BK251.out 0
                          have hfz98_1 := blk_frozen BK251.out 1
                          obtain ⟨Ao99, co99, eo99⟩ := Kd.R_slice HO_12.out
                          subst eo99
                          go_upto_region 18 with (first | ((with_reducible refine gate_callee (f := 39) rfl ?_); refine goesL_ (some 82) rfl rfl Try.func39 (by kernel_rfl) rfl #[.agg #[.slice Ao23 t244.length co23, .slice Ao27 t247.length co27], .slice Ao99 x12_4.length co99] rfl (by (try simp only [List.map_toArray, List.map_cons, List.map_nil]); first | done | rfl | (simp only [List.length_drop, List.length_take]; rfl)) ?_; (with_reducible refine (lure_Keeps.calls k4 _ _ t244 _ _ t247 (fun k_ => some k_ = (.slice Ao99 x12_4.length co99 : Value).ownBlock) _ _ x12_4 t271 t274 _ ?side1 ?side2 ?side3 ?side4 ?side5 A90.out).mono ?_); (case side1 => repeat (first | exact (Kd.R_reads' HO_252000.out).2.2 | (with_reducible refine Kd.C_alloc ?_ _) | (with_reducible refine Kd.C_drewN ?_ _) | (with_reducible refine Kd.C_drew ?_))); (case side2 => exact (Kd.R_reads' HO_252000.out).2.1); (case side3 => repeat (first | exact (Kd.S_reads' HO_252001.out).2.2 | (with_reducible refine Kd.C_alloc ?_ _) | (with_reducible refine Kd.C_drewN ?_ _) | (with_reducible refine Kd.C_drew ?_))); (case side4 => exact (Kd.S_reads' HO_252001.out).2.1); (case side5 => exact Kd.R_V (Kd.R_tight rfl (Kd.R_types (Kd.R_types (Kd.R_types (Kd.R_types (Kd.R_apart' (Kd.R_apart' (HO_12.out) (Kd.S_typed HO_252001.out) (by decide)) (Kd.S_typed HO_260001.out) (by decide)) BK240.out (by decide)) BK243.out (by decide)) BK251.out (by decide)) BK259.out (by decide)))); rintro e w100 ⟨v272, rfl, ho0, hb⟩; refine ⟨_, rfl, ?_⟩; have n0_ := Aside0.mk (Kd.R_elder' (by (with_reducible repeat (first | apply Kd.R_alloc | apply Kd.R_drewN | apply Kd.R_drew)); exact HO_10.out) (Kd.R_base ho0) hb); have n1_ := Aside0.mk (Kd.R_elder' (by (with_reducible repeat (first | apply Kd.R_alloc | apply Kd.R_drewN | apply Kd.R_drew)); exact HO_12.out) (Kd.R_base ho0) hb); have n2_ := Aside0.mk (Kd.R_elder' (by (with_reducible repeat (first | apply Kd.R_alloc | apply Kd.R_drewN | apply Kd.R_drew)); exact HO_252000.out) (Kd.R_base ho0) hb); have n3_ := Aside0.mk (Kd.S_elder' (by (with_reducible repeat (first | apply Kd.S_alloc | apply Kd.S_drewN | apply Kd.S_drew)); exact HO_252001.out) (Kd.R_base ho0) hb); have n4_ := Aside0.mk (Kd.R_elder' (by (with_reducible repeat (first | apply Kd.R_alloc | apply Kd.R_drewN | apply Kd.R_drew)); exact HO_260000.out) (Kd.R_base ho0) hb); have n5_ := Aside0.mk (Kd.S_elder' (by (with_reducible repeat (first | apply Kd.S_alloc | apply Kd.S_drewN | apply Kd.S_drew)); exact HO_260001.out) (Kd.R_base ho0) hb); have n6_ := Aside0.mk (Kd.R_lower (Kd.R_new' (Kd.R_new' (Kd.R_new' (Kd.R_new' (Kd.R_mono (ok' := fun k_ => True) ho0 (fun _ hk_ => trivial)) (Kd.R_lt (by (with_reducible repeat (first | apply Kd.R_alloc | apply Kd.R_drewN | apply Kd.R_drew)); exact HO_10.out))) (Kd.R_lt (by (with_reducible repeat (first | apply Kd.R_alloc | apply Kd.R_drewN | apply Kd.R_drew)); exact HO_12.out))) (Kd.R_lt (by (with_reducible repeat (first | apply Kd.R_alloc | apply Kd.R_drewN | apply Kd.R_drew)); exact HO_252000.out))) (Kd.R_lt (by (with_reducible repeat (first | apply Kd.R_alloc | apply Kd.R_drewN | apply Kd.R_drew)); exact HO_260000.out))) (below_size (by repeat (first | (with_reducible first | exact HB.out | apply below_alloc | apply pw_below_drewN | apply below_drew1 | refine below_set ?_ GE240.out | refine below_set ?_ GE243.out | refine below_set ?_ GE251.out | refine below_set ?_ GE259.out) | exact HB.out)))); have n7_ := Aside0.mk (blk_below (g := gb240) (o := .cells #[.slice A0_0 l0_0.length c0_0, .slice A0_1 l0_1.length c0_1] 25 (0, 0)) (by (with_reducible repeat (first | refine blk_drewN ?_ _ | refine blk_drew ?_ | refine blk_alloc ?_ _)); exact BK240.out) hb); have n8_ := Aside0.mk (blk_below (g := gb243) (o := .cells #[.slice B0 l0_0.length d0, .slice B1 l0_1.length d1] 25 (0, 0)) (by (with_reducible repeat (first | refine blk_drewN ?_ _ | refine blk_drew ?_ | refine blk_alloc ?_ _)); exact BK243.out) hb); have n9_ := Aside0.mk (blk_below (g := gb251) (o := .cells #[.slice Ao23 t244.length co23, .slice Ao27 t247.length co27] 25 (0, 0)) (by (with_reducible repeat (first | refine blk_drewN ?_ _ | refine blk_drew ?_ | refine blk_alloc ?_ _)); exact BK251.out) hb); have n10_ := Aside0.mk (blk_below (g := gb259) (o := .cells #[.slice Ao31 t252.length co31, .slice Ao36 t255.length co36] 25 (0, 0)) (by (with_reducible repeat (first | refine blk_drewN ?_ _ | refine blk_drew ?_ | refine blk_alloc ?_ _)); exact BK259.out) hb); have n11_ := Aside0.mk (below_step (by repeat (first | (with_reducible first | exact HB.out | apply below_alloc | apply pw_below_drewN | apply below_drew1 | refine below_set ?_ GE240.out | refine below_set ?_ GE243.out | refine below_set ?_ GE251.out | refine below_set ?_ GE259.out) | exact HB.out)) hb); clear HO_10; clear HO_12; clear HO_252000; clear HO_252001; clear HO_260000; clear HO_260001; clear BK240; clear BK243; clear BK251; clear BK259; clear HB; have HO_10 := n0_; have HO_12 := n1_; have HO_252000 := n2_; have HO_252001 := n3_; have HO_260000 := n4_; have HO_260001 := n5_; have HO273 := n6_; have BK240 := n7_; have BK243 := n8_; have BK251 := n9_; have BK259 := n10_; have HB := n11_; clear n0_ n1_ n2_ n3_ n4_ n5_ n6_ n7_ n8_ n9_ n10_ n11_; (try clear hb); (try clear hb2); (try clear hk); (try clear hi); (try clear ho0)))
                          (try simp only [Act.put, List.setIfInBounds_toArray, List.set_cons_zero, List.set_cons_succ])
                          go_cut [92] (fun v92 wc => ∃ (kq : Nat) (x92_90 : Bool), v92 = .bool x92_90 ∧ Aside0 (wigeonlaw04_LureExchanges.j4 kq x92_90 l0_0 l0_1 l0_0 l0_1 t244 t247 = some r) ∧ Aside0 (kq ≤ k4) ∧ Aside0 (Kd.R (Kd.int .i64) 3 wc w.heap.size (fun k_ => some k_ ≠ ((.slice Ao31 t252.length co31) : Value).ownBlock) (.slice Ao23 t244.length co23) t244) ∧ Aside0 (Kd.S (Kd.slice 3 (Kd.int .i64)) 22 wc w.heap.size (fun k_ => some k_ ≠ ((.slice Ao23 t244.length co23) : Value).ownBlock ∧ some k_ ≠ ((.slice Ao31 t252.length co31) : Value).ownBlock ∧ some k_ ≠ ((.slice Ao36 t255.length co36) : Value).ownBlock) (.slice Ao27 t247.length co27) t247) ∧ Aside0 (Kd.R (Kd.int .i64) 3 wc w.heap.size (fun k_ => some k_ ≠ ((.slice Ao23 t244.length co23) : Value).ownBlock) (.slice Ao31 t252.length co31) t252) ∧ Aside0 (Kd.S (Kd.slice 3 (Kd.int .i64)) 22 wc w.heap.size (fun k_ => some k_ ≠ ((.slice Ao23 t244.length co23) : Value).ownBlock ∧ some k_ ≠ ((.slice Ao27 t247.length co27) : Value).ownBlock ∧ some k_ ≠ ((.slice Ao31 t252.length co31) : Value).ownBlock) (.slice Ao36 t255.length co36) t255) ∧ Aside0 (wc.heap[gb240]? = some (.cells #[(.slice A0_0 l0_0.length c0_0), (.slice A0_1 l0_1.length c0_1)] 25 (0, 0))) ∧ Aside0 (wc.heap[gb243]? = some (.cells #[(.slice B0 l0_0.length d0), (.slice B1 l0_1.length d1)] 25 (0, 0))) ∧ Aside0 (wc.heap[gb251]? = some (.cells #[(.slice Ao23 t244.length co23), (.slice Ao27 t247.length co27)] 25 (0, 0))) ∧ Aside0 (wc.heap[gb259]? = some (.cells #[(.slice Ao31 t252.length co31), (.slice Ao36 t255.length co36)] 25 (0, 0))) ∧ Aside0 (Below w.heap.size w wc))
                          case first =>
                            have H := HC91.out
                            clear HC91
                            by_cases c101 : t274 = 0
                            · rw [if_pos c101] at H
                              have c101b0 : (t274 == 0) = true := beq_iff_eq.mpr c101
                              have c101b1 : (t274 != 0) = false := bne_eq_false_iff_eq.mpr c101
                              clear c101
                              (first | rw [c101b0] | (simp only [i64_w, i32_w]; rw [c101b0]) | skip)
                              replace H := Option.bind_eq_some_iff.mp H
                              obtain ⟨t275, A1020, H⟩ := H
                              replace H : (wigeonlaw04_LureExchanges.j4 k4 (!t275) l0_0 l0_1 l0_0 l0_1 t244 t247) = some r := H
                              have A102 := Aside0.mk A1020
                              clear A1020
                              have H' := Aside0.mk H
                              clear H
                              obtain ⟨Ao103, co103, eo103⟩ := Kd.R_slice HO273.out
                              subst eo103
                              obtain ⟨Ao104, co104, eo104⟩ := Kd.R_slice HO_10.out
                              subst eo104
                              go_wp2_with (first | (go_at_call 23; (with_reducible refine (wigeonref04_SameInts.calls k4 _ _ t271 _ _ t261 t275 _ ?side1 ?side2 ?side3 ?side4 A102.out).mono ?_); (case side1 => repeat (first | exact (Kd.R_reads' HO273.out).2.2 | (with_reducible refine Kd.C_alloc ?_ _) | (with_reducible refine Kd.C_drewN ?_ _) | (with_reducible refine Kd.C_drew ?_))); (case side2 => exact (Kd.R_reads' HO273.out).2.1); (case side3 => repeat (first | exact (Kd.R_reads' HO_10.out).2.2 | (with_reducible refine Kd.C_alloc ?_ _) | (with_reducible refine Kd.C_drewN ?_ _) | (with_reducible refine Kd.C_drew ?_))); (case side4 => exact (Kd.R_reads' HO_10.out).2.1); rintro e w' ⟨rfl, ⟨nd, rfl⟩⟩))
                              go_meet
                              case rel => exact ⟨_, (!t275), (by first | rfl | (simp; done) | (simp [*]; done)), H', ⟨by have := HJ2.out; have := HJ15.out; have := HJ48.out; have := HK4.out; first | omega | exact Nat.le_refl _⟩, ⟨by (with_reducible repeat (first | apply Kd.R_alloc | apply Kd.R_drewN | apply Kd.R_drew)); exact Kd.R_mono HO_252000.out (fun _ hk => hk.1.2.2)⟩, ⟨by (with_reducible repeat (first | apply Kd.S_alloc | apply Kd.S_drewN | apply Kd.S_drew)); exact Kd.S_mono HO_252001.out (fun _ hk => ⟨hk.1.2.2.1, ⟨hk.1.2.2.2.1, hk.1.2.2.2.2⟩⟩)⟩, ⟨by (with_reducible repeat (first | apply Kd.R_alloc | apply Kd.R_drewN | apply Kd.R_drew)); exact Kd.R_mono HO_260000.out (fun _ hk => hk.1.2.2)⟩, ⟨by (with_reducible repeat (first | apply Kd.S_alloc | apply Kd.S_drewN | apply Kd.S_drew)); exact Kd.S_mono HO_260001.out (fun _ hk => ⟨hk.1.2.2.1, ⟨hk.1.2.2.2.1, hk.1.2.2.2.2⟩⟩)⟩, ⟨by (with_reducible repeat (first | refine blk_drewN ?_ _ | refine blk_drew ?_ | refine blk_alloc ?_ _)); exact BK240.out⟩, ⟨by (with_reducible repeat (first | refine blk_drewN ?_ _ | refine blk_drew ?_ | refine blk_alloc ?_ _)); exact BK243.out⟩, ⟨by (with_reducible repeat (first | refine blk_drewN ?_ _ | refine blk_drew ?_ | refine blk_alloc ?_ _)); exact BK251.out⟩, ⟨by (with_reducible repeat (first | refine blk_drewN ?_ _ | refine blk_drew ?_ | refine blk_alloc ?_ _)); exact BK259.out⟩, ⟨by repeat (first | (with_reducible first | exact HB.out | apply below_alloc | apply pw_below_drewN | apply below_drew1 | refine below_set ?_ GE240.out | refine below_set ?_ GE243.out | refine below_set ?_ GE251.out | refine below_set ?_ GE259.out) | exact HB.out)⟩⟩
                            · rw [if_neg c101] at H
                              have c101b0 : (t274 == 0) = false := beq_eq_false_iff_ne.mpr c101
                              have c101b1 : (t274 != 0) = true := bne_iff_ne.mpr c101
                              (first | rw [c101b0] | (simp only [i64_w, i32_w]; rw [c101b0]) | skip)
                              have H' := Aside0.mk H
                              clear H
                              go_wp2
                              go_meet
                              case rel => exact ⟨_, (true), (by first | rfl | (simp; done) | (simp [*]; done)), H', ⟨by have := HJ2.out; have := HJ15.out; have := HJ48.out; have := HK4.out; first | omega | exact Nat.le_refl _⟩, ⟨by (with_reducible repeat (first | apply Kd.R_alloc | apply Kd.R_drewN | apply Kd.R_drew)); exact Kd.R_mono HO_252000.out (fun _ hk => hk.1.2.2)⟩, ⟨by (with_reducible repeat (first | apply Kd.S_alloc | apply Kd.S_drewN | apply Kd.S_drew)); exact Kd.S_mono HO_252001.out (fun _ hk => ⟨hk.1.2.2.1, ⟨hk.1.2.2.2.1, hk.1.2.2.2.2⟩⟩)⟩, ⟨by (with_reducible repeat (first | apply Kd.R_alloc | apply Kd.R_drewN | apply Kd.R_drew)); exact Kd.R_mono HO_260000.out (fun _ hk => hk.1.2.2)⟩, ⟨by (with_reducible repeat (first | apply Kd.S_alloc | apply Kd.S_drewN | apply Kd.S_drew)); exact Kd.S_mono HO_260001.out (fun _ hk => ⟨hk.1.2.2.1, ⟨hk.1.2.2.2.1, hk.1.2.2.2.2⟩⟩)⟩, ⟨by (with_reducible repeat (first | refine blk_drewN ?_ _ | refine blk_drew ?_ | refine blk_alloc ?_ _)); exact BK240.out⟩, ⟨by (with_reducible repeat (first | refine blk_drewN ?_ _ | refine blk_drew ?_ | refine blk_alloc ?_ _)); exact BK243.out⟩, ⟨by (with_reducible repeat (first | refine blk_drewN ?_ _ | refine blk_drew ?_ | refine blk_alloc ?_ _)); exact BK251.out⟩, ⟨by (with_reducible repeat (first | refine blk_drewN ?_ _ | refine blk_drew ?_ | refine blk_alloc ?_ _)); exact BK259.out⟩, ⟨by repeat (first | (with_reducible first | exact HB.out | apply below_alloc | apply pw_below_drewN | apply below_drew1 | refine below_set ?_ GE240.out | refine below_set ?_ GE243.out | refine below_set ?_ GE251.out | refine below_set ?_ GE259.out) | exact HB.out)⟩⟩
                          case rest =>
                            clear HC91
                            try clear c1
                            try clear c2
                            try clear p2
                            try clear c3
                            try clear c4
                            try clear c5
                            try clear c6
                            try clear p6
                            try clear c7
                            try clear c8
                            try clear c9
                            try clear c10
                            try clear c11
                            try clear c13
                            try clear c15
                            try clear c16
                            try clear c19
                            try clear c21
                            try clear c24
                            try clear c25
                            try clear c32
                            try clear c33
                            try clear c34
                            try clear c37
                            try clear c37b0
                            try clear c37b1
                            try clear c39
                            try clear c40
                            try clear c41
                            try clear c43
                            try clear c44
                            try clear c45
                            try clear c46
                            try clear c47
                            try clear c50
                            try clear c51
                            try clear c52
                            try clear c55
                            try clear c55b0
                            try clear c55b1
                            try clear c56
                            try clear c58
                            try clear c60
                            try clear c61
                            try clear c62
                            try clear c64
                            try clear p64
                            try clear c65
                            try clear c69
                            try clear c70
                            try clear c71
                            try clear c73
                            try clear c74
                            try clear c77
                            try clear c77b0
                            try clear c79
                            try clear c80
                            try clear c81
                            try clear c82
                            try clear c84
                            try clear c85
                            try clear c86
                            try clear c87
                            try clear c92
                            try clear c93
                            try clear c94
                            try clear c96
                            try clear c97
                            try clear c101
                            try clear c101b0
                            try clear c101b1
                            try clear hcz17_0
                            try clear hcz17_1
                            try clear hcz20_0
                            try clear hcz20_1
                            try clear hcz26_0
                            try clear hcz26_1
                            try clear hcz28_0
                            try clear hcz28_1
                            try clear hcz35_0
                            try clear hcz35_1
                            try clear hcz42_0
                            try clear hcz42_1
                            try clear hcz45_0
                            try clear hcz45_1
                            try clear hcz53_0
                            try clear hcz53_1
                            try clear hcz63_0
                            try clear hcz63_1
                            try clear hcz66_0
                            try clear hcz66_1
                            try clear hcz72_0
                            try clear hcz72_1
                            try clear hcz75_0
                            try clear hcz75_1
                            try clear hcz7_0
                            try clear hcz7_1
                            try clear hcz83_0
                            try clear hcz83_1
                            try clear hcz88_0
                            try clear hcz88_1
                            try clear hcz95_0
                            try clear hcz95_1
                            try clear hcz98_0
                            try clear hcz98_1
                            try clear hcz9_0
                            try clear hcz9_1
                            try clear hfz17_0
                            try clear hfz17_1
                            try clear hfz20_0
                            try clear hfz20_1
                            try clear hfz26_0
                            try clear hfz26_1
                            try clear hfz28_0
                            try clear hfz28_1
                            try clear hfz35_0
                            try clear hfz35_1
                            try clear hfz42_0
                            try clear hfz42_1
                            try clear hfz45_0
                            try clear hfz45_1
                            try clear hfz53_0
                            try clear hfz53_1
                            try clear hfz63_0
                            try clear hfz63_1
                            try clear hfz66_0
                            try clear hfz66_1
                            try clear hfz72_0
                            try clear hfz72_1
                            try clear hfz75_0
                            try clear hfz75_1
                            try clear hfz7_0
                            try clear hfz7_1
                            try clear hfz83_0
                            try clear hfz83_1
                            try clear hfz88_0
                            try clear hfz88_1
                            try clear hfz95_0
                            try clear hfz95_1
                            try clear hfz98_0
                            try clear hfz98_1
                            try clear hfz9_0
                            try clear hfz9_1
                            try clear p2
                            obtain ⟨kq, x92_90, rfl, HA, HJ90, HO_252000, HO_252001, HO_260000, HO_260001, BK240, BK243, BK251, BK259, HB⟩ := hcut
                            cases kq with
                            | zero => exact absurd HA.out (by simp [wigeonlaw04_LureExchanges.j4])
                            | succ kj90 =>
                              have H := HA.out
                              clear HA
                              simp only [wigeonlaw04_LureExchanges.j4] at H
                              by_cases c105 : x92_90 = true
                              · subst c105
                                have H1 : (some false) = some r := by rw [if_pos rfl] at H; exact H
                                clear H
                                have H := H1
                                clear H1
                                obtain rfl := Option.some.inj H
                                go_wp2
                                go_ret
                                exact ⟨by first | rfl | (simp [errW_none, errW_some] <;> rfl) | (simp [*, errW_none, errW_some] <;> rfl), below_step HBw.out (by repeat (first | (with_reducible first | exact HB.out | apply below_alloc | apply pw_below_drewN | apply below_drew1 | refine below_set ?_ GE240.out | refine below_set ?_ GE243.out | refine below_set ?_ GE251.out | refine below_set ?_ GE259.out) | exact HB.out))⟩
                              · replace c105 := Bool.eq_false_iff.mpr c105
                                subst c105
                                have H1 : (wigeonlaw04_LureExchanges.l1 kj90 0 l0_0 l0_1 l0_0 l0_1 t244 t247) = some r := by rw [if_neg (show ¬ (false = true) by decide)] at H; exact H
                                clear H
                                have H := H1
                                clear H1
                                have H' := Aside0.mk H
                                clear H
                                go_wp2
                                go_loopg [16] kj90 (fun kq v16 w' => ∃ (x16_6 : Int) (x252000_6 : List Int) (x252001_6 : List (List Int)) (x260000_6 : List Int) (x260001_6 : List (List Int)) (u252000 : Value) (u252001 : Value) (u260000 : Value) (u260001 : Value), v16 = .int .i64 x16_6 ∧ Aside0 (wigeonlaw04_LureExchanges.l1 kq x16_6 l0_0 l0_1 l0_0 l0_1 x252000_6 x252001_6 = some r) ∧ Aside0 (kq ≤ kj90) ∧ Aside0 (Kd.R (Kd.int .i64) 3 w' w.heap.size (fun k_ => some k_ ≠ (u260000 : Value).ownBlock) u252000 x252000_6) ∧ Aside0 (Kd.S (Kd.slice 3 (Kd.int .i64)) 22 w' w.heap.size (fun k_ => some k_ ≠ (u252000 : Value).ownBlock ∧ some k_ ≠ (u260000 : Value).ownBlock ∧ some k_ ≠ (u260001 : Value).ownBlock) u252001 x252001_6) ∧ Aside0 True ∧ Aside0 True ∧ Aside0 (w'.heap[gb240]? = some (.cells #[(.slice A0_0 l0_0.length c0_0), (.slice A0_1 l0_1.length c0_1)] 25 (0, 0))) ∧ Aside0 (w'.heap[gb243]? = some (.cells #[(.slice B0 l0_0.length d0), (.slice B1 l0_1.length d1)] 25 (0, 0))) ∧ Aside0 (w'.heap[gb251]? = some (.cells #[u252000, u252001] 25 (0, 0))) ∧ Aside0 (w'.heap[gb259]? = some (.cells #[u260000, u260001] 25 (0, 0))) ∧ Aside0 (Below w.heap.size w w'))
                                case atStart => exact ⟨(0), (t244), (t247), (t252), (t255), (.slice Ao23 t244.length co23), (.slice Ao27 t247.length co27), (.slice Ao31 t252.length co31), (.slice Ao36 t255.length co36), (by first | rfl | (simp; done) | (simp [*]; done)), H', ⟨Nat.le_refl _⟩, ⟨by (with_reducible repeat (first | apply Kd.R_alloc | apply Kd.R_drewN | apply Kd.R_drew)); exact HO_252000.out⟩, ⟨by (with_reducible repeat (first | apply Kd.S_alloc | apply Kd.S_drewN | apply Kd.S_drew)); exact HO_252001.out⟩, ⟨trivial⟩, ⟨trivial⟩, ⟨by (with_reducible repeat (first | refine blk_drewN ?_ _ | refine blk_drew ?_ | refine blk_alloc ?_ _)); exact BK240.out⟩, ⟨by (with_reducible repeat (first | refine blk_drewN ?_ _ | refine blk_drew ?_ | refine blk_alloc ?_ _)); exact BK243.out⟩, ⟨by (with_reducible repeat (first | refine blk_drewN ?_ _ | refine blk_drew ?_ | refine blk_alloc ?_ _)); exact BK251.out⟩, ⟨by (with_reducible repeat (first | refine blk_drewN ?_ _ | refine blk_drew ?_ | refine blk_alloc ?_ _)); exact BK259.out⟩, ⟨by repeat (first | (with_reducible first | exact HB.out | apply below_alloc | apply pw_below_drewN | apply below_drew1 | refine below_set ?_ GE240.out | refine below_set ?_ GE243.out | refine below_set ?_ GE251.out | refine below_set ?_ GE259.out) | exact HB.out)⟩⟩
                                case round =>
                                  clear H'
                                  try clear c1
                                  try clear c2
                                  try clear p2
                                  try clear c3
                                  try clear c4
                                  try clear c5
                                  try clear c6
                                  try clear p6
                                  try clear c7
                                  try clear c8
                                  try clear c9
                                  try clear c10
                                  try clear c11
                                  try clear c13
                                  try clear c15
                                  try clear c16
                                  try clear c19
                                  try clear c21
                                  try clear c24
                                  try clear c25
                                  try clear c32
                                  try clear c33
                                  try clear c34
                                  try clear c37
                                  try clear c37b0
                                  try clear c37b1
                                  try clear c39
                                  try clear c40
                                  try clear c41
                                  try clear c43
                                  try clear c44
                                  try clear c45
                                  try clear c46
                                  try clear c47
                                  try clear c50
                                  try clear c51
                                  try clear c52
                                  try clear c55
                                  try clear c55b0
                                  try clear c55b1
                                  try clear c56
                                  try clear c58
                                  try clear c60
                                  try clear c61
                                  try clear c62
                                  try clear c64
                                  try clear p64
                                  try clear c65
                                  try clear c69
                                  try clear c70
                                  try clear c71
                                  try clear c73
                                  try clear c74
                                  try clear c77
                                  try clear c77b0
                                  try clear c79
                                  try clear c80
                                  try clear c81
                                  try clear c82
                                  try clear c84
                                  try clear c85
                                  try clear c86
                                  try clear c87
                                  try clear c92
                                  try clear c93
                                  try clear c94
                                  try clear c96
                                  try clear c97
                                  try clear c101
                                  try clear c101b0
                                  try clear c101b1
                                  try clear c105
                                  try clear hcz17_0
                                  try clear hcz17_1
                                  try clear hcz20_0
                                  try clear hcz20_1
                                  try clear hcz26_0
                                  try clear hcz26_1
                                  try clear hcz28_0
                                  try clear hcz28_1
                                  try clear hcz35_0
                                  try clear hcz35_1
                                  try clear hcz42_0
                                  try clear hcz42_1
                                  try clear hcz45_0
                                  try clear hcz45_1
                                  try clear hcz53_0
                                  try clear hcz53_1
                                  try clear hcz63_0
                                  try clear hcz63_1
                                  try clear hcz66_0
                                  try clear hcz66_1
                                  try clear hcz72_0
                                  try clear hcz72_1
                                  try clear hcz75_0
                                  try clear hcz75_1
                                  try clear hcz7_0
                                  try clear hcz7_1
                                  try clear hcz83_0
                                  try clear hcz83_1
                                  try clear hcz88_0
                                  try clear hcz88_1
                                  try clear hcz95_0
                                  try clear hcz95_1
                                  try clear hcz98_0
                                  try clear hcz98_1
                                  try clear hcz9_0
                                  try clear hcz9_1
                                  try clear hfz17_0
                                  try clear hfz17_1
                                  try clear hfz20_0
                                  try clear hfz20_1
                                  try clear hfz26_0
                                  try clear hfz26_1
                                  try clear hfz28_0
                                  try clear hfz28_1
                                  try clear hfz35_0
                                  try clear hfz35_1
                                  try clear hfz42_0
                                  try clear hfz42_1
                                  try clear hfz45_0
                                  try clear hfz45_1
                                  try clear hfz53_0
                                  try clear hfz53_1
                                  try clear hfz63_0
                                  try clear hfz63_1
                                  try clear hfz66_0
                                  try clear hfz66_1
                                  try clear hfz72_0
                                  try clear hfz72_1
                                  try clear hfz75_0
                                  try clear hfz75_1
                                  try clear hfz7_0
                                  try clear hfz7_1
                                  try clear hfz83_0
                                  try clear hfz83_1
                                  try clear hfz88_0
                                  try clear hfz88_1
                                  try clear hfz95_0
                                  try clear hfz95_1
                                  try clear hfz98_0
                                  try clear hfz98_1
                                  try clear hfz9_0
                                  try clear hfz9_1
                                  try clear p2
                                  try clear p6
                                  try clear p64
                                  obtain ⟨x16_6, x252000_6, x252001_6, x260000_6, x260001_6, u252000, u252001, u260000, u260001, rfl, HA, HK6, HO_252000, HO_252001, HO_260000, HO_260001, BK240, BK243, BK251, BK259, HB⟩ := hrel
                                  cases gk with
                                  | zero => exact absurd HA.out (by simp [wigeonlaw04_LureExchanges.l1])
                                  | succ k6 =>
                                    have H := HA.out
                                    clear HA
                                    simp only [wigeonlaw04_LureExchanges.l1] at H
                                    by_cases c106 : x16_6 < (x252001_6.length : Int)
                                    · rw [if_pos c106] at H
                                      have c106b0 : decide (x16_6 < (x252001_6.length : Int)) = true := decide_eq_true c106
                                      clear c106
                                      by_cases c107 : 0 ≤ x16_6
                                      · rw [if_pos c107] at H
                                        have c107b0 : decide (0 ≤ x16_6) = true := decide_eq_true c107
                                        clear c107
                                        by_cases c108 : x16_6 < (x252000_6.length : Int)
                                        · rw [if_pos c108] at H
                                          have c108b0 : decide (x16_6 < (x252000_6.length : Int)) = true := decide_eq_true c108
                                          clear c108
                                          obtain ⟨y276, hy276⟩ : ∃ y_ : List Int, y_ = (x252000_6.set (x16_6 : Int).toNat 7) := ⟨_, rfl⟩
                                          replace H : (if 0 < ((rd_L1 x252001_6 x16_6).length : Int) then (wigeonlaw04_LureExchanges.l1 k6 (wrap64 (x16_6 + 1)) l0_0 l0_1 l0_0 l0_1 y276 (x252001_6.set (x16_6 : Int).toNat ((rd_L1 x252001_6 x16_6).set (0 : Int).toNat (-1)))) else (none)) = some r := by first | (rw [hy276]; with_reducible exact H) | (have H2_ := (Option.bind_some _ _).symm.trans H; rw [hy276]; with_reducible exact H2_) | (have H2_ := (Option.bind_some _ _).symm.trans H; with_reducible exact H2_) | with_reducible exact H | (rw [hy276]; exact H) | exact H
                                          have Ny276 := Aside0.mk hy276
                                          clear hy276
                                          by_cases c110 : 0 < ((rd_L1 x252001_6 x16_6).length : Int)
                                          · rw [if_pos c110] at H
                                            have c110b0 : decide (0 < ((rd_L1 x252001_6 x16_6).length : Int)) = true := decide_eq_true c110
                                            have c110b1 : decide (0 < (rd_L1 x252001_6 x16_6).length) = true := decide_eq_true (by omega)
                                            clear c110
                                            obtain ⟨y278, hy278⟩ : ∃ y_ : List Int, y_ = ((rd_L1 x252001_6 x16_6).set (0 : Int).toNat (-1)) := ⟨_, rfl⟩
                                            replace H : (wigeonlaw04_LureExchanges.l1 k6 (wrap64 (x16_6 + 1)) l0_0 l0_1 l0_0 l0_1 y276 (x252001_6.set (x16_6 : Int).toNat y278)) = some r := by first | (rw [hy278]; with_reducible exact H) | (have H2_ := (Option.bind_some _ _).symm.trans H; rw [hy278]; with_reducible exact H2_) | (have H2_ := (Option.bind_some _ _).symm.trans H; with_reducible exact H2_) | with_reducible exact H | (rw [hy278]; exact H) | exact H
                                            have Ny278 := Aside0.mk hy278
                                            clear hy278
                                            obtain ⟨y280, hy280⟩ : ∃ y_ : List (List Int), y_ = (x252001_6.set (x16_6 : Int).toNat y278) := ⟨_, rfl⟩
                                            replace H : (wigeonlaw04_LureExchanges.l1 k6 (wrap64 (x16_6 + 1)) l0_0 l0_1 l0_0 l0_1 y276 y280) = some r := by first | (rw [hy280]; with_reducible exact H) | (have H2_ := (Option.bind_some _ _).symm.trans H; rw [hy280]; with_reducible exact H2_) | (have H2_ := (Option.bind_some _ _).symm.trans H; with_reducible exact H2_) | with_reducible exact H | (rw [hy280]; exact H) | exact H
                                            have Ny280 := Aside0.mk hy280
                                            clear hy280
                                            have H' := Aside0.mk H
                                            clear H
                                            have hnb112 := NB251_240.out
                                            have hnc112 := NB240_251.out
                                            have hnb113 := NB251_243.out
                                            have hnc113 := NB243_251.out
                                            have hnb114 := NB251_259.out
                                            have hnc114 := NB259_251.out
                                            have hcz115_0 : wr.cell? ⟨gb251, 0, none⟩ = some (u252000) := (blk_cell BK251.out 0).trans rfl
                                            have hcz115_1 : wr.cell? ⟨gb251, 1, none⟩ = some (u252001) := (blk_cell BK251.out 1).trans rfl
                                            have hfz115_0 := blk_frozen BK251.out 0
                                            have hfz115_1 := blk_frozen BK251.out 1
                                            obtain ⟨Ao116, co116, eo116⟩ := Kd.S_slice HO_252001.out
                                            subst eo116
                                            have p109 : 0 ≤ (x16_6 : Int) := of_decide_eq_true (by first | (with_reducible assumption) | assumption)
                                            have q109 : (x16_6 : Int) < ((x252000_6.length : Int) : Int) := of_decide_eq_true (by first | (with_reducible assumption) | assumption)
                                            obtain ⟨go109, co109, eo109, gb109, gl109, cl109, HG109⟩ := Kd.R_form HO_252000.out (by omega)
                                            (first | cases eo109 | (injection eo109 with ea_ en_ ec_; (first | subst ea_ | (injection ea_ with ea_; subst ea_)); subst ec_; clear en_))
                                            have GB109 := Aside0.mk gb109
                                            have GG109 := Aside0.mk HG109
                                            clear gb109 gl109 HG109
                                            obtain ⟨hx109_0, hf109_0⟩ := Kd.R_celln 0 HO_252000.out (x16_6 : Int) p109 q109
                                            replace p109 := eq_true p109
                                            replace q109 := eq_true q109
                                            have HP117 := Kd.R_putg HO_252000.out (x16_6 : Int) 7
                                            go_wp2_with (first | ((with_reducible refine gate_store (t := 3) (p := 103) rfl ?_); refine store_event (t := 3) (p := 103) (v := ?vo_w118) (w1 := (wr.setCell ⟨go109, (x16_6 : Int).toNat, none⟩ (.int .i64 7))) ?hg ?ho ?hn ?hr ?_; (case ho => rfl); (case hg => rfl); (case hn => rfl); (case hr => first | (go_simp; done) | (go_simp; rfl)); intro w118 hw; have hg : wr.grownBy w118 (some go109) := (by rw [hw]; exact HP117.2); have hp_ : Kd.R (Kd.int .i64) 3 w118 w.heap.size (fun k_ => some k_ ≠ (u260000 : Value).ownBlock) (.slice (some ⟨go109, 0, none⟩) x252000_6.length co109) y276 := (by rw [hw, Ny276.out]; exact HP117.1); clear HP117; have n0_ := Aside0.mk (hp_); have n1_ := Aside0.mk (Kd.S_after (v := (.slice (some ⟨go109, 0, none⟩) x252000_6.length co109)) (v1 := (.slice (some ⟨go109, 0, none⟩) x252000_6.length co109)) (ok := (fun k_ => some k_ ≠ (u260000 : Value).ownBlock ∧ some k_ ≠ (u260001 : Value).ownBlock)) (by (with_reducible repeat (first | apply Kd.S_alloc | apply Kd.S_drewN | apply Kd.S_drew)); exact Kd.S_mono HO_252001.out (fun _ hk => ⟨⟨hk.2.1, hk.2.2⟩, hk.1⟩)) hg (.inl rfl)); have n2_ := Aside0.mk trivial; have n3_ := Aside0.mk trivial; have n4_ := Aside0.mk (blk_grown (g := gb240) (o := .cells #[.slice A0_0 l0_0.length c0_0, .slice A0_1 l0_1.length c0_1] 25 (0, 0)) (by (with_reducible repeat (first | refine blk_drewN ?_ _ | refine blk_drew ?_ | refine blk_alloc ?_ _)); exact BK240.out) hg (Kd.R_ne HO_252000.out BK240.out (by decide))); have n5_ := Aside0.mk (blk_grown (g := gb243) (o := .cells #[.slice B0 l0_0.length d0, .slice B1 l0_1.length d1] 25 (0, 0)) (by (with_reducible repeat (first | refine blk_drewN ?_ _ | refine blk_drew ?_ | refine blk_alloc ?_ _)); exact BK243.out) hg (Kd.R_ne HO_252000.out BK243.out (by decide))); have n6_ := Aside0.mk (blk_grown (g := gb251) (o := .cells #[.slice (some ⟨go109, 0, none⟩) x252000_6.length co109, .slice Ao116 x252001_6.length co116] 25 (0, 0)) (by (with_reducible repeat (first | refine blk_drewN ?_ _ | refine blk_drew ?_ | refine blk_alloc ?_ _)); exact BK251.out) hg (Kd.R_ne HO_252000.out BK251.out (by decide))); have n7_ := Aside0.mk (blk_grown (g := gb259) (o := .cells #[u260000, u260001] 25 (0, 0)) (by (with_reducible repeat (first | refine blk_drewN ?_ _ | refine blk_drew ?_ | refine blk_alloc ?_ _)); exact BK259.out) hg (Kd.R_ne HO_252000.out BK259.out (by decide))); have n8_ := Aside0.mk ((by rw [hw]; exact below_set (HB.out) GB109.out : Below w.heap.size w w118)); clear HO_252000; clear HO_252001; clear HO_260000; clear HO_260001; clear BK240; clear BK243; clear BK251; clear BK259; clear HB; have HO_252000 := n0_; have HO_252001 := n1_; have HO_260000 := n2_; have HO_260001 := n3_; have BK240 := n4_; have BK243 := n5_; have BK251 := n6_; have BK259 := n7_; have HB := n8_; clear n0_ n1_ n2_ n3_ n4_ n5_ n6_ n7_ n8_; clear hg hw hp_; have hcz119_0 : w118.cell? ⟨gb251, 0, none⟩ = some (.slice (some ⟨go109, 0, none⟩) x252000_6.length co109) := (blk_cell BK251.out 0).trans rfl; have hcz119_1 : w118.cell? ⟨gb251, 1, none⟩ = some (.slice Ao116 x252001_6.length co116) := (blk_cell BK251.out 1).trans rfl; have hfz119_0 := blk_frozen BK251.out 0; have hfz119_1 := blk_frozen BK251.out 1; have p277 : 0 ≤ (x16_6 : Int) := of_decide_eq_true (by first | (with_reducible assumption) | assumption); have q277 : x16_6 < (x252001_6.length : Int) := of_decide_eq_true (by first | (with_reducible assumption) | assumption); obtain ⟨ad277, A277_0, c277_0, e277, hx277_0, hl277_0, hi277_0⟩ := at_L1 (Kd.S_reads' HO_252001.out).2.2 x16_6 p277 q277; cases e277; obtain ⟨ce277, hce277, hMe277, hcc277⟩ := Kd.S_get HO_252001.out [] x16_6 p277 (by first | exact q277 | exact of_decide_eq_true (by first | (with_reducible assumption) | assumption) | (have e_ := (Kd.S_reads' HO_252001.out).1; omega)); obtain ⟨ve277_0, rfl, ge277_0⟩ := hMe277; have hv277_0 := hcc277 0 _ rfl; rw [Nat.add_zero, show ((Kd.slice 3 (Kd.int .i64))).sz = 1 from rfl, Nat.mul_one] at hv277_0; replace hv277_0 := Option.some.inj (hv277_0.symm.trans hx277_0); rw [hv277_0] at ge277_0; have HL277_0 := Aside0.mk (show Kd.R (Kd.int .i64) 3 _ _ _ _ (rd_L1 x252001_6 x16_6) from ge277_0); clear hv277_0 ge277_0; have HX277_0 := Aside0.mk hx277_0; clear hcc277 hce277; have HR277_0 := Aside0.mk hi277_0; have HC277_0 := Aside0.mk hl277_0; clear hi277_0 hl277_0; replace p277 := eq_true p277; replace q277 := eq_true q277; have p111 : 0 ≤ (0 : Int) := (by omega); have q111 : (0 : Int) < (((rd_L1 x252001_6 x16_6).length : Int) : Int) := of_decide_eq_true (by first | (with_reducible assumption) | assumption); have qi111 : (0 < (rd_L1 x252001_6 x16_6).length) = True := eq_true (by omega); obtain ⟨go111, co111, eo111, gb111, gl111, cl111, HG111⟩ := Kd.R_form HL277_0.out (by omega); (first | cases eo111 | (injection eo111 with ea_ en_ ec_; (first | subst ea_ | (injection ea_ with ea_; subst ea_)); subst ec_; clear en_)); have GB111 := Aside0.mk gb111; have GG111 := Aside0.mk HG111; clear gb111 gl111 HG111; obtain ⟨hx111_0, hf111_0⟩ := Kd.R_celln 0 HL277_0.out (0 : Int) p111 q111; (try rw [show ((0 : Int)).toNat = 0 from rfl] at hx111_0); (try simp only [Nat.reduceMul, Nat.zero_mul, Nat.zero_add, Nat.reduceAdd] at hx111_0); (try rw [show ((0 : Int)).toNat = 0 from rfl] at hf111_0); (try simp only [Nat.reduceMul, Nat.zero_mul, Nat.zero_add, Nat.reduceAdd] at hf111_0); replace p111 := eq_true p111; replace q111 := eq_true q111; have n_ := Aside0.mk (Kd.S_mono (ok' := (fun k_ => some k_ ≠ (.slice (some ⟨go109, 0, none⟩) x252000_6.length co109 : Value).ownBlock ∧ some k_ ≠ (u260000 : Value).ownBlock ∧ some k_ ≠ (u260001 : Value).ownBlock)) HO_252001.out (fun k_ hk => ⟨hk.2, ⟨hk.1.1, hk.1.2⟩⟩)); clear HO_252001; have HO_252001 := n_; clear n_; have hq120 : (x16_6 : Int) < (x252001_6.length : Int) := (by have h_ : (x16_6 : Int) < ((x252001_6.length : Int) : Int) := of_decide_eq_true (by first | (with_reducible assumption) | assumption); first | exact h_ | (have e_ := (Kd.S_reads' HO_252001.out).1; omega) | simpa only [List.length_set, List.length_set] using h_); obtain ⟨oki120, ce120, hcl120, hM120, hcc120, hok120, hbk120⟩ := Kd.S_borrow HO_252001.out [] (x16_6 : Int) (of_decide_eq_true (by first | (with_reducible assumption) | assumption)) hq120; obtain ⟨ve120_0, rfl, ge120_0⟩ := hM120; have hv120 := hcc120 0 _ rfl; rw [Nat.add_zero, show ((Kd.slice 3 (Kd.int .i64))).sz = 1 from rfl, Nat.mul_one] at hv120; replace hv120 := Option.some.inj (hv120.symm.trans HX277_0.out); subst hv120; clear hcc120 hcl120; replace ge120_0 := (show Kd.R (Kd.int .i64) 3 _ _ _ _ (rd_L1 x252001_6 x16_6) from ge120_0); have HP120 := Kd.R_putg ge120_0 (0 : Int) (-1)) | ((with_reducible refine gate_store (t := 3) (p := 109) rfl ?_); refine store_event (t := 3) (p := 109) (v := ?vo_w121) (w1 := (w118.setCell ⟨go111, 0, none⟩ (.int .i64 (-1)))) ?hg ?ho ?hn ?hr ?_; (case ho => rfl); (case hg => rfl); (case hn => rfl); (case hr => first | (go_simp; done) | (go_simp; rfl)); intro w121 hw; have hg : w118.grownBy w121 (some go111) := (by rw [hw]; exact HP120.2); have hz_ : Kd.R (Kd.int .i64) 3 w121 w.heap.size oki120 (.slice (some ⟨go111, 0, none⟩) (rd_L1 x252001_6 x16_6).length c277_0) y278 := (by rw [hw, Ny278.out]; exact HP120.1); have hp_ : Kd.S (Kd.slice 3 (Kd.int .i64)) 22 w121 w.heap.size (fun k_ => some k_ ≠ (.slice (some ⟨go109, 0, none⟩) x252000_6.length co109 : Value).ownBlock ∧ some k_ ≠ (u260000 : Value).ownBlock ∧ some k_ ≠ (u260001 : Value).ownBlock) (.slice (some ad277) x252001_6.length co116) y280 := (by rw [Ny280.out]; exact hbk120 hg (fun k_ e_ => by injection e_ with e_; subst e_; exact ge120_0.1 _ rfl) (Kd.M_row hz_)); have hm_ := Kd.R_mono hz_ hok120; clear HP120 hbk120; have n0_ := Aside0.mk (Kd.R_grown1 (by (with_reducible repeat (first | apply Kd.R_alloc | apply Kd.R_drewN | apply Kd.R_drew)); exact HO_252000.out) rfl hg ((HL277_0.out.1 _ rfl).1.2)); have n1_ := Aside0.mk (hp_); have n2_ := Aside0.mk trivial; have n3_ := Aside0.mk trivial; have n4_ := Aside0.mk (blk_grown (g := gb240) (o := .cells #[.slice A0_0 l0_0.length c0_0, .slice A0_1 l0_1.length c0_1] 25 (0, 0)) (by (with_reducible repeat (first | refine blk_drewN ?_ _ | refine blk_drew ?_ | refine blk_alloc ?_ _)); exact BK240.out) hg (Kd.R_ne HL277_0.out BK240.out (by decide))); have n5_ := Aside0.mk (blk_grown (g := gb243) (o := .cells #[.slice B0 l0_0.length d0, .slice B1 l0_1.length d1] 25 (0, 0)) (by (with_reducible repeat (first | refine blk_drewN ?_ _ | refine blk_drew ?_ | refine blk_alloc ?_ _)); exact BK243.out) hg (Kd.R_ne HL277_0.out BK243.out (by decide))); have n6_ := Aside0.mk (blk_grown (g := gb251) (o := .cells #[.slice (some ⟨go109, 0, none⟩) x252000_6.length co109, .slice (some ad277) x252001_6.length co116] 25 (0, 0)) (by (with_reducible repeat (first | refine blk_drewN ?_ _ | refine blk_drew ?_ | refine blk_alloc ?_ _)); exact BK251.out) hg (Kd.R_ne HL277_0.out BK251.out (by decide))); have n7_ := Aside0.mk (blk_grown (g := gb259) (o := .cells #[u260000, u260001] 25 (0, 0)) (by (with_reducible repeat (first | refine blk_drewN ?_ _ | refine blk_drew ?_ | refine blk_alloc ?_ _)); exact BK259.out) hg (Kd.R_ne HL277_0.out BK259.out (by decide))); have n8_ := Aside0.mk ((by rw [hw]; exact below_set (HB.out) GB111.out : Below w.heap.size w w121)); have n9_ := Aside0.mk (hm_); have n10_ := Aside0.mk ((Kd.R_reads' hm_).2.1); clear HO_252000; clear HO_252001; clear HO_260000; clear HO_260001; clear BK240; clear BK243; clear BK251; clear BK259; clear HB; clear HL277_0; have HO_252000 := n0_; have HO_252001 := n1_; have HO_260000 := n2_; have HO_260001 := n3_; have BK240 := n4_; have BK243 := n5_; have BK251 := n6_; have BK259 := n7_; have HB := n8_; have HL283 := n9_; have HC279 := n10_; clear n0_ n1_ n2_ n3_ n4_ n5_ n6_ n7_ n8_ n9_ n10_; clear hg hw hp_ hz_ hm_ hok120))
                                            go_roundg k6
                                            case measure => have := HJ2.out; have := HJ15.out; have := HJ48.out; have := HK4.out; have := HJ90.out; have := HK6.out; omega
                                            case rel => exact ⟨(wrap64 (x16_6 + 1)), (y276), (y280), (x260000_6), (x260001_6), (.slice (some ⟨go109, 0, none⟩) x252000_6.length co109), (.slice (some ad277) x252001_6.length co116), (u260000), (u260001), (by first | rfl | (simp; done) | (simp [*]; done)), H', ⟨by have := HJ2.out; have := HJ15.out; have := HJ48.out; have := HK4.out; have := HJ90.out; have := HK6.out; omega⟩, ⟨by (with_reducible repeat (first | apply Kd.R_alloc | apply Kd.R_drewN | apply Kd.R_drew)); exact HO_252000.out⟩, ⟨by (with_reducible repeat (first | apply Kd.S_alloc | apply Kd.S_drewN | apply Kd.S_drew)); exact HO_252001.out⟩, ⟨trivial⟩, ⟨trivial⟩, ⟨by (with_reducible repeat (first | refine blk_drewN ?_ _ | refine blk_drew ?_ | refine blk_alloc ?_ _)); exact BK240.out⟩, ⟨by (with_reducible repeat (first | refine blk_drewN ?_ _ | refine blk_drew ?_ | refine blk_alloc ?_ _)); exact BK243.out⟩, ⟨by (with_reducible repeat (first | refine blk_drewN ?_ _ | refine blk_drew ?_ | refine blk_alloc ?_ _)); exact BK251.out⟩, ⟨by (with_reducible repeat (first | refine blk_drewN ?_ _ | refine blk_drew ?_ | refine blk_alloc ?_ _)); exact BK259.out⟩, ⟨by repeat (first | (with_reducible first | exact HB.out | apply below_alloc | apply pw_below_drewN | apply below_drew1 | refine below_set ?_ GE240.out | refine below_set ?_ GE243.out | refine below_set ?_ GE251.out | refine below_set ?_ GE259.out) | exact HB.out)⟩⟩
                                          · rw [if_neg c110] at H
                                            exact absurd H (by simp)
                                        · rw [if_neg c108] at H
                                          exact absurd H (by simp)
                                      · rw [if_neg c107] at H
                                        exact absurd H (by simp)
                                    · rw [if_neg c106] at H
                                      have c106b0 : decide (x16_6 < (x252001_6.length : Int)) = false := decide_eq_false c106
                                      clear c106
                                      replace H := Option.bind_eq_some_iff.mp H
                                      obtain ⟨t281, A1220, H⟩ := H
                                      replace H : (if t281 = true then ((wigeonlaw04_known.f k6).bind fun t282 => (some t282)) else (some false)) = some r := H
                                      have A122 := Aside0.mk A1220
                                      clear A1220
                                      by_cases c123 : t281 = true
                                      · subst c123
                                        have H1 : ((wigeonlaw04_known.f k6).bind fun t282 => (some t282)) = some r := by rw [if_pos rfl] at H; exact H
                                        clear H
                                        have H := H1
                                        clear H1
                                        replace H := Option.bind_eq_some_iff.mp H
                                        obtain ⟨t282, A1240, H⟩ := H
                                        replace H : (some t282) = some r := H
                                        have A124 := Aside0.mk A1240
                                        clear A1240
                                        obtain rfl := Option.some.inj H
                                        have hnb125 := NB251_240.out
                                        have hnc125 := NB240_251.out
                                        have hnb126 := NB251_243.out
                                        have hnc126 := NB243_251.out
                                        have hnb127 := NB251_259.out
                                        have hnc127 := NB259_251.out
                                        have hcz128_0 : wr.cell? ⟨gb251, 0, none⟩ = some (u252000) := (blk_cell BK251.out 0).trans rfl
                                        have hcz128_1 : wr.cell? ⟨gb251, 1, none⟩ = some (u252001) := (blk_cell BK251.out 1).trans rfl
                                        have hfz128_0 := blk_frozen BK251.out 0
                                        have hfz128_1 := blk_frozen BK251.out 1
                                        obtain ⟨Ao129, co129, eo129⟩ := Kd.S_slice HO_252001.out
                                        subst eo129
                                        have hnb130 := NB243_240.out
                                        have hnc130 := NB240_243.out
                                        have hnb131 := NB243_259.out
                                        have hnc131 := NB259_243.out
                                        have hcz132_0 : wr.cell? ⟨gb243, 0, none⟩ = some (.slice B0 l0_0.length d0) := (blk_cell BK243.out 0).trans rfl
                                        have hcz132_1 : wr.cell? ⟨gb243, 1, none⟩ = some (.slice B1 l0_1.length d1) := (blk_cell BK243.out 1).trans rfl
                                        have hfz132_0 := blk_frozen BK243.out 0
                                        have hfz132_1 := blk_frozen BK243.out 1
                                        have hnb133 := NB240_259.out
                                        have hnc133 := NB259_240.out
                                        have hcz134_0 : wr.cell? ⟨gb240, 0, none⟩ = some (.slice A0_0 l0_0.length c0_0) := (blk_cell BK240.out 0).trans rfl
                                        have hcz134_1 : wr.cell? ⟨gb240, 1, none⟩ = some (.slice A0_1 l0_1.length c0_1) := (blk_cell BK240.out 1).trans rfl
                                        have hfz134_0 := blk_frozen BK240.out 0
                                        have hfz134_1 := blk_frozen BK240.out 1
                                        go_wp2_with (first | ((with_reducible refine gate_callee (f := 46) rfl ?_); refine goesL_ (some 112) rfl rfl Try.func46 (by kernel_rfl) rfl #[.agg #[.slice B0 l0_0.length d0, .slice B1 l0_1.length d1], .agg #[.slice A0_0 l0_0.length c0_0, .slice A0_1 l0_1.length c0_1]] rfl (by (try simp only [List.map_toArray, List.map_cons, List.map_nil]); first | done | rfl | (simp only [List.length_drop, List.length_take]; rfl)) ?_; (with_reducible refine (wigeonref04_Same.calls k6 _ _ l0_0 _ _ l0_1 _ _ l0_0 _ _ l0_1 true _ ?side1 ?side2 ?side3 ?side4 ?side5 ?side6 ?side7 ?side8 A122.out).mono ?_); (case side1 => repeat (first | exact (Kd.C_below HRo_0.out HB.out) | (with_reducible refine Kd.C_alloc ?_ _) | (with_reducible refine Kd.C_drewN ?_ _) | (with_reducible refine Kd.C_drew ?_))); (case side2 => exact HCo_0.out); (case side3 => repeat (first | exact (Kd.C_below HRo_1.out HB.out) | (with_reducible refine Kd.C_alloc ?_ _) | (with_reducible refine Kd.C_drewN ?_ _) | (with_reducible refine Kd.C_drew ?_))); (case side4 => exact HCo_1.out); (case side5 => repeat (first | exact (Kd.C_below HR0_0.out HB.out) | (with_reducible refine Kd.C_alloc ?_ _) | (with_reducible refine Kd.C_drewN ?_ _) | (with_reducible refine Kd.C_drew ?_))); (case side6 => exact HC0_0.out); (case side7 => repeat (first | exact (Kd.C_below HR0_1.out HB.out) | (with_reducible refine Kd.C_alloc ?_ _) | (with_reducible refine Kd.C_drewN ?_ _) | (with_reducible refine Kd.C_drew ?_))); (case side8 => exact HC0_1.out); rintro e w135 ⟨rfl, hb⟩; refine ⟨_, rfl, ?_⟩; have n0_ := Aside0.mk (Kd.R_below (by (with_reducible repeat (first | apply Kd.R_alloc | apply Kd.R_drewN | apply Kd.R_drew)); exact HO_252000.out) hb); have n1_ := Aside0.mk (Kd.S_below (by (with_reducible repeat (first | apply Kd.S_alloc | apply Kd.S_drewN | apply Kd.S_drew)); exact HO_252001.out) hb); have n2_ := Aside0.mk trivial; have n3_ := Aside0.mk trivial; have n4_ := Aside0.mk (blk_below (g := gb240) (o := .cells #[.slice A0_0 l0_0.length c0_0, .slice A0_1 l0_1.length c0_1] 25 (0, 0)) (by (with_reducible repeat (first | refine blk_drewN ?_ _ | refine blk_drew ?_ | refine blk_alloc ?_ _)); exact BK240.out) hb); have n5_ := Aside0.mk (blk_below (g := gb243) (o := .cells #[.slice B0 l0_0.length d0, .slice B1 l0_1.length d1] 25 (0, 0)) (by (with_reducible repeat (first | refine blk_drewN ?_ _ | refine blk_drew ?_ | refine blk_alloc ?_ _)); exact BK243.out) hb); have n6_ := Aside0.mk (blk_below (g := gb251) (o := .cells #[u252000, .slice Ao129 x252001_6.length co129] 25 (0, 0)) (by (with_reducible repeat (first | refine blk_drewN ?_ _ | refine blk_drew ?_ | refine blk_alloc ?_ _)); exact BK251.out) hb); have n7_ := Aside0.mk (blk_below (g := gb259) (o := .cells #[u260000, u260001] 25 (0, 0)) (by (with_reducible repeat (first | refine blk_drewN ?_ _ | refine blk_drew ?_ | refine blk_alloc ?_ _)); exact BK259.out) hb); have n8_ := Aside0.mk (below_step (by repeat (first | (with_reducible first | exact HB.out | apply below_alloc | apply pw_below_drewN | apply below_drew1 | refine below_set ?_ GE240.out | refine below_set ?_ GE243.out | refine below_set ?_ GE251.out | refine below_set ?_ GE259.out) | exact HB.out)) hb); clear HO_252000; clear HO_252001; clear HO_260000; clear HO_260001; clear BK240; clear BK243; clear BK251; clear BK259; clear HB; have HO_252000 := n0_; have HO_252001 := n1_; have HO_260000 := n2_; have HO_260001 := n3_; have BK240 := n4_; have BK243 := n5_; have BK251 := n6_; have BK259 := n7_; have HB := n8_; clear n0_ n1_ n2_ n3_ n4_ n5_ n6_ n7_ n8_; (try clear hb); (try clear hb2); (try clear hk); (try clear hi)) | (go_at_call 16; (with_reducible refine (wigeonlaw04_known.calls k6  t282 _ A124.out).mono ?_); rintro e w136 ⟨rfl, hb⟩; have n0_ := Aside0.mk (Kd.R_below (by (with_reducible repeat (first | apply Kd.R_alloc | apply Kd.R_drewN | apply Kd.R_drew)); exact HO_252000.out) hb); have n1_ := Aside0.mk (Kd.S_below (by (with_reducible repeat (first | apply Kd.S_alloc | apply Kd.S_drewN | apply Kd.S_drew)); exact HO_252001.out) hb); have n2_ := Aside0.mk trivial; have n3_ := Aside0.mk trivial; have n4_ := Aside0.mk (blk_below (g := gb240) (o := .cells #[.slice A0_0 l0_0.length c0_0, .slice A0_1 l0_1.length c0_1] 25 (0, 0)) (by (with_reducible repeat (first | refine blk_drewN ?_ _ | refine blk_drew ?_ | refine blk_alloc ?_ _)); exact BK240.out) hb); have n5_ := Aside0.mk (blk_below (g := gb243) (o := .cells #[.slice B0 l0_0.length d0, .slice B1 l0_1.length d1] 25 (0, 0)) (by (with_reducible repeat (first | refine blk_drewN ?_ _ | refine blk_drew ?_ | refine blk_alloc ?_ _)); exact BK243.out) hb); have n6_ := Aside0.mk (blk_below (g := gb251) (o := .cells #[u252000, .slice Ao129 x252001_6.length co129] 25 (0, 0)) (by (with_reducible repeat (first | refine blk_drewN ?_ _ | refine blk_drew ?_ | refine blk_alloc ?_ _)); exact BK251.out) hb); have n7_ := Aside0.mk (blk_below (g := gb259) (o := .cells #[u260000, u260001] 25 (0, 0)) (by (with_reducible repeat (first | refine blk_drewN ?_ _ | refine blk_drew ?_ | refine blk_alloc ?_ _)); exact BK259.out) hb); have n8_ := Aside0.mk (below_step (by repeat (first | (with_reducible first | exact HB.out | apply below_alloc | apply pw_below_drewN | apply below_drew1 | refine below_set ?_ GE240.out | refine below_set ?_ GE243.out | refine below_set ?_ GE251.out | refine below_set ?_ GE259.out) | exact HB.out)) hb); clear HO_252000; clear HO_252001; clear HO_260000; clear HO_260001; clear BK240; clear BK243; clear BK251; clear BK259; clear HB; have HO_252000 := n0_; have HO_252001 := n1_; have HO_260000 := n2_; have HO_260001 := n3_; have BK240 := n4_; have BK243 := n5_; have BK251 := n6_; have BK259 := n7_; have HB := n8_; clear n0_ n1_ n2_ n3_ n4_ n5_ n6_ n7_ n8_; (try clear hb); (try clear hb2); (try clear hk); (try clear hi)))
                                        go_ret
                                        exact ⟨by first | rfl | (simp [errW_none, errW_some] <;> rfl) | (simp [*, errW_none, errW_some] <;> rfl), below_step HBw.out (by repeat (first | (with_reducible first | exact HB.out | apply below_alloc | apply pw_below_drewN | apply below_drew1 | refine below_set ?_ GE240.out | refine below_set ?_ GE243.out | refine below_set ?_ GE251.out | refine below_set ?_ GE259.out) | exact HB.out))⟩
                                      · replace c123 := Bool.eq_false_iff.mpr c123
                                        subst c123
                                        have H1 : (some false) = some r := by rw [if_neg (show ¬ (false = true) by decide)] at H; exact H
                                        clear H
                                        have H := H1
                                        clear H1
                                        obtain rfl := Option.some.inj H
                                        have hnb137 := NB251_240.out
                                        have hnc137 := NB240_251.out
                                        have hnb138 := NB251_243.out
                                        have hnc138 := NB243_251.out
                                        have hnb139 := NB251_259.out
                                        have hnc139 := NB259_251.out
                                        have hcz140_0 : wr.cell? ⟨gb251, 0, none⟩ = some (u252000) := (blk_cell BK251.out 0).trans rfl
                                        have hcz140_1 : wr.cell? ⟨gb251, 1, none⟩ = some (u252001) := (blk_cell BK251.out 1).trans rfl
                                        have hfz140_0 := blk_frozen BK251.out 0
                                        have hfz140_1 := blk_frozen BK251.out 1
                                        obtain ⟨Ao141, co141, eo141⟩ := Kd.S_slice HO_252001.out
                                        subst eo141
                                        have hnb142 := NB243_240.out
                                        have hnc142 := NB240_243.out
                                        have hnb143 := NB243_259.out
                                        have hnc143 := NB259_243.out
                                        have hcz144_0 : wr.cell? ⟨gb243, 0, none⟩ = some (.slice B0 l0_0.length d0) := (blk_cell BK243.out 0).trans rfl
                                        have hcz144_1 : wr.cell? ⟨gb243, 1, none⟩ = some (.slice B1 l0_1.length d1) := (blk_cell BK243.out 1).trans rfl
                                        have hfz144_0 := blk_frozen BK243.out 0
                                        have hfz144_1 := blk_frozen BK243.out 1
                                        have hnb145 := NB240_259.out
                                        have hnc145 := NB259_240.out
                                        have hcz146_0 : wr.cell? ⟨gb240, 0, none⟩ = some (.slice A0_0 l0_0.length c0_0) := (blk_cell BK240.out 0).trans rfl
                                        have hcz146_1 : wr.cell? ⟨gb240, 1, none⟩ = some (.slice A0_1 l0_1.length c0_1) := (blk_cell BK240.out 1).trans rfl
                                        have hfz146_0 := blk_frozen BK240.out 0
                                        have hfz146_1 := blk_frozen BK240.out 1
                                        go_wp2_with (first | ((with_reducible refine gate_callee (f := 46) rfl ?_); refine goesL_ (some 112) rfl rfl Try.func46 (by kernel_rfl) rfl #[.agg #[.slice B0 l0_0.length d0, .slice B1 l0_1.length d1], .agg #[.slice A0_0 l0_0.length c0_0, .slice A0_1 l0_1.length c0_1]] rfl (by (try simp only [List.map_toArray, List.map_cons, List.map_nil]); first | done | rfl | (simp only [List.length_drop, List.length_take]; rfl)) ?_; (with_reducible refine (wigeonref04_Same.calls k6 _ _ l0_0 _ _ l0_1 _ _ l0_0 _ _ l0_1 false _ ?side1 ?side2 ?side3 ?side4 ?side5 ?side6 ?side7 ?side8 A122.out).mono ?_); (case side1 => repeat (first | exact (Kd.C_below HRo_0.out HB.out) | (with_reducible refine Kd.C_alloc ?_ _) | (with_reducible refine Kd.C_drewN ?_ _) | (with_reducible refine Kd.C_drew ?_))); (case side2 => exact HCo_0.out); (case side3 => repeat (first | exact (Kd.C_below HRo_1.out HB.out) | (with_reducible refine Kd.C_alloc ?_ _) | (with_reducible refine Kd.C_drewN ?_ _) | (with_reducible refine Kd.C_drew ?_))); (case side4 => exact HCo_1.out); (case side5 => repeat (first | exact (Kd.C_below HR0_0.out HB.out) | (with_reducible refine Kd.C_alloc ?_ _) | (with_reducible refine Kd.C_drewN ?_ _) | (with_reducible refine Kd.C_drew ?_))); (case side6 => exact HC0_0.out); (case side7 => repeat (first | exact (Kd.C_below HR0_1.out HB.out) | (with_reducible refine Kd.C_alloc ?_ _) | (with_reducible refine Kd.C_drewN ?_ _) | (with_reducible refine Kd.C_drew ?_))); (case side8 => exact HC0_1.out); rintro e w147 ⟨rfl, hb⟩; refine ⟨_, rfl, ?_⟩; have n0_ := Aside0.mk (Kd.R_below (by (with_reducible repeat (first | apply Kd.R_alloc | apply Kd.R_drewN | apply Kd.R_drew)); exact HO_252000.out) hb); have n1_ := Aside0.mk (Kd.S_below (by (with_reducible repeat (first | apply Kd.S_alloc | apply Kd.S_drewN | apply Kd.S_drew)); exact HO_252001.out) hb); have n2_ := Aside0.mk trivial; have n3_ := Aside0.mk trivial; have n4_ := Aside0.mk (blk_below (g := gb240) (o := .cells #[.slice A0_0 l0_0.length c0_0, .slice A0_1 l0_1.length c0_1] 25 (0, 0)) (by (with_reducible repeat (first | refine blk_drewN ?_ _ | refine blk_drew ?_ | refine blk_alloc ?_ _)); exact BK240.out) hb); have n5_ := Aside0.mk (blk_below (g := gb243) (o := .cells #[.slice B0 l0_0.length d0, .slice B1 l0_1.length d1] 25 (0, 0)) (by (with_reducible repeat (first | refine blk_drewN ?_ _ | refine blk_drew ?_ | refine blk_alloc ?_ _)); exact BK243.out) hb); have n6_ := Aside0.mk (blk_below (g := gb251) (o := .cells #[u252000, .slice Ao141 x252001_6.length co141] 25 (0, 0)) (by (with_reducible repeat (first | refine blk_drewN ?_ _ | refine blk_drew ?_ | refine blk_alloc ?_ _)); exact BK251.out) hb); have n7_ := Aside0.mk (blk_below (g := gb259) (o := .cells #[u260000, u260001] 25 (0, 0)) (by (with_reducible repeat (first | refine blk_drewN ?_ _ | refine blk_drew ?_ | refine blk_alloc ?_ _)); exact BK259.out) hb); have n8_ := Aside0.mk (below_step (by repeat (first | (with_reducible first | exact HB.out | apply below_alloc | apply pw_below_drewN | apply below_drew1 | refine below_set ?_ GE240.out | refine below_set ?_ GE243.out | refine below_set ?_ GE251.out | refine below_set ?_ GE259.out) | exact HB.out)) hb); clear HO_252000; clear HO_252001; clear HO_260000; clear HO_260001; clear BK240; clear BK243; clear BK251; clear BK259; clear HB; have HO_252000 := n0_; have HO_252001 := n1_; have HO_260000 := n2_; have HO_260001 := n3_; have BK240 := n4_; have BK243 := n5_; have BK251 := n6_; have BK259 := n7_; have HB := n8_; clear n0_ n1_ n2_ n3_ n4_ n5_ n6_ n7_ n8_; (try clear hb); (try clear hb2); (try clear hk); (try clear hi)))
                                        go_ret
                                        exact ⟨by first | rfl | (simp [errW_none, errW_some] <;> rfl) | (simp [*, errW_none, errW_some] <;> rfl), below_step HBw.out (by repeat (first | (with_reducible first | exact HB.out | apply below_alloc | apply pw_below_drewN | apply below_drew1 | refine below_set ?_ GE240.out | refine below_set ?_ GE243.out | refine below_set ?_ GE251.out | refine below_set ?_ GE259.out) | exact HB.out))⟩


end Go.Proofs.Ytnmaonampilmoaa.LE

