/- Of the text SGx13, what the row of ScreenGroups reaches. -/
import Derived.Test.YtgkgednbmfinnaaZScreenGroupsSGx0
import Derived.Test.YtgkgednbmfinnaaZScreenGroupsSGx6
import Derived.Test.YtgkgednbmfinnaaZScreenGroupsSGx12
namespace Go.Proofs.Ytgkgednbmfinnaa.SG
open Go.RowKit Go.Proofs.YtgkgednbmfinnaaW.PrintWords Go.Proofs.YtgkgednbmfinnaaW.PrintLast Go.Proofs.YtgkgednbmfinnaaW.PrintMore
attribute [local go_sem] max2_int min2_int max_two min_two max_three min_three max_four min_four   -- for this text's walks alone
set_option linter.unusedVariables false
set_option linter.unusedSimpArgs false

mutual
def screen_Groups.l0 : Nat → List (S23) → List Int → Int → Int → Int → Int → Option (Int × Int)
  | 0, _, _, _, _, _, _ => none
  | k + 1, x1, x7, x8, x9, x25, x26 => if x26 < x25 then (if 0 ≤ x26 then (if (Go.bits .and .i64 (shr .i64 x9 x26) 1) = 1 then (screen_Groups.l0 k x1 x7 x8 x9 x25 (wrap64 (x26 + 1))) else (screen_Groups.l1 k x1 x7 (wrap64 (x8 + 1)) x9 (shl .i64 1 x26) 0 x25 x26)) else (none)) else (some (x8, 0))
def screen_Groups.l1 : Nat → List (S23) → List Int → Int → Int → Int → Int → Int → Int → Option (Int × Int)
  | 0, _, _, _, _, _, _, _, _ => none
  | k + 1, x1, x7, x8, x9, x11, x12, x25, x26 => if x11 = x12 then (screen_Groups.l0 k x1 x7 x8 x9 x25 (wrap64 (x26 + 1))) else (screen_Groups.l2 k x1 x7 x8 x9 x11 x11 x25 x26 (x1.length : Int) 0)
def screen_Groups.l2 : Nat → List (S23) → List Int → Int → Int → Int → Int → Int → Int → Int → Int → Option (Int × Int)
  | 0, _, _, _, _, _, _, _, _, _, _ => none
  | k + 1, x1, x7, x8, x9, x11, x12, x25, x26, x43, x44 => if x44 < x43 then (if 0 ≤ x44 then (if (Go.bits .and .i64 (shr .i64 x11 x44) 1) = 1 then (if x44 < (x7.length : Int) then (screen_Groups.l2 k x1 x7 x8 x9 (Go.bits .or .i64 x11 (rd x7 x44)) x12 x25 x26 x43 (wrap64 (x44 + 1))) else (none)) else (screen_Groups.l2 k x1 x7 x8 x9 x11 x12 x25 x26 x43 (wrap64 (x44 + 1)))) else (none)) else (screen_Groups.l1 k x1 x7 x8 (Go.bits .or .i64 x9 x11) x11 x12 x25 x26)
end
def screen_Groups.f (k : Nat) (l0 : List (S55)) (l1 : List (S23)) : Option (Int × Int) := (screen_checked.f k l0 ([] : List (S23)) l1 0 0 0 0).bind fun t168 => (if t168 = 0 then ((screen_sights.f k l0 l1).bind fun t169 => (screen_Groups.l0 k l1 t169 0 0 (l1.length : Int) 0)) else (some (0, t168)))
set_option maxHeartbeats 8000000 in
set_option maxRecDepth 100000 in
theorem screen_Groups.calls (k : Nat) (A0 : Option Addr) (c0 : Nat) (l0 : List (S55)) (A1 : Option Addr) (c1 : Nat) (l1 : List (S23)) (r1 : Int) (r2 : Int) (w : World) (hr0 : Kd.C k55 w A0 l0.length l0) (hc0 : l0.length ≤ c0) (hr1 : Kd.C k23 w A1 l1.length l1) (hc1 : l1.length ≤ c1) (h : screen_Groups.f k l0 l1 = some (r1, r2)) :
    Calls Try.prog 42 #[.slice A0 l0.length c0, .slice A1 l1.length c1] w fun e w' => e = .returned (.tuple #[.int .i64 r1, .int .i64 r2]) ∧ Below w.heap.size w w' := by
  have hu44 := Try.underlying44
  have HR0 := Aside0.mk hr0
  have HC0 := Aside0.mk hc0
  clear hr0 hc0
  have HR1 := Aside0.mk hr1
  have HC1 := Aside0.mk hc1
  clear hr1 hc1
  have HB := Aside0.mk (Below.refl w.heap.size w)
  have H : ((screen_checked.f k l0 ([] : List (S23)) l1 0 0 0 0).bind fun t168 => (if t168 = 0 then ((screen_sights.f k l0 l1).bind fun t169 => (screen_Groups.l0 k l1 t169 0 0 (l1.length : Int) 0)) else (some (0, t168)))) = some (r1, r2) := h
  clear h
  replace H := Option.bind_eq_some_iff.mp H
  obtain ⟨t168, A30, H⟩ := H
  replace H : (if t168 = 0 then ((screen_sights.f k l0 l1).bind fun t169 => (screen_Groups.l0 k l1 t169 0 0 (l1.length : Int) 0)) else (some (0, t168))) = some (r1, r2) := H
  have A3 := Aside0.mk A30
  clear A30
  by_cases c4 : t168 = 0
  · rw [if_pos c4] at H
    have c4b0 : (t168 == 0) = true := beq_iff_eq.mpr c4
    have c4b1 : (t168 != 0) = false := bne_eq_false_iff_eq.mpr c4
    clear c4
    replace H := Option.bind_eq_some_iff.mp H
    obtain ⟨t169, A50, H⟩ := H
    replace H : (screen_Groups.l0 k l1 t169 0 0 (l1.length : Int) 0) = some (r1, r2) := H
    have A5 := Aside0.mk A50
    clear A50
    have H' := Aside0.mk H
    clear H
    go_enter Try.func42, Try.ntmps42
    go_wp2_with (first | ((with_reducible refine gate_callee (f := 54) rfl ?_); refine goesL_ (some 17) rfl rfl Try.func54 (by kernel_rfl) rfl #[.slice A0 l0.length c0, .slice none 0 0, .slice A1 l1.length c1, .agg #[.int .i64 0, .int .i64 0, .int .i64 0, .int .i64 0]] rfl (by (try simp only [List.map_toArray, List.map_cons, List.map_nil]); first | done | rfl | (simp only [List.length_drop, List.length_take]; rfl)) ?_; (refine (screen_checked.calls k _ _ l0 _ _ ([] : List (S23)) _ _ l1 0 0 0 0 t168 _ ?side1 ?side2 ?side3 ?side4 ?side5 ?side6 A3.out).mono ?_); (case side1 => repeat (first | exact HR0.out | (with_reducible refine Kd.C_alloc ?_ _) | (with_reducible refine Kd.C_drewN ?_ _) | (with_reducible refine Kd.C_drew ?_))); (case side2 => exact HC0.out); (case side3 => exact Kd.C_nil _ _); (case side4 => exact Nat.le_refl _); (case side5 => repeat (first | exact HR1.out | (with_reducible refine Kd.C_alloc ?_ _) | (with_reducible refine Kd.C_drewN ?_ _) | (with_reducible refine Kd.C_drew ?_))); (case side6 => exact HC1.out); rintro e w6 ⟨rfl, hb⟩; refine ⟨_, rfl, ?_⟩; have n0_ := Aside0.mk (below_step (by repeat (first | (with_reducible first | exact HB.out | apply below_alloc | apply pw_below_drewN | apply below_drew1) | exact HB.out)) hb); clear HB; have HB := n0_; clear n0_; (try clear hb); (try clear hb2); (try clear hk); (try clear hi)) | ((with_reducible refine gate_callee (f := 60) rfl ?_); refine goesL_ (some 23) rfl rfl Try.func60 (by kernel_rfl) rfl #[.slice A0 l0.length c0, .slice A1 l1.length c1] rfl (by (try simp only [List.map_toArray, List.map_cons, List.map_nil]); first | done | rfl | (simp only [List.length_drop, List.length_take]; rfl)) ?_; (with_reducible refine (screen_sights.calls k _ _ l0 _ _ l1 t169 _ ?side1 ?side2 ?side3 ?side4 A5.out).mono ?_); (case side1 => repeat (first | exact (Kd.C_below HR0.out HB.out) | (with_reducible refine Kd.C_alloc ?_ _) | (with_reducible refine Kd.C_drewN ?_ _) | (with_reducible refine Kd.C_drew ?_))); (case side2 => exact HC0.out); (case side3 => repeat (first | exact (Kd.C_below HR1.out HB.out) | (with_reducible refine Kd.C_alloc ?_ _) | (with_reducible refine Kd.C_drewN ?_ _) | (with_reducible refine Kd.C_drew ?_))); (case side4 => exact HC1.out); rintro e w7 ⟨v170, rfl, ho0, hb⟩; refine ⟨_, rfl, ?_⟩; have n0_ := Aside0.mk (Kd.R_lower ho0 (below_size (by repeat (first | (with_reducible first | exact HB.out | apply below_alloc | apply pw_below_drewN | apply below_drew1) | exact HB.out)))); have n1_ := Aside0.mk (below_step (by repeat (first | (with_reducible first | exact HB.out | apply below_alloc | apply pw_below_drewN | apply below_drew1) | exact HB.out)) hb); clear HB; have HO171 := n0_; have HB := n1_; clear n0_ n1_; (try clear hb); (try clear hb2); (try clear hk); (try clear hi); (try clear ho0)))
    go_loopg [8, 9, 26] k (fun kq v8 v9 v26 w' => ∃ (x8_1 : Int) (x9_1 : Int) (x26_1 : Int), v8 = .int .i64 x8_1 ∧ v9 = .int .i64 x9_1 ∧ v26 = .int .i64 x26_1 ∧ Aside0 (screen_Groups.l0 kq l1 t169 x8_1 x9_1 (l1.length : Int) x26_1 = some (r1, r2)) ∧ Aside0 (kq ≤ k) ∧ Aside0 (Kd.R (Kd.int .i64) 3 w' w.heap.size (fun _ => True) v170 t169) ∧ Aside0 (Below w.heap.size w w'))
    case atStart => exact ⟨(0), (0), (0), (by first | rfl | (simp; done) | (simp [*]; done)), (by first | rfl | (simp; done) | (simp [*]; done)), (by first | rfl | (simp; done) | (simp [*]; done)), H', ⟨Nat.le_refl _⟩, ⟨by (with_reducible repeat (first | apply Kd.R_alloc | apply Kd.R_drewN | apply Kd.R_drew)); exact HO171.out⟩, ⟨by repeat (first | (with_reducible first | exact HB.out | apply below_alloc | apply pw_below_drewN | apply below_drew1) | exact HB.out)⟩⟩
    case round =>
      clear H'
      try clear c1
      try clear p2
      try clear c4
      try clear c4b0
      try clear c4b1
      try clear c5
      try clear c6
      obtain ⟨x8_1, x9_1, x26_1, rfl, rfl, rfl, HA, HK1, HO_7, HB⟩ := hrel
      cases gk with
      | zero => exact absurd HA.out (by simp [screen_Groups.l0])
      | succ k1 =>
        have H := HA.out
        clear HA
        simp only [screen_Groups.l0] at H
        by_cases c8 : x26_1 < (l1.length : Int)
        · rw [if_pos c8] at H
          have c8b0 : decide (x26_1 < (l1.length : Int)) = true := decide_eq_true c8
          clear c8
          by_cases c9 : 0 ≤ x26_1
          · rw [if_pos c9] at H
            have c9b0 := eq_true c9
            have c9b1 : decide (0 ≤ x26_1) = true := decide_eq_true c9
            clear c9
            obtain ⟨ji10, hji10⟩ : ∃ j_ : Int, (shr .i64 x9_1 x26_1) = j_ := ⟨_, rfl⟩
            replace H : (if (Go.bits .and .i64 (ji10) 1) = 1 then (screen_Groups.l0 k1 l1 t169 x8_1 x9_1 (l1.length : Int) (wrap64 (x26_1 + 1))) else (screen_Groups.l1 k1 l1 t169 (wrap64 (x8_1 + 1)) x9_1 (shl .i64 1 x26_1) 0 (l1.length : Int) x26_1)) = some (r1, r2) := by first | (rw [hji10] at H; exact H) | (simp only [hji10] at H ⊢; exact H)
            have hji10_ : (x9_1 / 2 ^ min x26_1.toNat 64) = ji10 := hji10
            have hji10z : x26_1 ≤ 64 → (x9_1 / 2 ^ x26_1.toNat) = ji10 := shr_small hji10
            by_cases c11 : (Go.bits .and .i64 (ji10) 1) = 1
            · rw [if_pos c11] at H
              have c11b0 : ((Go.bits .and .i64 (ji10) 1) == 1) = true := beq_iff_eq.mpr c11
              have c11b1 : ((Go.bits .and .i64 (ji10) 1) != 1) = false := bne_eq_false_iff_eq.mpr c11
              clear c11
              have H' := Aside0.mk H
              clear H
              go_wp2
              go_roundg k1
              case measure => have := HK1.out; omega
              case rel => exact ⟨(x8_1), (x9_1), (wrap64 (x26_1 + 1)), (by first | rfl | (simp; done) | (simp [*]; done)), (by first | rfl | (simp; done) | (simp [*]; done)), (by first | rfl | (simp; done) | (simp [*]; done)), H', ⟨by have := HK1.out; omega⟩, ⟨by (with_reducible repeat (first | apply Kd.R_alloc | apply Kd.R_drewN | apply Kd.R_drew)); exact HO_7.out⟩, ⟨by repeat (first | (with_reducible first | exact HB.out | apply below_alloc | apply pw_below_drewN | apply below_drew1) | exact HB.out)⟩⟩
            · rw [if_neg c11] at H
              have c11b0 : ((Go.bits .and .i64 (ji10) 1) == 1) = false := beq_eq_false_iff_ne.mpr c11
              have c11b1 : ((Go.bits .and .i64 (ji10) 1) != 1) = true := bne_iff_ne.mpr c11
              have c12b0 := eq_true (of_decide_eq_true (by first | (with_reducible assumption) | assumption) : 0 ≤ x26_1)
              obtain ⟨ji13, hji13⟩ : ∃ j_ : Int, (shl .i64 1 x26_1) = j_ := ⟨_, rfl⟩
              replace H : (screen_Groups.l1 k1 l1 t169 (wrap64 (x8_1 + 1)) x9_1 ji13 0 (l1.length : Int) x26_1) = some (r1, r2) := by first | (rw [hji13] at H; exact H) | (simp only [hji13] at H ⊢; exact H)
              have hji13_ : (IntKind.i64.wrap (1 * 2 ^ min x26_1.toNat 64)) = ji13 := hji13
              have hji13z : x26_1 ≤ 64 → (IntKind.i64.wrap (1 * 2 ^ x26_1.toNat)) = ji13 := shl_small hji13
              have hji13u : (IntKind.i64.wrap (2 ^ min x26_1.toNat 64)) = ji13 := by have h_ := hji13_; rw [Int.one_mul] at h_; exact h_
              have hji13v : x26_1 ≤ 64 → (IntKind.i64.wrap (2 ^ x26_1.toNat)) = ji13 := fun hle_ => by have h_ := hji13z hle_; rw [Int.one_mul] at h_; exact h_
              have hji13y : (wrap64 (1 * 2 ^ min x26_1.toNat 64)) = ji13 := (i64_w _).symm.trans hji13_
              have hji13x : x26_1 ≤ 64 → (wrap64 (1 * 2 ^ x26_1.toNat)) = ji13 := fun h_ => (i64_w _).symm.trans (hji13z h_)
              have H' := Aside0.mk H
              clear H
              go_wp2
              go_loopg [9, 11, 12] k1 (fun kq v9 v11 v12 w' => ∃ (x9_2 : Int) (x11_2 : Int) (x12_2 : Int), v9 = .int .i64 x9_2 ∧ v11 = .int .i64 x11_2 ∧ v12 = .int .i64 x12_2 ∧ Aside0 (screen_Groups.l1 kq l1 t169 (wrap64 (x8_1 + 1)) x9_2 x11_2 x12_2 (l1.length : Int) x26_1 = some (r1, r2)) ∧ Aside0 (kq ≤ k1) ∧ Aside0 (Kd.R (Kd.int .i64) 3 w' w.heap.size (fun _ => True) v170 t169) ∧ Aside0 (Below w.heap.size w w'))
              case atStart => exact ⟨(x9_1), (ji13), (0), (by first | rfl | (simp; done) | (simp [*]; done)), (by first | rfl | (simp; done) | (simp only [← hji13] <;> (first | rfl | simp)) | (simp [*]; done)), (by first | rfl | (simp; done) | (simp [*]; done)), H', ⟨Nat.le_refl _⟩, ⟨by (with_reducible repeat (first | apply Kd.R_alloc | apply Kd.R_drewN | apply Kd.R_drew)); exact HO_7.out⟩, ⟨by repeat (first | (with_reducible first | exact HB.out | apply below_alloc | apply pw_below_drewN | apply below_drew1) | exact HB.out)⟩⟩
              case round =>
                clear H'
                try clear c1
                try clear p2
                try clear c4
                try clear c4b0
                try clear c4b1
                try clear c5
                try clear c6
                try clear p6
                try clear c8
                try clear c8b0
                try clear c9
                try clear c9b0
                try clear c9b1
                try clear c11
                try clear c11b0
                try clear c11b1
                try clear c12
                try clear c12b0
                try clear p2
                obtain ⟨x9_2, x11_2, x12_2, rfl, rfl, rfl, HA, HK2, HO_7, HB⟩ := hrel
                cases gk with
                | zero => exact absurd HA.out (by simp [screen_Groups.l1])
                | succ k2 =>
                  have H := HA.out
                  clear HA
                  simp only [screen_Groups.l1] at H
                  by_cases c14 : x11_2 = x12_2
                  · rw [if_pos c14] at H
                    have c14b0 : (x11_2 == x12_2) = true := beq_iff_eq.mpr c14
                    have c14b1 : (x11_2 != x12_2) = false := bne_eq_false_iff_eq.mpr c14
                    clear c14
                    have H' := Aside0.mk H
                    clear H
                    go_wp2
                    go_roundg k2
                    case measure => have := HK1.out; have := HK2.out; omega
                    case rel => exact ⟨((wrap64 (x8_1 + 1))), (x9_2), (wrap64 (x26_1 + 1)), (by first | rfl | (simp; done) | (simp [*]; done)), (by first | rfl | (simp; done) | (simp [*]; done)), (by first | rfl | (simp; done) | (simp [*]; done)), H', ⟨by have := HK1.out; have := HK2.out; omega⟩, ⟨by (with_reducible repeat (first | apply Kd.R_alloc | apply Kd.R_drewN | apply Kd.R_drew)); exact HO_7.out⟩, ⟨by repeat (first | (with_reducible first | exact HB.out | apply below_alloc | apply pw_below_drewN | apply below_drew1) | exact HB.out)⟩⟩
                  · rw [if_neg c14] at H
                    have c14b0 : (x11_2 == x12_2) = false := beq_eq_false_iff_ne.mpr c14
                    have c14b1 : (x11_2 != x12_2) = true := bne_iff_ne.mpr c14
                    have H' := Aside0.mk H
                    clear H
                    go_wp2
                    go_loopg [11, 44] k2 (fun kq v11 v44 w' => ∃ (x11_3 : Int) (x44_3 : Int), v11 = .int .i64 x11_3 ∧ v44 = .int .i64 x44_3 ∧ Aside0 (screen_Groups.l2 kq l1 t169 (wrap64 (x8_1 + 1)) x9_2 x11_3 x11_2 (l1.length : Int) x26_1 (l1.length : Int) x44_3 = some (r1, r2)) ∧ Aside0 (kq ≤ k2) ∧ Aside0 (Kd.R (Kd.int .i64) 3 w' w.heap.size (fun _ => True) v170 t169) ∧ Aside0 (Below w.heap.size w w'))
                    case atStart => exact ⟨(x11_2), (0), (by first | rfl | (simp; done) | (simp [*]; done)), (by first | rfl | (simp; done) | (simp [*]; done)), H', ⟨Nat.le_refl _⟩, ⟨by (with_reducible repeat (first | apply Kd.R_alloc | apply Kd.R_drewN | apply Kd.R_drew)); exact HO_7.out⟩, ⟨by repeat (first | (with_reducible first | exact HB.out | apply below_alloc | apply pw_below_drewN | apply below_drew1) | exact HB.out)⟩⟩
                    case round =>
                      clear H'
                      try clear c1
                      try clear p2
                      try clear c4
                      try clear c4b0
                      try clear c4b1
                      try clear c5
                      try clear c6
                      try clear p6
                      try clear c8
                      try clear c8b0
                      try clear c9
                      try clear c9b0
                      try clear c9b1
                      try clear c11
                      try clear c11b0
                      try clear c11b1
                      try clear c12
                      try clear c12b0
                      try clear c14
                      try clear c14b0
                      try clear c14b1
                      try clear p2
                      try clear p6
                      obtain ⟨x11_3, x44_3, rfl, rfl, HA, HK3, HO_7, HB⟩ := hrel
                      cases gk with
                      | zero => exact absurd HA.out (by simp [screen_Groups.l2])
                      | succ k3 =>
                        have H := HA.out
                        clear HA
                        simp only [screen_Groups.l2] at H
                        by_cases c15 : x44_3 < (l1.length : Int)
                        · rw [if_pos c15] at H
                          have c15b0 : decide (x44_3 < (l1.length : Int)) = true := decide_eq_true c15
                          clear c15
                          by_cases c16 : 0 ≤ x44_3
                          · rw [if_pos c16] at H
                            have c16b0 := eq_true c16
                            have c16b1 : decide (0 ≤ x44_3) = true := decide_eq_true c16
                            clear c16
                            obtain ⟨ji17, hji17⟩ : ∃ j_ : Int, (shr .i64 x11_3 x44_3) = j_ := ⟨_, rfl⟩
                            replace H : (if (Go.bits .and .i64 (ji17) 1) = 1 then (if x44_3 < (t169.length : Int) then (screen_Groups.l2 k3 l1 t169 (wrap64 (x8_1 + 1)) x9_2 (Go.bits .or .i64 x11_3 (rd t169 x44_3)) x11_2 (l1.length : Int) x26_1 (l1.length : Int) (wrap64 (x44_3 + 1))) else (none)) else (screen_Groups.l2 k3 l1 t169 (wrap64 (x8_1 + 1)) x9_2 x11_3 x11_2 (l1.length : Int) x26_1 (l1.length : Int) (wrap64 (x44_3 + 1)))) = some (r1, r2) := by first | (rw [hji17] at H; exact H) | (simp only [hji17] at H ⊢; exact H)
                            have hji17_ : (x11_3 / 2 ^ min x44_3.toNat 64) = ji17 := hji17
                            have hji17z : x44_3 ≤ 64 → (x11_3 / 2 ^ x44_3.toNat) = ji17 := shr_small hji17
                            by_cases c18 : (Go.bits .and .i64 (ji17) 1) = 1
                            · rw [if_pos c18] at H
                              have c18b0 : ((Go.bits .and .i64 (ji17) 1) == 1) = true := beq_iff_eq.mpr c18
                              have c18b1 : ((Go.bits .and .i64 (ji17) 1) != 1) = false := bne_eq_false_iff_eq.mpr c18
                              clear c18
                              by_cases c19 : x44_3 < (t169.length : Int)
                              · rw [if_pos c19] at H
                                have c19b0 : decide (x44_3 < (t169.length : Int)) = true := decide_eq_true c19
                                clear c19
                                have H' := Aside0.mk H
                                clear H
                                obtain ⟨Ao20, co20, eo20⟩ := Kd.R_slice HO_7.out
                                subst eo20
                                have p172 : 0 ≤ (x44_3 : Int) := of_decide_eq_true (by first | (with_reducible assumption) | assumption)
                                have q172 : x44_3 < (t169.length : Int) := of_decide_eq_true (by first | (with_reducible assumption) | assumption)
                                obtain ⟨ad172, e172, hx172_0⟩ := Kd.at_int (Kd.R_reads' HO_7.out).2.2 x44_3 p172 q172
                                cases e172
                                replace p172 := eq_true p172
                                replace q172 := eq_true q172
                                go_wp2
                                go_roundg k3
                                case measure => have := HK1.out; have := HK2.out; have := HK3.out; omega
                                case rel => exact ⟨(Go.bits .or .i64 x11_3 (rd t169 x44_3)), (wrap64 (x44_3 + 1)), (by first | rfl | (simp; done) | (simp [*]; done)), (by first | rfl | (simp; done) | (simp [*]; done)), H', ⟨by have := HK1.out; have := HK2.out; have := HK3.out; omega⟩, ⟨by (with_reducible repeat (first | apply Kd.R_alloc | apply Kd.R_drewN | apply Kd.R_drew)); exact HO_7.out⟩, ⟨by repeat (first | (with_reducible first | exact HB.out | apply below_alloc | apply pw_below_drewN | apply below_drew1) | exact HB.out)⟩⟩
                              · rw [if_neg c19] at H
                                exact absurd H (by simp)
                            · rw [if_neg c18] at H
                              have c18b0 : ((Go.bits .and .i64 (ji17) 1) == 1) = false := beq_eq_false_iff_ne.mpr c18
                              have c18b1 : ((Go.bits .and .i64 (ji17) 1) != 1) = true := bne_iff_ne.mpr c18
                              have H' := Aside0.mk H
                              clear H
                              go_wp2
                              go_roundg k3
                              case measure => have := HK1.out; have := HK2.out; have := HK3.out; omega
                              case rel => exact ⟨(x11_3), (wrap64 (x44_3 + 1)), (by first | rfl | (simp; done) | (simp [*]; done)), (by first | rfl | (simp; done) | (simp [*]; done)), H', ⟨by have := HK1.out; have := HK2.out; have := HK3.out; omega⟩, ⟨by (with_reducible repeat (first | apply Kd.R_alloc | apply Kd.R_drewN | apply Kd.R_drew)); exact HO_7.out⟩, ⟨by repeat (first | (with_reducible first | exact HB.out | apply below_alloc | apply pw_below_drewN | apply below_drew1) | exact HB.out)⟩⟩
                          · rw [if_neg c16] at H
                            exact absurd H (by simp)
                        · rw [if_neg c15] at H
                          have c15b0 : decide (x44_3 < (l1.length : Int)) = false := decide_eq_false c15
                          clear c15
                          have H' := Aside0.mk H
                          clear H
                          go_wp2
                          go_roundg k3
                          case measure => have := HK1.out; have := HK2.out; have := HK3.out; omega
                          case rel => exact ⟨(Go.bits .or .i64 x9_2 x11_3), (x11_3), (x11_2), (by first | rfl | (simp; done) | (simp [*]; done)), (by first | rfl | (simp; done) | (simp [*]; done)), (by first | rfl | (simp; done) | (simp [*]; done)), H', ⟨by have := HK1.out; have := HK2.out; have := HK3.out; omega⟩, ⟨by (with_reducible repeat (first | apply Kd.R_alloc | apply Kd.R_drewN | apply Kd.R_drew)); exact HO_7.out⟩, ⟨by repeat (first | (with_reducible first | exact HB.out | apply below_alloc | apply pw_below_drewN | apply below_drew1) | exact HB.out)⟩⟩
          · rw [if_neg c9] at H
            exact absurd H (by simp)
        · rw [if_neg c8] at H
          have c8b0 : decide (x26_1 < (l1.length : Int)) = false := decide_eq_false c8
          clear c8
          simp only [Option.some.injEq, Prod.mk.injEq] at H
          obtain ⟨rfl, rfl⟩ := H
          go_wp2
          go_ret2
          exact ⟨by first | rfl | (simp [errW_none, errW_some] <;> rfl) | (simp [*, errW_none, errW_some] <;> rfl), by repeat (first | (with_reducible first | exact HB.out | apply below_alloc | apply pw_below_drewN | apply below_drew1) | exact HB.out)⟩
  · rw [if_neg c4] at H
    have c4b0 : (t168 == 0) = false := beq_eq_false_iff_ne.mpr c4
    have c4b1 : (t168 != 0) = true := bne_iff_ne.mpr c4
    simp only [Option.some.injEq, Prod.mk.injEq] at H
    obtain ⟨rfl, rfl⟩ := H
    go_enter Try.func42, Try.ntmps42
    go_wp2_with (first | ((with_reducible refine gate_callee (f := 54) rfl ?_); refine goesL_ (some 17) rfl rfl Try.func54 (by kernel_rfl) rfl #[.slice A0 l0.length c0, .slice none 0 0, .slice A1 l1.length c1, .agg #[.int .i64 0, .int .i64 0, .int .i64 0, .int .i64 0]] rfl (by (try simp only [List.map_toArray, List.map_cons, List.map_nil]); first | done | rfl | (simp only [List.length_drop, List.length_take]; rfl)) ?_; (refine (screen_checked.calls k _ _ l0 _ _ ([] : List (S23)) _ _ l1 0 0 0 0 t168 _ ?side1 ?side2 ?side3 ?side4 ?side5 ?side6 A3.out).mono ?_); (case side1 => repeat (first | exact HR0.out | (with_reducible refine Kd.C_alloc ?_ _) | (with_reducible refine Kd.C_drewN ?_ _) | (with_reducible refine Kd.C_drew ?_))); (case side2 => exact HC0.out); (case side3 => exact Kd.C_nil _ _); (case side4 => exact Nat.le_refl _); (case side5 => repeat (first | exact HR1.out | (with_reducible refine Kd.C_alloc ?_ _) | (with_reducible refine Kd.C_drewN ?_ _) | (with_reducible refine Kd.C_drew ?_))); (case side6 => exact HC1.out); rintro e w21 ⟨rfl, hb⟩; refine ⟨_, rfl, ?_⟩; have n0_ := Aside0.mk (below_step (by repeat (first | (with_reducible first | exact HB.out | apply below_alloc | apply pw_below_drewN | apply below_drew1) | exact HB.out)) hb); clear HB; have HB := n0_; clear n0_; (try clear hb); (try clear hb2); (try clear hk); (try clear hi)))
    go_ret2
    exact ⟨by first | rfl | (simp [errW_none, errW_some] <;> rfl) | (simp [*, errW_none, errW_some] <;> rfl), by repeat (first | (with_reducible first | exact HB.out | apply below_alloc | apply pw_below_drewN | apply below_drew1) | exact HB.out)⟩

def wigeonref02_within.f (a0 : Int) (a1 : Int) (a2 : Int) : Option (Bool) := if a0 ≥ a1 then (some (decide (a0 ≤ a2))) else (some false)
set_option maxHeartbeats 8000000 in
set_option maxRecDepth 100000 in
theorem wigeonref02_within.calls (a0 : Int) (a1 : Int) (a2 : Int) (r : Bool) (w : World) (h : wigeonref02_within.f a0 a1 a2 = some r) :
    Calls Try.prog 67 #[.int .i64 a0, .int .i64 a1, .int .i64 a2] w fun e w' => e = .returned (.bool r) ∧ Drawn0 w w' := by
  have H : (if a0 ≥ a1 then (some (decide (a0 ≤ a2))) else (some false)) = some r := h
  clear h
  by_cases c4 : a0 ≥ a1
  · rw [if_pos c4] at H
    have c4b0 : decide (a1 ≤ a0) = true := decide_eq_true c4
    clear c4
    obtain rfl := Option.some.inj H
    go_enter Try.func67, Try.ntmps67
    go_wp2
    go_ret
    exact ⟨by first | rfl | (simp; done) | (simp [*]; done) | (simp [IntKind.wrap_i64, wrap64]; done), by repeat (first | exact Drawn0.refl _ | apply Drawn0.step)⟩
  · rw [if_neg c4] at H
    have c4b0 : decide (a1 ≤ a0) = false := decide_eq_false c4
    clear c4
    obtain rfl := Option.some.inj H
    go_enter Try.func67, Try.ntmps67
    go_wp2
    go_ret
    exact ⟨by first | rfl | (simp; done) | (simp [*]; done) | (simp [IntKind.wrap_i64, wrap64]; done), by repeat (first | exact Drawn0.refl _ | apply Drawn0.step)⟩

def wigeonref02_IsPoint.f (a0_0 : Int) (a0_1 : Int) : Option (Bool) := (wigeonref02_within.f a0_0 (-100) 100).bind fun t174 => (if t174 = true then ((wigeonref02_within.f a0_1 (-100) 100).bind fun t175 => (some t175)) else (some false))
set_option maxHeartbeats 8000000 in
set_option maxRecDepth 100000 in
theorem wigeonref02_IsPoint.calls (a0_0 : Int) (a0_1 : Int) (r : Bool) (w : World) (h : wigeonref02_IsPoint.f a0_0 a0_1 = some r) :
    Calls Try.prog 59 #[.agg #[.int .i64 a0_0, .int .i64 a0_1]] w fun e w' => e = .returned (.bool r) ∧ Below w.heap.size w w' := by
  have hu23 := Try.underlying23
  have HB := Aside0.mk (Below.refl w.heap.size w)
  have H : ((wigeonref02_within.f a0_0 (-100) 100).bind fun t174 => (if t174 = true then ((wigeonref02_within.f a0_1 (-100) 100).bind fun t175 => (some t175)) else (some false))) = some r := h
  clear h
  replace H := Option.bind_eq_some_iff.mp H
  obtain ⟨t174, A20, H⟩ := H
  replace H : (if t174 = true then ((wigeonref02_within.f a0_1 (-100) 100).bind fun t175 => (some t175)) else (some false)) = some r := H
  have A2 := Aside0.mk A20
  clear A20
  by_cases c3 : t174 = true
  · subst c3
    have H1 : ((wigeonref02_within.f a0_1 (-100) 100).bind fun t175 => (some t175)) = some r := by rw [if_pos rfl] at H; exact H
    clear H
    have H := H1
    clear H1
    replace H := Option.bind_eq_some_iff.mp H
    obtain ⟨t175, A40, H⟩ := H
    replace H : (some t175) = some r := H
    have A4 := Aside0.mk A40
    clear A40
    obtain rfl := Option.some.inj H
    go_enter Try.func59, Try.ntmps59
    go_wp2_with (first | ((with_reducible refine gate_dst (N := 1) rfl ?_); refine box_event ?hg (N := 1) ?hd (cs := #[.int .i64 a0_0, .int .i64 a0_1]) (t := 23) ?hr ?_; (case hd => rfl); (case hg => rfl); (case hr => first | (go_simp; done) | (go_simp; rfl)); intro gb173 hg w5 hbox hb; have n0_ := Aside0.mk (below_step (by repeat (first | (with_reducible first | exact HB.out | apply below_alloc | apply pw_below_drewN | apply below_drew1) | exact HB.out)) hb); have n1_ := Aside0.mk (hbox); have n2_ := Aside0.mk ((by rw [hg]; exact (below_size (by repeat (first | (with_reducible first | exact HB.out | apply below_alloc | apply pw_below_drewN | apply below_drew1) | exact HB.out))) : w.heap.size ≤ gb173)); have n3_ := Aside0.mk ((by rw [hg]; exact (below_size (by repeat (first | (with_reducible first | exact HB.out | apply below_alloc | apply pw_below_drewN | apply below_drew1) | exact HB.out))) : w.heap.size ≤ gb173)); clear HB; have HB := n0_; have BK173 := n1_; have GW173 := n2_; have GE173 := n3_; clear n0_ n1_ n2_ n3_; clear hb hbox hg; have hcz6_0 : w5.cell? ⟨gb173, 0, none⟩ = some (.int .i64 a0_0) := (blk_cell BK173.out 0).trans rfl; have hcz6_1 : w5.cell? ⟨gb173, 1, none⟩ = some (.int .i64 a0_1) := (blk_cell BK173.out 1).trans rfl; have hfz6_0 := blk_frozen BK173.out 0; have hfz6_1 := blk_frozen BK173.out 1) | ((with_reducible refine gate_callee (f := 67) rfl ?_); refine goesL_ (some 5) rfl rfl Try.func67 (by kernel_rfl) rfl #[.int .i64 a0_0, .int .i64 (-100), .int .i64 100] rfl (by (try simp only [List.map_toArray, List.map_cons, List.map_nil]); first | done | rfl | (simp only [List.length_drop, List.length_take]; rfl)) ?_; (with_reducible refine (wigeonref02_within.calls a0_0 (-100) 100 true _ A2.out).mono ?_); rintro e w' ⟨rfl, ⟨nd, rfl⟩⟩; refine ⟨_, rfl, ?_⟩) | (go_at_call 67; (with_reducible refine (wigeonref02_within.calls a0_1 (-100) 100 t175 _ A4.out).mono ?_); rintro e w' ⟨rfl, ⟨nd, rfl⟩⟩))
    go_ret
    exact ⟨by first | rfl | (simp [errW_none, errW_some] <;> rfl) | (simp [*, errW_none, errW_some] <;> rfl), by repeat (first | (with_reducible first | exact HB.out | apply below_alloc | apply pw_below_drewN | apply below_drew1 | refine below_set ?_ GE173.out) | exact HB.out)⟩
  · replace c3 := Bool.eq_false_iff.mpr c3
    subst c3
    have H1 : (some false) = some r := by rw [if_neg (show ¬ (false = true) by decide)] at H; exact H
    clear H
    have H := H1
    clear H1
    obtain rfl := Option.some.inj H
    go_enter Try.func59, Try.ntmps59
    go_wp2_with (first | ((with_reducible refine gate_dst (N := 1) rfl ?_); refine box_event ?hg (N := 1) ?hd (cs := #[.int .i64 a0_0, .int .i64 a0_1]) (t := 23) ?hr ?_; (case hd => rfl); (case hg => rfl); (case hr => first | (go_simp; done) | (go_simp; rfl)); intro gb173 hg w7 hbox hb; have n0_ := Aside0.mk (below_step (by repeat (first | (with_reducible first | exact HB.out | apply below_alloc | apply pw_below_drewN | apply below_drew1) | exact HB.out)) hb); have n1_ := Aside0.mk (hbox); have n2_ := Aside0.mk ((by rw [hg]; exact (below_size (by repeat (first | (with_reducible first | exact HB.out | apply below_alloc | apply pw_below_drewN | apply below_drew1) | exact HB.out))) : w.heap.size ≤ gb173)); have n3_ := Aside0.mk ((by rw [hg]; exact (below_size (by repeat (first | (with_reducible first | exact HB.out | apply below_alloc | apply pw_below_drewN | apply below_drew1) | exact HB.out))) : w.heap.size ≤ gb173)); clear HB; have HB := n0_; have BK173 := n1_; have GW173 := n2_; have GE173 := n3_; clear n0_ n1_ n2_ n3_; clear hb hbox hg; have hcz8_0 : w7.cell? ⟨gb173, 0, none⟩ = some (.int .i64 a0_0) := (blk_cell BK173.out 0).trans rfl; have hcz8_1 : w7.cell? ⟨gb173, 1, none⟩ = some (.int .i64 a0_1) := (blk_cell BK173.out 1).trans rfl; have hfz8_0 := blk_frozen BK173.out 0; have hfz8_1 := blk_frozen BK173.out 1) | ((with_reducible refine gate_callee (f := 67) rfl ?_); refine goesL_ (some 5) rfl rfl Try.func67 (by kernel_rfl) rfl #[.int .i64 a0_0, .int .i64 (-100), .int .i64 100] rfl (by (try simp only [List.map_toArray, List.map_cons, List.map_nil]); first | done | rfl | (simp only [List.length_drop, List.length_take]; rfl)) ?_; (with_reducible refine (wigeonref02_within.calls a0_0 (-100) 100 false _ A2.out).mono ?_); rintro e w' ⟨rfl, ⟨nd, rfl⟩⟩; refine ⟨_, rfl, ?_⟩))
    go_ret
    exact ⟨by first | rfl | (simp [errW_none, errW_some] <;> rfl) | (simp [*, errW_none, errW_some] <;> rfl), by repeat (first | (with_reducible first | exact HB.out | apply below_alloc | apply pw_below_drewN | apply below_drew1 | refine below_set ?_ GE173.out) | exact HB.out)⟩

end Go.Proofs.Ytgkgednbmfinnaa.SG

