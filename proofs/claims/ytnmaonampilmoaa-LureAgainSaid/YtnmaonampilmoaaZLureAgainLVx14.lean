/- Of the text LVx14, what the row of LureAgain reaches. -/
import Derived.Test.YtnmaonampilmoaaZLureAgainLVx0
namespace Go.Proofs.Ytnmaonampilmoaa.LV
open Go.RowKit Go.Proofs.YtnmaonampilmoaaW.PrintWords Go.Proofs.YtnmaonampilmoaaW.PrintLast Go.Proofs.YtnmaonampilmoaaW.PrintMore
attribute [local go_sem] max2_int min2_int max_two min_two max_three min_three max_four min_four   -- for this text's walks alone
set_option linter.unusedVariables false
set_option linter.unusedSimpArgs false

def wigeonref04_bits.l0 : Nat → List Int → Int → Int → Option (Int)
  | 0, _, _, _ => none
  | k + 1, x0, x3, x4 => if x4 < (x0.length : Int) then (if 0 ≤ x4 then (if 0 ≤ (IntKind.u64.wrap (rd x0 x4)) then (wigeonref04_bits.l0 k x0 (Go.bits .or .i64 x3 (shl .i64 1 (IntKind.u64.wrap (rd x0 x4)))) (wrap64 (x4 + 1))) else (none)) else (none)) else (some x3)
def wigeonref04_bits.f (k : Nat) (l0 : List Int) : Option (Int) := wigeonref04_bits.l0 k l0 0 0
set_option maxHeartbeats 8000000 in
set_option maxRecDepth 100000 in
theorem wigeonref04_bits.calls (k : Nat) (A0 : Option Addr) (c0 : Nat) (l0 : List Int) (r : Int) (w : World) (hr0 : Kd.C (Kd.int .i64) w A0 l0.length l0) (hc0 : l0.length ≤ c0) (h : wigeonref04_bits.f k l0 = some r) :
    Calls Try.prog 51 #[.slice A0 l0.length c0] w fun e w' => e = .returned (.int .i64 r) ∧ Drawn0 w w' := by
  have HR0 := Aside0.mk hr0
  have HC0 := Aside0.mk hc0
  clear hr0 hc0
  have H : (wigeonref04_bits.l0 k l0 0 0) = some r := h
  clear h
  have H' := Aside0.mk H
  clear H
  go_enter Try.func51, Try.ntmps51
  go_wp2
  go_loopg [3, 4] k (fun kq v3 v4 w' => ∃ (x3_1 : Int) (x4_1 : Int), v3 = .int .i64 x3_1 ∧ v4 = .int .i64 x4_1 ∧ Aside0 (wigeonref04_bits.l0 kq l0 x3_1 x4_1 = some r) ∧ Aside0 (kq ≤ k) ∧ Drawn0 w w')
  case atStart => exact ⟨(0), (0), (by first | rfl | (simp; done) | (simp [*]; done)), (by first | rfl | (simp; done) | (simp [*]; done)), H', ⟨Nat.le_refl _⟩, by repeat (first | exact Drawn0.refl _ | apply Drawn0.step)⟩
  case round =>
    clear H'
    obtain ⟨x3_1, x4_1, rfl, rfl, HA, HK1, ⟨m1, rfl⟩⟩ := hrel
    cases gk with
    | zero => exact absurd HA.out (by simp [wigeonref04_bits.l0])
    | succ k1 =>
      have H := HA.out
      clear HA
      simp only [wigeonref04_bits.l0] at H
      by_cases c2 : x4_1 < (l0.length : Int)
      · rw [if_pos c2] at H
        have c2b0 : decide (x4_1 < (l0.length : Int)) = true := decide_eq_true c2
        clear c2
        by_cases c3 : 0 ≤ x4_1
        · rw [if_pos c3] at H
          have c3b0 : decide (0 ≤ x4_1) = true := decide_eq_true c3
          clear c3
          obtain ⟨ji4, hji4⟩ : ∃ j_ : Int, (IntKind.u64.wrap (rd l0 x4_1)) = j_ := ⟨_, rfl⟩
          replace H : (if 0 ≤ (ji4) then (wigeonref04_bits.l0 k1 l0 (Go.bits .or .i64 x3_1 (shl .i64 1 (ji4))) (wrap64 (x4_1 + 1))) else (none)) = some r := by first | (rw [hji4] at H; exact H) | (simp only [hji4] at H ⊢; exact H)
          by_cases c5 : 0 ≤ (ji4)
          · rw [if_pos c5] at H
            have c5b0 := eq_true c5
            have c5b1 : decide (0 ≤ (ji4)) = true := decide_eq_true c5
            clear c5
            obtain ⟨ji6, hji6⟩ : ∃ j_ : Int, (shl .i64 1 (ji4)) = j_ := ⟨_, rfl⟩
            replace H : (wigeonref04_bits.l0 k1 l0 (Go.bits .or .i64 x3_1 (ji6)) (wrap64 (x4_1 + 1))) = some r := by first | (rw [hji6] at H; exact H) | (simp only [hji6] at H ⊢; exact H)
            have hji6_ : (IntKind.i64.wrap (1 * 2 ^ min (ji4).toNat 64)) = ji6 := hji6
            have hji6z : (ji4) ≤ 64 → (IntKind.i64.wrap (1 * 2 ^ (ji4).toNat)) = ji6 := shl_small hji6
            have hji6u : (IntKind.i64.wrap (2 ^ min (ji4).toNat 64)) = ji6 := by have h_ := hji6_; rw [Int.one_mul] at h_; exact h_
            have hji6v : (ji4) ≤ 64 → (IntKind.i64.wrap (2 ^ (ji4).toNat)) = ji6 := fun hle_ => by have h_ := hji6z hle_; rw [Int.one_mul] at h_; exact h_
            have hji6y : (wrap64 (1 * 2 ^ min (ji4).toNat 64)) = ji6 := (i64_w _).symm.trans hji6_
            have hji6x : (ji4) ≤ 64 → (wrap64 (1 * 2 ^ (ji4).toNat)) = ji6 := fun h_ => (i64_w _).symm.trans (hji6z h_)
            have H' := Aside0.mk H
            clear H
            have p196 : 0 ≤ (x4_1 : Int) := of_decide_eq_true (by first | (with_reducible assumption) | assumption)
            have q196 : x4_1 < (l0.length : Int) := of_decide_eq_true (by first | (with_reducible assumption) | assumption)
            obtain ⟨ad196, e196, hx196_0⟩ := Kd.at_int HR0.out x4_1 p196 q196
            cases e196
            replace p196 := eq_true p196
            replace q196 := eq_true q196
            go_wp2
            go_roundg k1
            case measure => have := HK1.out; omega
            case rel => exact ⟨(Go.bits .or .i64 x3_1 (ji6)), (wrap64 (x4_1 + 1)), (by first | rfl | (simp; done) | (simp only [← hji6] <;> (first | rfl | (simp; done))) | (rw [shl1_any, hji6]; done) | (simp [*]; done)), (by first | rfl | (simp; done) | (simp [*]; done)), H', ⟨by have := HK1.out; omega⟩, by repeat (first | exact Drawn0.refl _ | apply Drawn0.step)⟩
          · rw [if_neg c5] at H
            exact absurd H (by simp)
        · rw [if_neg c3] at H
          exact absurd H (by simp)
      · rw [if_neg c2] at H
        have c2b0 : decide (x4_1 < (l0.length : Int)) = false := decide_eq_false c2
        clear c2
        obtain rfl := Option.some.inj H
        go_wp2
        go_ret
        exact ⟨by first | rfl | (simp; done) | (simp [*]; done) | (simp [IntKind.wrap_i64, wrap64]; done), by repeat (first | exact Drawn0.refl _ | apply Drawn0.step)⟩

def wigeonref04_before.l0 : Nat → Int → Int → Int → List Int → List (List Int) → Option (Int)
  | 0, _, _, _, _, _ => none
  | k + 1, x1, x5, x6, x198000, x198001 => if x6 < (x198000.length : Int) then (if 0 ≤ x6 then (if x6 < (x198001.length : Int) then ((wigeonref04_bits.f k (rd_L1 x198001 x6)).bind fun t199 => (if (rd x198000 x6) = 0 then (if (Go.bits .and .i64 t199 x1) = 0 then (if (rd x198000 x6) = 1 then (if (Go.bits .and .i64 t199 x1) = t199 then (if 0 ≤ (IntKind.u64.wrap (x6)) then (wigeonref04_before.l0 k x1 (Go.bits .or .i64 x5 (shl .i64 1 (IntKind.u64.wrap (x6)))) (wrap64 (x6 + 1)) x198000 x198001) else (none)) else (wigeonref04_before.l0 k x1 x5 (wrap64 (x6 + 1)) x198000 x198001)) else (wigeonref04_before.l0 k x1 x5 (wrap64 (x6 + 1)) x198000 x198001)) else (if 0 ≤ (IntKind.u64.wrap (x6)) then (wigeonref04_before.l0 k x1 (Go.bits .or .i64 x5 (shl .i64 1 (IntKind.u64.wrap (x6)))) (wrap64 (x6 + 1)) x198000 x198001) else (none))) else (if (rd x198000 x6) = 1 then (if (Go.bits .and .i64 t199 x1) = t199 then (if 0 ≤ (IntKind.u64.wrap (x6)) then (wigeonref04_before.l0 k x1 (Go.bits .or .i64 x5 (shl .i64 1 (IntKind.u64.wrap (x6)))) (wrap64 (x6 + 1)) x198000 x198001) else (none)) else (wigeonref04_before.l0 k x1 x5 (wrap64 (x6 + 1)) x198000 x198001)) else (wigeonref04_before.l0 k x1 x5 (wrap64 (x6 + 1)) x198000 x198001)))) else (none)) else (none)) else (some x5)
def wigeonref04_before.f (k : Nat) (l0_0 : List Int) (l0_1 : List (List Int)) (a1 : Int) : Option (Int) := wigeonref04_before.l0 k a1 0 0 l0_0 l0_1
set_option maxHeartbeats 8000000 in
set_option maxRecDepth 100000 in
theorem wigeonref04_before.calls (k : Nat) (A0_0 : Option Addr) (c0_0 : Nat) (l0_0 : List Int) (A0_1 : Option Addr) (c0_1 : Nat) (l0_1 : List (List Int)) (a1 : Int) (r : Int) (w : World) (hr0_0 : Kd.C (Kd.int .i64) w A0_0 l0_0.length l0_0) (hc0_0 : l0_0.length ≤ c0_0) (hr0_1 : Kd.C (Kd.slice 3 (Kd.int .i64)) w A0_1 l0_1.length l0_1) (hc0_1 : l0_1.length ≤ c0_1) (h : wigeonref04_before.f k l0_0 l0_1 a1 = some r) :
    Calls Try.prog 60 #[.agg #[.slice A0_0 l0_0.length c0_0, .slice A0_1 l0_1.length c0_1], .int .i64 a1] w fun e w' => e = .returned (.int .i64 r) ∧ Below w.heap.size w w' := by
  have hu25 := Try.underlying25
  have HR0_0 := Aside0.mk hr0_0
  have HC0_0 := Aside0.mk hc0_0
  clear hr0_0 hc0_0
  have HR0_1 := Aside0.mk hr0_1
  have HC0_1 := Aside0.mk hc0_1
  clear hr0_1 hc0_1
  have HB := Aside0.mk (Below.refl w.heap.size w)
  have H : (wigeonref04_before.l0 k a1 0 0 l0_0 l0_1) = some r := h
  clear h
  have H' := Aside0.mk H
  clear H
  go_enter Try.func60, Try.ntmps60
  go_wp2_with (first | ((with_reducible refine gate_dst (N := 2) rfl ?_); refine box_event ?hg (N := 2) ?hd (cs := #[.slice A0_0 l0_0.length c0_0, .slice A0_1 l0_1.length c0_1]) (t := 25) ?hr ?_; (case hd => rfl); (case hg => rfl); (case hr => first | (go_simp; done) | (go_simp; rfl)); intro gb197 hg w3 hbox hb; have n0_ := Aside0.mk (below_step (by repeat (first | (with_reducible first | exact HB.out | apply below_alloc | apply pw_below_drewN | apply below_drew1) | exact HB.out)) hb); have n1_ := Aside0.mk (hbox); have n2_ := Aside0.mk ((by rw [hg]; exact (below_size (by repeat (first | (with_reducible first | exact HB.out | apply below_alloc | apply pw_below_drewN | apply below_drew1) | exact HB.out))) : w.heap.size ≤ gb197)); have n3_ := Aside0.mk ((by rw [hg]; exact (below_size (by repeat (first | (with_reducible first | exact HB.out | apply below_alloc | apply pw_below_drewN | apply below_drew1) | exact HB.out))) : w.heap.size ≤ gb197)); clear HB; have HB := n0_; have BK197 := n1_; have GW197 := n2_; have GE197 := n3_; clear n0_ n1_ n2_ n3_; clear hb hbox hg))
  go_loopg [5, 6] k (fun kq v5 v6 w' => ∃ (x5_1 : Int) (x6_1 : Int), v5 = .int .i64 x5_1 ∧ v6 = .int .i64 x6_1 ∧ Aside0 (wigeonref04_before.l0 kq a1 x5_1 x6_1 l0_0 l0_1 = some r) ∧ Aside0 (kq ≤ k) ∧ Aside0 (w'.heap[gb197]? = some (.cells #[(.slice A0_0 l0_0.length c0_0), (.slice A0_1 l0_1.length c0_1)] 25 (0, 0))) ∧ Aside0 (Below w.heap.size w w'))
  case atStart => exact ⟨(0), (0), (by first | rfl | (simp; done) | (simp [*]; done)), (by first | rfl | (simp; done) | (simp [*]; done)), H', ⟨Nat.le_refl _⟩, ⟨by (with_reducible repeat (first | refine blk_drewN ?_ _ | refine blk_drew ?_ | refine blk_alloc ?_ _)); exact BK197.out⟩, ⟨by repeat (first | (with_reducible first | exact HB.out | apply below_alloc | apply pw_below_drewN | apply below_drew1 | refine below_set ?_ GE197.out) | exact HB.out)⟩⟩
  case round =>
    clear H'
    try clear p2
    obtain ⟨x5_1, x6_1, rfl, rfl, HA, HK1, BK197, HB⟩ := hrel
    cases gk with
    | zero => exact absurd HA.out (by simp [wigeonref04_before.l0])
    | succ k1 =>
      have H := HA.out
      clear HA
      simp only [wigeonref04_before.l0] at H
      by_cases c4 : x6_1 < (l0_0.length : Int)
      · rw [if_pos c4] at H
        have c4b0 : decide (x6_1 < (l0_0.length : Int)) = true := decide_eq_true c4
        clear c4
        by_cases c5 : 0 ≤ x6_1
        · rw [if_pos c5] at H
          have c5b0 : decide (0 ≤ x6_1) = true := decide_eq_true c5
          clear c5
          by_cases c6 : x6_1 < (l0_1.length : Int)
          · rw [if_pos c6] at H
            have c6b0 : decide (x6_1 < (l0_1.length : Int)) = true := decide_eq_true c6
            clear c6
            replace H := Option.bind_eq_some_iff.mp H
            obtain ⟨t199, A70, H⟩ := H
            replace H : (if (rd l0_0 x6_1) = 0 then (if (Go.bits .and .i64 t199 a1) = 0 then (if (rd l0_0 x6_1) = 1 then (if (Go.bits .and .i64 t199 a1) = t199 then (if 0 ≤ (IntKind.u64.wrap (x6_1)) then (wigeonref04_before.l0 k1 a1 (Go.bits .or .i64 x5_1 (shl .i64 1 (IntKind.u64.wrap (x6_1)))) (wrap64 (x6_1 + 1)) l0_0 l0_1) else (none)) else (wigeonref04_before.l0 k1 a1 x5_1 (wrap64 (x6_1 + 1)) l0_0 l0_1)) else (wigeonref04_before.l0 k1 a1 x5_1 (wrap64 (x6_1 + 1)) l0_0 l0_1)) else (if 0 ≤ (IntKind.u64.wrap (x6_1)) then (wigeonref04_before.l0 k1 a1 (Go.bits .or .i64 x5_1 (shl .i64 1 (IntKind.u64.wrap (x6_1)))) (wrap64 (x6_1 + 1)) l0_0 l0_1) else (none))) else (if (rd l0_0 x6_1) = 1 then (if (Go.bits .and .i64 t199 a1) = t199 then (if 0 ≤ (IntKind.u64.wrap (x6_1)) then (wigeonref04_before.l0 k1 a1 (Go.bits .or .i64 x5_1 (shl .i64 1 (IntKind.u64.wrap (x6_1)))) (wrap64 (x6_1 + 1)) l0_0 l0_1) else (none)) else (wigeonref04_before.l0 k1 a1 x5_1 (wrap64 (x6_1 + 1)) l0_0 l0_1)) else (wigeonref04_before.l0 k1 a1 x5_1 (wrap64 (x6_1 + 1)) l0_0 l0_1))) = some r := H
            have A7 := Aside0.mk A70
            clear A70
            by_cases c8 : (rd l0_0 x6_1) = 0
            · rw [if_pos c8] at H
              have c8b0 : ((rd l0_0 x6_1) == 0) = true := beq_iff_eq.mpr c8
              have c8b1 : ((rd l0_0 x6_1) != 0) = false := bne_eq_false_iff_eq.mpr c8
              clear c8
              by_cases c9 : (Go.bits .and .i64 t199 a1) = 0
              · rw [if_pos c9] at H
                have c9b0 : ((Go.bits .and .i64 t199 a1) == 0) = true := beq_iff_eq.mpr c9
                have c9b1 : ((Go.bits .and .i64 t199 a1) != 0) = false := bne_eq_false_iff_eq.mpr c9
                clear c9
                by_cases c10 : (rd l0_0 x6_1) = 1
                · rw [if_pos c10] at H
                  have c10b0 : ((rd l0_0 x6_1) == 1) = true := beq_iff_eq.mpr c10
                  have c10b1 : ((rd l0_0 x6_1) != 1) = false := bne_eq_false_iff_eq.mpr c10
                  clear c10
                  by_cases c11 : (Go.bits .and .i64 t199 a1) = t199
                  · rw [if_pos c11] at H
                    have c11b0 : ((Go.bits .and .i64 t199 a1) == t199) = true := beq_iff_eq.mpr c11
                    have c11b1 : ((Go.bits .and .i64 t199 a1) != t199) = false := bne_eq_false_iff_eq.mpr c11
                    clear c11
                    obtain ⟨ji12, hji12⟩ : ∃ j_ : Int, (IntKind.u64.wrap (x6_1)) = j_ := ⟨_, rfl⟩
                    replace H : (if 0 ≤ (ji12) then (wigeonref04_before.l0 k1 a1 (Go.bits .or .i64 x5_1 (shl .i64 1 (ji12))) (wrap64 (x6_1 + 1)) l0_0 l0_1) else (none)) = some r := by first | (rw [hji12] at H; exact H) | (simp only [hji12] at H ⊢; exact H)
                    (try rw [hji12] at A7)
                    by_cases c13 : 0 ≤ (ji12)
                    · rw [if_pos c13] at H
                      have c13b0 := eq_true c13
                      have c13b1 : decide (0 ≤ (ji12)) = true := decide_eq_true c13
                      clear c13
                      obtain ⟨ji14, hji14⟩ : ∃ j_ : Int, (shl .i64 1 (ji12)) = j_ := ⟨_, rfl⟩
                      replace H : (wigeonref04_before.l0 k1 a1 (Go.bits .or .i64 x5_1 (ji14)) (wrap64 (x6_1 + 1)) l0_0 l0_1) = some r := by first | (rw [hji14] at H; exact H) | (simp only [hji14] at H ⊢; exact H)
                      (try rw [hji14] at A7)
                      have hji14_ : (IntKind.i64.wrap (1 * 2 ^ min (ji12).toNat 64)) = ji14 := hji14
                      have hji14z : (ji12) ≤ 64 → (IntKind.i64.wrap (1 * 2 ^ (ji12).toNat)) = ji14 := shl_small hji14
                      have hji14u : (IntKind.i64.wrap (2 ^ min (ji12).toNat 64)) = ji14 := by have h_ := hji14_; rw [Int.one_mul] at h_; exact h_
                      have hji14v : (ji12) ≤ 64 → (IntKind.i64.wrap (2 ^ (ji12).toNat)) = ji14 := fun hle_ => by have h_ := hji14z hle_; rw [Int.one_mul] at h_; exact h_
                      have hji14y : (wrap64 (1 * 2 ^ min (ji12).toNat 64)) = ji14 := (i64_w _).symm.trans hji14_
                      have hji14x : (ji12) ≤ 64 → (wrap64 (1 * 2 ^ (ji12).toNat)) = ji14 := fun h_ => (i64_w _).symm.trans (hji14z h_)
                      have H' := Aside0.mk H
                      clear H
                      have hcz15_0 : wr.cell? ⟨gb197, 0, none⟩ = some (.slice A0_0 l0_0.length c0_0) := (blk_cell BK197.out 0).trans rfl
                      have hcz15_1 : wr.cell? ⟨gb197, 1, none⟩ = some (.slice A0_1 l0_1.length c0_1) := (blk_cell BK197.out 1).trans rfl
                      have hfz15_0 := blk_frozen BK197.out 0
                      have hfz15_1 := blk_frozen BK197.out 1
                      have p198 : 0 ≤ (x6_1 : Int) := of_decide_eq_true (by first | (with_reducible assumption) | assumption)
                      have q198 : x6_1 < (l0_1.length : Int) := of_decide_eq_true (by first | (with_reducible assumption) | assumption)
                      obtain ⟨ad198, A198_0, c198_0, e198, hx198_0, hl198_0, hi198_0⟩ := at_L1 HR0_1.out x6_1 p198 q198
                      cases e198
                      replace hx198_0 := (HB.out.cell (World.block_lt_of_cell? w _ hx198_0)).trans hx198_0
                      have HR198_0 := Aside0.mk hi198_0
                      have HC198_0 := Aside0.mk hl198_0
                      clear hi198_0 hl198_0
                      replace p198 := eq_true p198
                      replace q198 := eq_true q198
                      go_wp2_with (first | ((with_reducible refine gate_callee (f := 51) rfl ?_); refine goesL_ (some 20) rfl rfl Try.func51 (by kernel_rfl) rfl #[.slice A198_0 (rd_L1 l0_1 x6_1).length c198_0] rfl (by (try simp only [List.map_toArray, List.map_cons, List.map_nil]); first | done | rfl | (simp only [List.length_drop, List.length_take]; rfl)) ?_; (with_reducible refine (wigeonref04_bits.calls k1 _ _ (rd_L1 l0_1 x6_1) t199 _ ?side1 ?side2 A7.out).mono ?_); (case side1 => repeat (first | exact (Kd.C_below HR198_0.out HB.out) | (with_reducible refine Kd.C_alloc ?_ _) | (with_reducible refine Kd.C_drewN ?_ _) | (with_reducible refine Kd.C_drew ?_))); (case side2 => exact HC198_0.out); rintro e w' ⟨rfl, ⟨nd, rfl⟩⟩; refine ⟨_, rfl, ?_⟩; have p200 : 0 ≤ (x6_1 : Int) := of_decide_eq_true (by first | (with_reducible assumption) | assumption); have q200 : x6_1 < (l0_0.length : Int) := of_decide_eq_true (by first | (with_reducible assumption) | assumption); obtain ⟨ad200, e200, hx200_0⟩ := Kd.at_int HR0_0.out x6_1 p200 q200; cases e200; replace hx200_0 := (HB.out.cell (World.block_lt_of_cell? w _ hx200_0)).trans hx200_0; replace p200 := eq_true p200; replace q200 := eq_true q200; have p201 : 0 ≤ (x6_1 : Int) := of_decide_eq_true (by first | (with_reducible assumption) | assumption); have q201 : x6_1 < (l0_0.length : Int) := of_decide_eq_true (by first | (with_reducible assumption) | assumption); obtain ⟨ad201, e201, hx201_0⟩ := Kd.at_int HR0_0.out x6_1 p201 q201; obtain rfl : ad200 = ad201 := (by injection e201); replace hx201_0 := (HB.out.cell (World.block_lt_of_cell? w _ hx201_0)).trans hx201_0; replace p201 := eq_true p201; replace q201 := eq_true q201))
                      go_roundg k1
                      case measure => have := HK1.out; omega
                      case rel => exact ⟨(Go.bits .or .i64 x5_1 (ji14)), (wrap64 (x6_1 + 1)), (by first | rfl | (simp; done) | (simp only [← hji14] <;> (first | rfl | (simp; done))) | (rw [shl1_any, hji14]; done) | (simp [*]; done)), (by first | rfl | (simp; done) | (simp [*]; done)), H', ⟨by have := HK1.out; omega⟩, ⟨by (with_reducible repeat (first | refine blk_drewN ?_ _ | refine blk_drew ?_ | refine blk_alloc ?_ _)); exact BK197.out⟩, ⟨by repeat (first | (with_reducible first | exact HB.out | apply below_alloc | apply pw_below_drewN | apply below_drew1 | refine below_set ?_ GE197.out) | exact HB.out)⟩⟩
                    · rw [if_neg c13] at H
                      exact absurd H (by simp)
                  · rw [if_neg c11] at H
                    have c11b0 : ((Go.bits .and .i64 t199 a1) == t199) = false := beq_eq_false_iff_ne.mpr c11
                    have c11b1 : ((Go.bits .and .i64 t199 a1) != t199) = true := bne_iff_ne.mpr c11
                    have H' := Aside0.mk H
                    clear H
                    have hcz16_0 : wr.cell? ⟨gb197, 0, none⟩ = some (.slice A0_0 l0_0.length c0_0) := (blk_cell BK197.out 0).trans rfl
                    have hcz16_1 : wr.cell? ⟨gb197, 1, none⟩ = some (.slice A0_1 l0_1.length c0_1) := (blk_cell BK197.out 1).trans rfl
                    have hfz16_0 := blk_frozen BK197.out 0
                    have hfz16_1 := blk_frozen BK197.out 1
                    have p198 : 0 ≤ (x6_1 : Int) := of_decide_eq_true (by first | (with_reducible assumption) | assumption)
                    have q198 : x6_1 < (l0_1.length : Int) := of_decide_eq_true (by first | (with_reducible assumption) | assumption)
                    obtain ⟨ad198, A198_0, c198_0, e198, hx198_0, hl198_0, hi198_0⟩ := at_L1 HR0_1.out x6_1 p198 q198
                    cases e198
                    replace hx198_0 := (HB.out.cell (World.block_lt_of_cell? w _ hx198_0)).trans hx198_0
                    have HR198_0 := Aside0.mk hi198_0
                    have HC198_0 := Aside0.mk hl198_0
                    clear hi198_0 hl198_0
                    replace p198 := eq_true p198
                    replace q198 := eq_true q198
                    go_wp2_with (first | ((with_reducible refine gate_callee (f := 51) rfl ?_); refine goesL_ (some 20) rfl rfl Try.func51 (by kernel_rfl) rfl #[.slice A198_0 (rd_L1 l0_1 x6_1).length c198_0] rfl (by (try simp only [List.map_toArray, List.map_cons, List.map_nil]); first | done | rfl | (simp only [List.length_drop, List.length_take]; rfl)) ?_; (with_reducible refine (wigeonref04_bits.calls k1 _ _ (rd_L1 l0_1 x6_1) t199 _ ?side1 ?side2 A7.out).mono ?_); (case side1 => repeat (first | exact (Kd.C_below HR198_0.out HB.out) | (with_reducible refine Kd.C_alloc ?_ _) | (with_reducible refine Kd.C_drewN ?_ _) | (with_reducible refine Kd.C_drew ?_))); (case side2 => exact HC198_0.out); rintro e w' ⟨rfl, ⟨nd, rfl⟩⟩; refine ⟨_, rfl, ?_⟩; have p200 : 0 ≤ (x6_1 : Int) := of_decide_eq_true (by first | (with_reducible assumption) | assumption); have q200 : x6_1 < (l0_0.length : Int) := of_decide_eq_true (by first | (with_reducible assumption) | assumption); obtain ⟨ad200, e200, hx200_0⟩ := Kd.at_int HR0_0.out x6_1 p200 q200; cases e200; replace hx200_0 := (HB.out.cell (World.block_lt_of_cell? w _ hx200_0)).trans hx200_0; replace p200 := eq_true p200; replace q200 := eq_true q200; have p201 : 0 ≤ (x6_1 : Int) := of_decide_eq_true (by first | (with_reducible assumption) | assumption); have q201 : x6_1 < (l0_0.length : Int) := of_decide_eq_true (by first | (with_reducible assumption) | assumption); obtain ⟨ad201, e201, hx201_0⟩ := Kd.at_int HR0_0.out x6_1 p201 q201; obtain rfl : ad200 = ad201 := (by injection e201); replace hx201_0 := (HB.out.cell (World.block_lt_of_cell? w _ hx201_0)).trans hx201_0; replace p201 := eq_true p201; replace q201 := eq_true q201))
                    go_roundg k1
                    case measure => have := HK1.out; omega
                    case rel => exact ⟨(x5_1), (wrap64 (x6_1 + 1)), (by first | rfl | (simp; done) | (simp [*]; done)), (by first | rfl | (simp; done) | (simp [*]; done)), H', ⟨by have := HK1.out; omega⟩, ⟨by (with_reducible repeat (first | refine blk_drewN ?_ _ | refine blk_drew ?_ | refine blk_alloc ?_ _)); exact BK197.out⟩, ⟨by repeat (first | (with_reducible first | exact HB.out | apply below_alloc | apply pw_below_drewN | apply below_drew1 | refine below_set ?_ GE197.out) | exact HB.out)⟩⟩
                · rw [if_neg c10] at H
                  have c10b0 : ((rd l0_0 x6_1) == 1) = false := beq_eq_false_iff_ne.mpr c10
                  have c10b1 : ((rd l0_0 x6_1) != 1) = true := bne_iff_ne.mpr c10
                  have H' := Aside0.mk H
                  clear H
                  have hcz17_0 : wr.cell? ⟨gb197, 0, none⟩ = some (.slice A0_0 l0_0.length c0_0) := (blk_cell BK197.out 0).trans rfl
                  have hcz17_1 : wr.cell? ⟨gb197, 1, none⟩ = some (.slice A0_1 l0_1.length c0_1) := (blk_cell BK197.out 1).trans rfl
                  have hfz17_0 := blk_frozen BK197.out 0
                  have hfz17_1 := blk_frozen BK197.out 1
                  have p198 : 0 ≤ (x6_1 : Int) := of_decide_eq_true (by first | (with_reducible assumption) | assumption)
                  have q198 : x6_1 < (l0_1.length : Int) := of_decide_eq_true (by first | (with_reducible assumption) | assumption)
                  obtain ⟨ad198, A198_0, c198_0, e198, hx198_0, hl198_0, hi198_0⟩ := at_L1 HR0_1.out x6_1 p198 q198
                  cases e198
                  replace hx198_0 := (HB.out.cell (World.block_lt_of_cell? w _ hx198_0)).trans hx198_0
                  have HR198_0 := Aside0.mk hi198_0
                  have HC198_0 := Aside0.mk hl198_0
                  clear hi198_0 hl198_0
                  replace p198 := eq_true p198
                  replace q198 := eq_true q198
                  go_wp2_with (first | ((with_reducible refine gate_callee (f := 51) rfl ?_); refine goesL_ (some 20) rfl rfl Try.func51 (by kernel_rfl) rfl #[.slice A198_0 (rd_L1 l0_1 x6_1).length c198_0] rfl (by (try simp only [List.map_toArray, List.map_cons, List.map_nil]); first | done | rfl | (simp only [List.length_drop, List.length_take]; rfl)) ?_; (with_reducible refine (wigeonref04_bits.calls k1 _ _ (rd_L1 l0_1 x6_1) t199 _ ?side1 ?side2 A7.out).mono ?_); (case side1 => repeat (first | exact (Kd.C_below HR198_0.out HB.out) | (with_reducible refine Kd.C_alloc ?_ _) | (with_reducible refine Kd.C_drewN ?_ _) | (with_reducible refine Kd.C_drew ?_))); (case side2 => exact HC198_0.out); rintro e w' ⟨rfl, ⟨nd, rfl⟩⟩; refine ⟨_, rfl, ?_⟩; have p200 : 0 ≤ (x6_1 : Int) := of_decide_eq_true (by first | (with_reducible assumption) | assumption); have q200 : x6_1 < (l0_0.length : Int) := of_decide_eq_true (by first | (with_reducible assumption) | assumption); obtain ⟨ad200, e200, hx200_0⟩ := Kd.at_int HR0_0.out x6_1 p200 q200; cases e200; replace hx200_0 := (HB.out.cell (World.block_lt_of_cell? w _ hx200_0)).trans hx200_0; replace p200 := eq_true p200; replace q200 := eq_true q200; have p201 : 0 ≤ (x6_1 : Int) := of_decide_eq_true (by first | (with_reducible assumption) | assumption); have q201 : x6_1 < (l0_0.length : Int) := of_decide_eq_true (by first | (with_reducible assumption) | assumption); obtain ⟨ad201, e201, hx201_0⟩ := Kd.at_int HR0_0.out x6_1 p201 q201; obtain rfl : ad200 = ad201 := (by injection e201); replace hx201_0 := (HB.out.cell (World.block_lt_of_cell? w _ hx201_0)).trans hx201_0; replace p201 := eq_true p201; replace q201 := eq_true q201))
                  go_roundg k1
                  case measure => have := HK1.out; omega
                  case rel => exact ⟨(x5_1), (wrap64 (x6_1 + 1)), (by first | rfl | (simp; done) | (simp [*]; done)), (by first | rfl | (simp; done) | (simp [*]; done)), H', ⟨by have := HK1.out; omega⟩, ⟨by (with_reducible repeat (first | refine blk_drewN ?_ _ | refine blk_drew ?_ | refine blk_alloc ?_ _)); exact BK197.out⟩, ⟨by repeat (first | (with_reducible first | exact HB.out | apply below_alloc | apply pw_below_drewN | apply below_drew1 | refine below_set ?_ GE197.out) | exact HB.out)⟩⟩
              · rw [if_neg c9] at H
                have c9b0 : ((Go.bits .and .i64 t199 a1) == 0) = false := beq_eq_false_iff_ne.mpr c9
                have c9b1 : ((Go.bits .and .i64 t199 a1) != 0) = true := bne_iff_ne.mpr c9
                obtain ⟨ji18, hji18⟩ : ∃ j_ : Int, (IntKind.u64.wrap (x6_1)) = j_ := ⟨_, rfl⟩
                replace H : (if 0 ≤ (ji18) then (wigeonref04_before.l0 k1 a1 (Go.bits .or .i64 x5_1 (shl .i64 1 (ji18))) (wrap64 (x6_1 + 1)) l0_0 l0_1) else (none)) = some r := by first | (rw [hji18] at H; exact H) | (simp only [hji18] at H ⊢; exact H)
                (try rw [hji18] at A7)
                by_cases c19 : 0 ≤ (ji18)
                · rw [if_pos c19] at H
                  have c19b0 := eq_true c19
                  have c19b1 : decide (0 ≤ (ji18)) = true := decide_eq_true c19
                  clear c19
                  obtain ⟨ji20, hji20⟩ : ∃ j_ : Int, (shl .i64 1 (ji18)) = j_ := ⟨_, rfl⟩
                  replace H : (wigeonref04_before.l0 k1 a1 (Go.bits .or .i64 x5_1 (ji20)) (wrap64 (x6_1 + 1)) l0_0 l0_1) = some r := by first | (rw [hji20] at H; exact H) | (simp only [hji20] at H ⊢; exact H)
                  (try rw [hji20] at A7)
                  have hji20_ : (IntKind.i64.wrap (1 * 2 ^ min (ji18).toNat 64)) = ji20 := hji20
                  have hji20z : (ji18) ≤ 64 → (IntKind.i64.wrap (1 * 2 ^ (ji18).toNat)) = ji20 := shl_small hji20
                  have hji20u : (IntKind.i64.wrap (2 ^ min (ji18).toNat 64)) = ji20 := by have h_ := hji20_; rw [Int.one_mul] at h_; exact h_
                  have hji20v : (ji18) ≤ 64 → (IntKind.i64.wrap (2 ^ (ji18).toNat)) = ji20 := fun hle_ => by have h_ := hji20z hle_; rw [Int.one_mul] at h_; exact h_
                  have hji20y : (wrap64 (1 * 2 ^ min (ji18).toNat 64)) = ji20 := (i64_w _).symm.trans hji20_
                  have hji20x : (ji18) ≤ 64 → (wrap64 (1 * 2 ^ (ji18).toNat)) = ji20 := fun h_ => (i64_w _).symm.trans (hji20z h_)
                  have H' := Aside0.mk H
                  clear H
                  have hcz21_0 : wr.cell? ⟨gb197, 0, none⟩ = some (.slice A0_0 l0_0.length c0_0) := (blk_cell BK197.out 0).trans rfl
                  have hcz21_1 : wr.cell? ⟨gb197, 1, none⟩ = some (.slice A0_1 l0_1.length c0_1) := (blk_cell BK197.out 1).trans rfl
                  have hfz21_0 := blk_frozen BK197.out 0
                  have hfz21_1 := blk_frozen BK197.out 1
                  have p198 : 0 ≤ (x6_1 : Int) := of_decide_eq_true (by first | (with_reducible assumption) | assumption)
                  have q198 : x6_1 < (l0_1.length : Int) := of_decide_eq_true (by first | (with_reducible assumption) | assumption)
                  obtain ⟨ad198, A198_0, c198_0, e198, hx198_0, hl198_0, hi198_0⟩ := at_L1 HR0_1.out x6_1 p198 q198
                  cases e198
                  replace hx198_0 := (HB.out.cell (World.block_lt_of_cell? w _ hx198_0)).trans hx198_0
                  have HR198_0 := Aside0.mk hi198_0
                  have HC198_0 := Aside0.mk hl198_0
                  clear hi198_0 hl198_0
                  replace p198 := eq_true p198
                  replace q198 := eq_true q198
                  go_wp2_with (first | ((with_reducible refine gate_callee (f := 51) rfl ?_); refine goesL_ (some 20) rfl rfl Try.func51 (by kernel_rfl) rfl #[.slice A198_0 (rd_L1 l0_1 x6_1).length c198_0] rfl (by (try simp only [List.map_toArray, List.map_cons, List.map_nil]); first | done | rfl | (simp only [List.length_drop, List.length_take]; rfl)) ?_; (with_reducible refine (wigeonref04_bits.calls k1 _ _ (rd_L1 l0_1 x6_1) t199 _ ?side1 ?side2 A7.out).mono ?_); (case side1 => repeat (first | exact (Kd.C_below HR198_0.out HB.out) | (with_reducible refine Kd.C_alloc ?_ _) | (with_reducible refine Kd.C_drewN ?_ _) | (with_reducible refine Kd.C_drew ?_))); (case side2 => exact HC198_0.out); rintro e w' ⟨rfl, ⟨nd, rfl⟩⟩; refine ⟨_, rfl, ?_⟩; have p200 : 0 ≤ (x6_1 : Int) := of_decide_eq_true (by first | (with_reducible assumption) | assumption); have q200 : x6_1 < (l0_0.length : Int) := of_decide_eq_true (by first | (with_reducible assumption) | assumption); obtain ⟨ad200, e200, hx200_0⟩ := Kd.at_int HR0_0.out x6_1 p200 q200; cases e200; replace hx200_0 := (HB.out.cell (World.block_lt_of_cell? w _ hx200_0)).trans hx200_0; replace p200 := eq_true p200; replace q200 := eq_true q200))
                  go_roundg k1
                  case measure => have := HK1.out; omega
                  case rel => exact ⟨(Go.bits .or .i64 x5_1 (ji20)), (wrap64 (x6_1 + 1)), (by first | rfl | (simp; done) | (simp only [← hji20] <;> (first | rfl | (simp; done))) | (rw [shl1_any, hji20]; done) | (simp [*]; done)), (by first | rfl | (simp; done) | (simp [*]; done)), H', ⟨by have := HK1.out; omega⟩, ⟨by (with_reducible repeat (first | refine blk_drewN ?_ _ | refine blk_drew ?_ | refine blk_alloc ?_ _)); exact BK197.out⟩, ⟨by repeat (first | (with_reducible first | exact HB.out | apply below_alloc | apply pw_below_drewN | apply below_drew1 | refine below_set ?_ GE197.out) | exact HB.out)⟩⟩
                · rw [if_neg c19] at H
                  exact absurd H (by simp)
            · rw [if_neg c8] at H
              have c8b0 : ((rd l0_0 x6_1) == 0) = false := beq_eq_false_iff_ne.mpr c8
              have c8b1 : ((rd l0_0 x6_1) != 0) = true := bne_iff_ne.mpr c8
              by_cases c22 : (rd l0_0 x6_1) = 1
              · rw [if_pos c22] at H
                have c22b0 : ((rd l0_0 x6_1) == 1) = true := beq_iff_eq.mpr c22
                have c22b1 : ((rd l0_0 x6_1) != 1) = false := bne_eq_false_iff_eq.mpr c22
                clear c22
                by_cases c23 : (Go.bits .and .i64 t199 a1) = t199
                · rw [if_pos c23] at H
                  have c23b0 : ((Go.bits .and .i64 t199 a1) == t199) = true := beq_iff_eq.mpr c23
                  have c23b1 : ((Go.bits .and .i64 t199 a1) != t199) = false := bne_eq_false_iff_eq.mpr c23
                  clear c23
                  obtain ⟨ji24, hji24⟩ : ∃ j_ : Int, (IntKind.u64.wrap (x6_1)) = j_ := ⟨_, rfl⟩
                  replace H : (if 0 ≤ (ji24) then (wigeonref04_before.l0 k1 a1 (Go.bits .or .i64 x5_1 (shl .i64 1 (ji24))) (wrap64 (x6_1 + 1)) l0_0 l0_1) else (none)) = some r := by first | (rw [hji24] at H; exact H) | (simp only [hji24] at H ⊢; exact H)
                  (try rw [hji24] at A7)
                  by_cases c25 : 0 ≤ (ji24)
                  · rw [if_pos c25] at H
                    have c25b0 := eq_true c25
                    have c25b1 : decide (0 ≤ (ji24)) = true := decide_eq_true c25
                    clear c25
                    obtain ⟨ji26, hji26⟩ : ∃ j_ : Int, (shl .i64 1 (ji24)) = j_ := ⟨_, rfl⟩
                    replace H : (wigeonref04_before.l0 k1 a1 (Go.bits .or .i64 x5_1 (ji26)) (wrap64 (x6_1 + 1)) l0_0 l0_1) = some r := by first | (rw [hji26] at H; exact H) | (simp only [hji26] at H ⊢; exact H)
                    (try rw [hji26] at A7)
                    have hji26_ : (IntKind.i64.wrap (1 * 2 ^ min (ji24).toNat 64)) = ji26 := hji26
                    have hji26z : (ji24) ≤ 64 → (IntKind.i64.wrap (1 * 2 ^ (ji24).toNat)) = ji26 := shl_small hji26
                    have hji26u : (IntKind.i64.wrap (2 ^ min (ji24).toNat 64)) = ji26 := by have h_ := hji26_; rw [Int.one_mul] at h_; exact h_
                    have hji26v : (ji24) ≤ 64 → (IntKind.i64.wrap (2 ^ (ji24).toNat)) = ji26 := fun hle_ => by have h_ := hji26z hle_; rw [Int.one_mul] at h_; exact h_
                    have hji26y : (wrap64 (1 * 2 ^ min (ji24).toNat 64)) = ji26 := (i64_w _).symm.trans hji26_
                    have hji26x : (ji24) ≤ 64 → (wrap64 (1 * 2 ^ (ji24).toNat)) = ji26 := fun h_ => (i64_w _).symm.trans (hji26z h_)
                    have H' := Aside0.mk H
                    clear H
                    have hcz27_0 : wr.cell? ⟨gb197, 0, none⟩ = some (.slice A0_0 l0_0.length c0_0) := (blk_cell BK197.out 0).trans rfl
                    have hcz27_1 : wr.cell? ⟨gb197, 1, none⟩ = some (.slice A0_1 l0_1.length c0_1) := (blk_cell BK197.out 1).trans rfl
                    have hfz27_0 := blk_frozen BK197.out 0
                    have hfz27_1 := blk_frozen BK197.out 1
                    have p198 : 0 ≤ (x6_1 : Int) := of_decide_eq_true (by first | (with_reducible assumption) | assumption)
                    have q198 : x6_1 < (l0_1.length : Int) := of_decide_eq_true (by first | (with_reducible assumption) | assumption)
                    obtain ⟨ad198, A198_0, c198_0, e198, hx198_0, hl198_0, hi198_0⟩ := at_L1 HR0_1.out x6_1 p198 q198
                    cases e198
                    replace hx198_0 := (HB.out.cell (World.block_lt_of_cell? w _ hx198_0)).trans hx198_0
                    have HR198_0 := Aside0.mk hi198_0
                    have HC198_0 := Aside0.mk hl198_0
                    clear hi198_0 hl198_0
                    replace p198 := eq_true p198
                    replace q198 := eq_true q198
                    go_wp2_with (first | ((with_reducible refine gate_callee (f := 51) rfl ?_); refine goesL_ (some 20) rfl rfl Try.func51 (by kernel_rfl) rfl #[.slice A198_0 (rd_L1 l0_1 x6_1).length c198_0] rfl (by (try simp only [List.map_toArray, List.map_cons, List.map_nil]); first | done | rfl | (simp only [List.length_drop, List.length_take]; rfl)) ?_; (with_reducible refine (wigeonref04_bits.calls k1 _ _ (rd_L1 l0_1 x6_1) t199 _ ?side1 ?side2 A7.out).mono ?_); (case side1 => repeat (first | exact (Kd.C_below HR198_0.out HB.out) | (with_reducible refine Kd.C_alloc ?_ _) | (with_reducible refine Kd.C_drewN ?_ _) | (with_reducible refine Kd.C_drew ?_))); (case side2 => exact HC198_0.out); rintro e w' ⟨rfl, ⟨nd, rfl⟩⟩; refine ⟨_, rfl, ?_⟩; have p200 : 0 ≤ (x6_1 : Int) := of_decide_eq_true (by first | (with_reducible assumption) | assumption); have q200 : x6_1 < (l0_0.length : Int) := of_decide_eq_true (by first | (with_reducible assumption) | assumption); obtain ⟨ad200, e200, hx200_0⟩ := Kd.at_int HR0_0.out x6_1 p200 q200; cases e200; replace hx200_0 := (HB.out.cell (World.block_lt_of_cell? w _ hx200_0)).trans hx200_0; replace p200 := eq_true p200; replace q200 := eq_true q200; have p202 : 0 ≤ (x6_1 : Int) := of_decide_eq_true (by first | (with_reducible assumption) | assumption); have q202 : x6_1 < (l0_0.length : Int) := of_decide_eq_true (by first | (with_reducible assumption) | assumption); obtain ⟨ad202, e202, hx202_0⟩ := Kd.at_int HR0_0.out x6_1 p202 q202; obtain rfl : ad200 = ad202 := (by injection e202); replace hx202_0 := (HB.out.cell (World.block_lt_of_cell? w _ hx202_0)).trans hx202_0; replace p202 := eq_true p202; replace q202 := eq_true q202))
                    go_roundg k1
                    case measure => have := HK1.out; omega
                    case rel => exact ⟨(Go.bits .or .i64 x5_1 (ji26)), (wrap64 (x6_1 + 1)), (by first | rfl | (simp; done) | (simp only [← hji26] <;> (first | rfl | (simp; done))) | (rw [shl1_any, hji26]; done) | (simp [*]; done)), (by first | rfl | (simp; done) | (simp [*]; done)), H', ⟨by have := HK1.out; omega⟩, ⟨by (with_reducible repeat (first | refine blk_drewN ?_ _ | refine blk_drew ?_ | refine blk_alloc ?_ _)); exact BK197.out⟩, ⟨by repeat (first | (with_reducible first | exact HB.out | apply below_alloc | apply pw_below_drewN | apply below_drew1 | refine below_set ?_ GE197.out) | exact HB.out)⟩⟩
                  · rw [if_neg c25] at H
                    exact absurd H (by simp)
                · rw [if_neg c23] at H
                  have c23b0 : ((Go.bits .and .i64 t199 a1) == t199) = false := beq_eq_false_iff_ne.mpr c23
                  have c23b1 : ((Go.bits .and .i64 t199 a1) != t199) = true := bne_iff_ne.mpr c23
                  have H' := Aside0.mk H
                  clear H
                  have hcz28_0 : wr.cell? ⟨gb197, 0, none⟩ = some (.slice A0_0 l0_0.length c0_0) := (blk_cell BK197.out 0).trans rfl
                  have hcz28_1 : wr.cell? ⟨gb197, 1, none⟩ = some (.slice A0_1 l0_1.length c0_1) := (blk_cell BK197.out 1).trans rfl
                  have hfz28_0 := blk_frozen BK197.out 0
                  have hfz28_1 := blk_frozen BK197.out 1
                  have p198 : 0 ≤ (x6_1 : Int) := of_decide_eq_true (by first | (with_reducible assumption) | assumption)
                  have q198 : x6_1 < (l0_1.length : Int) := of_decide_eq_true (by first | (with_reducible assumption) | assumption)
                  obtain ⟨ad198, A198_0, c198_0, e198, hx198_0, hl198_0, hi198_0⟩ := at_L1 HR0_1.out x6_1 p198 q198
                  cases e198
                  replace hx198_0 := (HB.out.cell (World.block_lt_of_cell? w _ hx198_0)).trans hx198_0
                  have HR198_0 := Aside0.mk hi198_0
                  have HC198_0 := Aside0.mk hl198_0
                  clear hi198_0 hl198_0
                  replace p198 := eq_true p198
                  replace q198 := eq_true q198
                  go_wp2_with (first | ((with_reducible refine gate_callee (f := 51) rfl ?_); refine goesL_ (some 20) rfl rfl Try.func51 (by kernel_rfl) rfl #[.slice A198_0 (rd_L1 l0_1 x6_1).length c198_0] rfl (by (try simp only [List.map_toArray, List.map_cons, List.map_nil]); first | done | rfl | (simp only [List.length_drop, List.length_take]; rfl)) ?_; (with_reducible refine (wigeonref04_bits.calls k1 _ _ (rd_L1 l0_1 x6_1) t199 _ ?side1 ?side2 A7.out).mono ?_); (case side1 => repeat (first | exact (Kd.C_below HR198_0.out HB.out) | (with_reducible refine Kd.C_alloc ?_ _) | (with_reducible refine Kd.C_drewN ?_ _) | (with_reducible refine Kd.C_drew ?_))); (case side2 => exact HC198_0.out); rintro e w' ⟨rfl, ⟨nd, rfl⟩⟩; refine ⟨_, rfl, ?_⟩; have p200 : 0 ≤ (x6_1 : Int) := of_decide_eq_true (by first | (with_reducible assumption) | assumption); have q200 : x6_1 < (l0_0.length : Int) := of_decide_eq_true (by first | (with_reducible assumption) | assumption); obtain ⟨ad200, e200, hx200_0⟩ := Kd.at_int HR0_0.out x6_1 p200 q200; cases e200; replace hx200_0 := (HB.out.cell (World.block_lt_of_cell? w _ hx200_0)).trans hx200_0; replace p200 := eq_true p200; replace q200 := eq_true q200; have p202 : 0 ≤ (x6_1 : Int) := of_decide_eq_true (by first | (with_reducible assumption) | assumption); have q202 : x6_1 < (l0_0.length : Int) := of_decide_eq_true (by first | (with_reducible assumption) | assumption); obtain ⟨ad202, e202, hx202_0⟩ := Kd.at_int HR0_0.out x6_1 p202 q202; obtain rfl : ad200 = ad202 := (by injection e202); replace hx202_0 := (HB.out.cell (World.block_lt_of_cell? w _ hx202_0)).trans hx202_0; replace p202 := eq_true p202; replace q202 := eq_true q202))
                  go_roundg k1
                  case measure => have := HK1.out; omega
                  case rel => exact ⟨(x5_1), (wrap64 (x6_1 + 1)), (by first | rfl | (simp; done) | (simp [*]; done)), (by first | rfl | (simp; done) | (simp [*]; done)), H', ⟨by have := HK1.out; omega⟩, ⟨by (with_reducible repeat (first | refine blk_drewN ?_ _ | refine blk_drew ?_ | refine blk_alloc ?_ _)); exact BK197.out⟩, ⟨by repeat (first | (with_reducible first | exact HB.out | apply below_alloc | apply pw_below_drewN | apply below_drew1 | refine below_set ?_ GE197.out) | exact HB.out)⟩⟩
              · rw [if_neg c22] at H
                have c22b0 : ((rd l0_0 x6_1) == 1) = false := beq_eq_false_iff_ne.mpr c22
                have c22b1 : ((rd l0_0 x6_1) != 1) = true := bne_iff_ne.mpr c22
                have H' := Aside0.mk H
                clear H
                have hcz29_0 : wr.cell? ⟨gb197, 0, none⟩ = some (.slice A0_0 l0_0.length c0_0) := (blk_cell BK197.out 0).trans rfl
                have hcz29_1 : wr.cell? ⟨gb197, 1, none⟩ = some (.slice A0_1 l0_1.length c0_1) := (blk_cell BK197.out 1).trans rfl
                have hfz29_0 := blk_frozen BK197.out 0
                have hfz29_1 := blk_frozen BK197.out 1
                have p198 : 0 ≤ (x6_1 : Int) := of_decide_eq_true (by first | (with_reducible assumption) | assumption)
                have q198 : x6_1 < (l0_1.length : Int) := of_decide_eq_true (by first | (with_reducible assumption) | assumption)
                obtain ⟨ad198, A198_0, c198_0, e198, hx198_0, hl198_0, hi198_0⟩ := at_L1 HR0_1.out x6_1 p198 q198
                cases e198
                replace hx198_0 := (HB.out.cell (World.block_lt_of_cell? w _ hx198_0)).trans hx198_0
                have HR198_0 := Aside0.mk hi198_0
                have HC198_0 := Aside0.mk hl198_0
                clear hi198_0 hl198_0
                replace p198 := eq_true p198
                replace q198 := eq_true q198
                go_wp2_with (first | ((with_reducible refine gate_callee (f := 51) rfl ?_); refine goesL_ (some 20) rfl rfl Try.func51 (by kernel_rfl) rfl #[.slice A198_0 (rd_L1 l0_1 x6_1).length c198_0] rfl (by (try simp only [List.map_toArray, List.map_cons, List.map_nil]); first | done | rfl | (simp only [List.length_drop, List.length_take]; rfl)) ?_; (with_reducible refine (wigeonref04_bits.calls k1 _ _ (rd_L1 l0_1 x6_1) t199 _ ?side1 ?side2 A7.out).mono ?_); (case side1 => repeat (first | exact (Kd.C_below HR198_0.out HB.out) | (with_reducible refine Kd.C_alloc ?_ _) | (with_reducible refine Kd.C_drewN ?_ _) | (with_reducible refine Kd.C_drew ?_))); (case side2 => exact HC198_0.out); rintro e w' ⟨rfl, ⟨nd, rfl⟩⟩; refine ⟨_, rfl, ?_⟩; have p200 : 0 ≤ (x6_1 : Int) := of_decide_eq_true (by first | (with_reducible assumption) | assumption); have q200 : x6_1 < (l0_0.length : Int) := of_decide_eq_true (by first | (with_reducible assumption) | assumption); obtain ⟨ad200, e200, hx200_0⟩ := Kd.at_int HR0_0.out x6_1 p200 q200; cases e200; replace hx200_0 := (HB.out.cell (World.block_lt_of_cell? w _ hx200_0)).trans hx200_0; replace p200 := eq_true p200; replace q200 := eq_true q200; have p202 : 0 ≤ (x6_1 : Int) := of_decide_eq_true (by first | (with_reducible assumption) | assumption); have q202 : x6_1 < (l0_0.length : Int) := of_decide_eq_true (by first | (with_reducible assumption) | assumption); obtain ⟨ad202, e202, hx202_0⟩ := Kd.at_int HR0_0.out x6_1 p202 q202; obtain rfl : ad200 = ad202 := (by injection e202); replace hx202_0 := (HB.out.cell (World.block_lt_of_cell? w _ hx202_0)).trans hx202_0; replace p202 := eq_true p202; replace q202 := eq_true q202))
                go_roundg k1
                case measure => have := HK1.out; omega
                case rel => exact ⟨(x5_1), (wrap64 (x6_1 + 1)), (by first | rfl | (simp; done) | (simp [*]; done)), (by first | rfl | (simp; done) | (simp [*]; done)), H', ⟨by have := HK1.out; omega⟩, ⟨by (with_reducible repeat (first | refine blk_drewN ?_ _ | refine blk_drew ?_ | refine blk_alloc ?_ _)); exact BK197.out⟩, ⟨by repeat (first | (with_reducible first | exact HB.out | apply below_alloc | apply pw_below_drewN | apply below_drew1 | refine below_set ?_ GE197.out) | exact HB.out)⟩⟩
          · rw [if_neg c6] at H
            exact absurd H (by simp)
        · rw [if_neg c5] at H
          exact absurd H (by simp)
      · rw [if_neg c4] at H
        have c4b0 : decide (x6_1 < (l0_0.length : Int)) = false := decide_eq_false c4
        clear c4
        obtain rfl := Option.some.inj H
        have hcz30_0 : wr.cell? ⟨gb197, 0, none⟩ = some (.slice A0_0 l0_0.length c0_0) := (blk_cell BK197.out 0).trans rfl
        have hcz30_1 : wr.cell? ⟨gb197, 1, none⟩ = some (.slice A0_1 l0_1.length c0_1) := (blk_cell BK197.out 1).trans rfl
        have hfz30_0 := blk_frozen BK197.out 0
        have hfz30_1 := blk_frozen BK197.out 1
        go_wp2
        go_ret
        exact ⟨by first | rfl | (simp [errW_none, errW_some] <;> rfl) | (simp [*, errW_none, errW_some] <;> rfl), by repeat (first | (with_reducible first | exact HB.out | apply below_alloc | apply pw_below_drewN | apply below_drew1 | refine below_set ?_ GE197.out) | exact HB.out)⟩

def wigeonref04_reached.l0 : Nat → Int → Int → Int → Int → List Int → List (List Int) → Option (Int)
  | 0, _, _, _, _, _, _ => none
  | k + 1, x1, x2, x7, x8, x204000, x204001 => if x8 < x2 then (if x8 < (x204000.length : Int) then ((wigeonref04_before.f k x204000 x204001 x7).bind fun t204 => (wigeonref04_reached.l0 k x1 x2 (Go.bits .or .i64 x1 t204) (wrap64 (x8 + 1)) x204000 x204001)) else (some x7)) else (some x7)
def wigeonref04_reached.f (k : Nat) (l0_0 : List Int) (l0_1 : List (List Int)) (a1 : Int) (a2 : Int) : Option (Int) := wigeonref04_reached.l0 k a1 a2 a1 0 l0_0 l0_1
set_option maxHeartbeats 8000000 in
set_option maxRecDepth 100000 in
theorem wigeonref04_reached.calls (k : Nat) (A0_0 : Option Addr) (c0_0 : Nat) (l0_0 : List Int) (A0_1 : Option Addr) (c0_1 : Nat) (l0_1 : List (List Int)) (a1 : Int) (a2 : Int) (r : Int) (w : World) (hr0_0 : Kd.C (Kd.int .i64) w A0_0 l0_0.length l0_0) (hc0_0 : l0_0.length ≤ c0_0) (hr0_1 : Kd.C (Kd.slice 3 (Kd.int .i64)) w A0_1 l0_1.length l0_1) (hc0_1 : l0_1.length ≤ c0_1) (h : wigeonref04_reached.f k l0_0 l0_1 a1 a2 = some r) :
    Calls Try.prog 58 #[.agg #[.slice A0_0 l0_0.length c0_0, .slice A0_1 l0_1.length c0_1], .int .i64 a1, .int .i64 a2] w fun e w' => e = .returned (.int .i64 r) ∧ Below w.heap.size w w' := by
  have hu25 := Try.underlying25
  have HR0_0 := Aside0.mk hr0_0
  have HC0_0 := Aside0.mk hc0_0
  clear hr0_0 hc0_0
  have HR0_1 := Aside0.mk hr0_1
  have HC0_1 := Aside0.mk hc0_1
  clear hr0_1 hc0_1
  have HB := Aside0.mk (Below.refl w.heap.size w)
  have H : (wigeonref04_reached.l0 k a1 a2 a1 0 l0_0 l0_1) = some r := h
  clear h
  have H' := Aside0.mk H
  clear H
  go_enter Try.func58, Try.ntmps58
  go_wp2_with (first | ((with_reducible refine gate_dst (N := 3) rfl ?_); (try (refine gate_guard (by rfl) ?_; dsimp only)); refine box_event ?hg (N := 3) ?hd (cs := #[.slice A0_0 l0_0.length c0_0, .slice A0_1 l0_1.length c0_1]) (t := 25) ?hr ?_; (case hd => rfl); (case hg => rfl); (case hr => first | (go_simp; done) | (go_simp; rfl)); intro gb203 hg w4 hbox hb; have n0_ := Aside0.mk (below_step (by repeat (first | (with_reducible first | exact HB.out | apply below_alloc | apply pw_below_drewN | apply below_drew1) | exact HB.out)) hb); have n1_ := Aside0.mk (hbox); have n2_ := Aside0.mk ((by rw [hg]; exact (below_size (by repeat (first | (with_reducible first | exact HB.out | apply below_alloc | apply pw_below_drewN | apply below_drew1) | exact HB.out))) : w.heap.size ≤ gb203)); have n3_ := Aside0.mk ((by rw [hg]; exact (below_size (by repeat (first | (with_reducible first | exact HB.out | apply below_alloc | apply pw_below_drewN | apply below_drew1) | exact HB.out))) : w.heap.size ≤ gb203)); clear HB; have HB := n0_; have BK203 := n1_; have GW203 := n2_; have GE203 := n3_; clear n0_ n1_ n2_ n3_; clear hb hbox hg))
  go_loopg [7, 8] k (fun kq v7 v8 w' => ∃ (x7_1 : Int) (x8_1 : Int), v7 = .int .i64 x7_1 ∧ v8 = .int .i64 x8_1 ∧ Aside0 (wigeonref04_reached.l0 kq a1 a2 x7_1 x8_1 l0_0 l0_1 = some r) ∧ Aside0 (kq ≤ k) ∧ Aside0 (w'.heap[gb203]? = some (.cells #[(.slice A0_0 l0_0.length c0_0), (.slice A0_1 l0_1.length c0_1)] 25 (0, 0))) ∧ Aside0 (Below w.heap.size w w'))
  case atStart => exact ⟨(a1), (0), (by first | rfl | (simp; done) | (simp [*]; done)), (by first | rfl | (simp; done) | (simp [*]; done)), H', ⟨Nat.le_refl _⟩, ⟨by (with_reducible repeat (first | refine blk_drewN ?_ _ | refine blk_drew ?_ | refine blk_alloc ?_ _)); exact BK203.out⟩, ⟨by repeat (first | (with_reducible first | exact HB.out | apply below_alloc | apply pw_below_drewN | apply below_drew1 | refine below_set ?_ GE203.out) | exact HB.out)⟩⟩
  case round =>
    clear H'
    try clear p2
    obtain ⟨x7_1, x8_1, rfl, rfl, HA, HK1, BK203, HB⟩ := hrel
    cases gk with
    | zero => exact absurd HA.out (by simp [wigeonref04_reached.l0])
    | succ k1 =>
      have H := HA.out
      clear HA
      simp only [wigeonref04_reached.l0] at H
      by_cases c5 : x8_1 < a2
      · rw [if_pos c5] at H
        have c5b0 : decide (x8_1 < a2) = true := decide_eq_true c5
        clear c5
        by_cases c6 : x8_1 < (l0_0.length : Int)
        · rw [if_pos c6] at H
          have c6b0 : decide (x8_1 < (l0_0.length : Int)) = true := decide_eq_true c6
          clear c6
          replace H := Option.bind_eq_some_iff.mp H
          obtain ⟨t204, A70, H⟩ := H
          replace H : (wigeonref04_reached.l0 k1 a1 a2 (Go.bits .or .i64 a1 t204) (wrap64 (x8_1 + 1)) l0_0 l0_1) = some r := H
          have A7 := Aside0.mk A70
          clear A70
          have H' := Aside0.mk H
          clear H
          have hcz8_0 : wr.cell? ⟨gb203, 0, none⟩ = some (.slice A0_0 l0_0.length c0_0) := (blk_cell BK203.out 0).trans rfl
          have hcz8_1 : wr.cell? ⟨gb203, 1, none⟩ = some (.slice A0_1 l0_1.length c0_1) := (blk_cell BK203.out 1).trans rfl
          have hfz8_0 := blk_frozen BK203.out 0
          have hfz8_1 := blk_frozen BK203.out 1
          go_wp2_with (first | ((with_reducible refine gate_callee (f := 60) rfl ?_); refine goesL_ (some 25) rfl rfl Try.func60 (by kernel_rfl) rfl #[.agg #[.slice A0_0 l0_0.length c0_0, .slice A0_1 l0_1.length c0_1], .int .i64 x7_1] rfl (by (try simp only [List.map_toArray, List.map_cons, List.map_nil]); first | done | rfl | (simp only [List.length_drop, List.length_take]; rfl)) ?_; (with_reducible refine (wigeonref04_before.calls k1 _ _ l0_0 _ _ l0_1 x7_1 t204 _ ?side1 ?side2 ?side3 ?side4 A7.out).mono ?_); (case side1 => repeat (first | exact (Kd.C_below HR0_0.out HB.out) | (with_reducible refine Kd.C_alloc ?_ _) | (with_reducible refine Kd.C_drewN ?_ _) | (with_reducible refine Kd.C_drew ?_))); (case side2 => exact HC0_0.out); (case side3 => repeat (first | exact (Kd.C_below HR0_1.out HB.out) | (with_reducible refine Kd.C_alloc ?_ _) | (with_reducible refine Kd.C_drewN ?_ _) | (with_reducible refine Kd.C_drew ?_))); (case side4 => exact HC0_1.out); rintro e w9 ⟨rfl, hb⟩; refine ⟨_, rfl, ?_⟩; have n0_ := Aside0.mk (blk_below (g := gb203) (o := .cells #[.slice A0_0 l0_0.length c0_0, .slice A0_1 l0_1.length c0_1] 25 (0, 0)) (by (with_reducible repeat (first | refine blk_drewN ?_ _ | refine blk_drew ?_ | refine blk_alloc ?_ _)); exact BK203.out) hb); have n1_ := Aside0.mk (below_step (by repeat (first | (with_reducible first | exact HB.out | apply below_alloc | apply pw_below_drewN | apply below_drew1 | refine below_set ?_ GE203.out) | exact HB.out)) hb); clear BK203; clear HB; have BK203 := n0_; have HB := n1_; clear n0_ n1_; (try clear hb); (try clear hb2); (try clear hk); (try clear hi)))
          go_roundg k1
          case measure => have := HK1.out; omega
          case rel => exact ⟨(Go.bits .or .i64 a1 t204), (wrap64 (x8_1 + 1)), (by first | rfl | (simp; done) | (simp [*]; done)), (by first | rfl | (simp; done) | (simp [*]; done)), H', ⟨by have := HK1.out; omega⟩, ⟨by (with_reducible repeat (first | refine blk_drewN ?_ _ | refine blk_drew ?_ | refine blk_alloc ?_ _)); exact BK203.out⟩, ⟨by repeat (first | (with_reducible first | exact HB.out | apply below_alloc | apply pw_below_drewN | apply below_drew1 | refine below_set ?_ GE203.out) | exact HB.out)⟩⟩
        · rw [if_neg c6] at H
          have c6b0 : decide (x8_1 < (l0_0.length : Int)) = false := decide_eq_false c6
          clear c6
          obtain rfl := Option.some.inj H
          have hcz10_0 : wr.cell? ⟨gb203, 0, none⟩ = some (.slice A0_0 l0_0.length c0_0) := (blk_cell BK203.out 0).trans rfl
          have hcz10_1 : wr.cell? ⟨gb203, 1, none⟩ = some (.slice A0_1 l0_1.length c0_1) := (blk_cell BK203.out 1).trans rfl
          have hfz10_0 := blk_frozen BK203.out 0
          have hfz10_1 := blk_frozen BK203.out 1
          go_wp2
          go_ret
          exact ⟨by first | rfl | (simp [errW_none, errW_some] <;> rfl) | (simp [*, errW_none, errW_some] <;> rfl), by repeat (first | (with_reducible first | exact HB.out | apply below_alloc | apply pw_below_drewN | apply below_drew1 | refine below_set ?_ GE203.out) | exact HB.out)⟩
      · rw [if_neg c5] at H
        have c5b0 : decide (x8_1 < a2) = false := decide_eq_false c5
        clear c5
        obtain rfl := Option.some.inj H
        go_wp2
        go_ret
        exact ⟨by first | rfl | (simp [errW_none, errW_some] <;> rfl) | (simp [*, errW_none, errW_some] <;> rfl), by repeat (first | (with_reducible first | exact HB.out | apply below_alloc | apply pw_below_drewN | apply below_drew1 | refine below_set ?_ GE203.out) | exact HB.out)⟩

end Go.Proofs.Ytnmaonampilmoaa.LV

