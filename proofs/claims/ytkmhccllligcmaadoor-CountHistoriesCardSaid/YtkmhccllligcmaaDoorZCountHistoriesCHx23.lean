/- Of the text CHx23, what the row of CountHistories reaches. -/
import Derived.Test.YtkmhccllligcmaaDoorZCountHistoriesCHx0
import Derived.Test.YtkmhccllligcmaaDoorZCountHistoriesCHx1
import Derived.Test.YtkmhccllligcmaaDoorZCountHistoriesCHx20
import Derived.Test.YtkmhccllligcmaaDoorZCountHistoriesCHx22
namespace Go.Proofs.YtkmhccllligcmaaDoor.CH
open Go.RowKit Go.Proofs.YtkmhccllligcmaaDoorW.PrintWords Go.Proofs.YtkmhccllligcmaaDoorW.PrintLast Go.Proofs.YtkmhccllligcmaaDoorW.PrintMore
attribute [local go_sem] max2_int min2_int max_two min_two max_three min_three max_four min_four   -- for this text's walks alone
set_option linter.unusedVariables false
set_option linter.unusedSimpArgs false

attribute [local go_sem high] eqA31
mutual
def wigeonref06_Catches.l0 : Nat → List ByteArray → List (S42) → Int → Option ((List (S42)) × Int)
  | 0, _, _, _ => none
  | k + 1, x0, x5, x6 => (wigeonref06_days.f x0).bind fun t290 => (if x6 < t290 then (wigeonref06_Catches.l1 k x0 x5 x6 0 0 0 0) else (some (x5, 0)))
def wigeonref06_Catches.l1 : Nat → List ByteArray → List (S42) → Int → Int → Int → Int → Int → Option ((List (S42)) × Int)
  | 0, _, _, _, _, _, _, _ => none
  | k + 1, x0, x5, x6, x8, x292000, x292001, x292002 => if x8 < (x0.length : Int) then (if 0 ≤ x8 then ((wigeonref06_caught.f k (rdOf ByteArray.empty x0 x8) 0 x6).bind fun t296 => ((wigeonref06_caught.f k (rdOf ByteArray.empty x0 x8) x6 (wrap64 (x6 + 1))).bind fun t298 => (if t296 = true then (wigeonref06_Catches.j2 k x0 x5 x6 x8 t296 t298 (wrap64 (x292000 + 1)) x292001 x292002) else (wigeonref06_Catches.j2 k x0 x5 x6 x8 t296 t298 x292000 x292001 x292002)))) else (none)) else (if x5.length < 5864062014805 then (wigeonref06_Catches.l0 k x0 (x5 ++ [(⟨x292000, x292001, x292002⟩ : S42)]) (wrap64 (x6 + 1))) else (none))
def wigeonref06_Catches.j2 : Nat → List ByteArray → List (S42) → Int → Int → Bool → Bool → Int → Int → Int → Option ((List (S42)) × Int)
  | 0, _, _, _, _, _, _, _, _, _ => none
  | k + 1, x0, x5, x6, x8, x9, x10, x292000, x292001, x292002 => if x10 = true then (if x9 = true then (wigeonref06_Catches.l1 k x0 x5 x6 (wrap64 (x8 + 1)) x292000 (wrap64 (x292001 + 1)) (wrap64 (x292002 + 1))) else (wigeonref06_Catches.l1 k x0 x5 x6 (wrap64 (x8 + 1)) x292000 (wrap64 (x292001 + 1)) x292002)) else (if x9 = true then (wigeonref06_Catches.l1 k x0 x5 x6 (wrap64 (x8 + 1)) x292000 x292001 x292002) else (wigeonref06_Catches.l1 k x0 x5 x6 (wrap64 (x8 + 1)) x292000 x292001 x292002))
end
def wigeonref06_Catches.f (k : Nat) (l0 : List ByteArray) : Option ((List (S42)) × Int) := (wigeonref06_ValidateHistories.f k l0).bind fun t289 => (if t289 = 0 then (wigeonref06_Catches.l0 k l0 ([] : List (S42)) 0) else (some (([] : List (S42)), t289)))
set_option maxHeartbeats 8000000 in
set_option maxRecDepth 100000 in
theorem wigeonref06_Catches.calls (k : Nat) (A0 : Option Addr) (c0 : Nat) (l0 : List ByteArray) (r1 : List (S42)) (r2 : Int) (w : World) (hr0 : Kd.C Kd.string w A0 l0.length l0) (hc0 : l0.length ≤ c0) (h : wigeonref06_Catches.f k l0 = some (r1, r2)) :
    Calls Tryd.prog 19 #[.slice A0 l0.length c0] w fun e w' => ∃ v0_ : Value, e = .returned (.tuple #[v0_, .int .i64 r2]) ∧ Kd.R k42 42 w' w.heap.size (fun _ => True) v0_ r1 ∧ Below w.heap.size w w' := by
  have hu42 := Tryd.underlying42
  have HR0 := Aside0.mk hr0
  have HC0 := Aside0.mk hc0
  clear hr0 hc0
  have HB := Aside0.mk (Below.refl w.heap.size w)
  have H : ((wigeonref06_ValidateHistories.f k l0).bind fun t289 => (if t289 = 0 then (wigeonref06_Catches.l0 k l0 ([] : List (S42)) 0) else (some (([] : List (S42)), t289)))) = some (r1, r2) := h
  clear h
  replace H := Option.bind_eq_some_iff.mp H
  obtain ⟨t289, A20, H⟩ := H
  replace H : (if t289 = 0 then (wigeonref06_Catches.l0 k l0 ([] : List (S42)) 0) else (some (([] : List (S42)), t289))) = some (r1, r2) := H
  have A2 := Aside0.mk A20
  clear A20
  by_cases c3 : t289 = 0
  · rw [if_pos c3] at H
    have c3b0 : (t289 == 0) = true := beq_iff_eq.mpr c3
    have c3b1 : (t289 != 0) = false := bne_eq_false_iff_eq.mpr c3
    clear c3
    have H' := Aside0.mk H
    clear H
    go_enter Tryd.func19, Tryd.ntmps19
    go_wp2_with (first | (go_at_call 22; (with_reducible refine (wigeonref06_ValidateHistories.calls k _ _ l0 t289 _ ?side1 ?side2 A2.out).mono ?_); (case side1 => repeat (first | exact HR0.out | (with_reducible refine Kd.C_alloc ?_ _) | (with_reducible refine Kd.C_drewN ?_ _) | (with_reducible refine Kd.C_drew ?_))); (case side2 => exact HC0.out); rintro e w' ⟨rfl, ⟨nd, rfl⟩⟩; (try first | exact ⟨rfl, _, World.drewN_drewN _ _ _⟩ | exact ⟨rfl, _, Eq.trans (World.drewN_drewN _ _ _) (congrArg (World.drewN _) (Nat.add_assoc _ _ _))⟩)))
    repeat (go_quiet (first | (go_at_call 22; (with_reducible refine (wigeonref06_ValidateHistories.calls k _ _ l0 t289 _ ?side1 ?side2 A2.out).mono ?_); (case side1 => repeat (first | exact HR0.out | (with_reducible refine Kd.C_alloc ?_ _) | (with_reducible refine Kd.C_drewN ?_ _) | (with_reducible refine Kd.C_drew ?_))); (case side2 => exact HC0.out); rintro e w' ⟨rfl, ⟨nd, rfl⟩⟩; (try first | exact ⟨rfl, _, World.drewN_drewN _ _ _⟩ | exact ⟨rfl, _, Eq.trans (World.drewN_drewN _ _ _) (congrArg (World.drewN _) (Nat.add_assoc _ _ _))⟩))); try go_wp2_with (first | (go_at_call 22; (with_reducible refine (wigeonref06_ValidateHistories.calls k _ _ l0 t289 _ ?side1 ?side2 A2.out).mono ?_); (case side1 => repeat (first | exact HR0.out | (with_reducible refine Kd.C_alloc ?_ _) | (with_reducible refine Kd.C_drewN ?_ _) | (with_reducible refine Kd.C_drew ?_))); (case side2 => exact HC0.out); rintro e w' ⟨rfl, ⟨nd, rfl⟩⟩; (try first | exact ⟨rfl, _, World.drewN_drewN _ _ _⟩ | exact ⟨rfl, _, Eq.trans (World.drewN_drewN _ _ _) (congrArg (World.drewN _) (Nat.add_assoc _ _ _))⟩))))
    go_loopg [5, 6] k (fun kq v5 v6 w' => ∃ (x5_1 : List (S42)) (x6_1 : Int), v6 = .int .i64 x6_1 ∧ Aside0 (wigeonref06_Catches.l0 kq l0 x5_1 x6_1 = some (r1, r2)) ∧ Aside0 (kq ≤ k) ∧ Aside0 (Kd.R k42 42 w' w.heap.size (fun _ => True) v5 x5_1) ∧ Aside0 (Below w.heap.size w w'))
    case atStart => exact ⟨(([] : List (S42))), (0), (by first | rfl | (simp; done) | (simp [*]; done)), H', ⟨Nat.le_refl _⟩, ⟨by first | exact Kd.R_nil _ _ _ _ _ | exact Kd.N_nil _ _ _ _ _ | exact Kd.V_nil _ _ _ _ _ | exact Kd.Q_nil _ _ _ _ _ | exact Kd.S_nil _ _ _ _ _⟩, ⟨by repeat (first | (with_reducible first | exact HB.out | apply below_alloc | apply pw_below_drewN | apply below_drew1) | exact HB.out)⟩⟩
    case round =>
      clear H'
      try clear c1
      try clear p2
      try clear c3
      try clear c3b0
      try clear c3b1
      obtain ⟨x5_1, x6_1, rfl, HA, HK1, HO_5, HB⟩ := hrel
      cases gk with
      | zero => exact absurd HA.out (by simp [wigeonref06_Catches.l0])
      | succ k1 =>
        have H := HA.out
        clear HA
        simp only [wigeonref06_Catches.l0] at H
        replace H := Option.bind_eq_some_iff.mp H
        obtain ⟨t290, A40, H⟩ := H
        replace H : (if x6_1 < t290 then (wigeonref06_Catches.l1 k1 l0 x5_1 x6_1 0 0 0 0) else (some (x5_1, 0))) = some (r1, r2) := H
        have A4 := Aside0.mk A40
        clear A40
        by_cases c5 : x6_1 < t290
        · rw [if_pos c5] at H
          have c5b0 : decide (x6_1 < t290) = true := decide_eq_true c5
          clear c5
          have H' := Aside0.mk H
          clear H
          go_wp2_with (first | (go_at_call 48; (with_reducible refine (wigeonref06_days.calls _ _ l0 t290 _ ?side1 ?side2 A4.out).mono ?_); (case side1 => repeat (first | exact (Kd.C_below HR0.out HB.out) | (with_reducible refine Kd.C_alloc ?_ _) | (with_reducible refine Kd.C_drewN ?_ _) | (with_reducible refine Kd.C_drew ?_))); (case side2 => exact HC0.out); rintro e w' ⟨rfl, ⟨nd, rfl⟩⟩; (try first | exact ⟨rfl, _, World.drewN_drewN _ _ _⟩ | exact ⟨rfl, _, Eq.trans (World.drewN_drewN _ _ _) (congrArg (World.drewN _) (Nat.add_assoc _ _ _))⟩)) | ((with_reducible refine gate_dst (N := 7) rfl ?_); refine box_event ?hg (N := 7) ?hd (cs := #[.int .i64 0, .int .i64 0, .int .i64 0]) (t := 42) ?hr ?_; (case hd => rfl); (case hg => rfl); (case hr => first | (go_simp; done) | (go_simp; rfl)); intro gb291 hg w6 hbox hb; have n0_ := Aside0.mk (Kd.R_below (Kd.R_elderB (by (with_reducible repeat (first | apply Kd.R_alloc | apply Kd.R_drewN | apply Kd.R_drew)); exact HO_5.out) gb291 (Nat.le_of_eq hg.symm)) hb); have n1_ := Aside0.mk (below_step (by repeat (first | (with_reducible first | exact HB.out | apply below_alloc | apply pw_below_drewN | apply below_drew1) | exact HB.out)) hb); have n2_ := Aside0.mk (hbox); have n3_ := Aside0.mk ((by rw [hg]; exact (below_size (by repeat (first | (with_reducible first | exact HB.out | apply below_alloc | apply pw_below_drewN | apply below_drew1) | exact HB.out))) : w.heap.size ≤ gb291)); have n4_ := Aside0.mk ((by rw [hg]; exact (below_size (by repeat (first | (with_reducible first | exact HB.out | apply below_alloc | apply pw_below_drewN | apply below_drew1) | exact HB.out))) : w.heap.size ≤ gb291)); clear HO_5; clear HB; have HO_5 := n0_; have HB := n1_; have BK291 := n2_; have GW291 := n3_; have GE291 := n4_; clear n0_ n1_ n2_ n3_ n4_; clear hb hbox hg))
          repeat (go_quiet (first | (go_at_call 48; (with_reducible refine (wigeonref06_days.calls _ _ l0 t290 _ ?side1 ?side2 A4.out).mono ?_); (case side1 => repeat (first | exact (Kd.C_below HR0.out HB.out) | (with_reducible refine Kd.C_alloc ?_ _) | (with_reducible refine Kd.C_drewN ?_ _) | (with_reducible refine Kd.C_drew ?_))); (case side2 => exact HC0.out); rintro e w' ⟨rfl, ⟨nd, rfl⟩⟩; (try first | exact ⟨rfl, _, World.drewN_drewN _ _ _⟩ | exact ⟨rfl, _, Eq.trans (World.drewN_drewN _ _ _) (congrArg (World.drewN _) (Nat.add_assoc _ _ _))⟩)) | ((with_reducible refine gate_dst (N := 7) rfl ?_); refine box_event ?hg (N := 7) ?hd (cs := #[.int .i64 0, .int .i64 0, .int .i64 0]) (t := 42) ?hr ?_; (case hd => rfl); (case hg => rfl); (case hr => first | (go_simp; done) | (go_simp; rfl)); intro gb291 hg w6 hbox hb; have n0_ := Aside0.mk (Kd.R_below (Kd.R_elderB (by (with_reducible repeat (first | apply Kd.R_alloc | apply Kd.R_drewN | apply Kd.R_drew)); exact HO_5.out) gb291 (Nat.le_of_eq hg.symm)) hb); have n1_ := Aside0.mk (below_step (by repeat (first | (with_reducible first | exact HB.out | apply below_alloc | apply pw_below_drewN | apply below_drew1) | exact HB.out)) hb); have n2_ := Aside0.mk (hbox); have n3_ := Aside0.mk ((by rw [hg]; exact (below_size (by repeat (first | (with_reducible first | exact HB.out | apply below_alloc | apply pw_below_drewN | apply below_drew1) | exact HB.out))) : w.heap.size ≤ gb291)); have n4_ := Aside0.mk ((by rw [hg]; exact (below_size (by repeat (first | (with_reducible first | exact HB.out | apply below_alloc | apply pw_below_drewN | apply below_drew1) | exact HB.out))) : w.heap.size ≤ gb291)); clear HO_5; clear HB; have HO_5 := n0_; have HB := n1_; have BK291 := n2_; have GW291 := n3_; have GE291 := n4_; clear n0_ n1_ n2_ n3_ n4_; clear hb hbox hg)); try go_wp2_with (first | (go_at_call 48; (with_reducible refine (wigeonref06_days.calls _ _ l0 t290 _ ?side1 ?side2 A4.out).mono ?_); (case side1 => repeat (first | exact (Kd.C_below HR0.out HB.out) | (with_reducible refine Kd.C_alloc ?_ _) | (with_reducible refine Kd.C_drewN ?_ _) | (with_reducible refine Kd.C_drew ?_))); (case side2 => exact HC0.out); rintro e w' ⟨rfl, ⟨nd, rfl⟩⟩; (try first | exact ⟨rfl, _, World.drewN_drewN _ _ _⟩ | exact ⟨rfl, _, Eq.trans (World.drewN_drewN _ _ _) (congrArg (World.drewN _) (Nat.add_assoc _ _ _))⟩)) | ((with_reducible refine gate_dst (N := 7) rfl ?_); refine box_event ?hg (N := 7) ?hd (cs := #[.int .i64 0, .int .i64 0, .int .i64 0]) (t := 42) ?hr ?_; (case hd => rfl); (case hg => rfl); (case hr => first | (go_simp; done) | (go_simp; rfl)); intro gb291 hg w6 hbox hb; have n0_ := Aside0.mk (Kd.R_below (Kd.R_elderB (by (with_reducible repeat (first | apply Kd.R_alloc | apply Kd.R_drewN | apply Kd.R_drew)); exact HO_5.out) gb291 (Nat.le_of_eq hg.symm)) hb); have n1_ := Aside0.mk (below_step (by repeat (first | (with_reducible first | exact HB.out | apply below_alloc | apply pw_below_drewN | apply below_drew1) | exact HB.out)) hb); have n2_ := Aside0.mk (hbox); have n3_ := Aside0.mk ((by rw [hg]; exact (below_size (by repeat (first | (with_reducible first | exact HB.out | apply below_alloc | apply pw_below_drewN | apply below_drew1) | exact HB.out))) : w.heap.size ≤ gb291)); have n4_ := Aside0.mk ((by rw [hg]; exact (below_size (by repeat (first | (with_reducible first | exact HB.out | apply below_alloc | apply pw_below_drewN | apply below_drew1) | exact HB.out))) : w.heap.size ≤ gb291)); clear HO_5; clear HB; have HO_5 := n0_; have HB := n1_; have BK291 := n2_; have GW291 := n3_; have GE291 := n4_; clear n0_ n1_ n2_ n3_ n4_; clear hb hbox hg)))
          go_loopg [8] k1 (fun kq v8 w' => ∃ (x8_2 : Int) (x292000_2 : Int) (x292001_2 : Int) (x292002_2 : Int), v8 = .int .i64 x8_2 ∧ Aside0 (wigeonref06_Catches.l1 kq l0 x5_1 x6_1 x8_2 x292000_2 x292001_2 x292002_2 = some (r1, r2)) ∧ Aside0 (kq ≤ k1) ∧ Aside0 (Kd.R k42 42 w' w.heap.size (fun k_ => k_ ≠ gb291) u5 x5_1) ∧ Aside0 (w'.heap[gb291]? = some (.cells #[.int .i64 x292000_2, .int .i64 x292001_2, .int .i64 x292002_2] 42 (0, 0))) ∧ Aside0 (Below w.heap.size w w'))
          case atStart => exact ⟨(0), (0), (0), (0), (by first | rfl | (simp; done) | (simp [*]; done)), H', ⟨Nat.le_refl _⟩, ⟨by (with_reducible repeat (first | apply Kd.R_alloc | apply Kd.R_drewN | apply Kd.R_drew)); exact Kd.R_mono HO_5.out (fun _ hk => hk.2)⟩, ⟨by (with_reducible repeat (first | refine blk_drewN ?_ _ | refine blk_drew ?_ | refine blk_alloc ?_ _)); exact BK291.out⟩, ⟨by repeat (first | (with_reducible first | exact HB.out | apply below_alloc | apply pw_below_drewN | apply below_drew1 | refine below_set ?_ GE291.out) | exact HB.out)⟩⟩
          case round =>
            clear H'
            try clear c1
            try clear p2
            try clear c3
            try clear c3b0
            try clear c3b1
            try clear c5
            try clear c5b0
            try clear p2
            obtain ⟨x8_2, x292000_2, x292001_2, x292002_2, rfl, HA, HK2, HO_5, BK291, HB⟩ := hrel
            cases gk with
            | zero => exact absurd HA.out (by simp [wigeonref06_Catches.l1])
            | succ k2 =>
              have H := HA.out
              clear HA
              simp only [wigeonref06_Catches.l1] at H
              by_cases c7 : x8_2 < (l0.length : Int)
              · rw [if_pos c7] at H
                have c7b0 : decide (x8_2 < (l0.length : Int)) = true := decide_eq_true c7
                clear c7
                by_cases c8 : 0 ≤ x8_2
                · rw [if_pos c8] at H
                  have c8b0 : decide (0 ≤ x8_2) = true := decide_eq_true c8
                  clear c8
                  replace H := Option.bind_eq_some_iff.mp H
                  obtain ⟨t296, A90, H⟩ := H
                  replace H : ((wigeonref06_caught.f k2 (rdOf ByteArray.empty l0 x8_2) x6_1 (wrap64 (x6_1 + 1))).bind fun t298 => (if t296 = true then (wigeonref06_Catches.j2 k2 l0 x5_1 x6_1 x8_2 t296 t298 (wrap64 (x292000_2 + 1)) x292001_2 x292002_2) else (wigeonref06_Catches.j2 k2 l0 x5_1 x6_1 x8_2 t296 t298 x292000_2 x292001_2 x292002_2))) = some (r1, r2) := H
                  have A9 := Aside0.mk A90
                  clear A90
                  replace H := Option.bind_eq_some_iff.mp H
                  obtain ⟨t298, A100, H⟩ := H
                  replace H : (if t296 = true then (wigeonref06_Catches.j2 k2 l0 x5_1 x6_1 x8_2 t296 t298 (wrap64 (x292000_2 + 1)) x292001_2 x292002_2) else (wigeonref06_Catches.j2 k2 l0 x5_1 x6_1 x8_2 t296 t298 x292000_2 x292001_2 x292002_2)) = some (r1, r2) := H
                  have A10 := Aside0.mk A100
                  clear A100
                  have HC11 := Aside0.mk H
                  clear H
                  have p295 : 0 ≤ (x8_2 : Int) := of_decide_eq_true (by first | (with_reducible assumption) | assumption)
                  have q295 : x8_2 < (l0.length : Int) := of_decide_eq_true (by first | (with_reducible assumption) | assumption)
                  obtain ⟨ad295, e295, hx295_0⟩ := Kd.at_string HR0.out x8_2 p295 q295
                  cases e295
                  replace hx295_0 := (HB.out.cell (World.block_lt_of_cell? w _ hx295_0)).trans hx295_0
                  replace p295 := eq_true p295
                  replace q295 := eq_true q295
                  have hwq0_ : (IntKind.i64.wrap (x6_1 + 1)) = wrap64 (x6_1 + 1) := i64_w _
                  go_upto_if 42 with (first | (go_at_call 49; (with_reducible refine (wigeonref06_caught.calls k2 (rdOf ByteArray.empty l0 x8_2) 0 x6_1 t296 _ A9.out).mono ?_); rintro e w' ⟨rfl, ⟨nd, rfl⟩⟩; (try first | exact ⟨rfl, _, World.drewN_drewN _ _ _⟩ | exact ⟨rfl, _, Eq.trans (World.drewN_drewN _ _ _) (congrArg (World.drewN _) (Nat.add_assoc _ _ _))⟩); have p297 : 0 ≤ (x8_2 : Int) := of_decide_eq_true (by first | (with_reducible assumption) | assumption); have q297 : x8_2 < (l0.length : Int) := of_decide_eq_true (by first | (with_reducible assumption) | assumption); obtain ⟨ad297, e297, hx297_0⟩ := Kd.at_string HR0.out x8_2 p297 q297; obtain rfl : ad295 = ad297 := (by injection e297); replace hx297_0 := (HB.out.cell (World.block_lt_of_cell? w _ hx297_0)).trans hx297_0; replace p297 := eq_true p297; replace q297 := eq_true q297) | (go_at_call 49; (with_reducible refine (wigeonref06_caught.calls k2 (rdOf ByteArray.empty l0 x8_2) x6_1 (wrap64 (x6_1 + 1)) t298 _ A10.out).mono ?_); rintro e w' ⟨rfl, ⟨nd, rfl⟩⟩; (try first | exact ⟨rfl, _, World.drewN_drewN _ _ _⟩ | exact ⟨rfl, _, Eq.trans (World.drewN_drewN _ _ _) (congrArg (World.drewN _) (Nat.add_assoc _ _ _))⟩)))
                  repeat (go_quiet (first | (go_at_call 49; (with_reducible refine (wigeonref06_caught.calls k2 (rdOf ByteArray.empty l0 x8_2) 0 x6_1 t296 _ A9.out).mono ?_); rintro e w' ⟨rfl, ⟨nd, rfl⟩⟩; (try first | exact ⟨rfl, _, World.drewN_drewN _ _ _⟩ | exact ⟨rfl, _, Eq.trans (World.drewN_drewN _ _ _) (congrArg (World.drewN _) (Nat.add_assoc _ _ _))⟩); have p297 : 0 ≤ (x8_2 : Int) := of_decide_eq_true (by first | (with_reducible assumption) | assumption); have q297 : x8_2 < (l0.length : Int) := of_decide_eq_true (by first | (with_reducible assumption) | assumption); obtain ⟨ad297, e297, hx297_0⟩ := Kd.at_string HR0.out x8_2 p297 q297; obtain rfl : ad295 = ad297 := (by injection e297); replace hx297_0 := (HB.out.cell (World.block_lt_of_cell? w _ hx297_0)).trans hx297_0; replace p297 := eq_true p297; replace q297 := eq_true q297) | (go_at_call 49; (with_reducible refine (wigeonref06_caught.calls k2 (rdOf ByteArray.empty l0 x8_2) x6_1 (wrap64 (x6_1 + 1)) t298 _ A10.out).mono ?_); rintro e w' ⟨rfl, ⟨nd, rfl⟩⟩; (try first | exact ⟨rfl, _, World.drewN_drewN _ _ _⟩ | exact ⟨rfl, _, Eq.trans (World.drewN_drewN _ _ _) (congrArg (World.drewN _) (Nat.add_assoc _ _ _))⟩))); go_upto_if 42 with (first | (go_at_call 49; (with_reducible refine (wigeonref06_caught.calls k2 (rdOf ByteArray.empty l0 x8_2) 0 x6_1 t296 _ A9.out).mono ?_); rintro e w' ⟨rfl, ⟨nd, rfl⟩⟩; (try first | exact ⟨rfl, _, World.drewN_drewN _ _ _⟩ | exact ⟨rfl, _, Eq.trans (World.drewN_drewN _ _ _) (congrArg (World.drewN _) (Nat.add_assoc _ _ _))⟩); have p297 : 0 ≤ (x8_2 : Int) := of_decide_eq_true (by first | (with_reducible assumption) | assumption); have q297 : x8_2 < (l0.length : Int) := of_decide_eq_true (by first | (with_reducible assumption) | assumption); obtain ⟨ad297, e297, hx297_0⟩ := Kd.at_string HR0.out x8_2 p297 q297; obtain rfl : ad295 = ad297 := (by injection e297); replace hx297_0 := (HB.out.cell (World.block_lt_of_cell? w _ hx297_0)).trans hx297_0; replace p297 := eq_true p297; replace q297 := eq_true q297) | (go_at_call 49; (with_reducible refine (wigeonref06_caught.calls k2 (rdOf ByteArray.empty l0 x8_2) x6_1 (wrap64 (x6_1 + 1)) t298 _ A10.out).mono ?_); rintro e w' ⟨rfl, ⟨nd, rfl⟩⟩; (try first | exact ⟨rfl, _, World.drewN_drewN _ _ _⟩ | exact ⟨rfl, _, Eq.trans (World.drewN_drewN _ _ _) (congrArg (World.drewN _) (Nat.add_assoc _ _ _))⟩))))
                  (try simp only [Act.put, List.setIfInBounds_toArray, List.set_cons_zero, List.set_cons_succ])
                  go_cut [] (fun wc => ∃ (kq : Nat) (x292000_10 : Int), Aside0 (wigeonref06_Catches.j2 kq l0 x5_1 x6_1 x8_2 t296 t298 x292000_10 x292001_2 x292002_2 = some (r1, r2)) ∧ Aside0 (kq ≤ k2) ∧ Aside0 (Kd.R k42 42 wc w.heap.size (fun k_ => k_ ≠ gb291) u5 x5_1) ∧ Aside0 (wc.heap[gb291]? = some (.cells #[.int .i64 x292000_10, .int .i64 x292001_2, .int .i64 x292002_2] 42 (0, 0))) ∧ Aside0 (Below w.heap.size w wc))
                  case first =>
                    have H := HC11.out
                    clear HC11
                    by_cases c12 : t296 = true
                    · subst c12
                      have H1 : (wigeonref06_Catches.j2 k2 l0 x5_1 x6_1 x8_2 true t298 (wrap64 (x292000_2 + 1)) x292001_2 x292002_2) = some (r1, r2) := by rw [if_pos rfl] at H; exact H
                      clear H
                      have H := H1
                      clear H1
                      have H' := Aside0.mk H
                      clear H
                      have hcz13_0 : wr.cell? ⟨gb291, 0, none⟩ = some (.int .i64 x292000_2) := (blk_cell BK291.out 0).trans rfl
                      have hcz13_1 : wr.cell? ⟨gb291, 1, none⟩ = some (.int .i64 x292001_2) := (blk_cell BK291.out 1).trans rfl
                      have hcz13_2 : wr.cell? ⟨gb291, 2, none⟩ = some (.int .i64 x292002_2) := (blk_cell BK291.out 2).trans rfl
                      have hfz13_0 := blk_frozen BK291.out 0
                      have hfz13_1 := blk_frozen BK291.out 1
                      have hfz13_2 := blk_frozen BK291.out 2
                      go_wp2
                      repeat (go_quiet (fail); try go_wp2)
                      go_meet
                      case rel => exact ⟨_, (wrap64 (x292000_2 + 1)), H', ⟨by have := HK1.out; have := HK2.out; first | omega | exact Nat.le_refl _⟩, ⟨by (with_reducible repeat (first | apply Kd.R_alloc | apply Kd.R_drewN | apply Kd.R_drew)); exact Kd.R_mono (Kd.R_far (p := ⟨gb291, 0, none⟩) (Kd.R_mono HO_5.out (fun k_ hk => (⟨hk, hk⟩ : _ ∧ k_ ≠ gb291))) (fun _ hk => hk.2) (.int .i64 (wrap64 (x292000_2 + 1)))) (fun _ hk => hk.1)⟩, ⟨by (with_reducible repeat (first | refine blk_drewN ?_ _ | refine blk_drew ?_ | refine blk_alloc ?_ _)); refine blk_put (cs := #[.int .i64 x292000_2, .int .i64 x292001_2, .int .i64 x292002_2]) ?_ 0 _ rfl; (with_reducible repeat (first | refine blk_drewN ?_ _ | refine blk_drew ?_ | refine blk_alloc ?_ _)); exact BK291.out⟩, ⟨by repeat (first | (with_reducible first | exact HB.out | apply below_alloc | apply pw_below_drewN | apply below_drew1 | refine below_set ?_ GE291.out) | exact HB.out)⟩⟩
                    · replace c12 := Bool.eq_false_iff.mpr c12
                      subst c12
                      have H1 : (wigeonref06_Catches.j2 k2 l0 x5_1 x6_1 x8_2 false t298 x292000_2 x292001_2 x292002_2) = some (r1, r2) := by rw [if_neg (show ¬ (false = true) by decide)] at H; exact H
                      clear H
                      have H := H1
                      clear H1
                      have H' := Aside0.mk H
                      clear H
                      go_wp2
                      repeat (go_quiet (fail); try go_wp2)
                      go_meet
                      case rel => exact ⟨_, (x292000_2), H', ⟨by have := HK1.out; have := HK2.out; first | omega | exact Nat.le_refl _⟩, ⟨by (with_reducible repeat (first | apply Kd.R_alloc | apply Kd.R_drewN | apply Kd.R_drew)); exact HO_5.out⟩, ⟨by (with_reducible repeat (first | refine blk_drewN ?_ _ | refine blk_drew ?_ | refine blk_alloc ?_ _)); exact BK291.out⟩, ⟨by repeat (first | (with_reducible first | exact HB.out | apply below_alloc | apply pw_below_drewN | apply below_drew1 | refine below_set ?_ GE291.out) | exact HB.out)⟩⟩
                  case rest =>
                    clear HC11
                    try clear c1
                    try clear p2
                    try clear q2
                    try clear hx2
                    try clear c3
                    try clear c3b0
                    try clear c3b1
                    try clear c5
                    try clear c5b0
                    try clear p6
                    try clear c7
                    try clear c7b0
                    try clear c8
                    try clear c8b0
                    try clear c12
                    try clear hcz13_0
                    try clear hcz13_1
                    try clear hcz13_2
                    try clear hfz13_0
                    try clear hfz13_1
                    try clear hfz13_2
                    try clear hx295_0
                    try clear hx297_0
                    try clear p2
                    try clear p295
                    try clear p297
                    try clear q295
                    try clear q297
                    obtain ⟨kq, x292000_10, HA, HJ10, HO_5, BK291, HB⟩ := hcut
                    cases kq with
                    | zero => exact absurd HA.out (by simp [wigeonref06_Catches.j2])
                    | succ kj10 =>
                      have H := HA.out
                      clear HA
                      simp only [wigeonref06_Catches.j2] at H
                      by_cases c14 : t298 = true
                      · subst c14
                        have H1 : (if t296 = true then (wigeonref06_Catches.l1 kj10 l0 x5_1 x6_1 (wrap64 (x8_2 + 1)) x292000_10 (wrap64 (x292001_2 + 1)) (wrap64 (x292002_2 + 1))) else (wigeonref06_Catches.l1 kj10 l0 x5_1 x6_1 (wrap64 (x8_2 + 1)) x292000_10 (wrap64 (x292001_2 + 1)) x292002_2)) = some (r1, r2) := by rw [if_pos rfl] at H; exact H
                        clear H
                        have H := H1
                        clear H1
                        by_cases c15 : t296 = true
                        · subst c15
                          have H1 : (wigeonref06_Catches.l1 kj10 l0 x5_1 x6_1 (wrap64 (x8_2 + 1)) x292000_10 (wrap64 (x292001_2 + 1)) (wrap64 (x292002_2 + 1))) = some (r1, r2) := by rw [if_pos rfl] at H; exact H
                          clear H
                          have H := H1
                          clear H1
                          have H' := Aside0.mk H
                          clear H
                          have hcz16_0 : wc.cell? ⟨gb291, 0, none⟩ = some (.int .i64 x292000_10) := (blk_cell BK291.out 0).trans rfl
                          have hcz16_1 : wc.cell? ⟨gb291, 1, none⟩ = some (.int .i64 x292001_2) := (blk_cell BK291.out 1).trans rfl
                          have hcz16_2 : wc.cell? ⟨gb291, 2, none⟩ = some (.int .i64 x292002_2) := (blk_cell BK291.out 2).trans rfl
                          have hfz16_0 := blk_frozen BK291.out 0
                          have hfz16_1 := blk_frozen BK291.out 1
                          have hfz16_2 := blk_frozen BK291.out 2
                          go_wp2
                          repeat (go_quiet (fail); try go_wp2)
                          go_roundg kj10
                          case measure => have := HK1.out; have := HK2.out; have := HJ10.out; omega
                          case rel => exact ⟨(wrap64 (x8_2 + 1)), (x292000_10), (wrap64 (x292001_2 + 1)), (wrap64 (x292002_2 + 1)), (by first | rfl | (simp; done) | (simp [*]; done)), H', ⟨by have := HK1.out; have := HK2.out; have := HJ10.out; omega⟩, ⟨by (with_reducible repeat (first | apply Kd.R_alloc | apply Kd.R_drewN | apply Kd.R_drew)); exact Kd.R_mono (Kd.R_far (p := ⟨gb291, 2, none⟩) (Kd.R_far (p := ⟨gb291, 1, none⟩) (Kd.R_mono HO_5.out (fun k_ hk => (⟨hk, hk⟩ : _ ∧ k_ ≠ gb291))) (fun _ hk => hk.2) (.int .i64 (wrap64 (x292001_2 + 1)))) (fun _ hk => hk.2) (.int .i64 (wrap64 (x292002_2 + 1)))) (fun _ hk => hk.1)⟩, ⟨by (with_reducible repeat (first | refine blk_drewN ?_ _ | refine blk_drew ?_ | refine blk_alloc ?_ _)); refine blk_put (cs := #[.int .i64 x292000_10, .int .i64 (wrap64 (x292001_2 + 1)), .int .i64 x292002_2]) ?_ 2 _ rfl; (with_reducible repeat (first | refine blk_drewN ?_ _ | refine blk_drew ?_ | refine blk_alloc ?_ _)); refine blk_put (cs := #[.int .i64 x292000_10, .int .i64 x292001_2, .int .i64 x292002_2]) ?_ 1 _ rfl; (with_reducible repeat (first | refine blk_drewN ?_ _ | refine blk_drew ?_ | refine blk_alloc ?_ _)); exact BK291.out⟩, ⟨by repeat (first | (with_reducible first | exact HB.out | apply below_alloc | apply pw_below_drewN | apply below_drew1 | refine below_set ?_ GE291.out) | exact HB.out)⟩⟩
                        · replace c15 := Bool.eq_false_iff.mpr c15
                          subst c15
                          have H1 : (wigeonref06_Catches.l1 kj10 l0 x5_1 x6_1 (wrap64 (x8_2 + 1)) x292000_10 (wrap64 (x292001_2 + 1)) x292002_2) = some (r1, r2) := by rw [if_neg (show ¬ (false = true) by decide)] at H; exact H
                          clear H
                          have H := H1
                          clear H1
                          have H' := Aside0.mk H
                          clear H
                          have hcz17_0 : wc.cell? ⟨gb291, 0, none⟩ = some (.int .i64 x292000_10) := (blk_cell BK291.out 0).trans rfl
                          have hcz17_1 : wc.cell? ⟨gb291, 1, none⟩ = some (.int .i64 x292001_2) := (blk_cell BK291.out 1).trans rfl
                          have hcz17_2 : wc.cell? ⟨gb291, 2, none⟩ = some (.int .i64 x292002_2) := (blk_cell BK291.out 2).trans rfl
                          have hfz17_0 := blk_frozen BK291.out 0
                          have hfz17_1 := blk_frozen BK291.out 1
                          have hfz17_2 := blk_frozen BK291.out 2
                          go_wp2
                          repeat (go_quiet (fail); try go_wp2)
                          go_roundg kj10
                          case measure => have := HK1.out; have := HK2.out; have := HJ10.out; omega
                          case rel => exact ⟨(wrap64 (x8_2 + 1)), (x292000_10), (wrap64 (x292001_2 + 1)), (x292002_2), (by first | rfl | (simp; done) | (simp [*]; done)), H', ⟨by have := HK1.out; have := HK2.out; have := HJ10.out; omega⟩, ⟨by (with_reducible repeat (first | apply Kd.R_alloc | apply Kd.R_drewN | apply Kd.R_drew)); exact Kd.R_mono (Kd.R_far (p := ⟨gb291, 1, none⟩) (Kd.R_mono HO_5.out (fun k_ hk => (⟨hk, hk⟩ : _ ∧ k_ ≠ gb291))) (fun _ hk => hk.2) (.int .i64 (wrap64 (x292001_2 + 1)))) (fun _ hk => hk.1)⟩, ⟨by (with_reducible repeat (first | refine blk_drewN ?_ _ | refine blk_drew ?_ | refine blk_alloc ?_ _)); refine blk_put (cs := #[.int .i64 x292000_10, .int .i64 x292001_2, .int .i64 x292002_2]) ?_ 1 _ rfl; (with_reducible repeat (first | refine blk_drewN ?_ _ | refine blk_drew ?_ | refine blk_alloc ?_ _)); exact BK291.out⟩, ⟨by repeat (first | (with_reducible first | exact HB.out | apply below_alloc | apply pw_below_drewN | apply below_drew1 | refine below_set ?_ GE291.out) | exact HB.out)⟩⟩
                      · replace c14 := Bool.eq_false_iff.mpr c14
                        subst c14
                        have H1 : (if t296 = true then (wigeonref06_Catches.l1 kj10 l0 x5_1 x6_1 (wrap64 (x8_2 + 1)) x292000_10 x292001_2 x292002_2) else (wigeonref06_Catches.l1 kj10 l0 x5_1 x6_1 (wrap64 (x8_2 + 1)) x292000_10 x292001_2 x292002_2)) = some (r1, r2) := by rw [if_neg (show ¬ (false = true) by decide)] at H; exact H
                        clear H
                        have H := H1
                        clear H1
                        by_cases c18 : t296 = true
                        · subst c18
                          have H1 : (wigeonref06_Catches.l1 kj10 l0 x5_1 x6_1 (wrap64 (x8_2 + 1)) x292000_10 x292001_2 x292002_2) = some (r1, r2) := by rw [if_pos rfl] at H; exact H
                          clear H
                          have H := H1
                          clear H1
                          have H' := Aside0.mk H
                          clear H
                          go_wp2
                          repeat (go_quiet (fail); try go_wp2)
                          go_roundg kj10
                          case measure => have := HK1.out; have := HK2.out; have := HJ10.out; omega
                          case rel => exact ⟨(wrap64 (x8_2 + 1)), (x292000_10), (x292001_2), (x292002_2), (by first | rfl | (simp; done) | (simp [*]; done)), H', ⟨by have := HK1.out; have := HK2.out; have := HJ10.out; omega⟩, ⟨by (with_reducible repeat (first | apply Kd.R_alloc | apply Kd.R_drewN | apply Kd.R_drew)); exact HO_5.out⟩, ⟨by (with_reducible repeat (first | refine blk_drewN ?_ _ | refine blk_drew ?_ | refine blk_alloc ?_ _)); exact BK291.out⟩, ⟨by repeat (first | (with_reducible first | exact HB.out | apply below_alloc | apply pw_below_drewN | apply below_drew1 | refine below_set ?_ GE291.out) | exact HB.out)⟩⟩
                        · replace c18 := Bool.eq_false_iff.mpr c18
                          subst c18
                          have H1 : (wigeonref06_Catches.l1 kj10 l0 x5_1 x6_1 (wrap64 (x8_2 + 1)) x292000_10 x292001_2 x292002_2) = some (r1, r2) := by rw [if_neg (show ¬ (false = true) by decide)] at H; exact H
                          clear H
                          have H := H1
                          clear H1
                          have H' := Aside0.mk H
                          clear H
                          go_wp2
                          repeat (go_quiet (fail); try go_wp2)
                          go_roundg kj10
                          case measure => have := HK1.out; have := HK2.out; have := HJ10.out; omega
                          case rel => exact ⟨(wrap64 (x8_2 + 1)), (x292000_10), (x292001_2), (x292002_2), (by first | rfl | (simp; done) | (simp [*]; done)), H', ⟨by have := HK1.out; have := HK2.out; have := HJ10.out; omega⟩, ⟨by (with_reducible repeat (first | apply Kd.R_alloc | apply Kd.R_drewN | apply Kd.R_drew)); exact HO_5.out⟩, ⟨by (with_reducible repeat (first | refine blk_drewN ?_ _ | refine blk_drew ?_ | refine blk_alloc ?_ _)); exact BK291.out⟩, ⟨by repeat (first | (with_reducible first | exact HB.out | apply below_alloc | apply pw_below_drewN | apply below_drew1 | refine below_set ?_ GE291.out) | exact HB.out)⟩⟩
                · rw [if_neg c8] at H
                  exact absurd H (by simp)
              · rw [if_neg c7] at H
                have c7b0 : decide (x8_2 < (l0.length : Int)) = false := decide_eq_false c7
                clear c7
                by_cases c19 : x5_1.length < 5864062014805
                · rw [if_pos c19] at H
                  have LMc19 := Aside0.mk c19
                  clear c19
                  obtain ⟨y292, hy292⟩ : ∃ y_ : List (S42), y_ = (x5_1 ++ [(⟨x292000_2, x292001_2, x292002_2⟩ : S42)]) := ⟨_, rfl⟩
                  replace H : (wigeonref06_Catches.l0 k2 l0 y292 (wrap64 (x6_1 + 1))) = some (r1, r2) := by first | (rw [hy292]; with_reducible exact H) | (have H2_ := (Option.bind_some _ _).symm.trans H; rw [hy292]; with_reducible exact H2_) | (have H2_ := (Option.bind_some _ _).symm.trans H; with_reducible exact H2_) | with_reducible exact H | (rw [hy292]; exact H) | exact H
                  have Ny292 := Aside0.mk hy292
                  clear hy292
                  have H' := Aside0.mk H
                  clear H
                  have hcz20_0 : wr.cell? ⟨gb291, 0, none⟩ = some (.int .i64 x292000_2) := (blk_cell BK291.out 0).trans rfl
                  have hcz20_1 : wr.cell? ⟨gb291, 1, none⟩ = some (.int .i64 x292001_2) := (blk_cell BK291.out 1).trans rfl
                  have hcz20_2 : wr.cell? ⟨gb291, 2, none⟩ = some (.int .i64 x292002_2) := (blk_cell BK291.out 2).trans rfl
                  have hfz20_0 := blk_frozen BK291.out 0
                  have hfz20_1 := blk_frozen BK291.out 1
                  have hfz20_2 := blk_frozen BK291.out 2
                  go_wp2_with (first | ((with_reducible refine gate_builtin (b := .append) (xs := #[.tmp 60, .tmp 62]) rfl ?_); at_builtin; refine Kd.R_append k42 (w0 := w) w.heap.size rfl (.tmp 60) (.tmp 62) 34 42 (.agg #[(.int .i64 0), (.int .i64 0), (.int .i64 0)]) 24 rfl Tryd.underlying34 info42 rfl (by decide) (by omega) u5 x5_1 (⟨x292000_2, x292001_2, x292002_2⟩ : S42) [.int .i64 x292000_2, .int .i64 x292001_2, .int .i64 x292002_2] (fun k_ => k_ ≠ gb291) (fun _ => False) rfl rfl ?aP (fun _ hk => hk.elim) ?aF ?aO ?aB ?aS ?aL ?_; (case aP => exact k42_mkM _ _ _ (⟨x292000_2, x292001_2, x292002_2⟩ : S42)); (case aB => exact (by repeat (first | (with_reducible first | exact HB.out | apply below_alloc | apply pw_below_drewN | apply below_drew1 | refine below_set ?_ GE291.out) | exact HB.out))); (case aF => exact (fun k_ hk => Kd.freshB (g := gb291) (o := .cells #[.int .i64 x292000_2, .int .i64 x292001_2, .int .i64 x292002_2] 42 (0, 0)) (by (with_reducible repeat (first | refine blk_drewN ?_ _ | refine blk_drew ?_ | refine blk_alloc ?_ _)); exact BK291.out) k_ hk)); (case aO => exact (by (with_reducible repeat (first | apply Kd.R_alloc | apply Kd.R_drewN | apply Kd.R_drew)); exact HO_5.out)); (case aS => exact (below_size (by repeat (first | (with_reducible first | exact HB.out | apply below_alloc | apply pw_below_drewN | apply below_drew1 | refine below_set ?_ GE291.out) | exact HB.out)))); (case aL => have := LMc19.out; omega); intro v293 w21 ho hb hg hat; rw [← Ny292.out] at ho; have n0_ := Aside0.mk (blk_grown (g := gb291) (o := .cells #[.int .i64 x292000_2, .int .i64 x292001_2, .int .i64 x292002_2] 42 (0, 0)) (by (with_reducible repeat (first | refine blk_drewN ?_ _ | refine blk_drew ?_ | refine blk_alloc ?_ _)); exact BK291.out) hg (Kd.R_away HO_5.out (fun _ hk => hk))); have n1_ := Aside0.mk (hb); have n2_ := Aside0.mk (ho); clear BK291; clear HB; clear HO_5; have BK291 := n0_; have HB := n1_; have HO294 := n2_; clear n0_ n1_ n2_; clear ho hb hg hat))
                  repeat (go_quiet (first | ((with_reducible refine gate_builtin (b := .append) (xs := #[.tmp 60, .tmp 62]) rfl ?_); at_builtin; refine Kd.R_append k42 (w0 := w) w.heap.size rfl (.tmp 60) (.tmp 62) 34 42 (.agg #[(.int .i64 0), (.int .i64 0), (.int .i64 0)]) 24 rfl Tryd.underlying34 info42 rfl (by decide) (by omega) u5 x5_1 (⟨x292000_2, x292001_2, x292002_2⟩ : S42) [.int .i64 x292000_2, .int .i64 x292001_2, .int .i64 x292002_2] (fun k_ => k_ ≠ gb291) (fun _ => False) rfl rfl ?aP (fun _ hk => hk.elim) ?aF ?aO ?aB ?aS ?aL ?_; (case aP => exact k42_mkM _ _ _ (⟨x292000_2, x292001_2, x292002_2⟩ : S42)); (case aB => exact (by repeat (first | (with_reducible first | exact HB.out | apply below_alloc | apply pw_below_drewN | apply below_drew1 | refine below_set ?_ GE291.out) | exact HB.out))); (case aF => exact (fun k_ hk => Kd.freshB (g := gb291) (o := .cells #[.int .i64 x292000_2, .int .i64 x292001_2, .int .i64 x292002_2] 42 (0, 0)) (by (with_reducible repeat (first | refine blk_drewN ?_ _ | refine blk_drew ?_ | refine blk_alloc ?_ _)); exact BK291.out) k_ hk)); (case aO => exact (by (with_reducible repeat (first | apply Kd.R_alloc | apply Kd.R_drewN | apply Kd.R_drew)); exact HO_5.out)); (case aS => exact (below_size (by repeat (first | (with_reducible first | exact HB.out | apply below_alloc | apply pw_below_drewN | apply below_drew1 | refine below_set ?_ GE291.out) | exact HB.out)))); (case aL => have := LMc19.out; omega); intro v293 w21 ho hb hg hat; rw [← Ny292.out] at ho; have n0_ := Aside0.mk (blk_grown (g := gb291) (o := .cells #[.int .i64 x292000_2, .int .i64 x292001_2, .int .i64 x292002_2] 42 (0, 0)) (by (with_reducible repeat (first | refine blk_drewN ?_ _ | refine blk_drew ?_ | refine blk_alloc ?_ _)); exact BK291.out) hg (Kd.R_away HO_5.out (fun _ hk => hk))); have n1_ := Aside0.mk (hb); have n2_ := Aside0.mk (ho); clear BK291; clear HB; clear HO_5; have BK291 := n0_; have HB := n1_; have HO294 := n2_; clear n0_ n1_ n2_; clear ho hb hg hat)); try go_wp2_with (first | ((with_reducible refine gate_builtin (b := .append) (xs := #[.tmp 60, .tmp 62]) rfl ?_); at_builtin; refine Kd.R_append k42 (w0 := w) w.heap.size rfl (.tmp 60) (.tmp 62) 34 42 (.agg #[(.int .i64 0), (.int .i64 0), (.int .i64 0)]) 24 rfl Tryd.underlying34 info42 rfl (by decide) (by omega) u5 x5_1 (⟨x292000_2, x292001_2, x292002_2⟩ : S42) [.int .i64 x292000_2, .int .i64 x292001_2, .int .i64 x292002_2] (fun k_ => k_ ≠ gb291) (fun _ => False) rfl rfl ?aP (fun _ hk => hk.elim) ?aF ?aO ?aB ?aS ?aL ?_; (case aP => exact k42_mkM _ _ _ (⟨x292000_2, x292001_2, x292002_2⟩ : S42)); (case aB => exact (by repeat (first | (with_reducible first | exact HB.out | apply below_alloc | apply pw_below_drewN | apply below_drew1 | refine below_set ?_ GE291.out) | exact HB.out))); (case aF => exact (fun k_ hk => Kd.freshB (g := gb291) (o := .cells #[.int .i64 x292000_2, .int .i64 x292001_2, .int .i64 x292002_2] 42 (0, 0)) (by (with_reducible repeat (first | refine blk_drewN ?_ _ | refine blk_drew ?_ | refine blk_alloc ?_ _)); exact BK291.out) k_ hk)); (case aO => exact (by (with_reducible repeat (first | apply Kd.R_alloc | apply Kd.R_drewN | apply Kd.R_drew)); exact HO_5.out)); (case aS => exact (below_size (by repeat (first | (with_reducible first | exact HB.out | apply below_alloc | apply pw_below_drewN | apply below_drew1 | refine below_set ?_ GE291.out) | exact HB.out)))); (case aL => have := LMc19.out; omega); intro v293 w21 ho hb hg hat; rw [← Ny292.out] at ho; have n0_ := Aside0.mk (blk_grown (g := gb291) (o := .cells #[.int .i64 x292000_2, .int .i64 x292001_2, .int .i64 x292002_2] 42 (0, 0)) (by (with_reducible repeat (first | refine blk_drewN ?_ _ | refine blk_drew ?_ | refine blk_alloc ?_ _)); exact BK291.out) hg (Kd.R_away HO_5.out (fun _ hk => hk))); have n1_ := Aside0.mk (hb); have n2_ := Aside0.mk (ho); clear BK291; clear HB; clear HO_5; have BK291 := n0_; have HB := n1_; have HO294 := n2_; clear n0_ n1_ n2_; clear ho hb hg hat)))
                  go_roundg k2
                  case measure => have := HK1.out; have := HK2.out; omega
                  case rel => exact ⟨(y292), (wrap64 (x6_1 + 1)), (by first | rfl | (simp; done) | (simp [*]; done)), H', ⟨by have := HK1.out; have := HK2.out; omega⟩, ⟨by (with_reducible repeat (first | apply Kd.R_alloc | apply Kd.R_drewN | apply Kd.R_drew)); exact Kd.R_mono HO294.out (fun _ hk => trivial)⟩, ⟨by repeat (first | (with_reducible first | exact HB.out | apply below_alloc | apply pw_below_drewN | apply below_drew1 | refine below_set ?_ GE291.out) | exact HB.out)⟩⟩
                · rw [if_neg c19] at H
                  exact absurd H (by simp)
        · rw [if_neg c5] at H
          have c5b0 : decide (x6_1 < t290) = false := decide_eq_false c5
          clear c5
          simp only [Option.some.injEq, Prod.mk.injEq] at H
          obtain ⟨rfl, rfl⟩ := H
          go_wp2_with (first | (go_at_call 48; (with_reducible refine (wigeonref06_days.calls _ _ l0 t290 _ ?side1 ?side2 A4.out).mono ?_); (case side1 => repeat (first | exact (Kd.C_below HR0.out HB.out) | (with_reducible refine Kd.C_alloc ?_ _) | (with_reducible refine Kd.C_drewN ?_ _) | (with_reducible refine Kd.C_drew ?_))); (case side2 => exact HC0.out); rintro e w' ⟨rfl, ⟨nd, rfl⟩⟩; (try first | exact ⟨rfl, _, World.drewN_drewN _ _ _⟩ | exact ⟨rfl, _, Eq.trans (World.drewN_drewN _ _ _) (congrArg (World.drewN _) (Nat.add_assoc _ _ _))⟩)))
          repeat (go_quiet (first | (go_at_call 48; (with_reducible refine (wigeonref06_days.calls _ _ l0 t290 _ ?side1 ?side2 A4.out).mono ?_); (case side1 => repeat (first | exact (Kd.C_below HR0.out HB.out) | (with_reducible refine Kd.C_alloc ?_ _) | (with_reducible refine Kd.C_drewN ?_ _) | (with_reducible refine Kd.C_drew ?_))); (case side2 => exact HC0.out); rintro e w' ⟨rfl, ⟨nd, rfl⟩⟩; (try first | exact ⟨rfl, _, World.drewN_drewN _ _ _⟩ | exact ⟨rfl, _, Eq.trans (World.drewN_drewN _ _ _) (congrArg (World.drewN _) (Nat.add_assoc _ _ _))⟩))); try go_wp2_with (first | (go_at_call 48; (with_reducible refine (wigeonref06_days.calls _ _ l0 t290 _ ?side1 ?side2 A4.out).mono ?_); (case side1 => repeat (first | exact (Kd.C_below HR0.out HB.out) | (with_reducible refine Kd.C_alloc ?_ _) | (with_reducible refine Kd.C_drewN ?_ _) | (with_reducible refine Kd.C_drew ?_))); (case side2 => exact HC0.out); rintro e w' ⟨rfl, ⟨nd, rfl⟩⟩; (try first | exact ⟨rfl, _, World.drewN_drewN _ _ _⟩ | exact ⟨rfl, _, Eq.trans (World.drewN_drewN _ _ _) (congrArg (World.drewN _) (Nat.add_assoc _ _ _))⟩))))
          go_ret2
          exact ⟨_, by first | rfl | (simp [errW_none, errW_some] <;> rfl) | (simp [*, errW_none, errW_some] <;> rfl), by (with_reducible repeat (first | apply Kd.R_alloc | apply Kd.R_drewN | apply Kd.R_drew)); exact HO_5.out, by repeat (first | (with_reducible first | exact HB.out | apply below_alloc | apply pw_below_drewN | apply below_drew1) | exact HB.out)⟩
  · rw [if_neg c3] at H
    have c3b0 : (t289 == 0) = false := beq_eq_false_iff_ne.mpr c3
    have c3b1 : (t289 != 0) = true := bne_iff_ne.mpr c3
    simp only [Option.some.injEq, Prod.mk.injEq] at H
    obtain ⟨rfl, rfl⟩ := H
    go_enter Tryd.func19, Tryd.ntmps19
    go_wp2_with (first | (go_at_call 22; (with_reducible refine (wigeonref06_ValidateHistories.calls k _ _ l0 t289 _ ?side1 ?side2 A2.out).mono ?_); (case side1 => repeat (first | exact HR0.out | (with_reducible refine Kd.C_alloc ?_ _) | (with_reducible refine Kd.C_drewN ?_ _) | (with_reducible refine Kd.C_drew ?_))); (case side2 => exact HC0.out); rintro e w' ⟨rfl, ⟨nd, rfl⟩⟩; (try first | exact ⟨rfl, _, World.drewN_drewN _ _ _⟩ | exact ⟨rfl, _, Eq.trans (World.drewN_drewN _ _ _) (congrArg (World.drewN _) (Nat.add_assoc _ _ _))⟩)))
    repeat (go_quiet (first | (go_at_call 22; (with_reducible refine (wigeonref06_ValidateHistories.calls k _ _ l0 t289 _ ?side1 ?side2 A2.out).mono ?_); (case side1 => repeat (first | exact HR0.out | (with_reducible refine Kd.C_alloc ?_ _) | (with_reducible refine Kd.C_drewN ?_ _) | (with_reducible refine Kd.C_drew ?_))); (case side2 => exact HC0.out); rintro e w' ⟨rfl, ⟨nd, rfl⟩⟩; (try first | exact ⟨rfl, _, World.drewN_drewN _ _ _⟩ | exact ⟨rfl, _, Eq.trans (World.drewN_drewN _ _ _) (congrArg (World.drewN _) (Nat.add_assoc _ _ _))⟩))); try go_wp2_with (first | (go_at_call 22; (with_reducible refine (wigeonref06_ValidateHistories.calls k _ _ l0 t289 _ ?side1 ?side2 A2.out).mono ?_); (case side1 => repeat (first | exact HR0.out | (with_reducible refine Kd.C_alloc ?_ _) | (with_reducible refine Kd.C_drewN ?_ _) | (with_reducible refine Kd.C_drew ?_))); (case side2 => exact HC0.out); rintro e w' ⟨rfl, ⟨nd, rfl⟩⟩; (try first | exact ⟨rfl, _, World.drewN_drewN _ _ _⟩ | exact ⟨rfl, _, Eq.trans (World.drewN_drewN _ _ _) (congrArg (World.drewN _) (Nat.add_assoc _ _ _))⟩))))
    go_ret2
    exact ⟨_, by first | rfl | (simp [errW_none, errW_some] <;> rfl) | (simp [*, errW_none, errW_some] <;> rfl), by first | exact Kd.R_nil _ _ _ _ _ | exact Kd.N_nil _ _ _ _ _ | exact Kd.V_nil _ _ _ _ _ | exact Kd.Q_nil _ _ _ _ _ | exact Kd.S_nil _ _ _ _ _, by repeat (first | (with_reducible first | exact HB.out | apply below_alloc | apply pw_below_drewN | apply below_drew1) | exact HB.out)⟩

end Go.Proofs.YtkmhccllligcmaaDoor.CH

