/- Of the text CHx29, what the row of CountLives reaches. -/
import Derived.Test.YtkmhccllligcmaaDoorZCountLivesCHx0
import Derived.Test.YtkmhccllligcmaaDoorZCountLivesCHx16
import Derived.Test.YtkmhccllligcmaaDoorZCountLivesCHx20
import Derived.Test.YtkmhccllligcmaaDoorZCountLivesCHx24
import Derived.Test.YtkmhccllligcmaaDoorZCountLivesCHx25
import Derived.Test.YtkmhccllligcmaaDoorZCountLivesCHx28
namespace Go.Proofs.YtkmhccllligcmaaDoor.CH
open Go.RowKit Go.Proofs.YtkmhccllligcmaaDoorW.PrintWords Go.Proofs.YtkmhccllligcmaaDoorW.PrintLast Go.Proofs.YtkmhccllligcmaaDoorW.PrintMore
attribute [local go_sem] max2_int min2_int max_two min_two max_three min_three max_four min_four   -- for this text's walks alone
set_option linter.unusedVariables false
set_option linter.unusedSimpArgs false

mutual
def wigeonlaw06_CountLives.j0 : Nat → List Int → List Int → Bool → Option (Bool)
  | 0, _, _, _ => none
  | k + 1, x3, x7, x56 => if x56 = true then (some false) else (wigeonlaw06_CountLives.l0 k x3 x7 0 0)
def wigeonlaw06_CountLives.l0 : Nat → List Int → List Int → Int → Int → Option (Bool)
  | 0, _, _, _, _ => none
  | k + 1, x3, x7, x11, x12 => if x12 < (x3.length : Int) then (if 0 ≤ x12 then (wigeonlaw06_CountLives.l0 k x3 x7 (wrap64 (x11 + (rd x3 x12))) (wrap64 (x12 + 1))) else (none)) else (wigeonlaw06_CountLives.l1 k x7 x11 0)
def wigeonlaw06_CountLives.l1 : Nat → List Int → Int → Int → Option (Bool)
  | 0, _, _, _ => none
  | k + 1, x7, x11, x13 => if x13 < (x7.length : Int) then (if 0 ≤ x13 then (wigeonlaw06_CountLives.l1 k x7 (wrap64 (x11 - (rd x7 x13))) (wrap64 (x13 + 1))) else (none)) else (if x11 = 0 then ((wigeonlaw06_known.f k).bind fun t388 => (some t388)) else (some false))
end
def wigeonlaw06_CountLives.f (k : Nat) (l0 : List ByteArray) : Option (Bool) := (wigeonlaw06_Many.f k l0).bind fun t366 => (if t366 = true then ((wigeonlaw06_known.f k).bind fun t367 => (some t367)) else ((count_Alive.f k l0).bind fun bt368 => ((wigeonref06_Alive.f k l0).bind fun bt372 => ((count_Lives.f k l0).bind fun bt376 => ((wigeonref06_Lives.f k l0).bind fun bt380 => (if bt368.2 = bt372.2 then ((wigeonref06_SameInts.f k bt368.1 bt372.1).bind fun t384 => (if t384 = true then (if bt376.2 = bt380.2 then ((wigeonref06_SameInts.f k bt376.1 bt380.1).bind fun t385 => (wigeonlaw06_CountLives.j0 k bt368.1 bt376.1 (!t385))) else (wigeonlaw06_CountLives.j0 k bt368.1 bt376.1 true)) else (wigeonlaw06_CountLives.j0 k bt368.1 bt376.1 true))) else (wigeonlaw06_CountLives.j0 k bt368.1 bt376.1 true)))))))
set_option maxHeartbeats 8000000 in
set_option maxRecDepth 100000 in
theorem wigeonlaw06_CountLives.calls (k : Nat) (A0 : Option Addr) (c0 : Nat) (l0 : List ByteArray) (r : Bool) (w : World) (hr0 : Kd.C Kd.string w A0 l0.length l0) (hc0 : l0.length ≤ c0) (h : wigeonlaw06_CountLives.f k l0 = some r) :
    Calls Tryd.prog 6 #[.slice A0 l0.length c0] w fun e w' => e = .returned (.bool r) ∧ Below w.heap.size w w' := by
  have HR0 := Aside0.mk hr0
  have HC0 := Aside0.mk hc0
  clear hr0 hc0
  have HB := Aside0.mk (Below.refl w.heap.size w)
  have H : ((wigeonlaw06_Many.f k l0).bind fun t366 => (if t366 = true then ((wigeonlaw06_known.f k).bind fun t367 => (some t367)) else ((count_Alive.f k l0).bind fun bt368 => ((wigeonref06_Alive.f k l0).bind fun bt372 => ((count_Lives.f k l0).bind fun bt376 => ((wigeonref06_Lives.f k l0).bind fun bt380 => (if bt368.2 = bt372.2 then ((wigeonref06_SameInts.f k bt368.1 bt372.1).bind fun t384 => (if t384 = true then (if bt376.2 = bt380.2 then ((wigeonref06_SameInts.f k bt376.1 bt380.1).bind fun t385 => (wigeonlaw06_CountLives.j0 k bt368.1 bt376.1 (!t385))) else (wigeonlaw06_CountLives.j0 k bt368.1 bt376.1 true)) else (wigeonlaw06_CountLives.j0 k bt368.1 bt376.1 true))) else (wigeonlaw06_CountLives.j0 k bt368.1 bt376.1 true)))))))) = some r := h
  clear h
  replace H := Option.bind_eq_some_iff.mp H
  obtain ⟨t366, A20, H⟩ := H
  replace H : (if t366 = true then ((wigeonlaw06_known.f k).bind fun t367 => (some t367)) else ((count_Alive.f k l0).bind fun bt368 => ((wigeonref06_Alive.f k l0).bind fun bt372 => ((count_Lives.f k l0).bind fun bt376 => ((wigeonref06_Lives.f k l0).bind fun bt380 => (if bt368.2 = bt372.2 then ((wigeonref06_SameInts.f k bt368.1 bt372.1).bind fun t384 => (if t384 = true then (if bt376.2 = bt380.2 then ((wigeonref06_SameInts.f k bt376.1 bt380.1).bind fun t385 => (wigeonlaw06_CountLives.j0 k bt368.1 bt376.1 (!t385))) else (wigeonlaw06_CountLives.j0 k bt368.1 bt376.1 true)) else (wigeonlaw06_CountLives.j0 k bt368.1 bt376.1 true))) else (wigeonlaw06_CountLives.j0 k bt368.1 bt376.1 true))))))) = some r := H
  have A2 := Aside0.mk A20
  clear A20
  by_cases c3 : t366 = true
  · subst c3
    have H1 : ((wigeonlaw06_known.f k).bind fun t367 => (some t367)) = some r := by rw [if_pos rfl] at H; exact H
    clear H
    have H := H1
    clear H1
    replace H := Option.bind_eq_some_iff.mp H
    obtain ⟨t367, A40, H⟩ := H
    replace H : (some t367) = some r := H
    have A4 := Aside0.mk A40
    clear A40
    obtain rfl := Option.some.inj H
    go_enter Tryd.func6, Tryd.ntmps6
    go_wp2_with (first | ((with_reducible refine gate_callee (f := 15) rfl ?_); refine goesL_ (some 15) rfl rfl Tryd.func15 (by kernel_rfl) rfl #[.slice A0 l0.length c0] rfl (by (try simp only [List.map_toArray, List.map_cons, List.map_nil]); first | done | rfl | (simp only [List.length_drop, List.length_take]; rfl)) ?_; (with_reducible refine (wigeonlaw06_Many.calls k _ _ l0 true _ ?side1 ?side2 A2.out).mono ?_); (case side1 => repeat (first | exact HR0.out | (with_reducible refine Kd.C_alloc ?_ _) | (with_reducible refine Kd.C_drewN ?_ _) | (with_reducible refine Kd.C_drew ?_))); (case side2 => exact HC0.out); rintro e w' ⟨rfl, ⟨nd, rfl⟩⟩; refine ⟨_, rfl, ?_⟩) | ((with_reducible refine gate_callee (f := 16) rfl ?_); refine goesL_ (some 16) rfl rfl Tryd.func16 (by kernel_rfl) rfl #[] rfl (by (try simp only [List.map_toArray, List.map_cons, List.map_nil]); first | done | rfl | (simp only [List.length_drop, List.length_take]; rfl)) ?_; (with_reducible refine (wigeonlaw06_known.calls k  t367 _ A4.out).mono ?_); rintro e w5 ⟨rfl, hb⟩; refine ⟨_, rfl, ?_⟩; have n0_ := Aside0.mk (below_step (by repeat (first | (with_reducible first | exact HB.out | apply below_alloc | apply pw_below_drewN | apply below_drew1) | exact HB.out)) hb); clear HB; have HB := n0_; clear n0_; (try clear hb); (try clear hb2); (try clear hk); (try clear hi)))
    go_ret
    exact ⟨by first | rfl | (simp [errW_none, errW_some] <;> rfl) | (simp [*, errW_none, errW_some] <;> rfl), by repeat (first | (with_reducible first | exact HB.out | apply below_alloc | apply pw_below_drewN | apply below_drew1) | exact HB.out)⟩
  · replace c3 := Bool.eq_false_iff.mpr c3
    subst c3
    have H1 : ((count_Alive.f k l0).bind fun bt368 => ((wigeonref06_Alive.f k l0).bind fun bt372 => ((count_Lives.f k l0).bind fun bt376 => ((wigeonref06_Lives.f k l0).bind fun bt380 => (if bt368.2 = bt372.2 then ((wigeonref06_SameInts.f k bt368.1 bt372.1).bind fun t384 => (if t384 = true then (if bt376.2 = bt380.2 then ((wigeonref06_SameInts.f k bt376.1 bt380.1).bind fun t385 => (wigeonlaw06_CountLives.j0 k bt368.1 bt376.1 (!t385))) else (wigeonlaw06_CountLives.j0 k bt368.1 bt376.1 true)) else (wigeonlaw06_CountLives.j0 k bt368.1 bt376.1 true))) else (wigeonlaw06_CountLives.j0 k bt368.1 bt376.1 true)))))) = some r := by rw [if_neg (show ¬ (false = true) by decide)] at H; exact H
    clear H
    have H := H1
    clear H1
    replace H := Option.bind_eq_some_iff.mp H
    obtain ⟨⟨t368, t369⟩, A60, H⟩ := H
    replace H : ((wigeonref06_Alive.f k l0).bind fun bt372 => ((count_Lives.f k l0).bind fun bt376 => ((wigeonref06_Lives.f k l0).bind fun bt380 => (if t369 = bt372.2 then ((wigeonref06_SameInts.f k t368 bt372.1).bind fun t384 => (if t384 = true then (if bt376.2 = bt380.2 then ((wigeonref06_SameInts.f k bt376.1 bt380.1).bind fun t385 => (wigeonlaw06_CountLives.j0 k t368 bt376.1 (!t385))) else (wigeonlaw06_CountLives.j0 k t368 bt376.1 true)) else (wigeonlaw06_CountLives.j0 k t368 bt376.1 true))) else (wigeonlaw06_CountLives.j0 k t368 bt376.1 true))))) = some r := H
    have A6 := Aside0.mk A60
    clear A60
    replace H := Option.bind_eq_some_iff.mp H
    obtain ⟨⟨t372, t373⟩, A70, H⟩ := H
    replace H : ((count_Lives.f k l0).bind fun bt376 => ((wigeonref06_Lives.f k l0).bind fun bt380 => (if t369 = t373 then ((wigeonref06_SameInts.f k t368 t372).bind fun t384 => (if t384 = true then (if bt376.2 = bt380.2 then ((wigeonref06_SameInts.f k bt376.1 bt380.1).bind fun t385 => (wigeonlaw06_CountLives.j0 k t368 bt376.1 (!t385))) else (wigeonlaw06_CountLives.j0 k t368 bt376.1 true)) else (wigeonlaw06_CountLives.j0 k t368 bt376.1 true))) else (wigeonlaw06_CountLives.j0 k t368 bt376.1 true)))) = some r := H
    have A7 := Aside0.mk A70
    clear A70
    replace H := Option.bind_eq_some_iff.mp H
    obtain ⟨⟨t376, t377⟩, A80, H⟩ := H
    replace H : ((wigeonref06_Lives.f k l0).bind fun bt380 => (if t369 = t373 then ((wigeonref06_SameInts.f k t368 t372).bind fun t384 => (if t384 = true then (if t377 = bt380.2 then ((wigeonref06_SameInts.f k t376 bt380.1).bind fun t385 => (wigeonlaw06_CountLives.j0 k t368 t376 (!t385))) else (wigeonlaw06_CountLives.j0 k t368 t376 true)) else (wigeonlaw06_CountLives.j0 k t368 t376 true))) else (wigeonlaw06_CountLives.j0 k t368 t376 true))) = some r := H
    have A8 := Aside0.mk A80
    clear A80
    replace H := Option.bind_eq_some_iff.mp H
    obtain ⟨⟨t380, t381⟩, A90, H⟩ := H
    replace H : (if t369 = t373 then ((wigeonref06_SameInts.f k t368 t372).bind fun t384 => (if t384 = true then (if t377 = t381 then ((wigeonref06_SameInts.f k t376 t380).bind fun t385 => (wigeonlaw06_CountLives.j0 k t368 t376 (!t385))) else (wigeonlaw06_CountLives.j0 k t368 t376 true)) else (wigeonlaw06_CountLives.j0 k t368 t376 true))) else (wigeonlaw06_CountLives.j0 k t368 t376 true)) = some r := H
    have A9 := Aside0.mk A90
    clear A90
    have HC10 := Aside0.mk H
    clear H
    go_enter Tryd.func6, Tryd.ntmps6
    go_upto_region 7 with (first | ((with_reducible refine gate_callee (f := 15) rfl ?_); refine goesL_ (some 15) rfl rfl Tryd.func15 (by kernel_rfl) rfl #[.slice A0 l0.length c0] rfl (by (try simp only [List.map_toArray, List.map_cons, List.map_nil]); first | done | rfl | (simp only [List.length_drop, List.length_take]; rfl)) ?_; (with_reducible refine (wigeonlaw06_Many.calls k _ _ l0 false _ ?side1 ?side2 A2.out).mono ?_); (case side1 => repeat (first | exact HR0.out | (with_reducible refine Kd.C_alloc ?_ _) | (with_reducible refine Kd.C_drewN ?_ _) | (with_reducible refine Kd.C_drew ?_))); (case side2 => exact HC0.out); rintro e w' ⟨rfl, ⟨nd, rfl⟩⟩; refine ⟨_, rfl, ?_⟩) | ((with_reducible refine gate_callee (f := 12) rfl ?_); refine goesL_ (some 19) rfl rfl Tryd.func12 (by kernel_rfl) rfl #[.slice A0 l0.length c0] rfl (by (try simp only [List.map_toArray, List.map_cons, List.map_nil]); first | done | rfl | (simp only [List.length_drop, List.length_take]; rfl)) ?_; (with_reducible refine (count_Alive.calls k _ _ l0 t368 t369 _ ?side1 ?side2 A6.out).mono ?_); (case side1 => repeat (first | exact HR0.out | (with_reducible refine Kd.C_alloc ?_ _) | (with_reducible refine Kd.C_drewN ?_ _) | (with_reducible refine Kd.C_drew ?_))); (case side2 => exact HC0.out); rintro e w11 ⟨v370, rfl, ho0, hb⟩; refine ⟨_, rfl, ?_⟩; have n0_ := Aside0.mk (Kd.R_lower ho0 (below_size (by repeat (first | (with_reducible first | exact HB.out | apply below_alloc | apply pw_below_drewN | apply below_drew1) | exact HB.out)))); have n1_ := Aside0.mk (below_step (by repeat (first | (with_reducible first | exact HB.out | apply below_alloc | apply pw_below_drewN | apply below_drew1) | exact HB.out)) hb); clear HB; have HO371 := n0_; have HB := n1_; clear n0_ n1_; (try clear hb); (try clear hb2); (try clear hk); (try clear hi); (try clear ho0)) | ((with_reducible refine gate_callee (f := 24) rfl ?_); refine goesL_ (some 24) rfl rfl Tryd.func24 (by kernel_rfl) rfl #[.slice A0 l0.length c0] rfl (by (try simp only [List.map_toArray, List.map_cons, List.map_nil]); first | done | rfl | (simp only [List.length_drop, List.length_take]; rfl)) ?_; (with_reducible refine (wigeonref06_Alive.calls k _ _ l0 t372 t373 _ ?side1 ?side2 A7.out).mono ?_); (case side1 => repeat (first | exact (Kd.C_below HR0.out HB.out) | (with_reducible refine Kd.C_alloc ?_ _) | (with_reducible refine Kd.C_drewN ?_ _) | (with_reducible refine Kd.C_drew ?_))); (case side2 => exact HC0.out); rintro e w12 ⟨v374, rfl, ho0, hb⟩; refine ⟨_, rfl, ?_⟩; have n0_ := Aside0.mk (Kd.R_elder' (by (with_reducible repeat (first | apply Kd.R_alloc | apply Kd.R_drewN | apply Kd.R_drew)); exact HO371.out) (Kd.R_base ho0) hb); have n1_ := Aside0.mk (Kd.R_lower (Kd.R_new' ho0 (Kd.R_lt (by (with_reducible repeat (first | apply Kd.R_alloc | apply Kd.R_drewN | apply Kd.R_drew)); exact HO371.out))) (below_size (by repeat (first | (with_reducible first | exact HB.out | apply below_alloc | apply pw_below_drewN | apply below_drew1) | exact HB.out)))); have n2_ := Aside0.mk (below_step (by repeat (first | (with_reducible first | exact HB.out | apply below_alloc | apply pw_below_drewN | apply below_drew1) | exact HB.out)) hb); clear HO371; clear HB; have HO371 := n0_; have HO375 := n1_; have HB := n2_; clear n0_ n1_ n2_; (try clear hb); (try clear hb2); (try clear hk); (try clear hi); (try clear ho0)) | ((with_reducible refine gate_callee (f := 25) rfl ?_); refine goesL_ (some 29) rfl rfl Tryd.func25 (by kernel_rfl) rfl #[.slice A0 l0.length c0] rfl (by (try simp only [List.map_toArray, List.map_cons, List.map_nil]); first | done | rfl | (simp only [List.length_drop, List.length_take]; rfl)) ?_; (with_reducible refine (count_Lives.calls k _ _ l0 t376 t377 _ ?side1 ?side2 A8.out).mono ?_); (case side1 => repeat (first | exact (Kd.C_below HR0.out HB.out) | (with_reducible refine Kd.C_alloc ?_ _) | (with_reducible refine Kd.C_drewN ?_ _) | (with_reducible refine Kd.C_drew ?_))); (case side2 => exact HC0.out); rintro e w13 ⟨v378, rfl, ho0, hb⟩; refine ⟨_, rfl, ?_⟩; have n0_ := Aside0.mk (Kd.R_elder' (by (with_reducible repeat (first | apply Kd.R_alloc | apply Kd.R_drewN | apply Kd.R_drew)); exact HO371.out) (Kd.R_base ho0) hb); have n1_ := Aside0.mk (Kd.R_elder' (by (with_reducible repeat (first | apply Kd.R_alloc | apply Kd.R_drewN | apply Kd.R_drew)); exact HO375.out) (Kd.R_base ho0) hb); have n2_ := Aside0.mk (Kd.R_lower (Kd.R_new' (Kd.R_new' ho0 (Kd.R_lt (by (with_reducible repeat (first | apply Kd.R_alloc | apply Kd.R_drewN | apply Kd.R_drew)); exact HO371.out))) (Kd.R_lt (by (with_reducible repeat (first | apply Kd.R_alloc | apply Kd.R_drewN | apply Kd.R_drew)); exact HO375.out))) (below_size (by repeat (first | (with_reducible first | exact HB.out | apply below_alloc | apply pw_below_drewN | apply below_drew1) | exact HB.out)))); have n3_ := Aside0.mk (below_step (by repeat (first | (with_reducible first | exact HB.out | apply below_alloc | apply pw_below_drewN | apply below_drew1) | exact HB.out)) hb); clear HO371; clear HO375; clear HB; have HO371 := n0_; have HO375 := n1_; have HO379 := n2_; have HB := n3_; clear n0_ n1_ n2_ n3_; (try clear hb); (try clear hb2); (try clear hk); (try clear hi); (try clear ho0)) | ((with_reducible refine gate_callee (f := 26) rfl ?_); refine goesL_ (some 34) rfl rfl Tryd.func26 (by kernel_rfl) rfl #[.slice A0 l0.length c0] rfl (by (try simp only [List.map_toArray, List.map_cons, List.map_nil]); first | done | rfl | (simp only [List.length_drop, List.length_take]; rfl)) ?_; (with_reducible refine (wigeonref06_Lives.calls k _ _ l0 t380 t381 _ ?side1 ?side2 A9.out).mono ?_); (case side1 => repeat (first | exact (Kd.C_below HR0.out HB.out) | (with_reducible refine Kd.C_alloc ?_ _) | (with_reducible refine Kd.C_drewN ?_ _) | (with_reducible refine Kd.C_drew ?_))); (case side2 => exact HC0.out); rintro e w14 ⟨v382, rfl, ho0, hb⟩; refine ⟨_, rfl, ?_⟩; have n0_ := Aside0.mk (Kd.R_elder' (by (with_reducible repeat (first | apply Kd.R_alloc | apply Kd.R_drewN | apply Kd.R_drew)); exact HO371.out) (Kd.R_base ho0) hb); have n1_ := Aside0.mk (Kd.R_elder' (by (with_reducible repeat (first | apply Kd.R_alloc | apply Kd.R_drewN | apply Kd.R_drew)); exact HO375.out) (Kd.R_base ho0) hb); have n2_ := Aside0.mk (Kd.R_elder' (by (with_reducible repeat (first | apply Kd.R_alloc | apply Kd.R_drewN | apply Kd.R_drew)); exact HO379.out) (Kd.R_base ho0) hb); have n3_ := Aside0.mk (Kd.R_lower (Kd.R_new' (Kd.R_new' (Kd.R_new' ho0 (Kd.R_lt (by (with_reducible repeat (first | apply Kd.R_alloc | apply Kd.R_drewN | apply Kd.R_drew)); exact HO371.out))) (Kd.R_lt (by (with_reducible repeat (first | apply Kd.R_alloc | apply Kd.R_drewN | apply Kd.R_drew)); exact HO375.out))) (Kd.R_lt (by (with_reducible repeat (first | apply Kd.R_alloc | apply Kd.R_drewN | apply Kd.R_drew)); exact HO379.out))) (below_size (by repeat (first | (with_reducible first | exact HB.out | apply below_alloc | apply pw_below_drewN | apply below_drew1) | exact HB.out)))); have n4_ := Aside0.mk (below_step (by repeat (first | (with_reducible first | exact HB.out | apply below_alloc | apply pw_below_drewN | apply below_drew1) | exact HB.out)) hb); clear HO371; clear HO375; clear HO379; clear HB; have HO371 := n0_; have HO375 := n1_; have HO379 := n2_; have HO383 := n3_; have HB := n4_; clear n0_ n1_ n2_ n3_ n4_; (try clear hb); (try clear hb2); (try clear hk); (try clear hi); (try clear ho0)))
    (try simp only [Act.put, List.setIfInBounds_toArray, List.set_cons_zero, List.set_cons_succ])
    go_cut [56] (fun v56 wc => ∃ (kq : Nat) (x56_9 : Bool), v56 = .bool x56_9 ∧ Aside0 (wigeonlaw06_CountLives.j0 kq t368 t376 x56_9 = some r) ∧ Aside0 (kq ≤ k) ∧ Aside0 (Kd.R (Kd.int .i64) 3 wc w.heap.size (fun k_ => some k_ ≠ (v378 : Value).ownBlock) v370 t368) ∧ Aside0 (Kd.R (Kd.int .i64) 3 wc w.heap.size (fun k_ => some k_ ≠ (v370 : Value).ownBlock) v378 t376) ∧ Aside0 (Below w.heap.size w wc))
    case first =>
      have H := HC10.out
      clear HC10
      by_cases c15 : t369 = t373
      · rw [if_pos c15] at H
        have c15b0 : (t369 == t373) = true := beq_iff_eq.mpr c15
        have c15b1 : (t369 != t373) = false := bne_eq_false_iff_eq.mpr c15
        clear c15
        (first | rw [c15b0] | (simp only [i64_w, i32_w]; rw [c15b0]) | skip)
        replace H := Option.bind_eq_some_iff.mp H
        obtain ⟨t384, A160, H⟩ := H
        replace H : (if t384 = true then (if t377 = t381 then ((wigeonref06_SameInts.f k t376 t380).bind fun t385 => (wigeonlaw06_CountLives.j0 k t368 t376 (!t385))) else (wigeonlaw06_CountLives.j0 k t368 t376 true)) else (wigeonlaw06_CountLives.j0 k t368 t376 true)) = some r := H
        have A16 := Aside0.mk A160
        clear A160
        by_cases c17 : t384 = true
        · subst c17
          have H1 : (if t377 = t381 then ((wigeonref06_SameInts.f k t376 t380).bind fun t385 => (wigeonlaw06_CountLives.j0 k t368 t376 (!t385))) else (wigeonlaw06_CountLives.j0 k t368 t376 true)) = some r := by rw [if_pos rfl] at H; exact H
          clear H
          have H := H1
          clear H1
          by_cases c18 : t377 = t381
          · rw [if_pos c18] at H
            have c18b0 : (t377 == t381) = true := beq_iff_eq.mpr c18
            have c18b1 : (t377 != t381) = false := bne_eq_false_iff_eq.mpr c18
            clear c18
            replace H := Option.bind_eq_some_iff.mp H
            obtain ⟨t385, A190, H⟩ := H
            replace H : (wigeonlaw06_CountLives.j0 k t368 t376 (!t385)) = some r := H
            have A19 := Aside0.mk A190
            clear A190
            have H' := Aside0.mk H
            clear H
            obtain ⟨Ao20, co20, eo20⟩ := Kd.R_slice HO371.out
            subst eo20
            obtain ⟨Ao21, co21, eo21⟩ := Kd.R_slice HO375.out
            subst eo21
            go_wp2_with (first | (go_at_call 23; (with_reducible refine (wigeonref06_SameInts.calls k _ _ t368 _ _ t372 true _ ?side1 ?side2 ?side3 ?side4 A16.out).mono ?_); (case side1 => repeat (first | exact (Kd.R_reads' HO371.out).2.2 | (with_reducible refine Kd.C_alloc ?_ _) | (with_reducible refine Kd.C_drewN ?_ _) | (with_reducible refine Kd.C_drew ?_))); (case side2 => exact (Kd.R_reads' HO371.out).2.1); (case side3 => repeat (first | exact (Kd.R_reads' HO375.out).2.2 | (with_reducible refine Kd.C_alloc ?_ _) | (with_reducible refine Kd.C_drewN ?_ _) | (with_reducible refine Kd.C_drew ?_))); (case side4 => exact (Kd.R_reads' HO375.out).2.1); rintro e w' ⟨rfl, ⟨nd, rfl⟩⟩; obtain ⟨Ao22, co22, eo22⟩ := Kd.R_slice HO379.out; subst eo22; obtain ⟨Ao23, co23, eo23⟩ := Kd.R_slice HO383.out; subst eo23) | (go_at_call 23; (with_reducible refine (wigeonref06_SameInts.calls k _ _ t376 _ _ t380 t385 _ ?side1 ?side2 ?side3 ?side4 A19.out).mono ?_); (case side1 => repeat (first | exact (Kd.R_reads' HO379.out).2.2 | (with_reducible refine Kd.C_alloc ?_ _) | (with_reducible refine Kd.C_drewN ?_ _) | (with_reducible refine Kd.C_drew ?_))); (case side2 => exact (Kd.R_reads' HO379.out).2.1); (case side3 => repeat (first | exact (Kd.R_reads' HO383.out).2.2 | (with_reducible refine Kd.C_alloc ?_ _) | (with_reducible refine Kd.C_drewN ?_ _) | (with_reducible refine Kd.C_drew ?_))); (case side4 => exact (Kd.R_reads' HO383.out).2.1); rintro e w' ⟨rfl, ⟨nd, rfl⟩⟩))
            go_meet
            case rel => exact ⟨_, (!t385), (by first | rfl | (simp; done) | (simp [*]; done)), H', ⟨by first | omega | exact Nat.le_refl _⟩, ⟨by (with_reducible repeat (first | apply Kd.R_alloc | apply Kd.R_drewN | apply Kd.R_drew)); exact Kd.R_mono HO371.out (fun _ hk => hk.1.2)⟩, ⟨by (with_reducible repeat (first | apply Kd.R_alloc | apply Kd.R_drewN | apply Kd.R_drew)); exact Kd.R_mono HO379.out (fun _ hk => hk.1.1.2)⟩, ⟨by repeat (first | (with_reducible first | exact HB.out | apply below_alloc | apply pw_below_drewN | apply below_drew1) | exact HB.out)⟩⟩
          · rw [if_neg c18] at H
            have c18b0 : (t377 == t381) = false := beq_eq_false_iff_ne.mpr c18
            have c18b1 : (t377 != t381) = true := bne_iff_ne.mpr c18
            have H' := Aside0.mk H
            clear H
            obtain ⟨Ao24, co24, eo24⟩ := Kd.R_slice HO371.out
            subst eo24
            obtain ⟨Ao25, co25, eo25⟩ := Kd.R_slice HO375.out
            subst eo25
            go_wp2_with (first | (go_at_call 23; (with_reducible refine (wigeonref06_SameInts.calls k _ _ t368 _ _ t372 true _ ?side1 ?side2 ?side3 ?side4 A16.out).mono ?_); (case side1 => repeat (first | exact (Kd.R_reads' HO371.out).2.2 | (with_reducible refine Kd.C_alloc ?_ _) | (with_reducible refine Kd.C_drewN ?_ _) | (with_reducible refine Kd.C_drew ?_))); (case side2 => exact (Kd.R_reads' HO371.out).2.1); (case side3 => repeat (first | exact (Kd.R_reads' HO375.out).2.2 | (with_reducible refine Kd.C_alloc ?_ _) | (with_reducible refine Kd.C_drewN ?_ _) | (with_reducible refine Kd.C_drew ?_))); (case side4 => exact (Kd.R_reads' HO375.out).2.1); rintro e w' ⟨rfl, ⟨nd, rfl⟩⟩))
            go_meet
            case rel => exact ⟨_, (true), (by first | rfl | (simp; done) | (simp [*]; done)), H', ⟨by first | omega | exact Nat.le_refl _⟩, ⟨by (with_reducible repeat (first | apply Kd.R_alloc | apply Kd.R_drewN | apply Kd.R_drew)); exact Kd.R_mono HO371.out (fun _ hk => hk.1.2)⟩, ⟨by (with_reducible repeat (first | apply Kd.R_alloc | apply Kd.R_drewN | apply Kd.R_drew)); exact Kd.R_mono HO379.out (fun _ hk => hk.1.1.2)⟩, ⟨by repeat (first | (with_reducible first | exact HB.out | apply below_alloc | apply pw_below_drewN | apply below_drew1) | exact HB.out)⟩⟩
        · replace c17 := Bool.eq_false_iff.mpr c17
          subst c17
          have H1 : (wigeonlaw06_CountLives.j0 k t368 t376 true) = some r := by rw [if_neg (show ¬ (false = true) by decide)] at H; exact H
          clear H
          have H := H1
          clear H1
          have H' := Aside0.mk H
          clear H
          obtain ⟨Ao26, co26, eo26⟩ := Kd.R_slice HO371.out
          subst eo26
          obtain ⟨Ao27, co27, eo27⟩ := Kd.R_slice HO375.out
          subst eo27
          go_wp2_with (first | (go_at_call 23; (with_reducible refine (wigeonref06_SameInts.calls k _ _ t368 _ _ t372 false _ ?side1 ?side2 ?side3 ?side4 A16.out).mono ?_); (case side1 => repeat (first | exact (Kd.R_reads' HO371.out).2.2 | (with_reducible refine Kd.C_alloc ?_ _) | (with_reducible refine Kd.C_drewN ?_ _) | (with_reducible refine Kd.C_drew ?_))); (case side2 => exact (Kd.R_reads' HO371.out).2.1); (case side3 => repeat (first | exact (Kd.R_reads' HO375.out).2.2 | (with_reducible refine Kd.C_alloc ?_ _) | (with_reducible refine Kd.C_drewN ?_ _) | (with_reducible refine Kd.C_drew ?_))); (case side4 => exact (Kd.R_reads' HO375.out).2.1); rintro e w' ⟨rfl, ⟨nd, rfl⟩⟩))
          go_meet
          case rel => exact ⟨_, (true), (by first | rfl | (simp; done) | (simp [*]; done)), H', ⟨by first | omega | exact Nat.le_refl _⟩, ⟨by (with_reducible repeat (first | apply Kd.R_alloc | apply Kd.R_drewN | apply Kd.R_drew)); exact Kd.R_mono HO371.out (fun _ hk => hk.1.2)⟩, ⟨by (with_reducible repeat (first | apply Kd.R_alloc | apply Kd.R_drewN | apply Kd.R_drew)); exact Kd.R_mono HO379.out (fun _ hk => hk.1.1.2)⟩, ⟨by repeat (first | (with_reducible first | exact HB.out | apply below_alloc | apply pw_below_drewN | apply below_drew1) | exact HB.out)⟩⟩
      · rw [if_neg c15] at H
        have c15b0 : (t369 == t373) = false := beq_eq_false_iff_ne.mpr c15
        have c15b1 : (t369 != t373) = true := bne_iff_ne.mpr c15
        (first | rw [c15b0] | (simp only [i64_w, i32_w]; rw [c15b0]) | skip)
        have H' := Aside0.mk H
        clear H
        go_wp2
        go_meet
        case rel => exact ⟨_, (true), (by first | rfl | (simp; done) | (simp [*]; done)), H', ⟨by first | omega | exact Nat.le_refl _⟩, ⟨by (with_reducible repeat (first | apply Kd.R_alloc | apply Kd.R_drewN | apply Kd.R_drew)); exact Kd.R_mono HO371.out (fun _ hk => hk.1.2)⟩, ⟨by (with_reducible repeat (first | apply Kd.R_alloc | apply Kd.R_drewN | apply Kd.R_drew)); exact Kd.R_mono HO379.out (fun _ hk => hk.1.1.2)⟩, ⟨by repeat (first | (with_reducible first | exact HB.out | apply below_alloc | apply pw_below_drewN | apply below_drew1) | exact HB.out)⟩⟩
    case rest =>
      clear HC10
      try clear c1
      try clear c2
      try clear p2
      try clear c3
      try clear c6
      try clear c12
      try clear c15
      try clear c15b0
      try clear c15b1
      try clear c16
      try clear c17
      try clear c18
      try clear c18b0
      try clear c18b1
      try clear c24
      try clear c25
      try clear c26
      obtain ⟨kq, x56_9, rfl, HA, HJ9, HO_3, HO_7, HB⟩ := hcut
      cases kq with
      | zero => exact absurd HA.out (by simp [wigeonlaw06_CountLives.j0])
      | succ kj9 =>
        have H := HA.out
        clear HA
        simp only [wigeonlaw06_CountLives.j0] at H
        by_cases c28 : x56_9 = true
        · subst c28
          have H1 : (some false) = some r := by rw [if_pos rfl] at H; exact H
          clear H
          have H := H1
          clear H1
          obtain rfl := Option.some.inj H
          go_wp2
          go_ret
          exact ⟨by first | rfl | (simp [errW_none, errW_some] <;> rfl) | (simp [*, errW_none, errW_some] <;> rfl), by repeat (first | (with_reducible first | exact HB.out | apply below_alloc | apply pw_below_drewN | apply below_drew1) | exact HB.out)⟩
        · replace c28 := Bool.eq_false_iff.mpr c28
          subst c28
          have H1 : (wigeonlaw06_CountLives.l0 kj9 t368 t376 0 0) = some r := by rw [if_neg (show ¬ (false = true) by decide)] at H; exact H
          clear H
          have H := H1
          clear H1
          have H' := Aside0.mk H
          clear H
          go_wp2
          go_loopg [11, 12] kj9 (fun kq v11 v12 w' => ∃ (x11_2 : Int) (x12_2 : Int), v11 = .int .i64 x11_2 ∧ v12 = .int .i64 x12_2 ∧ Aside0 (wigeonlaw06_CountLives.l0 kq t368 t376 x11_2 x12_2 = some r) ∧ Aside0 (kq ≤ kj9) ∧ Aside0 (Kd.R (Kd.int .i64) 3 w' w.heap.size (fun k_ => some k_ ≠ (v378 : Value).ownBlock) v370 t368) ∧ Aside0 (Kd.R (Kd.int .i64) 3 w' w.heap.size (fun k_ => some k_ ≠ (v370 : Value).ownBlock) v378 t376) ∧ Aside0 (Below w.heap.size w w'))
          case atStart => exact ⟨(0), (0), (by first | rfl | (simp; done) | (simp [*]; done)), (by first | rfl | (simp; done) | (simp [*]; done)), H', ⟨Nat.le_refl _⟩, ⟨by (with_reducible repeat (first | apply Kd.R_alloc | apply Kd.R_drewN | apply Kd.R_drew)); exact HO_3.out⟩, ⟨by (with_reducible repeat (first | apply Kd.R_alloc | apply Kd.R_drewN | apply Kd.R_drew)); exact HO_7.out⟩, ⟨by repeat (first | (with_reducible first | exact HB.out | apply below_alloc | apply pw_below_drewN | apply below_drew1) | exact HB.out)⟩⟩
          case round =>
            clear H'
            try clear c1
            try clear c2
            try clear p2
            try clear c3
            try clear c6
            try clear c12
            try clear c15
            try clear c15b0
            try clear c15b1
            try clear c16
            try clear c17
            try clear c18
            try clear c18b0
            try clear c18b1
            try clear c24
            try clear c25
            try clear c26
            try clear c28
            try clear p2
            obtain ⟨x11_2, x12_2, rfl, rfl, HA, HK2, HO_3, HO_7, HB⟩ := hrel
            cases gk with
            | zero => exact absurd HA.out (by simp [wigeonlaw06_CountLives.l0])
            | succ k2 =>
              have H := HA.out
              clear HA
              simp only [wigeonlaw06_CountLives.l0] at H
              by_cases c29 : x12_2 < (t368.length : Int)
              · rw [if_pos c29] at H
                have c29b0 : decide (x12_2 < (t368.length : Int)) = true := decide_eq_true c29
                clear c29
                by_cases c30 : 0 ≤ x12_2
                · rw [if_pos c30] at H
                  have c30b0 : decide (0 ≤ x12_2) = true := decide_eq_true c30
                  clear c30
                  have H' := Aside0.mk H
                  clear H
                  obtain ⟨Ao31, co31, eo31⟩ := Kd.R_slice HO_3.out
                  subst eo31
                  have p386 : 0 ≤ (x12_2 : Int) := of_decide_eq_true (by first | (with_reducible assumption) | assumption)
                  have q386 : x12_2 < (t368.length : Int) := of_decide_eq_true (by first | (with_reducible assumption) | assumption)
                  obtain ⟨ad386, e386, hx386_0⟩ := Kd.at_int (Kd.R_reads' HO_3.out).2.2 x12_2 p386 q386
                  cases e386
                  replace p386 := eq_true p386
                  replace q386 := eq_true q386
                  go_wp2
                  go_roundg k2
                  case measure => have := HJ9.out; have := HK2.out; omega
                  case rel => exact ⟨(wrap64 (x11_2 + (rd t368 x12_2))), (wrap64 (x12_2 + 1)), (by first | rfl | (simp; done) | (simp [*]; done)), (by first | rfl | (simp; done) | (simp [*]; done)), H', ⟨by have := HJ9.out; have := HK2.out; omega⟩, ⟨by (with_reducible repeat (first | apply Kd.R_alloc | apply Kd.R_drewN | apply Kd.R_drew)); exact HO_3.out⟩, ⟨by (with_reducible repeat (first | apply Kd.R_alloc | apply Kd.R_drewN | apply Kd.R_drew)); exact HO_7.out⟩, ⟨by repeat (first | (with_reducible first | exact HB.out | apply below_alloc | apply pw_below_drewN | apply below_drew1) | exact HB.out)⟩⟩
                · rw [if_neg c30] at H
                  exact absurd H (by simp)
              · rw [if_neg c29] at H
                have c29b0 : decide (x12_2 < (t368.length : Int)) = false := decide_eq_false c29
                clear c29
                have H' := Aside0.mk H
                clear H
                obtain ⟨Ao32, co32, eo32⟩ := Kd.R_slice HO_3.out
                subst eo32
                go_wp2
                go_loopg [11, 13] k2 (fun kq v11 v13 w' => ∃ (x11_3 : Int) (x13_3 : Int), v11 = .int .i64 x11_3 ∧ v13 = .int .i64 x13_3 ∧ Aside0 (wigeonlaw06_CountLives.l1 kq t376 x11_3 x13_3 = some r) ∧ Aside0 (kq ≤ k2) ∧ Aside0 (Kd.R (Kd.int .i64) 3 w' w.heap.size (fun _ => True) v378 t376) ∧ Aside0 (Below w.heap.size w w'))
                case atStart => exact ⟨(x11_2), (0), (by first | rfl | (simp; done) | (simp [*]; done)), (by first | rfl | (simp; done) | (simp [*]; done)), H', ⟨Nat.le_refl _⟩, ⟨by (with_reducible repeat (first | apply Kd.R_alloc | apply Kd.R_drewN | apply Kd.R_drew)); exact Kd.R_mono HO_7.out (fun _ hk => trivial)⟩, ⟨by repeat (first | (with_reducible first | exact HB.out | apply below_alloc | apply pw_below_drewN | apply below_drew1) | exact HB.out)⟩⟩
                case round =>
                  clear H'
                  try clear c1
                  try clear c2
                  try clear p2
                  try clear c3
                  try clear p3
                  try clear q3
                  try clear hx3
                  try clear c6
                  try clear p6
                  try clear c12
                  try clear c15
                  try clear c15b0
                  try clear c15b1
                  try clear c16
                  try clear c17
                  try clear c18
                  try clear c18b0
                  try clear c18b1
                  try clear c24
                  try clear c25
                  try clear c26
                  try clear c28
                  try clear c29
                  try clear c29b0
                  try clear c30
                  try clear c30b0
                  try clear hx386_0
                  try clear p2
                  try clear p386
                  try clear q386
                  obtain ⟨x11_3, x13_3, rfl, rfl, HA, HK3, HO_7, HB⟩ := hrel
                  cases gk with
                  | zero => exact absurd HA.out (by simp [wigeonlaw06_CountLives.l1])
                  | succ k3 =>
                    have H := HA.out
                    clear HA
                    simp only [wigeonlaw06_CountLives.l1] at H
                    by_cases c33 : x13_3 < (t376.length : Int)
                    · rw [if_pos c33] at H
                      have c33b0 : decide (x13_3 < (t376.length : Int)) = true := decide_eq_true c33
                      clear c33
                      by_cases c34 : 0 ≤ x13_3
                      · rw [if_pos c34] at H
                        have c34b0 : decide (0 ≤ x13_3) = true := decide_eq_true c34
                        clear c34
                        have H' := Aside0.mk H
                        clear H
                        obtain ⟨Ao35, co35, eo35⟩ := Kd.R_slice HO_7.out
                        subst eo35
                        have p387 : 0 ≤ (x13_3 : Int) := of_decide_eq_true (by first | (with_reducible assumption) | assumption)
                        have q387 : x13_3 < (t376.length : Int) := of_decide_eq_true (by first | (with_reducible assumption) | assumption)
                        obtain ⟨ad387, e387, hx387_0⟩ := Kd.at_int (Kd.R_reads' HO_7.out).2.2 x13_3 p387 q387
                        cases e387
                        replace p387 := eq_true p387
                        replace q387 := eq_true q387
                        go_wp2
                        go_roundg k3
                        case measure => have := HJ9.out; have := HK2.out; have := HK3.out; omega
                        case rel => exact ⟨(wrap64 (x11_3 - (rd t376 x13_3))), (wrap64 (x13_3 + 1)), (by first | rfl | (simp; done) | (simp [*]; done)), (by first | rfl | (simp; done) | (simp [*]; done)), H', ⟨by have := HJ9.out; have := HK2.out; have := HK3.out; omega⟩, ⟨by (with_reducible repeat (first | apply Kd.R_alloc | apply Kd.R_drewN | apply Kd.R_drew)); exact HO_7.out⟩, ⟨by repeat (first | (with_reducible first | exact HB.out | apply below_alloc | apply pw_below_drewN | apply below_drew1) | exact HB.out)⟩⟩
                      · rw [if_neg c34] at H
                        exact absurd H (by simp)
                    · rw [if_neg c33] at H
                      have c33b0 : decide (x13_3 < (t376.length : Int)) = false := decide_eq_false c33
                      clear c33
                      by_cases c36 : x11_3 = 0
                      · rw [if_pos c36] at H
                        have c36b0 : (x11_3 == 0) = true := beq_iff_eq.mpr c36
                        have c36b1 : (x11_3 != 0) = false := bne_eq_false_iff_eq.mpr c36
                        clear c36
                        replace H := Option.bind_eq_some_iff.mp H
                        obtain ⟨t388, A370, H⟩ := H
                        replace H : (some t388) = some r := H
                        have A37 := Aside0.mk A370
                        clear A370
                        obtain rfl := Option.some.inj H
                        obtain ⟨Ao38, co38, eo38⟩ := Kd.R_slice HO_7.out
                        subst eo38
                        go_wp2_with (first | (go_at_call 16; (with_reducible refine (wigeonlaw06_known.calls k3  t388 _ A37.out).mono ?_); rintro e w39 ⟨rfl, hb⟩; have n0_ := Aside0.mk (Kd.R_below (by (with_reducible repeat (first | apply Kd.R_alloc | apply Kd.R_drewN | apply Kd.R_drew)); exact HO_7.out) hb); have n1_ := Aside0.mk (below_step (by repeat (first | (with_reducible first | exact HB.out | apply below_alloc | apply pw_below_drewN | apply below_drew1) | exact HB.out)) hb); clear HO_7; clear HB; have HO_7 := n0_; have HB := n1_; clear n0_ n1_; (try clear hb); (try clear hb2); (try clear hk); (try clear hi)))
                        go_ret
                        exact ⟨by first | rfl | (simp [errW_none, errW_some] <;> rfl) | (simp [*, errW_none, errW_some] <;> rfl), by repeat (first | (with_reducible first | exact HB.out | apply below_alloc | apply pw_below_drewN | apply below_drew1) | exact HB.out)⟩
                      · rw [if_neg c36] at H
                        have c36b0 : (x11_3 == 0) = false := beq_eq_false_iff_ne.mpr c36
                        have c36b1 : (x11_3 != 0) = true := bne_iff_ne.mpr c36
                        obtain rfl := Option.some.inj H
                        obtain ⟨Ao40, co40, eo40⟩ := Kd.R_slice HO_7.out
                        subst eo40
                        go_wp2
                        go_ret
                        exact ⟨by first | rfl | (simp [errW_none, errW_some] <;> rfl) | (simp [*, errW_none, errW_some] <;> rfl), by repeat (first | (with_reducible first | exact HB.out | apply below_alloc | apply pw_below_drewN | apply below_drew1) | exact HB.out)⟩

end Go.Proofs.YtkmhccllligcmaaDoor.CH

