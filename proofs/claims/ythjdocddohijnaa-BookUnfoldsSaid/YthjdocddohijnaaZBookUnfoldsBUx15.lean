/- Of the text BUx15, what the row of BookUnfolds reaches. -/
import Derived.Test.YthjdocddohijnaaZBookUnfoldsBUx0
import Derived.Test.YthjdocddohijnaaZBookUnfoldsBUx14
namespace Go.Proofs.Ythjdocddohijnaa.BU
open Go.RowKit Go.Proofs.YthjdocddohijnaaW.PrintWords Go.Proofs.YthjdocddohijnaaW.PrintLast Go.Proofs.YthjdocddohijnaaW.PrintMore
attribute [local go_sem] max2_int min2_int max_two min_two max_three min_three max_four min_four   -- for this text's walks alone
set_option linter.unusedVariables false
set_option linter.unusedSimpArgs false

def wigeonref09_CheckGrowth.f (k : Nat) (a0 : Int) (a1 : Int) (a2 : Int) (a3 : Int) (l4 : List Int) : Option (Int) := (wigeonref09_Unfold.f k a2 a3 a0 l4).bind fun bt171 => (if bt171.2.2 = 0 then ((wigeonref09_isSum.f a1).bind fun t174 => (if t174 = true then (if bt171.1 = a0 then (if bt171.2.1 = a1 then (some 0) else (some 7)) else (some 7)) else (some 1))) else (some bt171.2.2))
set_option maxHeartbeats 8000000 in
set_option maxRecDepth 100000 in
theorem wigeonref09_CheckGrowth.calls (k : Nat) (a0 : Int) (a1 : Int) (a2 : Int) (a3 : Int) (A4 : Option Addr) (c4 : Nat) (l4 : List Int) (r : Int) (w : World) (hr4 : Kd.C (Kd.int .i64) w A4 l4.length l4) (hc4 : l4.length ≤ c4) (h : wigeonref09_CheckGrowth.f k a0 a1 a2 a3 l4 = some r) :
    Calls Try.prog 34 #[.int .i64 a0, .int .i64 a1, .int .i64 a2, .int .i64 a3, .slice A4 l4.length c4] w fun e w' => e = .returned (.int .i64 r) ∧ Drawn0 w w' := by
  have HR4 := Aside0.mk hr4
  have HC4 := Aside0.mk hc4
  clear hr4 hc4
  have H : ((wigeonref09_Unfold.f k a2 a3 a0 l4).bind fun bt171 => (if bt171.2.2 = 0 then ((wigeonref09_isSum.f a1).bind fun t174 => (if t174 = true then (if bt171.1 = a0 then (if bt171.2.1 = a1 then (some 0) else (some 7)) else (some 7)) else (some 1))) else (some bt171.2.2))) = some r := h
  clear h
  replace H := Option.bind_eq_some_iff.mp H
  obtain ⟨⟨t171, t172, t173⟩, A60, H⟩ := H
  replace H : (if t173 = 0 then ((wigeonref09_isSum.f a1).bind fun t174 => (if t174 = true then (if t171 = a0 then (if t172 = a1 then (some 0) else (some 7)) else (some 7)) else (some 1))) else (some t173)) = some r := H
  have A6 := Aside0.mk A60
  clear A60
  by_cases c7 : t173 = 0
  · rw [if_pos c7] at H
    have c7b0 : (t173 == 0) = true := beq_iff_eq.mpr c7
    have c7b1 : (t173 != 0) = false := bne_eq_false_iff_eq.mpr c7
    clear c7
    replace H := Option.bind_eq_some_iff.mp H
    obtain ⟨t174, A80, H⟩ := H
    replace H : (if t174 = true then (if t171 = a0 then (if t172 = a1 then (some 0) else (some 7)) else (some 7)) else (some 1)) = some r := H
    have A8 := Aside0.mk A80
    clear A80
    by_cases c9 : t174 = true
    · subst c9
      have H1 : (if t171 = a0 then (if t172 = a1 then (some 0) else (some 7)) else (some 7)) = some r := by rw [if_pos rfl] at H; exact H
      clear H
      have H := H1
      clear H1
      by_cases c10 : t171 = a0
      · rw [if_pos c10] at H
        have c10b0 : (t171 == a0) = true := beq_iff_eq.mpr c10
        have c10b1 : (t171 != a0) = false := bne_eq_false_iff_eq.mpr c10
        clear c10
        by_cases c11 : t172 = a1
        · rw [if_pos c11] at H
          have c11b0 : (t172 == a1) = true := beq_iff_eq.mpr c11
          have c11b1 : (t172 != a1) = false := bne_eq_false_iff_eq.mpr c11
          clear c11
          obtain rfl := Option.some.inj H
          go_enter Try.func34, Try.ntmps34
          go_wp2_with (first | ((with_reducible refine gate_callee (f := 32) rfl ?_); refine goesL_ (some 19) rfl rfl Try.func32 (by kernel_rfl) rfl #[.int .i64 a2, .int .i64 a3, .int .i64 a0, .slice A4 l4.length c4] rfl (by (try simp only [List.map_toArray, List.map_cons, List.map_nil]); first | done | rfl | (simp only [List.length_drop, List.length_take]; rfl)) ?_; (with_reducible refine (wigeonref09_Unfold.calls k a2 a3 a0 _ _ l4 t171 t172 t173 _ ?side1 ?side2 A6.out).mono ?_); (case side1 => repeat (first | exact HR4.out | (with_reducible refine Kd.C_alloc ?_ _) | (with_reducible refine Kd.C_drewN ?_ _) | (with_reducible refine Kd.C_drew ?_))); (case side2 => exact HC4.out); rintro e w' ⟨rfl, ⟨nd, rfl⟩⟩; refine ⟨_, rfl, ?_⟩) | ((with_reducible refine gate_callee (f := 48) rfl ?_); refine goesL_ (some 27) rfl rfl Try.func48 (by kernel_rfl) rfl #[.int .i64 a1] rfl (by (try simp only [List.map_toArray, List.map_cons, List.map_nil]); first | done | rfl | (simp only [List.length_drop, List.length_take]; rfl)) ?_; (with_reducible refine (wigeonref09_isSum.calls a1 true _ A8.out).mono ?_); rintro e w' ⟨rfl, ⟨nd, rfl⟩⟩; refine ⟨_, rfl, ?_⟩))
          go_ret
          exact ⟨by first | rfl | (simp; done) | (simp [*]; done) | (simp [IntKind.wrap_i64, wrap64]; done), by repeat (first | exact Drawn0.refl _ | apply Drawn0.step)⟩
        · rw [if_neg c11] at H
          have c11b0 : (t172 == a1) = false := beq_eq_false_iff_ne.mpr c11
          have c11b1 : (t172 != a1) = true := bne_iff_ne.mpr c11
          obtain rfl := Option.some.inj H
          go_enter Try.func34, Try.ntmps34
          go_wp2_with (first | ((with_reducible refine gate_callee (f := 32) rfl ?_); refine goesL_ (some 19) rfl rfl Try.func32 (by kernel_rfl) rfl #[.int .i64 a2, .int .i64 a3, .int .i64 a0, .slice A4 l4.length c4] rfl (by (try simp only [List.map_toArray, List.map_cons, List.map_nil]); first | done | rfl | (simp only [List.length_drop, List.length_take]; rfl)) ?_; (with_reducible refine (wigeonref09_Unfold.calls k a2 a3 a0 _ _ l4 t171 t172 t173 _ ?side1 ?side2 A6.out).mono ?_); (case side1 => repeat (first | exact HR4.out | (with_reducible refine Kd.C_alloc ?_ _) | (with_reducible refine Kd.C_drewN ?_ _) | (with_reducible refine Kd.C_drew ?_))); (case side2 => exact HC4.out); rintro e w' ⟨rfl, ⟨nd, rfl⟩⟩; refine ⟨_, rfl, ?_⟩) | ((with_reducible refine gate_callee (f := 48) rfl ?_); refine goesL_ (some 27) rfl rfl Try.func48 (by kernel_rfl) rfl #[.int .i64 a1] rfl (by (try simp only [List.map_toArray, List.map_cons, List.map_nil]); first | done | rfl | (simp only [List.length_drop, List.length_take]; rfl)) ?_; (with_reducible refine (wigeonref09_isSum.calls a1 true _ A8.out).mono ?_); rintro e w' ⟨rfl, ⟨nd, rfl⟩⟩; refine ⟨_, rfl, ?_⟩))
          go_ret
          exact ⟨by first | rfl | (simp; done) | (simp [*]; done) | (simp [IntKind.wrap_i64, wrap64]; done), by repeat (first | exact Drawn0.refl _ | apply Drawn0.step)⟩
      · rw [if_neg c10] at H
        have c10b0 : (t171 == a0) = false := beq_eq_false_iff_ne.mpr c10
        have c10b1 : (t171 != a0) = true := bne_iff_ne.mpr c10
        obtain rfl := Option.some.inj H
        go_enter Try.func34, Try.ntmps34
        go_wp2_with (first | ((with_reducible refine gate_callee (f := 32) rfl ?_); refine goesL_ (some 19) rfl rfl Try.func32 (by kernel_rfl) rfl #[.int .i64 a2, .int .i64 a3, .int .i64 a0, .slice A4 l4.length c4] rfl (by (try simp only [List.map_toArray, List.map_cons, List.map_nil]); first | done | rfl | (simp only [List.length_drop, List.length_take]; rfl)) ?_; (with_reducible refine (wigeonref09_Unfold.calls k a2 a3 a0 _ _ l4 t171 t172 t173 _ ?side1 ?side2 A6.out).mono ?_); (case side1 => repeat (first | exact HR4.out | (with_reducible refine Kd.C_alloc ?_ _) | (with_reducible refine Kd.C_drewN ?_ _) | (with_reducible refine Kd.C_drew ?_))); (case side2 => exact HC4.out); rintro e w' ⟨rfl, ⟨nd, rfl⟩⟩; refine ⟨_, rfl, ?_⟩) | ((with_reducible refine gate_callee (f := 48) rfl ?_); refine goesL_ (some 27) rfl rfl Try.func48 (by kernel_rfl) rfl #[.int .i64 a1] rfl (by (try simp only [List.map_toArray, List.map_cons, List.map_nil]); first | done | rfl | (simp only [List.length_drop, List.length_take]; rfl)) ?_; (with_reducible refine (wigeonref09_isSum.calls a1 true _ A8.out).mono ?_); rintro e w' ⟨rfl, ⟨nd, rfl⟩⟩; refine ⟨_, rfl, ?_⟩))
        go_ret
        exact ⟨by first | rfl | (simp; done) | (simp [*]; done) | (simp [IntKind.wrap_i64, wrap64]; done), by repeat (first | exact Drawn0.refl _ | apply Drawn0.step)⟩
    · replace c9 := Bool.eq_false_iff.mpr c9
      subst c9
      have H1 : (some 1) = some r := by rw [if_neg (show ¬ (false = true) by decide)] at H; exact H
      clear H
      have H := H1
      clear H1
      obtain rfl := Option.some.inj H
      go_enter Try.func34, Try.ntmps34
      go_wp2_with (first | ((with_reducible refine gate_callee (f := 32) rfl ?_); refine goesL_ (some 19) rfl rfl Try.func32 (by kernel_rfl) rfl #[.int .i64 a2, .int .i64 a3, .int .i64 a0, .slice A4 l4.length c4] rfl (by (try simp only [List.map_toArray, List.map_cons, List.map_nil]); first | done | rfl | (simp only [List.length_drop, List.length_take]; rfl)) ?_; (with_reducible refine (wigeonref09_Unfold.calls k a2 a3 a0 _ _ l4 t171 t172 t173 _ ?side1 ?side2 A6.out).mono ?_); (case side1 => repeat (first | exact HR4.out | (with_reducible refine Kd.C_alloc ?_ _) | (with_reducible refine Kd.C_drewN ?_ _) | (with_reducible refine Kd.C_drew ?_))); (case side2 => exact HC4.out); rintro e w' ⟨rfl, ⟨nd, rfl⟩⟩; refine ⟨_, rfl, ?_⟩) | ((with_reducible refine gate_callee (f := 48) rfl ?_); refine goesL_ (some 27) rfl rfl Try.func48 (by kernel_rfl) rfl #[.int .i64 a1] rfl (by (try simp only [List.map_toArray, List.map_cons, List.map_nil]); first | done | rfl | (simp only [List.length_drop, List.length_take]; rfl)) ?_; (with_reducible refine (wigeonref09_isSum.calls a1 false _ A8.out).mono ?_); rintro e w' ⟨rfl, ⟨nd, rfl⟩⟩; refine ⟨_, rfl, ?_⟩))
      go_ret
      exact ⟨by first | rfl | (simp; done) | (simp [*]; done) | (simp [IntKind.wrap_i64, wrap64]; done), by repeat (first | exact Drawn0.refl _ | apply Drawn0.step)⟩
  · rw [if_neg c7] at H
    have c7b0 : (t173 == 0) = false := beq_eq_false_iff_ne.mpr c7
    have c7b1 : (t173 != 0) = true := bne_iff_ne.mpr c7
    obtain rfl := Option.some.inj H
    go_enter Try.func34, Try.ntmps34
    go_wp2_with (first | ((with_reducible refine gate_callee (f := 32) rfl ?_); refine goesL_ (some 19) rfl rfl Try.func32 (by kernel_rfl) rfl #[.int .i64 a2, .int .i64 a3, .int .i64 a0, .slice A4 l4.length c4] rfl (by (try simp only [List.map_toArray, List.map_cons, List.map_nil]); first | done | rfl | (simp only [List.length_drop, List.length_take]; rfl)) ?_; (with_reducible refine (wigeonref09_Unfold.calls k a2 a3 a0 _ _ l4 t171 t172 t173 _ ?side1 ?side2 A6.out).mono ?_); (case side1 => repeat (first | exact HR4.out | (with_reducible refine Kd.C_alloc ?_ _) | (with_reducible refine Kd.C_drewN ?_ _) | (with_reducible refine Kd.C_drew ?_))); (case side2 => exact HC4.out); rintro e w' ⟨rfl, ⟨nd, rfl⟩⟩; refine ⟨_, rfl, ?_⟩))
    go_ret
    exact ⟨by first | rfl | (simp; done) | (simp [*]; done) | (simp [IntKind.wrap_i64, wrap64]; done), by repeat (first | exact Drawn0.refl _ | apply Drawn0.step)⟩

end Go.Proofs.Ythjdocddohijnaa.BU

