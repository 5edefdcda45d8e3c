/- Of the text LWx18, what the row of LureCertifies reaches. -/
import Derived.Test.YtnmaonampilmoaaZLureCertifiesLWx0
import Derived.Test.YtnmaonampilmoaaZLureCertifiesLWx1
import Derived.Test.YtnmaonampilmoaaZLureCertifiesLWx13
import Derived.Test.YtnmaonampilmoaaZLureCertifiesLWx15
import Derived.Test.YtnmaonampilmoaaZLureCertifiesLWx17
namespace Go.Proofs.Ytnmaonampilmoaa.LW
open Go.RowKit Go.Proofs.YtnmaonampilmoaaW.PrintWords Go.Proofs.YtnmaonampilmoaaW.PrintLast Go.Proofs.YtnmaonampilmoaaW.PrintMore
attribute [local go_sem] max2_int min2_int max_two min_two max_three min_three max_four min_four   -- for this text's walks alone
set_option linter.unusedVariables false
set_option linter.unusedSimpArgs false

def lure_CheckRanks_1.f (a0 : Int) : Option (Bool) := (lure_within.f a0 (-1) 16).bind fun t226 => (some (!t226))
set_option maxHeartbeats 8000000 in
set_option maxRecDepth 100000 in
theorem lure_CheckRanks_1.calls (a0 : Int) (r : Bool) (w : World) (h : lure_CheckRanks_1.f a0 = some r) :
    Calls Try.prog 67 #[.int .i64 a0] w fun e w' => e = .returned (.bool r) ∧ Drawn0 w w' := by
  have H : ((lure_within.f a0 (-1) 16).bind fun t226 => (some (!t226))) = some r := h
  clear h
  replace H := Option.bind_eq_some_iff.mp H
  obtain ⟨t226, A20, H⟩ := H
  replace H : (some (!t226)) = some r := H
  have A2 := Aside0.mk A20
  clear A20
  obtain rfl := Option.some.inj H
  go_enter Try.func67, Try.ntmps67
  go_wp2_with (first | ((with_reducible refine gate_callee (f := 56) rfl ?_); refine goesL_ (some 4) rfl rfl Try.func56 (by kernel_rfl) rfl #[.int .i64 a0, .int .i64 (-1), .int .i64 16] rfl (by (try simp only [List.map_toArray, List.map_cons, List.map_nil]); first | done | rfl | (simp only [List.length_drop, List.length_take]; rfl)) ?_; (with_reducible refine (lure_within.calls a0 (-1) 16 t226 _ A2.out).mono ?_); rintro e w' ⟨rfl, ⟨nd, rfl⟩⟩; refine ⟨_, rfl, ?_⟩))
  go_ret
  exact ⟨by first | rfl | (simp; done) | (simp [*]; done) | (simp [IntKind.wrap_i64, wrap64]; done), by repeat (first | exact Drawn0.refl _ | apply Drawn0.step)⟩

end Go.Proofs.Ytnmaonampilmoaa.LW

