/- Of the text LEx14, what the row of LureExchanges reaches. -/
import Derived.Test.YtnmaonampilmoaaZLureExchangesLEx0
import Derived.Test.YtnmaonampilmoaaZLureExchangesLEx13
namespace Go.Proofs.Ytnmaonampilmoaa.LE
open Go.RowKit Go.Proofs.YtnmaonampilmoaaW.PrintWords Go.Proofs.YtnmaonampilmoaaW.PrintLast Go.Proofs.YtnmaonampilmoaaW.PrintMore
attribute [local go_sem] max2_int min2_int max_two min_two max_three min_three max_four min_four   -- for this text's walks alone
set_option linter.unusedVariables false
set_option linter.unusedSimpArgs false

def slices_Contains_int_int.f (k : Nat) (l0 : List Int) (a1 : Int) : Option (Bool) := (slices_Index_int_int.f k l0 a1).bind fun t183 => (some (decide (t183 ≥ 0)))
set_option maxHeartbeats 8000000 in
set_option maxRecDepth 100000 in
theorem slices_Contains_int_int.calls (k : Nat) (A0 : Option Addr) (c0 : Nat) (l0 : List Int) (a1 : Int) (r : Bool) (w : World) (hr0 : Kd.C (Kd.int .i64) w A0 l0.length l0) (hc0 : l0.length ≤ c0) (h : slices_Contains_int_int.f k l0 a1 = some r) :
    Calls Try.prog 63 #[.slice A0 l0.length c0, .int .i64 a1] w fun e w' => e = .returned (.bool r) ∧ Drawn0 w w' := by
  have HR0 := Aside0.mk hr0
  have HC0 := Aside0.mk hc0
  clear hr0 hc0
  have H : ((slices_Index_int_int.f k l0 a1).bind fun t183 => (some (decide (t183 ≥ 0)))) = some r := h
  clear h
  replace H := Option.bind_eq_some_iff.mp H
  obtain ⟨t183, A30, H⟩ := H
  replace H : (some (decide (t183 ≥ 0))) = some r := H
  have A3 := Aside0.mk A30
  clear A30
  obtain rfl := Option.some.inj H
  go_enter Try.func63, Try.ntmps63
  go_wp2_with (first | ((with_reducible refine gate_callee (f := 81) rfl ?_); refine goesL_ (some 7) rfl rfl Try.func81 (by kernel_rfl) rfl #[.slice A0 l0.length c0, .int .i64 a1] rfl (by (try simp only [List.map_toArray, List.map_cons, List.map_nil]); first | done | rfl | (simp only [List.length_drop, List.length_take]; rfl)) ?_; (with_reducible refine (slices_Index_int_int.calls k _ _ l0 a1 t183 _ ?side1 ?side2 A3.out).mono ?_); (case side1 => repeat (first | exact HR0.out | (with_reducible refine Kd.C_alloc ?_ _) | (with_reducible refine Kd.C_drewN ?_ _) | (with_reducible refine Kd.C_drew ?_))); (case side2 => exact HC0.out); rintro e w' ⟨rfl, ⟨nd, rfl⟩⟩; refine ⟨_, rfl, ?_⟩))
  go_ret
  exact ⟨by first | rfl | (simp; done) | (simp [*]; done) | (simp [IntKind.wrap_i64, wrap64]; done), by repeat (first | exact Drawn0.refl _ | apply Drawn0.step)⟩

theorem wr64 {n : Int} (h : -9223372036854775808 ≤ n) (h2 : n ≤ 9223372036854775807) : wrap64 n = n := by unfold wrap64; omega
theorem index_at (l : List Int) (x : Int) (hl : l.length ≤ 9223372036854775807) : ∀ d i : Nat, i + d = l.length → ∃ r, slices_Index_int_int.l0 (d + 1) l x (l.length : Int) (i : Int) = some r ∧ (r ≥ 0 ↔ x ∈ l.drop i)
  | 0, i, h => by
    refine ⟨-1, ?_, ?_⟩
    · rw [slices_Index_int_int.l0.eq_2, if_neg (by omega)]
    · rw [List.drop_eq_nil_of_le (by omega)]; simp
  | d + 1, i, h => by
    have hlt : i < l.length := by omega
    have e : rd l (i : Int) = l[i] := by simp [rd, List.getD_eq_getElem?_getD, List.getElem?_eq_getElem hlt]
    obtain ⟨r, h1, h2⟩ := index_at l x hl d (i + 1) (by omega)
    by_cases q : x = l[i]
    · refine ⟨i, ?_, ?_⟩
      · rw [slices_Index_int_int.l0.eq_2, if_pos (by omega), if_pos (by omega), if_pos (by omega), e, if_pos q]
      · rw [List.drop_eq_getElem_cons hlt]; exact ⟨fun _ => by rw [q]; exact List.mem_cons_self, fun _ => by omega⟩
    · refine ⟨r, ?_, ?_⟩
      · rw [slices_Index_int_int.l0.eq_2, if_pos (by omega), if_pos (by omega), if_pos (by omega), e, if_neg q, wr64 (by omega) (by omega)]; exact h1
      · rw [List.drop_eq_getElem_cons hlt, h2, List.mem_cons]; exact ⟨Or.inr, fun h => h.resolve_left q⟩
theorem contains_at (l : List Int) (x : Int) (hl : l.length ≤ 9223372036854775807) : slices_Contains_int_int.f (l.length + 1) l x = some (decide (x ∈ l)) := by
  obtain ⟨r, h1, h2⟩ := index_at l x hl l.length 0 (by omega)
  unfold slices_Contains_int_int.f slices_Index_int_int.f
  rw [show ((0 : Nat) : Int) = 0 from rfl] at h1
  rw [List.drop_zero] at h2
  rw [h1, Option.bind_some, decide_eq_decide.2 h2]

end Go.Proofs.Ytnmaonampilmoaa.LE

