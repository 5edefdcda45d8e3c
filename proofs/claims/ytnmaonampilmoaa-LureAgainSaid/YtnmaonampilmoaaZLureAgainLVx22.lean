/- Of the text LVx22, what the row of LureAgain reaches. -/
import Derived.Test.YtnmaonampilmoaaZLureAgainLVx0
import Derived.Test.YtnmaonampilmoaaZLureAgainLVx1
import Derived.Test.YtnmaonampilmoaaZLureAgainLVx7
import Derived.Test.YtnmaonampilmoaaZLureAgainLVx12
import Derived.Test.YtnmaonampilmoaaZLureAgainLVx18
namespace Go.Proofs.Ytnmaonampilmoaa.LV
open Go.RowKit Go.Proofs.YtnmaonampilmoaaW.PrintWords Go.Proofs.YtnmaonampilmoaaW.PrintLast Go.Proofs.YtnmaonampilmoaaW.PrintMore
attribute [local go_sem] max2_int min2_int max_two min_two max_three min_three max_four min_four   -- for this text's walks alone
set_option linter.unusedVariables false
set_option linter.unusedSimpArgs false

theorem rows_C (W : World) (b : Nat) (ls : List (List Int)) (vs : List Value) (hl : vs.length = ls.length) (hn : ls.length ≤ 1000) (h : ∀ (i : Nat) (u : Value), vs[i]? = some u → W.cell? ⟨b, i, none⟩ = some u)
    (hk : ∀ (i : Nat) (l : List Int) (u : Value), ls[i]? = some l → vs[i]? = some u → ∃ (A : Option Addr) (c : Nat), u = Value.slice A l.length c ∧ l.length ≤ c ∧ Kd.C (Kd.int .i64) W A l.length l) : Kd.C (Kd.slice 22 (Kd.int .i64)) W (some ⟨b, 0, none⟩) ls.length ls := by
  refine ⟨rfl, by omega, fun _ => ⟨_, rfl, fun i l hi => ?_⟩⟩
  have hil : i < ls.length := by
    rcases Nat.lt_or_ge i ls.length with q | q
    · exact q
    · rw [List.getElem?_eq_none q] at hi; exact absurd hi (by simp)
  have hv : vs[i]? = some (vs[i]'(by omega)) := List.getElem?_eq_getElem _
  obtain ⟨A, c, e1, e2, e3⟩ := hk i l _ hi hv
  refine ⟨[vs[i]'(by omega)], rfl, ⟨A, c, by rw [e1], e2, e3⟩, fun j u hu => ?_⟩
  match j, hu with
  | 0, hu =>
    obtain rfl := Option.some.inj hu
    have := h i _ hv
    rw [show (Kd.slice 22 (Kd.int .i64)).sz = 1 from rfl, Nat.mul_one, Nat.add_zero, add_plain]
    exact this
  | j + 1, hu => exact absurd hu (by simp)
end Go.Proofs.Ytnmaonampilmoaa.LV

