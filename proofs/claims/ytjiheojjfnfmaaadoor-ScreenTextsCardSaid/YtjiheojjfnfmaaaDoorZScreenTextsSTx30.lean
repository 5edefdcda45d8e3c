/- Of the text STx30, what the row of ScreenTexts reaches. -/
import Derived.Test.YtjiheojjfnfmaaaDoorZScreenTextsSTx0
import Derived.Test.YtjiheojjfnfmaaaDoorZScreenTextsSTx15
namespace Go.Proofs.YtjiheojjfnfmaaaDoor.ST
open Go.RowKit Go.Proofs.YtjiheojjfnfmaaaDoorW.PrintWords Go.Proofs.YtjiheojjfnfmaaaDoorW.PrintLast Go.Proofs.YtjiheojjfnfmaaaDoorW.PrintMore
attribute [local go_sem] max2_int min2_int max_two min_two max_three min_three max_four min_four   -- for this text's walks alone
set_option linter.unusedVariables false
set_option linter.unusedSimpArgs false

def strconv_Atoi_29.f (a0 : ByteArray) : Option (Int × Option Int) := if a0.size ≤ 281474976710656 then (match Lib.atoiAll a0.data.toList with | .ok v => some (v, none) | .«syntax» => some (0, some 0) | .range => some (Lib.atoiSat a0.data.toList, some 1)) else none
theorem strconv_Atoi_29.calls (a0 : ByteArray) (r1 : Int) (r2 : Option Int) (w : World) (hE : Env w) (h : strconv_Atoi_29.f a0 = some (r1, r2)) :
    Calls Tryd.prog 29 #[.string a0] w fun e w' => (∃ v, ErrIs v r2 ∧ e = .returned (.tuple #[.int .i64 r1, v])) ∧ Below w.heap.size w w' := by
  unfold strconv_Atoi_29.f at h
  split at h
  · rename_i z
    split at h
    · rename_i v e
      simp only [Option.some.injEq, Prod.mk.injEq] at h
      obtain ⟨rfl, rfl⟩ := h
      refine (Any.strconv_Atoi_ok atLay a0 (by omega) _ e w).mono fun e w' q => ⟨⟨_, rfl, q.1⟩, ?_⟩
      rcases q.2 with rfl | ⟨t, rfl⟩
      · exact Below.refl _ _
      · exact below_bytes _ _ _
    · rename_i e
      simp only [Option.some.injEq, Prod.mk.injEq] at h
      obtain ⟨rfl, rfl⟩ := h
      obtain ⟨tp, p, hv⟩ := hE.syn
      exact (Any.strconv_Atoi_syntax_var atLay a0 z e tp p w hv).mono fun e w' ⟨N, q, _, _, b⟩ => ⟨⟨_, ⟨N, rfl⟩, q⟩, b⟩
    · rename_i e
      simp only [Option.some.injEq, Prod.mk.injEq] at h
      obtain ⟨rfl, rfl⟩ := h
      obtain ⟨tp, p, hv⟩ := hE.ran
      exact (Any.strconv_Atoi_range_var atLay a0 z e tp p w hv).mono fun e w' ⟨N, q, _, _, b⟩ => ⟨⟨_, ⟨N, rfl⟩, q⟩, b⟩
  · cases h

end Go.Proofs.YtjiheojjfnfmaaaDoor.ST

