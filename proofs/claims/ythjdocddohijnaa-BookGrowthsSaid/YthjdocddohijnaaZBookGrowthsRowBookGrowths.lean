/- Of the text RowBookGrowths, what the row of BookGrowths reaches. -/
import Derived.Test.YthjdocddohijnaaRows
import Derived.Test.YthjdocddohijnaaZBookGrowthsBUx20
import Derived.Test.YthjdocddohijnaaZBookGrowthsPureBookGrowths
import Derived.Test.YthjdocddohijnaaZBookGrowthsOpens
import Derived.WalkKit
import Derived.ProofKit
import Derived.OpenShut
import Derived.ShutString
import Derived.ChangeOld
import Derived.Below
import Derived.Carry
import Derived.SizedLaws
namespace Go.Proofs.Ythjdocddohijnaa.bookGrowths
open Go.ChangeShapes Go.WideShapes Go.ChangeAt Go.RowKit Go.Proofs.Ythjdocddohijnaa.Opens Go.Proofs.YthjdocddohijnaaW.PrintWords Go.Proofs.Ythjdocddohijnaa.BU
set_option linter.unusedVariables false
theorem own : ownKnob Try.prog.godebug = none := by kernel_rfl
theorem laidOut : laidOutB Try.prog = true := by kernel_rfl
set_option maxRecDepth 100000 in
theorem lifted (os : Os) (started : os.Started) (H : Type) (enc : TypeId × Value → H) :
    ReturnsInHanded {} Try.checked os 10 .any (Rows.bookGrowthsSpec.pre6 enc Try.prog Try.f10 Rows.bookGrowthsRow.domain false) (Rows.bookGrowthsSpec.post enc Try.prog Try.f10 false true false false) := by
  refine returnsInHanded_of_change_sized (C := Try.checked) own started (by kernel_rfl) Try.func10
    (ChangeSpec.witness6 (enc := enc) (C := Try.checked) false ⟨#[], #[.slice none 0 0, .int .i64 0], []⟩ 8 (by kernel_rfl) (by kernel_rfl) (by kernel_rfl) (by kernel_rfl)) ?_
  intro W base args ds gs before hval0 hW hcnd hsz0 _
  have hval : ∀ (j : Nat) t v, Try.f10.params[j]? = some t → args[j]? = some v → Value.okWide Try.prog W .any base t v := hval0
  have hW' := hW
  obtain ⟨p, q, hA0, hV, rfl, hfz, hnd⟩ := hW
  have hA : DataW.TrodAll enc Try.prog W 0 (fun _ => true) true Try.f10.params.toList args.toList ds p := hA0
  rw [Try.params10] at hA hval
  obtain ⟨v0, vs0, d0, ds0, p0, q0, hargs, rfl, rfl, h0, r0⟩ := trodAll_cons hA
  obtain ⟨v1, vs1, d1, ds1, p1, q1, rfl, rfl, rfl, h1, r1⟩ := trodAll_cons r0
  obtain ⟨rfl, rfl, rfl⟩ := trodAll_nil r1
  obtain rfl : args = #[v0, v1] := by cases args; simp_all
  obtain ⟨rfl, rfl⟩ := trodVars_none hV
  have lt0 : ∀ x ∈ p0, x.block < W.heap.size := by obtain ⟨m, hm⟩ := h0; exact DataW.trod_lt m _ _ _ hm
  obtain ⟨a0, K0, w0⟩ := o_arg (o_slice Try.underlying29 (by kernel_rfl) (o_string Try.underlying9)) h0
  obtain ⟨A0, len0, cap0, rfl⟩ := okWide_slice Try.underlying29 (hval 0 29 v0 rfl rfl)
  obtain ⟨A0_, c0_, e0, lc0, C0⟩ := K0
  obtain ⟨rfl, rfl, rfl⟩ : A0 = A0_ ∧ len0 = a0.length ∧ cap0 = c0_ := by simpa [Value.cells] using e0
  have lt1 : ∀ x ∈ p1, x.block < W.heap.size := by obtain ⟨m, hm⟩ := h1; exact DataW.trod_lt m _ _ _ hm
  obtain ⟨a1, K1, w1⟩ := o_arg (o_int Try.underlying3) h1
  obtain ⟨b1, rfl⟩ := okWide_int Try.underlying3 (hval 1 3 v1 rfl rfl)
  obtain rfl : a1 = b1 := by have z : (Value.cells (.int .i64 b1)).toList = [.int .i64 a1] := K1; have z2 := z; simp [Value.cells] at z2; exact z2.symm
  clear hA0 hval0 hsz0
  obtain ⟨k, hk⟩ := Pure.BookGrowths a0 a1 w0 w1
  refine (wigeonlaw09_BookGrowths.calls k _ _ a0 a1 true W C0 lc0 hk).mono fun e W' hh => ?_
  obtain ⟨he, bel0⟩ := hh
  have bel : Below W.heap.size W W' := by first | exact bel0 | exact bel0.below
  subst he
  exact ⟨_, rfl, _, _, _, [], _, [], hW', trodAll_mk1 (shut_bool Try.underlying4 _), (trodAll_cons_mk (Below.trod laidOut (by kernel_rfl) (of_decide_eq_true (by kernel_rfl)) h0 bel lt0) (trodAll_cons_mk (Below.trod laidOut (by kernel_rfl) (of_decide_eq_true (by kernel_rfl)) h1 bel lt1) trodAll_mk0)), rfl, bel.frame _, fun h => by cases h⟩
theorem over : Rows.bookGrowthsRow.holds Try.pinned (OpenSpec.ofChange Rows.bookGrowthsSpec) :=
  OpenClaim.holds_of_wide 10 Try.f10 rfl rfl rfl rfl rfl rfl rfl ⟨rfl, rfl, rfl, rfl, rfl⟩ rfl rfl rfl rfl rfl (by kernel_rfl) Try.func10 (by kernel_rfl)
    (of_decide_eq_true (by kernel_rfl)) (by unfold Func.isWrapper; first | (rw [if_pos (by decide +kernel)]; kernel_rfl) | (rw [if_neg (by decide +kernel)]; exact ⟨rfl, rfl⟩))
    (fun os started H enc _ => lifted os started H enc)
theorem proved : Rows.BookGrowthsSaid := over
#print axioms proved
end Go.Proofs.Ythjdocddohijnaa.bookGrowths
namespace Go.Proofs.Ythjdocddohijnaa
/-- The row, under a short name, for the claim. -/
theorem bookGrowths_holds : Rows.BookGrowthsSaid := bookGrowths.proved
end Go.Proofs.Ythjdocddohijnaa

