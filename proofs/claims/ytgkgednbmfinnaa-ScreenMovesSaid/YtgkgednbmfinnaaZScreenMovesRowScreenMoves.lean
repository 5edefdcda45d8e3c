/- Of the text RowScreenMoves, what the row of ScreenMoves reaches. -/
import Derived.Test.YtgkgednbmfinnaaRows
import Derived.Test.YtgkgednbmfinnaaZScreenMovesSMx20
import Derived.Test.YtgkgednbmfinnaaZScreenMovesPureScreenMoves
import Derived.Test.YtgkgednbmfinnaaZScreenMovesOpens
import Derived.WalkKit
import Derived.ProofKit
import Derived.OpenShut
import Derived.ShutString
import Derived.ChangeOld
import Derived.Below
import Derived.Carry
import Derived.SizedLaws
namespace Go.Proofs.Ytgkgednbmfinnaa.screenMoves
open Go.ChangeShapes Go.WideShapes Go.ChangeAt Go.RowKit Go.Proofs.Ytgkgednbmfinnaa.Opens Go.Proofs.YtgkgednbmfinnaaW.PrintWords Go.Proofs.Ytgkgednbmfinnaa.SM
set_option linter.unusedVariables false
theorem own : ownKnob Try.prog.godebug = none := by kernel_rfl
theorem laidOut : laidOutB Try.prog = true := by kernel_rfl
theorem o23 : Opens Try.prog 23 k23 (fun x : S23 => ((Lit.int .i64 x.f0).wf = true) ∧ ((Lit.int .i64 x.f1).wf = true)) := o_struct (n := 2) (fun x : S23 => (x.f0, x.f1)) (fun p => (⟨p.1, p.2⟩ : S23)) (fun _ => rfl) Try.underlying23 (by kernel_rfl) (o_cons rfl (o_int Try.underlying3) (o2 := 1) (by kernel_rfl) (o_one rfl (by kernel_rfl) (o_int Try.underlying3)))
theorem o55 : Opens Try.prog 55 k55 (fun x : S55 => (((Lit.int .i64 x.f0.f0).wf = true) ∧ ((Lit.int .i64 x.f0.f1).wf = true)) ∧ (((Lit.int .i64 x.f1.f0).wf = true) ∧ ((Lit.int .i64 x.f1.f1).wf = true))) := o_struct (n := 4) (fun x : S55 => (x.f0, x.f1)) (fun p => (⟨p.1, p.2⟩ : S55)) (fun _ => rfl) Try.underlying55 (by kernel_rfl) (o_cons rfl o23 (o2 := 2) (by kernel_rfl) (o_one rfl (by kernel_rfl) o23))
set_option maxRecDepth 100000 in
theorem lifted (os : Os) (started : os.Started) (H : Type) (enc : TypeId × Value → H) :
    ReturnsInHanded {} Try.checked os 8 .any (Rows.screenMovesSpec.pre6 enc Try.prog Try.f8 Rows.screenMovesRow.domain false) (Rows.screenMovesSpec.post enc Try.prog Try.f8 false true false false) := by
  refine returnsInHanded_of_change_sized (C := Try.checked) own started (by kernel_rfl) Try.func8
    (ChangeSpec.witness6 (enc := enc) (C := Try.checked) false ⟨#[], #[.slice none 0 0, .agg #[.int .i64 0, .int .i64 0]], []⟩ 8 (by kernel_rfl) (by kernel_rfl) (by kernel_rfl) (by kernel_rfl)) ?_
  intro W base args ds gs before hval0 hW hcnd hsz0 _
  have hval : ∀ (j : Nat) t v, Try.f8.params[j]? = some t → args[j]? = some v → Value.okWide Try.prog W .any base t v := hval0
  have hW' := hW
  obtain ⟨p, q, hA0, hV, rfl, hfz, hnd⟩ := hW
  have hA : DataW.TrodAll enc Try.prog W 0 (fun _ => true) true Try.f8.params.toList args.toList ds p := hA0
  rw [Try.params8] at hA hval
  obtain ⟨v0, vs0, d0, ds0, p0, q0, hargs, rfl, rfl, h0, r0⟩ := trodAll_cons hA
  obtain ⟨v1, vs1, d1, ds1, p1, q1, rfl, rfl, rfl, h1, r1⟩ := trodAll_cons r0
  obtain ⟨rfl, rfl, rfl⟩ := trodAll_nil r1
  obtain rfl : args = #[v0, v1] := by cases args; simp_all
  obtain ⟨rfl, rfl⟩ := trodVars_none hV
  have lt0 : ∀ x ∈ p0, x.block < W.heap.size := by obtain ⟨m, hm⟩ := h0; exact DataW.trod_lt m _ _ _ hm
  obtain ⟨a0, K0, w0⟩ := o_arg (o_slice Try.underlying31 (by kernel_rfl) o55) h0
  obtain ⟨A0, len0, cap0, rfl⟩ := okWide_slice Try.underlying31 (hval 0 31 v0 rfl rfl)
  obtain ⟨A0_, c0_, e0, lc0, C0⟩ := K0
  obtain ⟨rfl, rfl, rfl⟩ : A0 = A0_ ∧ len0 = a0.length ∧ cap0 = c0_ := by simpa [Value.cells] using e0
  have lt1 : ∀ x ∈ p1, x.block < W.heap.size := by obtain ⟨m, hm⟩ := h1; exact DataW.trod_lt m _ _ _ hm
  obtain ⟨a1, K1, w1⟩ := o_arg o23 h1
  have F1 : ∃ l, v1.cells.toList = l ∧ k23.K W a1 l := ⟨_, rfl, K1⟩
  obtain ⟨l1, hl1, hK1⟩ := F1
  obtain ⟨_, _, rfl, rfl, rfl⟩ := hK1
  obtain rfl := agg_of Try.underlying23 (hval 1 23 v1 rfl rfl) hl1
  clear hl1
  clear hA0 hval0 hsz0
  obtain ⟨k, hk⟩ := Pure.ScreenMoves a0 a1.f0 a1.f1 w0 w1.1 w1.2
  refine (wigeonlaw02_ScreenMoves.calls k _ _ a0 a1.f0 a1.f1 true W C0 lc0 hk).mono fun e W' hh => ?_
  obtain ⟨he, bel0⟩ := hh
  have bel : Below W.heap.size W W' := by first | exact bel0 | exact bel0.below
  subst he
  exact ⟨_, rfl, _, _, _, [], _, [], hW', trodAll_mk1 (shut_bool Try.underlying4 _), (trodAll_cons_mk (Below.trod laidOut (by kernel_rfl) (of_decide_eq_true (by kernel_rfl)) h0 bel lt0) (trodAll_cons_mk (Below.trod laidOut (by kernel_rfl) (of_decide_eq_true (by kernel_rfl)) h1 bel lt1) trodAll_mk0)), rfl, bel.frame _, fun h => by cases h⟩
theorem over : Rows.screenMovesRow.holds Try.pinned (OpenSpec.ofChange Rows.screenMovesSpec) :=
  OpenClaim.holds_of_wide 8 Try.f8 rfl rfl rfl rfl rfl rfl rfl ⟨rfl, rfl, rfl, rfl, rfl⟩ rfl rfl rfl rfl rfl (by kernel_rfl) Try.func8 (by kernel_rfl)
    (of_decide_eq_true (by kernel_rfl)) (by unfold Func.isWrapper; first | (rw [if_pos (by decide +kernel)]; kernel_rfl) | (rw [if_neg (by decide +kernel)]; exact ⟨rfl, rfl⟩))
    (fun os started H enc _ => lifted os started H enc)
theorem proved : Rows.ScreenMovesSaid := over
#print axioms proved
end Go.Proofs.Ytgkgednbmfinnaa.screenMoves
namespace Go.Proofs.Ytgkgednbmfinnaa
/-- The row, under a short name, for the claim. -/
theorem screenMoves_holds : Rows.ScreenMovesSaid := screenMoves.proved
end Go.Proofs.Ytgkgednbmfinnaa

