/- Of the text RowBookUnfolds, what the row of BookUnfolds reaches. -/
import Derived.Test.YthjdocddohijnaaRows
import Derived.Test.YthjdocddohijnaaZBookUnfoldsBUx16
import Derived.Test.YthjdocddohijnaaZBookUnfoldsPureBookUnfolds
import Derived.Test.YthjdocddohijnaaZBookUnfoldsOpens
import Derived.WalkKit
import Derived.ProofKit
import Derived.OpenShut
import Derived.ShutString
import Derived.ChangeOld
import Derived.Below
import Derived.Carry
import Derived.SizedLaws
namespace Go.Proofs.Ythjdocddohijnaa.bookUnfolds
open Go.ChangeShapes Go.WideShapes Go.ChangeAt Go.RowKit Go.Proofs.Ythjdocddohijnaa.Opens Go.Proofs.YthjdocddohijnaaW.PrintWords Go.Proofs.Ythjdocddohijnaa.BU
set_option linter.unusedVariables false
theorem own : ownKnob Try.prog.godebug = none := by kernel_rfl
theorem laidOut : laidOutB Try.prog = true := by kernel_rfl
structure S44 where
  f0 : Int
  f1 : Int
  f2 : Int
  f3 : Int
  f4 : List Int
def k44 : Kd S44 := Kd.iso (Kd.pair (Kd.int .i64) (Kd.pair (Kd.int .i64) (Kd.pair (Kd.int .i64) (Kd.pair (Kd.int .i64) ((Kd.slice 3 (Kd.int .i64))))))) (fun x : S44 => (x.f0, x.f1, x.f2, x.f3, x.f4))
theorem o44 : Opens Try.prog 44 k44 (fun x : S44 => ((Lit.int .i64 x.f0).wf = true) ∧ ((Lit.int .i64 x.f1).wf = true) ∧ ((Lit.int .i64 x.f2).wf = true) ∧ ((Lit.int .i64 x.f3).wf = true) ∧ ((x.f4.length ≤ 9223372036854775807 ∧ ∀ x_ ∈ x.f4, (Lit.int .i64 x_).wf = true))) := o_struct (n := 5) (fun x : S44 => (x.f0, x.f1, x.f2, x.f3, x.f4)) (fun p => (⟨p.1, p.2.1, p.2.2.1, p.2.2.2.1, p.2.2.2.2⟩ : S44)) (fun _ => rfl) Try.underlying44 (by kernel_rfl) (o_cons rfl (o_int Try.underlying3) (o2 := 1) (by kernel_rfl) (o_cons rfl (o_int Try.underlying3) (o2 := 2) (by kernel_rfl) (o_cons rfl (o_int Try.underlying3) (o2 := 3) (by kernel_rfl) (o_cons rfl (o_int Try.underlying3) (o2 := 4) (by kernel_rfl) (o_one rfl (by kernel_rfl) (o_slice Try.underlying37 (by kernel_rfl) (o_int Try.underlying3)))))))
set_option maxRecDepth 100000 in
theorem lifted (os : Os) (started : os.Started) (H : Type) (enc : TypeId × Value → H) :
    ReturnsInHanded {} Try.checked os 8 .any (Rows.bookUnfoldsSpec.pre6 enc Try.prog Try.f8 Rows.bookUnfoldsRow.domain false) (Rows.bookUnfoldsSpec.post enc Try.prog Try.f8 false true false false) := by
  refine returnsInHanded_of_change_sized (C := Try.checked) own started (by kernel_rfl) Try.func8
    (ChangeSpec.witness6 (enc := enc) (C := Try.checked) false ⟨#[], #[.agg #[.int .i64 0, .int .i64 0, .int .i64 0, .int .i64 0, .slice none 0 0]], []⟩ 8 (by kernel_rfl) (by kernel_rfl) (by kernel_rfl) (by kernel_rfl)) ?_
  intro W base args ds gs before hval0 hW hcnd hsz0 _
  have hval : ∀ (j : Nat) t v, Try.f8.params[j]? = some t → args[j]? = some v → Value.okWide Try.prog W .any base t v := hval0
  have hW' := hW
  obtain ⟨p, q, hA0, hV, rfl, hfz, hnd⟩ := hW
  have hA : DataW.TrodAll enc Try.prog W 0 (fun _ => true) true Try.f8.params.toList args.toList ds p := hA0
  rw [Try.params8] at hA hval
  obtain ⟨v0, vs0, d0, ds0, p0, q0, hargs, rfl, rfl, h0, r0⟩ := trodAll_cons hA
  obtain ⟨rfl, rfl, rfl⟩ := trodAll_nil r0
  obtain rfl : args = #[v0] := by cases args; simp_all
  obtain ⟨rfl, rfl⟩ := trodVars_none hV
  have lt0 : ∀ x ∈ p0, x.block < W.heap.size := by obtain ⟨m, hm⟩ := h0; exact DataW.trod_lt m _ _ _ hm
  obtain ⟨a0, K0, w0⟩ := o_arg o44 h0
  have F0 : ∃ l, v0.cells.toList = l ∧ k44.K W a0 l := ⟨_, rfl, K0⟩
  obtain ⟨l0, hl0, hK0⟩ := F0
  obtain ⟨_, _, rfl, rfl, ⟨_, _, rfl, rfl, ⟨_, _, rfl, rfl, ⟨_, _, rfl, rfl, ⟨Aa0_4, ca0_4, rfl, La0_4, Ca0_4⟩⟩⟩⟩⟩ := hK0
  obtain rfl := agg_of Try.underlying44 (hval 0 44 v0 rfl rfl) hl0
  clear hl0
  clear hA0 hval0 hsz0
  obtain ⟨k, hk⟩ := Pure.BookUnfolds a0.f0 a0.f1 a0.f2 a0.f3 a0.f4 w0.1 w0.2.1 w0.2.2.1 w0.2.2.2.1 w0.2.2.2.2
  refine (wigeonlaw09_BookUnfolds.calls k a0.f0 a0.f1 a0.f2 a0.f3 _ _ a0.f4 true W Ca0_4 La0_4 hk).mono fun e W' hh => ?_
  obtain ⟨he, bel0⟩ := hh
  have bel : Below W.heap.size W W' := by first | exact bel0 | exact bel0.below
  subst he
  exact ⟨_, rfl, _, _, _, [], _, [], hW', trodAll_mk1 (shut_bool Try.underlying4 _), (trodAll_cons_mk (Below.trod laidOut (by kernel_rfl) (of_decide_eq_true (by kernel_rfl)) h0 bel lt0) trodAll_mk0), rfl, bel.frame _, fun h => by cases h⟩
theorem over : Rows.bookUnfoldsRow.holds Try.pinned (OpenSpec.ofChange Rows.bookUnfoldsSpec) :=
  OpenClaim.holds_of_wide 8 Try.f8 rfl rfl rfl rfl rfl rfl rfl ⟨rfl, rfl, rfl, rfl, rfl⟩ rfl rfl rfl rfl rfl (by kernel_rfl) Try.func8 (by kernel_rfl)
    (of_decide_eq_true (by kernel_rfl)) (by unfold Func.isWrapper; first | (rw [if_pos (by decide +kernel)]; kernel_rfl) | (rw [if_neg (by decide +kernel)]; exact ⟨rfl, rfl⟩))
    (fun os started H enc _ => lifted os started H enc)
theorem proved : Rows.BookUnfoldsSaid := over
#print axioms proved
end Go.Proofs.Ythjdocddohijnaa.bookUnfolds
namespace Go.Proofs.Ythjdocddohijnaa
/-- The row, under a short name, for the claim. -/
theorem bookUnfolds_holds : Rows.BookUnfoldsSaid := bookUnfolds.proved
end Go.Proofs.Ythjdocddohijnaa

