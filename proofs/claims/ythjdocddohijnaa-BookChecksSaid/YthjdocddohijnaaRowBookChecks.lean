/- The row of the law BookChecks: whatever the arguments are that the row lets in, the call answers true and leaves them as they were. The walk is the printed contract of the law's function; what it computes is in PureBookChecks. -/
import Derived.Test.YthjdocddohijnaaRows
import Derived.Test.YthjdocddohijnaaBKx19
import Derived.Test.YthjdocddohijnaaPureBookChecks
import Derived.Test.YthjdocddohijnaaOpens
import Derived.WalkKit
import Derived.ProofKit
import Derived.OpenShut
import Derived.ShutString
import Derived.ChangeOld
import Derived.Below
import Derived.Carry
import Derived.SizedLaws
namespace Go.Proofs.Ythjdocddohijnaa.bookChecks
open Go.ChangeShapes Go.WideShapes Go.ChangeAt Go.RowKit Go.Proofs.Ythjdocddohijnaa.Opens Go.Proofs.YthjdocddohijnaaW.PrintWords Go.Proofs.Ythjdocddohijnaa.BK
set_option linter.unusedVariables false
theorem own : ownKnob Try.prog.godebug = none := by kernel_rfl
theorem laidOut : laidOutB Try.prog = true := by kernel_rfl
structure S39 where
  f0 : Int
  f1 : Int
  f2 : Int
  f3 : List Int
def k39 : Kd S39 := Kd.iso (Kd.pair (Kd.int .i64) (Kd.pair (Kd.int .i64) (Kd.pair (Kd.int .i64) ((Kd.slice 3 (Kd.int .i64)))))) (fun x : S39 => (x.f0, x.f1, x.f2, x.f3))
theorem o39 : Opens Try.prog 39 k39 (fun x : S39 => ((Lit.int .i64 x.f0).wf = true) ∧ ((Lit.int .i64 x.f1).wf = true) ∧ ((Lit.int .i64 x.f2).wf = true) ∧ ((x.f3.length ≤ 9223372036854775807 ∧ ∀ x_ ∈ x.f3, (Lit.int .i64 x_).wf = true))) := o_struct (n := 4) (fun x : S39 => (x.f0, x.f1, x.f2, x.f3)) (fun p => (⟨p.1, p.2.1, p.2.2.1, p.2.2.2⟩ : S39)) (fun _ => rfl) Try.underlying39 (by kernel_rfl) (o_cons rfl (o_int Try.underlying3) (o2 := 1) (by kernel_rfl) (o_cons rfl (o_int Try.underlying3) (o2 := 2) (by kernel_rfl) (o_cons rfl (o_int Try.underlying3) (o2 := 3) (by kernel_rfl) (o_one rfl (by kernel_rfl) (o_slice Try.underlying37 (by kernel_rfl) (o_int Try.underlying3))))))
set_option maxRecDepth 100000 in
theorem lifted (os : Os) (started : os.Started) (H : Type) (enc : TypeId × Value → H) :
    ReturnsInHanded {} Try.checked os 9 .any (Rows.bookChecksSpec.pre6 enc Try.prog Try.f9 Rows.bookChecksRow.domain false) (Rows.bookChecksSpec.post enc Try.prog Try.f9 false true false false) := by
  refine returnsInHanded_of_change_sized (C := Try.checked) own started (by kernel_rfl) Try.func9
    (ChangeSpec.witness6 (enc := enc) (C := Try.checked) false ⟨#[], #[.int .i64 0, .string ByteArray.empty, .agg #[.int .i64 0, .int .i64 0, .int .i64 0, .slice none 0 0]], []⟩ 8 (by kernel_rfl) (by kernel_rfl) (by kernel_rfl) (by kernel_rfl)) ?_
  intro W base args ds gs before hval0 hW hcnd hsz0 _
  have hval : ∀ (j : Nat) t v, Try.f9.params[j]? = some t → args[j]? = some v → Value.okWide Try.prog W .any base t v := hval0
  have hW' := hW
  obtain ⟨p, q, hA0, hV, rfl, hfz, hnd⟩ := hW
  have hA : DataW.TrodAll enc Try.prog W 0 (fun _ => true) true Try.f9.params.toList args.toList ds p := hA0
  rw [Try.params9] at hA hval
  obtain ⟨v0, vs0, d0, ds0, p0, q0, hargs, rfl, rfl, h0, r0⟩ := trodAll_cons hA
  obtain ⟨v1, vs1, d1, ds1, p1, q1, rfl, rfl, rfl, h1, r1⟩ := trodAll_cons r0
  obtain ⟨v2, vs2, d2, ds2, p2, q2, rfl, rfl, rfl, h2, r2⟩ := trodAll_cons r1
  obtain ⟨rfl, rfl, rfl⟩ := trodAll_nil r2
  obtain rfl : args = #[v0, v1, v2] := by cases args; simp_all
  obtain ⟨rfl, rfl⟩ := trodVars_none hV
  have lt0 : ∀ x ∈ p0, x.block < W.heap.size := by obtain ⟨m, hm⟩ := h0; exact DataW.trod_lt m _ _ _ hm
  obtain ⟨a0, K0, w0⟩ := o_arg (o_int Try.underlying3) h0
  obtain ⟨b0, rfl⟩ := okWide_int Try.underlying3 (hval 0 3 v0 rfl rfl)
  obtain rfl : a0 = b0 := by have z : (Value.cells (.int .i64 b0)).toList = [.int .i64 a0] := K0; have z2 := z; simp [Value.cells] at z2; exact z2.symm
  have lt1 : ∀ x ∈ p1, x.block < W.heap.size := by obtain ⟨m, hm⟩ := h1; exact DataW.trod_lt m _ _ _ hm
  obtain ⟨a1, K1, w1⟩ := o_arg (o_string Try.underlying9) h1
  obtain ⟨b1, rfl⟩ := okWide_string Try.underlying9 (hval 1 9 v1 rfl rfl)
  obtain rfl : a1 = b1 := by have z : (Value.cells (.string b1)).toList = [.string a1] := K1; have z2 := z; simp [Value.cells] at z2; exact z2.symm
  have lt2 : ∀ x ∈ p2, x.block < W.heap.size := by obtain ⟨m, hm⟩ := h2; exact DataW.trod_lt m _ _ _ hm
  obtain ⟨a2, K2, w2⟩ := o_arg o39 h2
  have F2 : ∃ l, v2.cells.toList = l ∧ k39.K W a2 l := ⟨_, rfl, K2⟩
  obtain ⟨l2, hl2, hK2⟩ := F2
  obtain ⟨_, _, rfl, rfl, ⟨_, _, rfl, rfl, ⟨_, _, rfl, rfl, ⟨Aa2_3, ca2_3, rfl, La2_3, Ca2_3⟩⟩⟩⟩ := hK2
  obtain rfl := agg_of Try.underlying39 (hval 2 39 v2 rfl rfl) hl2
  clear hl2
  clear hA0 hval0 hsz0
  obtain ⟨k, hk⟩ := Pure.BookChecks a0 a1 a2.f0 a2.f1 a2.f2 a2.f3 w0 w1 w2.1 w2.2.1 w2.2.2.1 w2.2.2.2
  refine (wigeonlaw09_BookChecks.calls k a0 a1 a2.f0 a2.f1 a2.f2 _ _ a2.f3 true W Ca2_3 La2_3 hk).mono fun e W' hh => ?_
  obtain ⟨he, bel0⟩ := hh
  have bel : Below W.heap.size W W' := by first | exact bel0 | exact bel0.below
  subst he
  exact ⟨_, rfl, _, _, _, [], _, [], hW', trodAll_mk1 (shut_bool Try.underlying4 _), (trodAll_cons_mk (Below.trod laidOut (by kernel_rfl) (of_decide_eq_true (by kernel_rfl)) h0 bel lt0) (trodAll_cons_mk (Below.trod laidOut (by kernel_rfl) (of_decide_eq_true (by kernel_rfl)) h1 bel lt1) (trodAll_cons_mk (Below.trod laidOut (by kernel_rfl) (of_decide_eq_true (by kernel_rfl)) h2 bel lt2) trodAll_mk0))), rfl, bel.frame _, fun h => by cases h⟩
theorem over : Rows.bookChecksRow.holds Try.pinned (OpenSpec.ofChange Rows.bookChecksSpec) :=
  OpenClaim.holds_of_wide 9 Try.f9 rfl rfl rfl rfl rfl rfl rfl ⟨rfl, rfl, rfl, rfl, rfl⟩ rfl rfl rfl rfl rfl (by kernel_rfl) Try.func9 (by kernel_rfl)
    (of_decide_eq_true (by kernel_rfl)) (by unfold Func.isWrapper; first | (rw [if_pos (by decide +kernel)]; kernel_rfl) | (rw [if_neg (by decide +kernel)]; exact ⟨rfl, rfl⟩))
    (fun os started H enc _ => lifted os started H enc)
theorem proved : Rows.BookChecksSaid := over
#print axioms proved
end Go.Proofs.Ythjdocddohijnaa.bookChecks
namespace Go.Proofs.Ythjdocddohijnaa
/-- The row, under a short name, for the claim. -/
theorem bookChecks_holds : Rows.BookChecksSaid := bookChecks.proved
end Go.Proofs.Ythjdocddohijnaa
