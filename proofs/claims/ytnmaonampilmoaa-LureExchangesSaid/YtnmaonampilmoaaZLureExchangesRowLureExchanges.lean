/- Of the text RowLureExchanges, what the row of LureExchanges reaches. -/
import Derived.Test.YtnmaonampilmoaaRows
import Derived.Test.YtnmaonampilmoaaZLureExchangesLEx22
import Derived.Test.YtnmaonampilmoaaZLureExchangesPureLureExchanges
import Derived.Test.YtnmaonampilmoaaZLureExchangesOpens
import Derived.WalkKit
import Derived.ProofKit
import Derived.OpenShut
import Derived.ShutString
import Derived.ChangeOld
import Derived.Below
import Derived.Carry
import Derived.SizedLaws
namespace Go.Proofs.Ytnmaonampilmoaa.lureExchanges
open Go.ChangeShapes Go.WideShapes Go.ChangeAt Go.RowKit Go.Proofs.Ytnmaonampilmoaa.Opens Go.Proofs.YtnmaonampilmoaaW.PrintWords Go.Proofs.Ytnmaonampilmoaa.LE
set_option linter.unusedVariables false
theorem own : ownKnob Try.prog.godebug = none := by kernel_rfl
theorem laidOut : laidOutB Try.prog = true := by kernel_rfl
theorem o25 : Opens Try.prog 25 k25 (fun x : S25 => ((x.f0.length ≤ 9223372036854775807 ∧ ∀ x_ ∈ x.f0, (Lit.int .i64 x_).wf = true)) ∧ ((x.f1.length ≤ 9223372036854775807 ∧ ∀ x_ ∈ x.f1, (x_.length ≤ 9223372036854775807 ∧ ∀ x__ ∈ x_, (Lit.int .i64 x__).wf = true)))) := o_struct (n := 2) (fun x : S25 => (x.f0, x.f1)) (fun p => (⟨p.1, p.2⟩ : S25)) (fun _ => rfl) Try.underlying25 (by kernel_rfl) (o_cons rfl (o_slice Try.underlying22 (by kernel_rfl) (o_int Try.underlying3)) (o2 := 1) (by kernel_rfl) (o_one rfl (by kernel_rfl) (o_slice Try.underlying23 (by kernel_rfl) (o_slice Try.underlying22 (by kernel_rfl) (o_int Try.underlying3)))))
set_option maxRecDepth 100000 in
theorem lifted (os : Os) (started : os.Started) (H : Type) (enc : TypeId × Value → H) :
    ReturnsInHanded {} Try.checked os 13 .any (Rows.lureExchangesSpec.pre6 enc Try.prog Try.f13 Rows.lureExchangesRow.domain false) (Rows.lureExchangesSpec.post enc Try.prog Try.f13 false true false false) := by
  refine returnsInHanded_of_change_sized (C := Try.checked) own started (by kernel_rfl) Try.func13
    (ChangeSpec.witness6 (enc := enc) (C := Try.checked) false ⟨#[], #[.agg #[.slice none 0 0, .slice none 0 0], .slice none 0 0], []⟩ 8 (by kernel_rfl) (by kernel_rfl) (by kernel_rfl) (by kernel_rfl)) ?_
  intro W base args ds gs before hval0 hW hcnd hsz0 _
  have hval : ∀ (j : Nat) t v, Try.f13.params[j]? = some t → args[j]? = some v → Value.okWide Try.prog W .any base t v := hval0
  have hW' := hW
  obtain ⟨p, q, hA0, hV, rfl, hfz, hnd⟩ := hW
  have hA : DataW.TrodAll enc Try.prog W 0 (fun _ => true) true Try.f13.params.toList args.toList ds p := hA0
  rw [Try.params13] at hA hval
  obtain ⟨v0, vs0, d0, ds0, p0, q0, hargs, rfl, rfl, h0, r0⟩ := trodAll_cons hA
  obtain ⟨v1, vs1, d1, ds1, p1, q1, rfl, rfl, rfl, h1, r1⟩ := trodAll_cons r0
  obtain ⟨rfl, rfl, rfl⟩ := trodAll_nil r1
  obtain rfl : args = #[v0, v1] := by cases args; simp_all
  obtain ⟨rfl, rfl⟩ := trodVars_none hV
  have lt0 : ∀ x ∈ p0, x.block < W.heap.size := by obtain ⟨m, hm⟩ := h0; exact DataW.trod_lt m _ _ _ hm
  obtain ⟨a0, K0, w0⟩ := o_arg o25 h0
  have F0 : ∃ l, v0.cells.toList = l ∧ k25.K W a0 l := ⟨_, rfl, K0⟩
  obtain ⟨l0, hl0, hK0⟩ := F0
  obtain ⟨_, _, rfl, ⟨Aa0_0, ca0_0, rfl, La0_0, Ca0_0⟩, ⟨Aa0_1, ca0_1, rfl, La0_1, Ca0_1⟩⟩ := hK0
  obtain rfl := agg_of Try.underlying25 (hval 0 25 v0 rfl rfl) hl0
  clear hl0
  have lt1 : ∀ x ∈ p1, x.block < W.heap.size := by obtain ⟨m, hm⟩ := h1; exact DataW.trod_lt m _ _ _ hm
  obtain ⟨a1, K1, w1⟩ := o_arg (o_slice Try.underlying22 (by kernel_rfl) (o_int Try.underlying3)) h1
  obtain ⟨A1, len1, cap1, rfl⟩ := okWide_slice Try.underlying22 (hval 1 22 v1 rfl rfl)
  obtain ⟨A1_, c1_, e1, lc1, C1⟩ := K1
  obtain ⟨rfl, rfl, rfl⟩ : A1 = A1_ ∧ len1 = a1.length ∧ cap1 = c1_ := by simpa [Value.cells] using e1
  clear hA0 hval0 hsz0
  obtain ⟨k, hk⟩ := Pure.LureExchanges a0.f0 a0.f1 a1 w0.1 w0.2 w1
  refine (wigeonlaw04_LureExchanges.calls k _ _ a0.f0 _ _ a0.f1 _ _ a1 true W Ca0_0 La0_0 Ca0_1 La0_1 C1 lc1 hk).mono fun e W' hh => ?_
  obtain ⟨he, bel0⟩ := hh
  have bel : Below W.heap.size W W' := by first | exact bel0 | exact bel0.below
  subst he
  exact ⟨_, rfl, _, _, _, [], _, [], hW', trodAll_mk1 (shut_bool Try.underlying4 _), (trodAll_cons_mk (Below.trod laidOut (by kernel_rfl) (of_decide_eq_true (by kernel_rfl)) h0 bel lt0) (trodAll_cons_mk (Below.trod laidOut (by kernel_rfl) (of_decide_eq_true (by kernel_rfl)) h1 bel lt1) trodAll_mk0)), rfl, bel.frame _, fun h => by cases h⟩
theorem over : Rows.lureExchangesRow.holds Try.pinned (OpenSpec.ofChange Rows.lureExchangesSpec) :=
  OpenClaim.holds_of_wide 13 Try.f13 rfl rfl rfl rfl rfl rfl rfl ⟨rfl, rfl, rfl, rfl, rfl⟩ rfl rfl rfl rfl rfl (by kernel_rfl) Try.func13 (by kernel_rfl)
    (of_decide_eq_true (by kernel_rfl)) (by unfold Func.isWrapper; first | (rw [if_pos (by decide +kernel)]; kernel_rfl) | (rw [if_neg (by decide +kernel)]; exact ⟨rfl, rfl⟩))
    (fun os started H enc _ => lifted os started H enc)
theorem proved : Rows.LureExchangesSaid := over
#print axioms proved
end Go.Proofs.Ytnmaonampilmoaa.lureExchanges
namespace Go.Proofs.Ytnmaonampilmoaa
/-- The row, under a short name, for the claim. -/
theorem lureExchanges_holds : Rows.LureExchangesSaid := lureExchanges.proved
end Go.Proofs.Ytnmaonampilmoaa

