/- Of the text RowTopSights, what the row of TopSights reaches. -/
import Derived.Test.YtieffjkplaajdaaRows
import Derived.Test.YtieffjkplaajdaaZTopSightsSWx36
import Derived.Test.YtieffjkplaajdaaZTopSightsPureTopSights
import Derived.Test.YtieffjkplaajdaaZTopSightsOpens
import Derived.WalkKit
import Derived.ProofKit
import Derived.OpenShut
import Derived.ShutString
import Derived.ChangeOld
import Derived.Below
import Derived.Carry
import Derived.SizedLaws
namespace Go.Proofs.Ytieffjkplaajdaa.topSights
open Go.ChangeShapes Go.WideShapes Go.ChangeAt Go.RowKit Go.Proofs.Ytieffjkplaajdaa.Opens Go.Proofs.YtieffjkplaajdaaW.PrintWords Go.Proofs.Ytieffjkplaajdaa.SW
set_option linter.unusedVariables false
theorem own : ownKnob Try.prog.godebug = none := by kernel_rfl
theorem laidOut : laidOutB Try.prog = true := by kernel_rfl
theorem o25 : Opens Try.prog 25 k25 (fun x : S25 => ((Lit.int .i64 x.f0).wf = true) ∧ ((Lit.int .i64 x.f1).wf = true)) := o_struct (n := 2) (fun x : S25 => (x.f0, x.f1)) (fun p => (⟨p.1, p.2⟩ : S25)) (fun _ => rfl) Try.underlying25 (by kernel_rfl) (o_cons rfl (o_int Try.underlying3) (o2 := 1) (by kernel_rfl) (o_one rfl (by kernel_rfl) (o_int Try.underlying3)))
theorem o48 : Opens Try.prog 48 k48 (fun x : S48 => (((Lit.int .i64 x.f0.f0).wf = true) ∧ ((Lit.int .i64 x.f0.f1).wf = true)) ∧ (((Lit.int .i64 x.f1.f0).wf = true) ∧ ((Lit.int .i64 x.f1.f1).wf = true))) := o_struct (n := 4) (fun x : S48 => (x.f0, x.f1)) (fun p => (⟨p.1, p.2⟩ : S48)) (fun _ => rfl) Try.underlying48 (by kernel_rfl) (o_cons rfl o25 (o2 := 2) (by kernel_rfl) (o_one rfl (by kernel_rfl) o25))
theorem o27 : Opens Try.prog 27 k27 (fun x : S27 => (((Lit.int .i64 x.f0.f0).wf = true) ∧ ((Lit.int .i64 x.f0.f1).wf = true)) ∧ (((Lit.int .i64 x.f1.f0).wf = true) ∧ ((Lit.int .i64 x.f1.f1).wf = true))) := o_struct (n := 4) (fun x : S27 => (x.f0, x.f1)) (fun p => (⟨p.1, p.2⟩ : S27)) (fun _ => rfl) Try.underlying27 (by kernel_rfl) (o_cons rfl o25 (o2 := 2) (by kernel_rfl) (o_one rfl (by kernel_rfl) o25))
structure S29 where
  f0 : List S25
  f1 : S27
  f2 : S25
  f3 : S25
def k29 : Kd S29 := Kd.iso (Kd.pair (Kd.slice 25 k25) (Kd.pair k27 (Kd.pair k25 (k25)))) (fun x : S29 => (x.f0, x.f1, x.f2, x.f3))
theorem o29 : Opens Try.prog 29 k29 (fun x : S29 => ((x.f0.length ≤ 9223372036854775807 ∧ ∀ x_ ∈ x.f0, ((Lit.int .i64 x_.f0).wf = true) ∧ ((Lit.int .i64 x_.f1).wf = true))) ∧ ((((Lit.int .i64 x.f1.f0.f0).wf = true) ∧ ((Lit.int .i64 x.f1.f0.f1).wf = true)) ∧ (((Lit.int .i64 x.f1.f1.f0).wf = true) ∧ ((Lit.int .i64 x.f1.f1.f1).wf = true))) ∧ (((Lit.int .i64 x.f2.f0).wf = true) ∧ ((Lit.int .i64 x.f2.f1).wf = true)) ∧ (((Lit.int .i64 x.f3.f0).wf = true) ∧ ((Lit.int .i64 x.f3.f1).wf = true))) := o_struct (n := 9) (fun x : S29 => (x.f0, x.f1, x.f2, x.f3)) (fun p => (⟨p.1, p.2.1, p.2.2.1, p.2.2.2⟩ : S29)) (fun _ => rfl) Try.underlying29 (by kernel_rfl) (o_cons rfl (o_slice Try.underlying23 (by kernel_rfl) o25) (o2 := 1) (by kernel_rfl) (o_cons rfl o27 (o2 := 5) (by kernel_rfl) (o_cons rfl o25 (o2 := 7) (by kernel_rfl) (o_one rfl (by kernel_rfl) o25))))
set_option maxRecDepth 100000 in
theorem lifted (os : Os) (started : os.Started) (H : Type) (enc : TypeId × Value → H) :
    ReturnsInHanded {} Try.checked os 6 .any (Rows.topSightsSpec.pre6 enc Try.prog Try.f6 Rows.topSightsRow.domain false) (Rows.topSightsSpec.post enc Try.prog Try.f6 false true false false) := by
  refine returnsInHanded_of_change_sized (C := Try.checked) own started (by kernel_rfl) Try.func6
    (ChangeSpec.witness6 (enc := enc) (C := Try.checked) false ⟨#[], #[.slice none 0 0, .agg #[.slice none 0 0, .int .i64 0, .int .i64 0, .int .i64 0, .int .i64 0, .int .i64 0, .int .i64 0, .int .i64 0, .int .i64 0]], []⟩ 8 (by kernel_rfl) (by kernel_rfl) (by kernel_rfl) (by kernel_rfl)) ?_
  intro W base args ds gs before hval0 hW hcnd hsz0 _
  have hval : ∀ (j : Nat) t v, Try.f6.params[j]? = some t → args[j]? = some v → Value.okWide Try.prog W .any base t v := hval0
  have hW' := hW
  obtain ⟨p, q, hA0, hV, rfl, hfz, hnd⟩ := hW
  have hA : DataW.TrodAll enc Try.prog W 0 (fun _ => true) true Try.f6.params.toList args.toList ds p := hA0
  rw [Try.params6] at hA hval
  obtain ⟨v0, vs0, d0, ds0, p0, q0, hargs, rfl, rfl, h0, r0⟩ := trodAll_cons hA
  obtain ⟨v1, vs1, d1, ds1, p1, q1, rfl, rfl, rfl, h1, r1⟩ := trodAll_cons r0
  obtain ⟨rfl, rfl, rfl⟩ := trodAll_nil r1
  obtain rfl : args = #[v0, v1] := by cases args; simp_all
  obtain ⟨rfl, rfl⟩ := trodVars_none hV
  have lt0 : ∀ x ∈ p0, x.block < W.heap.size := by obtain ⟨m, hm⟩ := h0; exact DataW.trod_lt m _ _ _ hm
  obtain ⟨a0, K0, w0⟩ := o_arg (o_slice Try.underlying22 (by kernel_rfl) o48) h0
  obtain ⟨A0, len0, cap0, rfl⟩ := okWide_slice Try.underlying22 (hval 0 22 v0 rfl rfl)
  obtain ⟨A0_, c0_, e0, lc0, C0⟩ := K0
  obtain ⟨rfl, rfl, rfl⟩ : A0 = A0_ ∧ len0 = a0.length ∧ cap0 = c0_ := by simpa [Value.cells] using e0
  have lt1 : ∀ x ∈ p1, x.block < W.heap.size := by obtain ⟨m, hm⟩ := h1; exact DataW.trod_lt m _ _ _ hm
  obtain ⟨a1, K1, w1⟩ := o_arg o29 h1
  have F1 : ∃ l, v1.cells.toList = l ∧ k29.K W a1 l := ⟨_, rfl, K1⟩
  obtain ⟨l1, hl1, hK1⟩ := F1
  obtain ⟨_, _, rfl, ⟨Aa1_0, ca1_0, rfl, La1_0, Ca1_0⟩, ⟨_, _, rfl, ⟨_, _, rfl, ⟨_, _, rfl, rfl, rfl⟩, ⟨_, _, rfl, rfl, rfl⟩⟩, ⟨_, _, rfl, ⟨_, _, rfl, rfl, rfl⟩, ⟨_, _, rfl, rfl, rfl⟩⟩⟩⟩ := hK1
  obtain rfl := agg_of Try.underlying29 (hval 1 29 v1 rfl rfl) hl1
  clear hl1
  clear hA0 hval0 hsz0
  obtain ⟨k, hk⟩ := Pure.TopSights a0 a1.f0 a1.f1.f0.f0 a1.f1.f0.f1 a1.f1.f1.f0 a1.f1.f1.f1 a1.f2.f0 a1.f2.f1 a1.f3.f0 a1.f3.f1 w0 w1.1 w1.2.1.1.1 w1.2.1.1.2 w1.2.1.2.1 w1.2.1.2.2 w1.2.2.1.1 w1.2.2.1.2 w1.2.2.2.1 w1.2.2.2.2
  refine (wigeontop_TopSights.calls k _ _ a0 _ _ a1.f0 a1.f1.f0.f0 a1.f1.f0.f1 a1.f1.f1.f0 a1.f1.f1.f1 a1.f2.f0 a1.f2.f1 a1.f3.f0 a1.f3.f1 true W C0 lc0 Ca1_0 La1_0 hk).mono fun e W' hh => ?_
  obtain ⟨he, bel0⟩ := hh
  have bel : Below W.heap.size W W' := by first | exact bel0 | exact bel0.below
  subst he
  exact ⟨_, rfl, _, _, _, [], _, [], hW', trodAll_mk1 (shut_bool Try.underlying4 _), (trodAll_cons_mk (Below.trod laidOut (by kernel_rfl) (of_decide_eq_true (by kernel_rfl)) h0 bel lt0) (trodAll_cons_mk (Below.trod laidOut (by kernel_rfl) (of_decide_eq_true (by kernel_rfl)) h1 bel lt1) trodAll_mk0)), rfl, bel.frame _, fun h => by cases h⟩
theorem over : Rows.topSightsRow.holds Try.pinned (OpenSpec.ofChange Rows.topSightsSpec) :=
  OpenClaim.holds_of_wide 6 Try.f6 rfl rfl rfl rfl rfl rfl rfl ⟨rfl, rfl, rfl, rfl, rfl⟩ rfl rfl rfl rfl rfl (by kernel_rfl) Try.func6 (by kernel_rfl)
    (of_decide_eq_true (by kernel_rfl)) (by unfold Func.isWrapper; first | (rw [if_pos (by decide +kernel)]; kernel_rfl) | (rw [if_neg (by decide +kernel)]; exact ⟨rfl, rfl⟩))
    (fun os started H enc _ => lifted os started H enc)
theorem proved : Rows.TopSightsSaid := over
#print axioms proved
end Go.Proofs.Ytieffjkplaajdaa.topSights
namespace Go.Proofs.Ytieffjkplaajdaa
/-- The row, under a short name, for the claim. -/
theorem topSights_holds : Rows.TopSightsSaid := topSights.proved
end Go.Proofs.Ytieffjkplaajdaa

