/- Of the text RowLureForces, what the row of LureForces reaches. -/
import Derived.Test.YtnmaonampilmoaaRows
import Derived.Test.YtnmaonampilmoaaZLureForcesLQx21
import Derived.Test.YtnmaonampilmoaaZLureForcesPureLureForces
import Derived.Test.YtnmaonampilmoaaZLureForcesOpens
import Derived.WalkKit
import Derived.ProofKit
import Derived.OpenShut
import Derived.ShutString
import Derived.ChangeOld
import Derived.Below
import Derived.Carry
import Derived.SizedLaws
namespace Go.Proofs.Ytnmaonampilmoaa.lureForces
open Go.ChangeShapes Go.WideShapes Go.ChangeAt Go.RowKit Go.Proofs.Ytnmaonampilmoaa.Opens Go.Proofs.YtnmaonampilmoaaW.PrintWords Go.Proofs.Ytnmaonampilmoaa.LQ
set_option linter.unusedVariables false
theorem own : ownKnob Try.prog.godebug = none := by kernel_rfl
theorem laidOut : laidOutB Try.prog = true := by kernel_rfl
theorem o25 : Opens Try.prog 25 k25 (fun x : S25 => ((x.f0.length ≤ 9223372036854775807 ∧ ∀ x_ ∈ x.f0, (Lit.int .i64 x_).wf = true)) ∧ ((x.f1.length ≤ 9223372036854775807 ∧ ∀ x_ ∈ x.f1, (x_.length ≤ 9223372036854775807 ∧ ∀ x__ ∈ x_, (Lit.int .i64 x__).wf = true)))) := o_struct (n := 2) (fun x : S25 => (x.f0, x.f1)) (fun p => (⟨p.1, p.2⟩ : S25)) (fun _ => rfl) Try.underlying25 (by kernel_rfl) (o_cons rfl (o_slice Try.underlying22 (by kernel_rfl) (o_int Try.underlying3)) (o2 := 1) (by kernel_rfl) (o_one rfl (by kernel_rfl) (o_slice Try.underlying23 (by kernel_rfl) (o_slice Try.underlying22 (by kernel_rfl) (o_int Try.underlying3)))))
structure S40 where
  f0 : List Int
  f1 : List Int
  f2 : Int
  f3 : Int
def k40 : Kd S40 := Kd.iso (Kd.pair (Kd.slice 3 (Kd.int .i64)) (Kd.pair (Kd.slice 3 (Kd.int .i64)) (Kd.pair (Kd.int .i64) ((Kd.int .i64))))) (fun x : S40 => (x.f0, x.f1, x.f2, x.f3))
theorem o40 : Opens Try.prog 40 k40 (fun x : S40 => ((x.f0.length ≤ 9223372036854775807 ∧ ∀ x_ ∈ x.f0, (Lit.int .i64 x_).wf = true)) ∧ ((x.f1.length ≤ 9223372036854775807 ∧ ∀ x_ ∈ x.f1, (Lit.int .i64 x_).wf = true)) ∧ ((Lit.int .i64 x.f2).wf = true) ∧ ((Lit.int .i64 x.f3).wf = true)) := o_struct (n := 4) (fun x : S40 => (x.f0, x.f1, x.f2, x.f3)) (fun p => (⟨p.1, p.2.1, p.2.2.1, p.2.2.2⟩ : S40)) (fun _ => rfl) Try.underlying40 (by kernel_rfl) (o_cons rfl (o_slice Try.underlying22 (by kernel_rfl) (o_int Try.underlying3)) (o2 := 1) (by kernel_rfl) (o_cons rfl (o_slice Try.underlying22 (by kernel_rfl) (o_int Try.underlying3)) (o2 := 2) (by kernel_rfl) (o_cons rfl (o_int Try.underlying3) (o2 := 3) (by kernel_rfl) (o_one rfl (by kernel_rfl) (o_int Try.underlying3)))))
set_option maxRecDepth 100000 in
theorem lifted (os : Os) (started : os.Started) (H : Type) (enc : TypeId × Value → H) :
    ReturnsInHanded {} Try.checked os 14 .any (Rows.lureForcesSpec.pre6 enc Try.prog Try.f14 Rows.lureForcesRow.domain false) (Rows.lureForcesSpec.post enc Try.prog Try.f14 false true false false) := by
  refine returnsInHanded_of_change_sized (C := Try.checked) own started (by kernel_rfl) Try.func14
    (ChangeSpec.witness6 (enc := enc) (C := Try.checked) false ⟨#[], #[.agg #[.slice none 0 0, .slice none 0 0], .slice none 0 0, .agg #[.slice none 0 0, .slice none 0 0, .int .i64 0, .int .i64 0]], []⟩ 8 (by kernel_rfl) (by kernel_rfl) (by kernel_rfl) (by kernel_rfl)) ?_
  intro W base args ds gs before hval0 hW hcnd hsz0 _
  have hval : ∀ (j : Nat) t v, Try.f14.params[j]? = some t → args[j]? = some v → Value.okWide Try.prog W .any base t v := hval0
  have hW' := hW
  obtain ⟨p, q, hA0, hV, rfl, hfz, hnd⟩ := hW
  have hA : DataW.TrodAll enc Try.prog W 0 (fun _ => true) true Try.f14.params.toList args.toList ds p := hA0
  rw [Try.params14] at hA hval
  obtain ⟨v0, vs0, d0, ds0, p0, q0, hargs, rfl, rfl, h0, r0⟩ := trodAll_cons hA
  obtain ⟨v1, vs1, d1, ds1, p1, q1, rfl, rfl, rfl, h1, r1⟩ := trodAll_cons r0
  obtain ⟨v2, vs2, d2, ds2, p2, q2, rfl, rfl, rfl, h2, r2⟩ := trodAll_cons r1
  obtain ⟨rfl, rfl, rfl⟩ := trodAll_nil r2
  obtain rfl : args = #[v0, v1, v2] := by cases args; simp_all
  obtain ⟨rfl, rfl⟩ := trodVars_none hV
  have lt0 : ∀ x ∈ p0, x.block < W.heap.size := by obtain ⟨m, hm⟩ := h0; exact DataW.trod_lt m _ _ _ hm
  obtain ⟨a0, K0, w0⟩ := o_arg o25 h0
  have F0 : ∃ l, v0.cells.toList = l ∧ k25.K W a0 l := ⟨_, rfl, K0⟩
  obtain ⟨l0, hl0, hK0⟩ := F0
  obtain ⟨_, _, rfl, ⟨Aa0_0, ca0_0, rfl, La0_0, Ca0_0⟩, ⟨Aa0_1, ca0_1, rfl, La0_1, Ca0_1⟩⟩ := hK0
  obtain rfl := agg_of Try.underlying25 (hval 0 25 v0 rfl rfl) hl0
  clear hl0
  have lt1 : ∀ x ∈ p1, x.block < W.heap.size := by obtain ⟨m, hm⟩ := h1; exact DataW.trod_lt m _ _ _ hm
  obtain ⟨a1, K1, w1⟩ := o_arg (o_slice Try.underlying22 (by kernel_rfl) (o_int Try.underlying3)) h1
  obtain ⟨A1, len1, cap1, rfl⟩ := okWide_slice Try.underlying22 (hval 1 22 v1 rfl rfl)
  obtain ⟨A1_, c1_, e1, lc1, C1⟩ := K1
  obtain ⟨rfl, rfl, rfl⟩ : A1 = A1_ ∧ len1 = a1.length ∧ cap1 = c1_ := by simpa [Value.cells] using e1
  have lt2 : ∀ x ∈ p2, x.block < W.heap.size := by obtain ⟨m, hm⟩ := h2; exact DataW.trod_lt m _ _ _ hm
  obtain ⟨a2, K2, w2⟩ := o_arg o40 h2
  have F2 : ∃ l, v2.cells.toList = l ∧ k40.K W a2 l := ⟨_, rfl, K2⟩
  obtain ⟨l2, hl2, hK2⟩ := F2
  obtain ⟨_, _, rfl, ⟨Aa2_0, ca2_0, rfl, La2_0, Ca2_0⟩, ⟨_, _, rfl, ⟨Aa2_1, ca2_1, rfl, La2_1, Ca2_1⟩, ⟨_, _, rfl, rfl, rfl⟩⟩⟩ := hK2
  obtain rfl := agg_of Try.underlying40 (hval 2 40 v2 rfl rfl) hl2
  clear hl2
  clear hA0 hval0 hsz0
  obtain ⟨k, hk⟩ := Pure.LureForces a0.f0 a0.f1 a1 a2.f0 a2.f1 a2.f2 a2.f3 w0.1 w0.2 w1 w2.1 w2.2.1 w2.2.2.1 w2.2.2.2
  refine (wigeonlaw04_LureForces.calls k _ _ a0.f0 _ _ a0.f1 _ _ a1 _ _ a2.f0 _ _ a2.f1 a2.f2 a2.f3 true W Ca0_0 La0_0 Ca0_1 La0_1 C1 lc1 Ca2_0 La2_0 Ca2_1 La2_1 hk).mono fun e W' hh => ?_
  obtain ⟨he, bel0⟩ := hh
  have bel : Below W.heap.size W W' := by first | exact bel0 | exact bel0.below
  subst he
  exact ⟨_, rfl, _, _, _, [], _, [], hW', trodAll_mk1 (shut_bool Try.underlying4 _), (trodAll_cons_mk (Below.trod laidOut (by kernel_rfl) (of_decide_eq_true (by kernel_rfl)) h0 bel lt0) (trodAll_cons_mk (Below.trod laidOut (by kernel_rfl) (of_decide_eq_true (by kernel_rfl)) h1 bel lt1) (trodAll_cons_mk (Below.trod laidOut (by kernel_rfl) (of_decide_eq_true (by kernel_rfl)) h2 bel lt2) trodAll_mk0))), rfl, bel.frame _, fun h => by cases h⟩
theorem over : Rows.lureForcesRow.holds Try.pinned (OpenSpec.ofChange Rows.lureForcesSpec) :=
  OpenClaim.holds_of_wide 14 Try.f14 rfl rfl rfl rfl rfl rfl rfl ⟨rfl, rfl, rfl, rfl, rfl⟩ rfl rfl rfl rfl rfl (by kernel_rfl) Try.func14 (by kernel_rfl)
    (of_decide_eq_true (by kernel_rfl)) (by unfold Func.isWrapper; first | (rw [if_pos (by decide +kernel)]; kernel_rfl) | (rw [if_neg (by decide +kernel)]; exact ⟨rfl, rfl⟩))
    (fun os started H enc _ => lifted os started H enc)
theorem proved : Rows.LureForcesSaid := over
#print axioms proved
end Go.Proofs.Ytnmaonampilmoaa.lureForces
namespace Go.Proofs.Ytnmaonampilmoaa
/-- The row, under a short name, for the claim. -/
theorem lureForces_holds : Rows.LureForcesSaid := lureForces.proved
end Go.Proofs.Ytnmaonampilmoaa

