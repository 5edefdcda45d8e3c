/- Of the text RowScreenChecks, what the row of ScreenChecks reaches. -/
import Derived.Test.YtgkgednbmfinnaaRows
import Derived.Test.YtgkgednbmfinnaaZScreenChecksSCx30
import Derived.Test.YtgkgednbmfinnaaZScreenChecksPureScreenChecks
import Derived.Test.YtgkgednbmfinnaaZScreenChecksOpens
import Derived.WalkKit
import Derived.ProofKit
import Derived.OpenShut
import Derived.ShutString
import Derived.ChangeOld
import Derived.Below
import Derived.Carry
import Derived.SizedLaws
namespace Go.Proofs.Ytgkgednbmfinnaa.screenChecks
open Go.ChangeShapes Go.WideShapes Go.ChangeAt Go.RowKit Go.Proofs.Ytgkgednbmfinnaa.Opens Go.Proofs.YtgkgednbmfinnaaW.PrintWords Go.Proofs.Ytgkgednbmfinnaa.SC
set_option linter.unusedVariables false
theorem own : ownKnob Try.prog.godebug = none := by kernel_rfl
theorem laidOut : laidOutB Try.prog = true := by kernel_rfl
theorem o23 : Opens Try.prog 23 k23 (fun x : S23 => ((Lit.int .i64 x.f0).wf = true) ∧ ((Lit.int .i64 x.f1).wf = true)) := o_struct (n := 2) (fun x : S23 => (x.f0, x.f1)) (fun p => (⟨p.1, p.2⟩ : S23)) (fun _ => rfl) Try.underlying23 (by kernel_rfl) (o_cons rfl (o_int Try.underlying3) (o2 := 1) (by kernel_rfl) (o_one rfl (by kernel_rfl) (o_int Try.underlying3)))
theorem o55 : Opens Try.prog 55 k55 (fun x : S55 => (((Lit.int .i64 x.f0.f0).wf = true) ∧ ((Lit.int .i64 x.f0.f1).wf = true)) ∧ (((Lit.int .i64 x.f1.f0).wf = true) ∧ ((Lit.int .i64 x.f1.f1).wf = true))) := o_struct (n := 4) (fun x : S55 => (x.f0, x.f1)) (fun p => (⟨p.1, p.2⟩ : S55)) (fun _ => rfl) Try.underlying55 (by kernel_rfl) (o_cons rfl o23 (o2 := 2) (by kernel_rfl) (o_one rfl (by kernel_rfl) o23))
structure S44 where
  f0 : S23
  f1 : S23
def k44 : Kd S44 := Kd.iso (Kd.pair k23 (k23)) (fun x : S44 => (x.f0, x.f1))
theorem o44 : Opens Try.prog 44 k44 (fun x : S44 => (((Lit.int .i64 x.f0.f0).wf = true) ∧ ((Lit.int .i64 x.f0.f1).wf = true)) ∧ (((Lit.int .i64 x.f1.f0).wf = true) ∧ ((Lit.int .i64 x.f1.f1).wf = true))) := o_struct (n := 4) (fun x : S44 => (x.f0, x.f1)) (fun p => (⟨p.1, p.2⟩ : S44)) (fun _ => rfl) Try.underlying44 (by kernel_rfl) (o_cons rfl o23 (o2 := 2) (by kernel_rfl) (o_one rfl (by kernel_rfl) o23))
structure S60 where
  f0 : List S23
  f1 : S44
  f2 : List S23
def k60 : Kd S60 := Kd.iso (Kd.pair (Kd.slice 23 k23) (Kd.pair k44 ((Kd.slice 23 k23)))) (fun x : S60 => (x.f0, x.f1, x.f2))
theorem o60 : Opens Try.prog 60 k60 (fun x : S60 => ((x.f0.length ≤ 9223372036854775807 ∧ ∀ x_ ∈ x.f0, ((Lit.int .i64 x_.f0).wf = true) ∧ ((Lit.int .i64 x_.f1).wf = true))) ∧ ((((Lit.int .i64 x.f1.f0.f0).wf = true) ∧ ((Lit.int .i64 x.f1.f0.f1).wf = true)) ∧ (((Lit.int .i64 x.f1.f1.f0).wf = true) ∧ ((Lit.int .i64 x.f1.f1.f1).wf = true))) ∧ ((x.f2.length ≤ 9223372036854775807 ∧ ∀ x_ ∈ x.f2, ((Lit.int .i64 x_.f0).wf = true) ∧ ((Lit.int .i64 x_.f1).wf = true)))) := o_struct (n := 6) (fun x : S60 => (x.f0, x.f1, x.f2)) (fun p => (⟨p.1, p.2.1, p.2.2⟩ : S60)) (fun _ => rfl) Try.underlying60 (by kernel_rfl) (o_cons rfl (o_slice Try.underlying40 (by kernel_rfl) o23) (o2 := 1) (by kernel_rfl) (o_cons rfl o44 (o2 := 5) (by kernel_rfl) (o_one rfl (by kernel_rfl) (o_slice Try.underlying40 (by kernel_rfl) o23))))
set_option maxRecDepth 100000 in
theorem lifted (os : Os) (started : os.Started) (H : Type) (enc : TypeId × Value → H) :
    ReturnsInHanded {} Try.checked os 10 .any (Rows.screenChecksSpec.pre6 enc Try.prog Try.f10 Rows.screenChecksRow.domain false) (Rows.screenChecksSpec.post enc Try.prog Try.f10 false true false false) := by
  refine returnsInHanded_of_change_sized (C := Try.checked) own started (by kernel_rfl) Try.func10
    (ChangeSpec.witness6 (enc := enc) (C := Try.checked) false ⟨#[], #[.slice none 0 0, .agg #[.slice none 0 0, .int .i64 0, .int .i64 0, .int .i64 0, .int .i64 0, .slice none 0 0]], []⟩ 8 (by kernel_rfl) (by kernel_rfl) (by kernel_rfl) (by kernel_rfl)) ?_
  intro W base args ds gs before hval0 hW hcnd hsz0 _
  have hval : ∀ (j : Nat) t v, Try.f10.params[j]? = some t → args[j]? = some v → Value.okWide Try.prog W .any base t v := hval0
  have hW' := hW
  obtain ⟨p, q, hA0, hV, rfl, hfz, hnd⟩ := hW
  have hA : DataW.TrodAll enc Try.prog W 0 (fun _ => true) true Try.f10.params.toList args.toList ds p := hA0
  rw [Try.params10] at hA hval
  obtain ⟨v0, vs0, d0, ds0, p0, q0, hargs, rfl, rfl, h0, r0⟩ := trodAll_cons hA
  obtain ⟨v1, vs1, d1, ds1, p1, q1, rfl, rfl, rfl, h1, r1⟩ := trodAll_cons r0
  obtain ⟨rfl, rfl, rfl⟩ := trodAll_nil r1
  obtain rfl : args = #[v0, v1] := by cases args; simp_all
  obtain ⟨rfl, rfl⟩ := trodVars_none hV
  have lt0 : ∀ x ∈ p0, x.block < W.heap.size := by obtain ⟨m, hm⟩ := h0; exact DataW.trod_lt m _ _ _ hm
  obtain ⟨a0, K0, w0⟩ := o_arg (o_slice Try.underlying31 (by kernel_rfl) o55) h0
  obtain ⟨A0, len0, cap0, rfl⟩ := okWide_slice Try.underlying31 (hval 0 31 v0 rfl rfl)
  obtain ⟨A0_, c0_, e0, lc0, C0⟩ := K0
  obtain ⟨rfl, rfl, rfl⟩ : A0 = A0_ ∧ len0 = a0.length ∧ cap0 = c0_ := by simpa [Value.cells] using e0
  have lt1 : ∀ x ∈ p1, x.block < W.heap.size := by obtain ⟨m, hm⟩ := h1; exact DataW.trod_lt m _ _ _ hm
  obtain ⟨a1, K1, w1⟩ := o_arg o60 h1
  have F1 : ∃ l, v1.cells.toList = l ∧ k60.K W a1 l := ⟨_, rfl, K1⟩
  obtain ⟨l1, hl1, hK1⟩ := F1
  obtain ⟨_, _, rfl, ⟨Aa1_0, ca1_0, rfl, La1_0, Ca1_0⟩, ⟨_, _, rfl, ⟨_, _, rfl, ⟨_, _, rfl, rfl, rfl⟩, ⟨_, _, rfl, rfl, rfl⟩⟩, ⟨Aa1_2, ca1_2, rfl, La1_2, Ca1_2⟩⟩⟩ := hK1
  obtain rfl := agg_of Try.underlying60 (hval 1 60 v1 rfl rfl) hl1
  clear hl1
  clear hA0 hval0 hsz0
  obtain ⟨k, hk⟩ := Pure.ScreenChecks a0 a1.f0 a1.f1.f0.f0 a1.f1.f0.f1 a1.f1.f1.f0 a1.f1.f1.f1 a1.f2 w0 w1.1 w1.2.1.1.1 w1.2.1.1.2 w1.2.1.2.1 w1.2.1.2.2 w1.2.2
  refine (wigeonlaw02_ScreenChecks.calls k _ _ a0 _ _ a1.f0 a1.f1.f0.f0 a1.f1.f0.f1 a1.f1.f1.f0 a1.f1.f1.f1 _ _ a1.f2 true W C0 lc0 Ca1_0 La1_0 Ca1_2 La1_2 hk).mono fun e W' hh => ?_
  obtain ⟨he, bel0⟩ := hh
  have bel : Below W.heap.size W W' := by first | exact bel0 | exact bel0.below
  subst he
  exact ⟨_, rfl, _, _, _, [], _, [], hW', trodAll_mk1 (shut_bool Try.underlying4 _), (trodAll_cons_mk (Below.trod laidOut (by kernel_rfl) (of_decide_eq_true (by kernel_rfl)) h0 bel lt0) (trodAll_cons_mk (Below.trod laidOut (by kernel_rfl) (of_decide_eq_true (by kernel_rfl)) h1 bel lt1) trodAll_mk0)), rfl, bel.frame _, fun h => by cases h⟩
theorem over : Rows.screenChecksRow.holds Try.pinned (OpenSpec.ofChange Rows.screenChecksSpec) :=
  OpenClaim.holds_of_wide 10 Try.f10 rfl rfl rfl rfl rfl rfl rfl ⟨rfl, rfl, rfl, rfl, rfl⟩ rfl rfl rfl rfl rfl (by kernel_rfl) Try.func10 (by kernel_rfl)
    (of_decide_eq_true (by kernel_rfl)) (by unfold Func.isWrapper; first | (rw [if_pos (by decide +kernel)]; kernel_rfl) | (rw [if_neg (by decide +kernel)]; exact ⟨rfl, rfl⟩))
    (fun os started H enc _ => lifted os started H enc)
theorem proved : Rows.ScreenChecksSaid := over
#print axioms proved
end Go.Proofs.Ytgkgednbmfinnaa.screenChecks
namespace Go.Proofs.Ytgkgednbmfinnaa
/-- The row, under a short name, for the claim. -/
theorem screenChecks_holds : Rows.ScreenChecksSaid := screenChecks.proved
end Go.Proofs.Ytgkgednbmfinnaa

