/- Of the text STx5, what the row of ScreenTexts reaches. -/
import Derived.Test.YtjiheojjfnfmaaaDoorZScreenTextsSTx0
namespace Go.Proofs.YtjiheojjfnfmaaaDoor.ST
open Go.RowKit Go.Proofs.YtjiheojjfnfmaaaDoorW.PrintWords Go.Proofs.YtjiheojjfnfmaaaDoorW.PrintLast Go.Proofs.YtjiheojjfnfmaaaDoorW.PrintMore
attribute [local go_sem] max2_int min2_int max_two min_two max_three min_three max_four min_four   -- for this text's walks alone
set_option linter.unusedVariables false
set_option linter.unusedSimpArgs false

/-- the first place of which p holds, or -1 -/
def idxF_point (p : S44 → Bool) (l : List (S44)) : Int := match l.findIdx? p with
  | some i => i
  | none => -1
theorem idxF_point_any (p : S44 → Bool) (l : List (S44)) : decide (idxF_point p l ≥ 0) = l.any p := by
  unfold idxF_point
  cases h : l.findIdx? p with
  | none =>
    have := List.findIdx?_eq_none_iff.1 h
    rw [show l.any p = false from List.any_eq_false.2 (fun x hx => by simp [this x hx])]; rfl
  | some i =>
    obtain ⟨hi, hp, _⟩ := List.findIdx?_eq_some_iff_getElem.1 h
    rw [show l.any p = true from List.any_eq_true.2 ⟨l[i], List.getElem_mem hi, hp⟩]
    exact decide_eq_true (Int.natCast_nonneg i)
set_option maxHeartbeats 4000000 in
set_option maxRecDepth 100000 in
theorem IndexFunc_point (g : Nat) (lb : Array Value) (eg : ∀ args w, (callFunc g args).run Tryd.prog w = .ok (.enter g args) w) (p : S44 → Bool) (w : World) (l : List (S44))
    (hp : ∀ (x : S44) (W : World), x ∈ l → Below w.heap.size w W → Calls Tryd.prog g (#[.agg #[.int .i64 x.f0, .int .i64 x.f1]] ++ lb) W fun e w' => e = .returned (.bool (p x)) ∧ Below W.heap.size W w')
    (A : Option Addr) (c : Nat) (hr : Kd.C k44 w A l.length l) (hc : l.length ≤ c) :
    Calls Tryd.prog 85 #[.slice A l.length c, .func (.func g) #[] lb] w fun e w' => e = .returned (.int .i64 (idxF_point p l)) ∧ Below w.heap.size w w' := by
  have hm := hr.2.1
  have HR := Aside0.mk hr
  clear hr
  go_enter Tryd.func85, Tryd.ntmps85
  go_wp2
  go_loopg [5, 8] l.length (fun gg _ i wr => ∃ k : Nat, k ≤ l.length ∧ l.length - k ≤ gg ∧ i = .int .i64 k ∧ Aside0 (Below w.heap.size w wr) ∧ Aside0 (∀ (j : Nat) (hj : j < l.length), j < k → p l[j] = false))
  case atStart => exact ⟨0, Nat.zero_le _, by omega, rfl, ⟨Below.refl _ _⟩, ⟨fun j hj h => by omega⟩⟩
  case round =>
    obtain ⟨k, hk, hgg, rfl, HB, HN⟩ := hrel
    by_cases hlt : k < l.length
    · have hltz : (k : Int) < (l.length : Int) := by omega
      obtain ⟨ad, ha, h1, h2⟩ := at_T44 (Kd.C_below HR.out HB.out) (k : Int) (by omega) (by omega)
      have hx : rd_T44 l (k : Int) = l[k] := by simp [rd_T44, List.getD_eq_getElem?_getD, List.getElem?_eq_getElem hlt]
      rw [hx, Int.toNat_natCast] at h1 h2
      clear hx
      have hcall := hp l[k] wr (List.getElem_mem hlt) HB.out
      have HX : Aside0 (p l[k] = p l[k]) := ⟨rfl⟩
      clear hp
      generalize hy : l[k] = x at h1 h2 hcall HX
      have HY := Aside0.mk hy
      clear hy
      subst ha
      cases hq : p x with
      | true =>
        rw [hq] at hcall
        go_wp2_with fail
        refine hcall.mono ?_
        rintro e w1 ⟨rfl, hb⟩
        go_wp2
        go_ret
        refine ⟨?_, below_step HB.out hb⟩
        have e : l.findIdx? p = some k := List.findIdx?_eq_some_iff_getElem.2 ⟨hlt, by rw [HY.out]; exact hq, fun j hj => by rw [HN.out j (by omega) hj]; simp⟩
        unfold idxF_point
        rw [e]
        rfl
      | false =>
        rw [hq] at hcall
        go_wp2_with fail
        refine hcall.mono ?_
        rintro e w1 ⟨rfl, hb⟩
        have HB2 := Aside0.mk (below_step HB.out hb)
        clear hb hcall h1 h2
        go_wp2
        go_roundg (l.length - (k + 1))
        case measure => omega
        case rel =>
          refine ⟨k + 1, by omega, by omega, by go_num, HB2, ⟨fun j hj h => ?_⟩⟩
          by_cases e : j = k
          · subst e; rw [HY.out]; exact hq
          · exact HN.out j hj (by omega)
    · have hltz : ¬ (k : Int) < (l.length : Int) := by omega
      go_wp2
      go_ret
      refine ⟨?_, HB.out⟩
      have e : l.findIdx? p = none := List.findIdx?_eq_none_iff.2 (fun x hx => by
        obtain ⟨j, hj, rfl⟩ := List.getElem_of_mem hx
        exact HN.out j hj (by omega))
      unfold idxF_point
      rw [e]
      rfl
set_option maxHeartbeats 4000000 in
theorem ContainsFunc_point (g : Nat) (lb : Array Value) (eg : ∀ args w, (callFunc g args).run Tryd.prog w = .ok (.enter g args) w) (p : S44 → Bool) (w : World) (l : List (S44))
    (hp : ∀ (x : S44) (W : World), x ∈ l → Below w.heap.size w W → Calls Tryd.prog g (#[.agg #[.int .i64 x.f0, .int .i64 x.f1]] ++ lb) W fun e w' => e = .returned (.bool (p x)) ∧ Below W.heap.size W w')
    (A : Option Addr) (c : Nat) (hr : Kd.C k44 w A l.length l) (hc : l.length ≤ c) :
    Calls Tryd.prog 60 #[.slice A l.length c, .func (.func g) #[] lb] w fun e w' => e = .returned (.bool (l.any p)) ∧ Below w.heap.size w w' := by
  have hI := IndexFunc_point g lb eg p w l hp A c hr hc
  clear hp hr
  rw [← idxF_point_any p l]
  generalize idxF_point p l = i at *
  go_enter Tryd.func60, Tryd.ntmps60
  go_wp2_with fail
  refine hI.mono ?_
  rintro e w1 ⟨rfl, hb⟩
  go_wp2
  go_ret
  exact ⟨rfl, hb⟩

end Go.Proofs.YtjiheojjfnfmaaaDoor.ST

