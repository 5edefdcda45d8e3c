/- Plain functions and contracts of Go functions of this seat: written by a program of this session out of Lean's own print of the translation. -/
import Derived.Test.YtdgoaekcgphhbaaCDx0
import Derived.Test.YtdgoaekcgphhbaaCDx4
namespace Go.Proofs.Ytdgoaekcgphhbaa.CD
open Go.RowKit Go.Proofs.YtdgoaekcgphhbaaW.PrintWords Go.Proofs.YtdgoaekcgphhbaaW.PrintLast Go.Proofs.YtdgoaekcgphhbaaW.PrintMore
attribute [local go_sem] max2_int min2_int max_two min_two max_three min_three max_four min_four   -- for this text's walks alone
set_option linter.unusedVariables false
set_option linter.unusedSimpArgs false

/-- what total adds up -/
def totF (v : S61 → Int) (l : List S61) : Int := l.foldl (fun s x => wrap64 (s + v x)) 0
theorem totF_snoc (v : S61 → Int) (l : List S61) (k : Nat) (h : k < l.length) : totF v (l.take (k + 1)) = wrap64 (totF v (l.take k) + v l[k]) := by
  unfold totF
  rw [List.take_succ_eq_append_getElem h, List.foldl_append]; rfl
set_option maxHeartbeats 4000000 in
set_option maxRecDepth 100000 in
theorem count_total_any.calls (g : Nat) (v : S61 → Int) (eg : ∀ args w, (callFunc g args).run Try.prog w = .ok (.enter g args) w)
    (hp : ∀ (x : S61) (W : World), Calls Try.prog g #[.agg #[.int .i64 x.f0, .int .i64 x.f1, .int .i64 x.f2]] W fun e w' => e = .returned (.int .i64 (v x)) ∧ Below W.heap.size W w')
    (A0 : Option Addr) (c0 : Nat) (l0 : List S61) (w : World) (hr0 : Kd.C k61 w A0 l0.length l0) (hc0 : l0.length ≤ c0) :
    Calls Try.prog 53 #[.slice A0 l0.length c0, .func (.func g) #[] #[]] w fun e w' => e = .returned (.int .i64 (totF v l0)) ∧ Below w.heap.size w w' := by
  have hm := hr0.2.1
  have HR := Aside0.mk hr0
  clear hr0
  have hu := Try.underlying61
  go_enter Try.func53, Try.ntmps53
  go_wp2
  go_loopw [5, 10] (fun s i wr => ∃ k : Nat, k ≤ l0.length ∧ i = .int .i64 k ∧ s = .int .i64 (totF v (l0.take k)) ∧ Aside0 (Below w.heap.size w wr)) (fun _ i _ => l0.length - (intOf i).toNat)
  case atStart => exact ⟨0, Nat.zero_le _, rfl, rfl, ⟨Below.refl _ _⟩⟩
  case round =>
    obtain ⟨k, hk, rfl, rfl, HB⟩ := hrel
    by_cases hlt : k < l0.length
    · have hs := Aside0.mk (totF_snoc v l0 k hlt)
      obtain ⟨ad, ha, h1, h2, h3⟩ := at_T61 (Kd.C_below HR.out HB.out) (k : Int) (by omega) (by omega)
      have hx : rd_T61 l0 (k : Int) = l0[k] := by simp [rd_T61, List.getD_eq_getElem?_getD, List.getElem?_eq_getElem hlt]
      rw [hx, Int.toNat_natCast] at h1 h2 h3
      clear hx
      have hcall := hp l0[k]
      clear hp
      generalize l0[k] = x at *
      subst ha
      go_wp2_with fail
      refine (hcall _).mono ?_
      rintro e w1 ⟨rfl, hb⟩
      have HB2 := Aside0.mk hb
      clear hb hcall h1 h2 h3
      go_wp2
      go_roundw
      case rel =>
        exact ⟨k + 1, by omega, by go_num, by rw [hs.out], ⟨below_step (below_alloc HB.out _) HB2.out⟩⟩
      case measure => simp [intOf]; omega
    · go_wp2
      go_ret
      exact ⟨by rw [List.take_of_length_le (by omega)]; rfl, HB.out⟩

def count_total_s1.f (l0 : List S61) : Option Int := some (totF (fun x => x.f2) l0)
theorem count_total_s1.calls (A0 : Option Addr) (c0 : Nat) (l0 : List S61) (r : Int) (w : World) (hr0 : Kd.C k61 w A0 l0.length l0) (hc0 : l0.length ≤ c0) (h : count_total_s1.f l0 = some r) :
    Calls Try.prog 53 #[.slice A0 l0.length c0, .func (.func 54) #[] #[]] w fun e w' => e = .returned (.int .i64 r) ∧ Below w.heap.size w w' := by
  obtain rfl : totF (fun x => x.f2) l0 = r := by unfold count_total_s1.f at h; exact Option.some.inj h
  exact count_total_any.calls 54 (fun x => x.f2) (fenters Try.func54 (by kernel_rfl) rfl) (fun x W => count_Schnabel_1.calls x.f0 x.f1 x.f2 _ W rfl) A0 c0 l0 w hr0 hc0
def count_total_s2.f (l0 : List S61) : Option Int := some (totF (fun x => wrap64 (x.f0 * x.f1)) l0)
theorem count_total_s2.calls (A0 : Option Addr) (c0 : Nat) (l0 : List S61) (r : Int) (w : World) (hr0 : Kd.C k61 w A0 l0.length l0) (hc0 : l0.length ≤ c0) (h : count_total_s2.f l0 = some r) :
    Calls Try.prog 53 #[.slice A0 l0.length c0, .func (.func 55) #[] #[]] w fun e w' => e = .returned (.int .i64 r) ∧ Below w.heap.size w w' := by
  obtain rfl : totF (fun x => wrap64 (x.f0 * x.f1)) l0 = r := by unfold count_total_s2.f at h; exact Option.some.inj h
  exact count_total_any.calls 55 (fun x => wrap64 (x.f0 * x.f1)) (fenters Try.func55 (by kernel_rfl) rfl) (fun x W => count_Schnabel_2.calls x.f0 x.f1 x.f2 _ W rfl) A0 c0 l0 w hr0 hc0

end Go.Proofs.Ytdgoaekcgphhbaa.CD
