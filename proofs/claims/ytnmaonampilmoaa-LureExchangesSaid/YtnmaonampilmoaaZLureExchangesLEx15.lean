/- Of the text LEx15, what the row of LureExchanges reaches. -/
import Derived.Test.YtnmaonampilmoaaZLureExchangesLEx0
import Derived.Test.YtnmaonampilmoaaZLureExchangesLEx7
import Derived.Test.YtnmaonampilmoaaZLureExchangesLEx11
import Derived.Test.YtnmaonampilmoaaZLureExchangesLEx14
namespace Go.Proofs.Ytnmaonampilmoaa.LE
open Go.RowKit Go.Proofs.YtnmaonampilmoaaW.PrintWords Go.Proofs.YtnmaonampilmoaaW.PrintLast Go.Proofs.YtnmaonampilmoaaW.PrintMore
attribute [local go_sem] max2_int min2_int max_two min_two max_three min_three max_four min_four   -- for this text's walks alone
set_option linter.unusedVariables false
set_option linter.unusedSimpArgs false

set_option maxHeartbeats 4000000 in
set_option maxRecDepth 100000 in
theorem before11_calls (bs : Nat) (A : Option Addr) (c : Nat) (set : List Int) (x : Int) (W : World) (h0 : W.cell? ⟨bs, 0, none⟩ = some (.slice A set.length c)) (hr : Kd.C (Kd.int .i64) W A set.length set) (hc : set.length ≤ c) :
    Calls Try.prog 80 (#[.int .i64 x] ++ #[.pointer (some ⟨bs, 0, none⟩)]) W fun e w' => e = .returned (.bool (decide (x ∈ set))) ∧ Below W.heap.size W w' := by
  have K := slices_Contains_int_int.calls (set.length + 1) A c set x _ W hr hc (contains_at set x hr.2.1)
  generalize decide (x ∈ set) = b at K ⊢
  have HK := Aside0.mk K
  clear K hr
  go_enter Try.func80, Try.ntmps80
  go_wp2_with fail
  refine HK.out.mono ?_
  rintro e w1 ⟨rfl, ⟨nd, rfl⟩⟩
  have hb := pw_below_drewN (Below.refl W.heap.size W) nd
  generalize W.drewN nd = w2 at *
  go_wp2
  go_ret
  exact ⟨rfl, hb⟩
set_option maxHeartbeats 4000000 in
set_option maxRecDepth 100000 in
theorem before1_calls (bg bs : Nat) (A0 A1 A : Option Addr) (c0 c1 c : Nat) (own : List Int) (mv : List (List Int)) (set : List Int) (i : Int) (W : World) (hi0 : 0 ≤ i) (hi : i < own.length) (hm : i < mv.length)
    (hg0 : W.cell? ⟨bg, 0, none⟩ = some (.slice A0 own.length c0)) (hg1 : W.cell? ⟨bg, 1, none⟩ = some (.slice A1 mv.length c1)) (h0 : W.cell? ⟨bs, 0, none⟩ = some (.slice A set.length c))
    (hr0 : Kd.C (Kd.int .i64) W A0 own.length own) (hc0 : own.length ≤ c0) (hr1 : Kd.C (Kd.slice 22 (Kd.int .i64)) W A1 mv.length mv) (hc1 : mv.length ≤ c1) (hr : Kd.C (Kd.int .i64) W A set.length set) (hc : set.length ≤ c) :
    Calls Try.prog 79 (#[.int .i64 i] ++ #[.pointer (some ⟨bg, 0, none⟩), .pointer (some ⟨bs, 0, none⟩)]) W fun e w' => e = .returned (.bool (forB own mv i fun x => decide (x ∈ set))) ∧ Below W.heap.size W w' := by
  have hu := Try.underlying25
  have K := forces_calls (fun x => decide (x ∈ set)) 80 #[.pointer (some ⟨bs, 0, none⟩)] (fenters Try.func80 (by kernel_rfl) rfl) own mv A0 A1 c0 c1 i W hi0 hi hm hr0 hc0 hr1 hc1 (fun k W' _ hW => before11_calls bs A c set k W' (pw_cell_below hW h0) (Kd.C_below hr hW) hc)
  generalize (forB own mv i fun x => decide (x ∈ set)) = b at K ⊢
  have HK := Aside0.mk K
  clear K hr hr0 hr1
  go_enter Try.func79, Try.ntmps79
  go_wp2_with fail
  refine HK.out.mono ?_
  rintro e w1 ⟨rfl, hb⟩
  go_wp2
  go_ret
  exact ⟨rfl, hb⟩
/-- whether the man makes sure of p at a place of the game -/
def holdsF (own : List Int) (mv : List (List Int)) (p : Int → Bool) (i : Int) : Option Bool := if 0 ≤ i ∧ i < own.length ∧ i < mv.length then some (forB own mv i p) else none
def lure_before.f (k : Nat) (l0_0 : List Int) (l0_1 : List (List Int)) (l1 : List Int) : Option (List Int) := lure_some.f (holdsF l0_0 l0_1 fun x => decide (x ∈ l1)) k (l0_0.length : Int) 0
set_option maxHeartbeats 4000000 in
set_option maxRecDepth 100000 in
theorem lure_before.calls (k : Nat) (A0_0 : Option Addr) (c0_0 : Nat) (l0_0 : List Int) (A0_1 : Option Addr) (c0_1 : Nat) (l0_1 : List (List Int)) (A1 : Option Addr) (c1 : Nat) (l1 : List Int) (r : List Int) (w : World) (hr0_0 : Kd.C (Kd.int .i64) w A0_0 l0_0.length l0_0) (hc0_0 : l0_0.length ≤ c0_0) (hr0_1 : Kd.C (Kd.slice 22 (Kd.int .i64)) w A0_1 l0_1.length l0_1) (hc0_1 : l0_1.length ≤ c0_1) (hr1 : Kd.C (Kd.int .i64) w A1 l1.length l1) (hc1 : l1.length ≤ c1) (h : lure_before.f k l0_0 l0_1 l1 = some r) :
    Calls Try.prog 59 #[.agg #[.slice A0_0 l0_0.length c0_0, .slice A0_1 l0_1.length c0_1], .slice A1 l1.length c1] w fun e w' => ∃ v0_ : Value, e = .returned (v0_) ∧ Kd.R (Kd.int .i64) 3 w' w.heap.size (fun _ => True) v0_ r ∧ Below w.heap.size w w' := by
  have hu := Try.underlying25
  obtain ⟨q1, q2⟩ := alloc2_cells w #[.slice A0_0 l0_0.length c0_0, .slice A0_1 l0_1.length c0_1] #[.slice A1 l1.length c1] 25 22
  have hb1 : Below w.heap.size w ((w.alloc (.cells #[.slice A0_0 l0_0.length c0_0, .slice A0_1 l0_1.length c0_1] 25)).alloc (.cells #[.slice A1 l1.length c1] 22)) := below_alloc (below_alloc (Below.refl _ w) _) _
  have q10 := q1 0
  have q11 := q1 1
  have q20 := q2 0
  have K := lure_some.calls (holdsF l0_0 l0_1 fun x => decide (x ∈ l1)) 79 #[.pointer (some ⟨w.heap.size, 0, none⟩), .pointer (some ⟨w.heap.size + 1, 0, none⟩)] (fenters Try.func79 (by kernel_rfl) rfl) k (l0_0.length : Int) 0 r _ (fun x b W hW hq => by
    unfold holdsF at hq
    by_cases q : 0 ≤ x ∧ x < l0_0.length ∧ x < l0_1.length
    · rw [if_pos q] at hq
      obtain rfl := Option.some.inj hq
      have hB := below_step hb1 hW
      exact before1_calls w.heap.size (w.heap.size + 1) A0_0 A0_1 A1 c0_0 c0_1 c1 l0_0 l0_1 l1 x W q.1 q.2.1 q.2.2 (pw_cell_below hW (q1 0)) (pw_cell_below hW (q1 1)) (pw_cell_below hW (q2 0)) (Kd.C_below hr0_0 hB) hc0_0 (Kd.C_below hr0_1 hB) hc0_1 (Kd.C_below hr1 hB) hc1
    · rw [if_neg q] at hq; exact absurd hq (by simp)) h
  have HK := Aside0.mk K
  have HB1 := Aside0.mk hb1
  clear K hb1 q1 q2 h hr0_0 hr0_1 hr1
  go_enter Try.func59, Try.ntmps59
  go_wp2_with fail
  refine HK.out.mono ?_
  rintro e w1 ⟨v, rfl, hv, hb⟩
  have HV := Aside0.mk (Kd.R_lower hv HB1.out.size)
  have HB2 := Aside0.mk (below_step HB1.out hb)
  clear hv hb
  go_wp2
  go_ret
  exact ⟨_, rfl, HV.out, HB2.out⟩

end Go.Proofs.Ytnmaonampilmoaa.LE

