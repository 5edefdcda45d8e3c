/- Of the text LTx12, what the row of LureTexts reaches. -/
import Derived.Test.YtjiheojjfnfmaaaDoorZLureTextsLTx0
import Derived.Test.YtjiheojjfnfmaaaDoorZLureTextsLTx1
import Derived.Test.YtjiheojjfnfmaaaDoorZLureTextsLTx8
import Derived.Test.YtjiheojjfnfmaaaDoorZLureTextsLTx9
import Derived.Test.YtjiheojjfnfmaaaDoorZLureTextsLTx11
namespace Go.Proofs.YtjiheojjfnfmaaaDoor.LT
open Go.RowKit Go.Proofs.YtjiheojjfnfmaaaDoorW.PrintWords Go.Proofs.YtjiheojjfnfmaaaDoorW.PrintLast Go.Proofs.YtjiheojjfnfmaaaDoorW.PrintMore
attribute [local go_sem] max2_int min2_int max_two min_two max_three min_three max_four min_four   -- for this text's walks alone
set_option linter.unusedVariables false
set_option linter.unusedSimpArgs false

set_option maxHeartbeats 4000000 in
set_option maxRecDepth 100000 in
theorem ranked1_calls (bl blo bhi : Nat) (A : Option Addr) (c n : Nat) (l : List Int) (lo hi i : Int) (r : Bool) (W : World) (h0 : W.cell? ⟨bl, 0, none⟩ = some (.slice A n c)) (hl : W.cell? ⟨blo, 0, none⟩ = some (.int .i64 lo)) (hh : W.cell? ⟨bhi, 0, none⟩ = some (.int .i64 hi))
    (hr : Kd.C (Kd.int .i64) W A n l) (hi0 : 0 ≤ i) (hi1 : i < (n : Int)) (hq : lure_within.f (rd l i) lo hi = some r) :
    Calls Tryd.prog 81 (#[.int .i64 i] ++ #[.pointer (some ⟨bl, 0, none⟩), .pointer (some ⟨blo, 0, none⟩), .pointer (some ⟨bhi, 0, none⟩)]) W fun e w' => e = .returned (.bool r) ∧ Below W.heap.size W w' := by
  obtain ⟨ad, rfl, hc⟩ := Kd.at_int hr i hi0 hi1
  have hb := below_drew1 (Below.refl W.heap.size W)
  have HQ := Aside0.mk hq
  clear hr hq
  go_enter Tryd.func81, Tryd.ntmps81
  go_wp2_with fail
  go_still_tail 6, (by kernel_rfl)
  change wpList _ _ _ _ _ W.drew
  generalize W.drew = w2 at *
  go_wp2_with fail
  refine (lure_within.calls _ _ _ r w2 HQ.out).mono ?_
  rintro e w1 ⟨rfl, ⟨nd, rfl⟩⟩
  have hb2 := pw_below_drewN hb nd
  generalize w2.drewN nd = w3 at *
  go_wp2
  go_ret
  exact ⟨rfl, hb2⟩
theorem alloc3_cells (w : World) (c1 c2 c3 : Array Value) (t1 t2 t3 : TypeId) : (∀ i, (((w.alloc (.cells c1 t1)).alloc (.cells c2 t2)).alloc (.cells c3 t3)).cell? ⟨w.heap.size, i, none⟩ = c1[i]?) ∧ (∀ i, (((w.alloc (.cells c1 t1)).alloc (.cells c2 t2)).alloc (.cells c3 t3)).cell? ⟨w.heap.size + 1, i, none⟩ = c2[i]?) ∧ (∀ i, (((w.alloc (.cells c1 t1)).alloc (.cells c2 t2)).alloc (.cells c3 t3)).cell? ⟨w.heap.size + 1 + 1, i, none⟩ = c3[i]?) := by
  obtain ⟨a, b⟩ := alloc2_cells w c1 c2 t1 t2
  have e1 := alloc_size w (.cells c1 t1)
  have e2 := alloc_size (w.alloc (.cells c1 t1)) (.cells c2 t2)
  refine ⟨fun i => ?_, fun i => ?_, fun i => ?_⟩
  · rw [World.cell?_alloc_lt _ _ _ (by simp only; omega)]; exact a i
  · rw [World.cell?_alloc_lt _ _ _ (by simp only; omega)]; exact b i
  · rw [← e1, ← e2]; exact World.cell?_alloc_new ..
def rankedF (l : List Int) (lo hi : Int) (i : Int) : Option Bool := if 0 ≤ i ∧ i < l.length then lure_within.f (rd l i) lo hi else none
def lure_ranked.f (k : Nat) (l0_0 : List Int) (l0_1 : List (List Int)) (l1 : List Int) (a2 : Int) (a3 : Int) : Option (List Int) := (lure_ranks.f k l0_0 l0_1 l1).bind fun l => lure_some.f (rankedF l a2 a3) k (l.length : Int) 0
theorem lure_ranked.mono (l0_0 : List Int) (l0_1 : List (List Int)) (l1 : List Int) (a2 a3 : Int) (k : Nat) : LeO (lure_ranked.f k l0_0 l0_1 l1 a2 a3) (lure_ranked.f (k + 1) l0_0 l0_1 l1 a2 a3) := by
  unfold lure_ranked.f
  exact LeO.bind (lure_ranks.mono _ _ _ _) (fun _ => lure_some.mono _ _ _ _)
set_option maxHeartbeats 4000000 in
set_option maxRecDepth 100000 in
theorem lure_ranked.calls (k : Nat) (A0_0 : Option Addr) (c0_0 : Nat) (l0_0 : List Int) (A0_1 : Option Addr) (c0_1 : Nat) (l0_1 : List (List Int)) (A1 : Option Addr) (c1 : Nat) (l1 : List Int) (a2 : Int) (a3 : Int) (r : List Int) (w : World) (hr0_0 : Kd.C (Kd.int .i64) w A0_0 l0_0.length l0_0) (hc0_0 : l0_0.length ≤ c0_0) (hr0_1 : Kd.C (Kd.slice 32 (Kd.int .i64)) w A0_1 l0_1.length l0_1) (hc0_1 : l0_1.length ≤ c0_1) (hr1 : Kd.C (Kd.int .i64) w A1 l1.length l1) (hc1 : l1.length ≤ c1) (h : lure_ranked.f k l0_0 l0_1 l1 a2 a3 = some r) :
    Calls Tryd.prog 52 #[.agg #[.slice A0_0 l0_0.length c0_0, .slice A0_1 l0_1.length c0_1], .slice A1 l1.length c1, .int .i64 a2, .int .i64 a3] w fun e w' => ∃ v0_ : Value, e = .returned (v0_) ∧ Kd.R (Kd.int .i64) 3 w' w.heap.size (fun _ => True) v0_ r ∧ Below w.heap.size w w' := by
  have hu := Tryd.underlying35
  obtain ⟨l, A1', h⟩ := Option.bind_eq_some_iff.mp h
  obtain ⟨q1, q2, q3⟩ := alloc3_cells w #[.slice A0_0 l0_0.length c0_0, .slice A0_1 l0_1.length c0_1] #[.int .i64 a2] #[.int .i64 a3] 35 3 3
  have hb1 : Below w.heap.size w (((w.alloc (.cells #[.slice A0_0 l0_0.length c0_0, .slice A0_1 l0_1.length c0_1] 35)).alloc (.cells #[.int .i64 a2] 3)).alloc (.cells #[.int .i64 a3] 3)) := below_alloc (below_alloc (below_alloc (Below.refl _ w) _) _) _
  have q10 := q1 0
  have q11 := q1 1
  have Q2 := Aside0.mk (q2 0)
  have Q3 := Aside0.mk (q3 0)
  have K := lure_ranks.calls k A0_0 c0_0 l0_0 A0_1 c0_1 l0_1 A1 c1 l1 l _ (Kd.C_below hr0_0 hb1) hc0_0 (Kd.C_below hr0_1 hb1) hc0_1 (Kd.C_below hr1 hb1) hc1 A1'
  have HK := Aside0.mk K
  have HB1 := Aside0.mk hb1
  have HF := Aside0.mk h
  clear K hb1 q1 q2 q3 h hr0_0 hr0_1 hr1 A1'
  go_enter Tryd.func52, Tryd.ntmps52
  go_wp2_with fail
  refine HK.out.mono ?_
  rintro e w1 ⟨v, rfl, hv, hb⟩
  obtain ⟨A, c, rfl, hlc, hC⟩ := Kd.R_reads hv
  have b2 := below_alloc (Below.refl _ w1) (.cells #[.slice A l.length c] 32)
  have K2 := lure_some.calls (rankedF l a2 a3) 81 #[.pointer (some ⟨w1.heap.size, 0, none⟩), .pointer (some ⟨w.heap.size + 1, 0, none⟩), .pointer (some ⟨w.heap.size + 1 + 1, 0, none⟩)] (fenters Tryd.func81 (by kernel_rfl) rfl) k (l.length : Int) 0 r (w1.alloc (.cells #[.slice A l.length c] 32)) (fun x b W hW hq => by
    unfold rankedF at hq
    by_cases q : 0 ≤ x ∧ x < l.length
    · rw [if_pos q] at hq
      exact ranked1_calls w1.heap.size (w.heap.size + 1) (w.heap.size + 1 + 1) A c l.length l a2 a3 x b W (pw_cell_below hW (World.cell?_alloc_new ..)) (pw_cell_below hW (pw_cell_below b2 (pw_cell_below hb Q2.out))) (pw_cell_below hW (pw_cell_below b2 (pw_cell_below hb Q3.out))) (Kd.C_below (Kd.C_below hC b2) hW) q.1 q.2 hq
    · rw [if_neg q] at hq; exact absurd hq (by simp)) HF.out
  have hn : (w1.alloc (.cells #[.slice A l.length c] 32)).cell? ⟨w1.heap.size, 0, none⟩ = some (.slice A l.length c) := World.cell?_alloc_new ..
  have HK2 := Aside0.mk K2
  have HB2 := Aside0.mk (below_step (below_step HB1.out hb) b2)
  clear K2 hv hb b2 hC HF HK q10 q11
  go_wp2_with fail
  refine HK2.out.mono ?_
  rintro e w3 ⟨v, rfl, hv, hb⟩
  have HV := Aside0.mk (Kd.R_lower hv HB2.out.size)
  have HB3 := Aside0.mk (below_step HB2.out hb)
  clear hv hb
  go_wp2
  go_ret
  exact ⟨_, rfl, HV.out, HB3.out⟩

end Go.Proofs.YtjiheojjfnfmaaaDoor.LT

