/- Of the text SWx14, what the row of TopSights reaches. -/
import Derived.Test.YtieffjkplaajdaaZTopSightsSWx0
import Derived.Test.YtieffjkplaajdaaZTopSightsSWx4
import Derived.Test.YtieffjkplaajdaaZTopSightsSWx12
namespace Go.Proofs.Ytieffjkplaajdaa.SW
open Go.RowKit Go.Proofs.YtieffjkplaajdaaW.PrintWords Go.Proofs.YtieffjkplaajdaaW.PrintLast Go.Proofs.YtieffjkplaajdaaW.PrintMore
attribute [local go_sem] max2_int min2_int max_two min_two max_three min_three max_four min_four   -- for this text's walks alone
set_option linter.unusedVariables false
set_option linter.unusedSimpArgs false

set_option maxHeartbeats 4000000 in
set_option maxRecDepth 100000 in
theorem hidden1_calls (bl bp : Nat) (A0 : Option Addr) (c0 : Nat) (l0 : List S48) (p0 p1 : Int) (x : S25) (W : World)
    (hbl : bl < W.heap.size) (hbp : bp < W.heap.size)
    (h0 : W.cell? ⟨bl, 0, none⟩ = some (.slice A0 l0.length c0)) (h1 : W.cell? ⟨bp, 0, none⟩ = some (.int .i64 p0)) (h2 : W.cell? ⟨bp, 1, none⟩ = some (.int .i64 p1))
    (hr0 : Kd.C k48 W A0 l0.length l0) (hc0 : l0.length ≤ c0) :
    Calls Try.prog 58 (#[.agg #[.int .i64 x.f0, .int .i64 x.f1]] ++ #[.pointer (some ⟨bl, 0, none⟩), .pointer (some ⟨bp, 0, none⟩)]) W fun e w' => e = .returned (.bool (seesB l0 x.f0 x.f1 p0 p1)) ∧ Below W.heap.size W w' := by
  have g0 : ∀ o, (W.alloc o).cell? ⟨bl, 0, none⟩ = some (.slice A0 l0.length c0) := fun o => (World.cell?_alloc_lt W o _ hbl).trans h0
  have g1 : ∀ o, (W.alloc o).cell? ⟨bp, 0, none⟩ = some (.int .i64 p0) := fun o => (World.cell?_alloc_lt W o _ hbp).trans h1
  have g2 : ∀ o, (W.alloc o).cell? ⟨bp, 1, none⟩ = some (.int .i64 p1) := fun o => (World.cell?_alloc_lt W o _ hbp).trans h2
  have HR := Aside0.mk hr0
  clear hr0
  have hu := Try.underlying25
  go_enter Try.func58, Try.ntmps58
  go_wp2_with fail
  have hb1 : Below W.heap.size W (W.alloc (.cells #[.int .i64 x.f0, .int .i64 x.f1] 25)) := below_alloc (Below.refl _ W) _
  refine (screen_sees.calls A0 c0 l0 x.f0 x.f1 p0 p1 _ _ (Kd.C_below HR.out hb1) hc0 rfl).mono ?_
  rintro e w1 ⟨rfl, hb⟩
  have hb2 := below_step hb1 hb
  go_wp2
  go_ret
  exact ⟨rfl, hb2⟩
def hidB (l : List S48) (eyes : List S25) (p0 p1 : Int) : Bool := !(eyes.any fun x => seesB l x.f0 x.f1 p0 p1)
def screen_hidden.f (l0 : List S48) (l1 : List S25) (a2_0 : Int) (a2_1 : Int) : Option Bool := some (hidB l0 l1 a2_0 a2_1)
set_option maxHeartbeats 4000000 in
set_option maxRecDepth 100000 in
theorem screen_hidden.calls (A0 : Option Addr) (c0 : Nat) (l0 : List S48) (A1 : Option Addr) (c1 : Nat) (l1 : List S25) (a2_0 : Int) (a2_1 : Int) (r : Bool) (w : World) (hr0 : Kd.C k48 w A0 l0.length l0) (hc0 : l0.length ≤ c0) (hr1 : Kd.C k25 w A1 l1.length l1) (hc1 : l1.length ≤ c1) (h : screen_hidden.f l0 l1 a2_0 a2_1 = some r) :
    Calls Try.prog 40 #[.slice A0 l0.length c0, .slice A1 l1.length c1, .agg #[.int .i64 a2_0, .int .i64 a2_1]] w fun e w' => e = .returned (.bool r) ∧ Below w.heap.size w w' := by
  obtain rfl : hidB l0 l1 a2_0 a2_1 = r := Option.some.inj h
  have HR := Aside0.mk hr0
  have HR1 := Aside0.mk hr1
  clear hr0 hr1 h
  have hu := Try.underlying25
  obtain ⟨q1, q2⟩ := alloc2_cells w #[.slice A0 l0.length c0] #[.int .i64 a2_0, .int .i64 a2_1] 22 25
  have hb1 : Below w.heap.size w ((w.alloc (.cells #[.slice A0 l0.length c0] 22)).alloc (.cells #[.int .i64 a2_0, .int .i64 a2_1] 25)) := below_alloc (below_alloc (Below.refl _ w) _) _
  have hs : ((w.alloc (.cells #[.slice A0 l0.length c0] 22)).alloc (.cells #[.int .i64 a2_0, .int .i64 a2_1] 25)).heap.size = w.heap.size + 2 := by rw [alloc_size, alloc_size]
  have K := ContainsFunc_point 58 #[.pointer (some ⟨w.heap.size, 0, none⟩), .pointer (some ⟨w.heap.size + 1, 0, none⟩)] (fenters Try.func58 (by kernel_rfl) rfl) (fun x => seesB l0 x.f0 x.f1 a2_0 a2_1) _ l1 (fun x W _ hW => by
    have z := hW.size
    exact hidden1_calls w.heap.size (w.heap.size + 1) A0 c0 l0 a2_0 a2_1 x W (by omega) (by omega) (pw_cell_below hW (q1 0)) (pw_cell_below hW (q2 0)) (pw_cell_below hW (q2 1)) (Kd.C_below HR.out (below_step hb1 hW)) hc0) A1 c1 (Kd.C_below HR1.out hb1) hc1
  have HK := Aside0.mk K
  have HB1 := Aside0.mk hb1
  clear K hb1 hs q1 q2
  go_enter Try.func40, Try.ntmps40
  go_wp2_with fail
  refine HK.out.mono ?_
  rintro e w1 ⟨rfl, hb⟩
  have hb2 := below_step HB1.out hb
  go_wp2
  go_ret
  exact ⟨rfl, hb2⟩

end Go.Proofs.Ytieffjkplaajdaa.SW

