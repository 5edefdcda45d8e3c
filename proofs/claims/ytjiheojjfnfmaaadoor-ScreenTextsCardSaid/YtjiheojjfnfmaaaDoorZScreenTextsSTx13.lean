/- Of the text STx13, what the row of ScreenTexts reaches. -/
import Derived.Test.YtjiheojjfnfmaaaDoorZScreenTextsSTx0
import Derived.Test.YtjiheojjfnfmaaaDoorZScreenTextsSTx10
import Derived.Test.YtjiheojjfnfmaaaDoorZScreenTextsSTx11
import Derived.Test.YtjiheojjfnfmaaaDoorZScreenTextsSTx12
namespace Go.Proofs.YtjiheojjfnfmaaaDoor.ST
open Go.RowKit Go.Proofs.YtjiheojjfnfmaaaDoorW.PrintWords Go.Proofs.YtjiheojjfnfmaaaDoorW.PrintLast Go.Proofs.YtjiheojjfnfmaaaDoorW.PrintMore
attribute [local go_sem] max2_int min2_int max_two min_two max_three min_three max_four min_four   -- for this text's walks alone
set_option linter.unusedVariables false
set_option linter.unusedSimpArgs false

theorem side_total (a b c d e f : Int) : ∃ r, screen_side.f a b c d e f = some r := by
  unfold screen_side.f
  unfold cmp_Compare_int.f cmp_isNaN_int.f
  simp only [Option.bind_some]
  repeat (first | exact ⟨_, rfl⟩ | split)
theorem between_total (a b c d e f : Int) : ∃ r, screen_between.f a b c d e f = some r := by
  unfold screen_between.f
  repeat (first | exact ⟨_, rfl⟩ | split)
theorem touch_total (a b c d e f g h : Int) : ∃ r, screen_touch.f 8 a b c d e f g h = some r := by
  obtain ⟨r1, e1⟩ := side_total a b c d e f
  obtain ⟨r2, e2⟩ := side_total a b c d g h
  obtain ⟨r3, e3⟩ := side_total e f g h a b
  obtain ⟨r4, e4⟩ := side_total e f g h c d
  obtain ⟨s1, f1⟩ := between_total a b c d e f
  obtain ⟨s2, f2⟩ := between_total a b c d g h
  obtain ⟨s3, f3⟩ := between_total e f g h a b
  obtain ⟨s4, f4⟩ := between_total e f g h c d
  have hj3 : ∀ k, ∃ r, screen_touch.j3 (k + 1) a b c d e f g h = some r := by
    intro k
    rw [screen_touch.j3.eq_2]
    simp only [e1, e2, e3, e4, Option.bind_some]
    split <;> exact ⟨_, rfl⟩
  have hj2 : ∀ k x, ∃ r, screen_touch.j2 (k + 2) x a b c d e f g h = some r := by
    intro k x
    rw [screen_touch.j2.eq_2]
    simp only [e4, f4, Option.bind_some]
    repeat (first | exact ⟨_, rfl⟩ | exact hj3 k | split)
  have hj1 : ∀ k x, ∃ r, screen_touch.j1 (k + 3) x a b c d e f g h = some r := by
    intro k x
    rw [screen_touch.j1.eq_2]
    simp only [e3, f3, Option.bind_some]
    repeat (first | exact ⟨_, rfl⟩ | exact hj2 k _ | split)
  have hj0 : ∀ k x, ∃ r, screen_touch.j0 (k + 4) x a b c d e f g h = some r := by
    intro k x
    rw [screen_touch.j0.eq_2]
    simp only [e2, f2, Option.bind_some]
    repeat (first | exact ⟨_, rfl⟩ | exact hj1 k _ | split)
  unfold screen_touch.f
  simp only [e1, f1, Option.bind_some]
  split <;> exact hj0 4 _
def touchB (a b c d e f g h : Int) : Bool := (screen_touch.f 8 a b c d e f g h).getD false
theorem touchB_eq (a b c d e f g h : Int) : screen_touch.f 8 a b c d e f g h = some (touchB a b c d e f g h) := by
  obtain ⟨r, hr⟩ := touch_total a b c d e f g h
  unfold touchB; rw [hr]; rfl
theorem alloc_size (w : World) (o : Obj) : (w.alloc o).heap.size = w.heap.size + 1 := by first | exact World.size_alloc w o | exact World.heap_size_alloc w o | simp
theorem alloc2_cells (w : World) (c1 c2 : Array Value) (t1 t2 : TypeId) : (∀ i, ((w.alloc (.cells c1 t1)).alloc (.cells c2 t2)).cell? ⟨w.heap.size, i, none⟩ = c1[i]?) ∧ (∀ i, ((w.alloc (.cells c1 t1)).alloc (.cells c2 t2)).cell? ⟨w.heap.size + 1, i, none⟩ = c2[i]?) := by
  have e := alloc_size w (.cells c1 t1)
  refine ⟨fun i => ?_, fun i => ?_⟩
  · rw [World.cell?_alloc_lt (w.alloc (.cells c1 t1)) (.cells c2 t2) ⟨w.heap.size, i, none⟩ (by simp only; omega)]
    exact World.cell?_alloc_new ..
  · rw [← e]; exact World.cell?_alloc_new ..
set_option maxHeartbeats 4000000 in
set_option maxRecDepth 100000 in
theorem sees1_calls (ba bb : Nat) (a0 a1 b0 b1 : Int) (x : S46) (W : World)
    (hba : ba < W.heap.size) (hbb : bb < W.heap.size)
    (h0 : W.cell? ⟨ba, 0, none⟩ = some (.int .i64 a0)) (h1 : W.cell? ⟨ba, 1, none⟩ = some (.int .i64 a1)) (h2 : W.cell? ⟨bb, 0, none⟩ = some (.int .i64 b0)) (h3 : W.cell? ⟨bb, 1, none⟩ = some (.int .i64 b1)) :
    Calls Tryd.prog 58 (#[.agg #[.int .i64 x.f0.f0, .int .i64 x.f0.f1, .int .i64 x.f1.f0, .int .i64 x.f1.f1]] ++ #[.pointer (some ⟨ba, 0, none⟩), .pointer (some ⟨bb, 0, none⟩)]) W fun e w' => e = .returned (.bool (touchB a0 a1 b0 b1 x.f0.f0 x.f0.f1 x.f1.f0 x.f1.f1)) ∧ Below W.heap.size W w' := by
  have g0 : ∀ o, (W.alloc o).cell? ⟨ba, 0, none⟩ = some (.int .i64 a0) := fun o => (World.cell?_alloc_lt W o _ hba).trans h0
  have g1 : ∀ o, (W.alloc o).cell? ⟨ba, 1, none⟩ = some (.int .i64 a1) := fun o => (World.cell?_alloc_lt W o _ hba).trans h1
  have g2 : ∀ o, (W.alloc o).cell? ⟨bb, 0, none⟩ = some (.int .i64 b0) := fun o => (World.cell?_alloc_lt W o _ hbb).trans h2
  have g3 : ∀ o, (W.alloc o).cell? ⟨bb, 1, none⟩ = some (.int .i64 b1) := fun o => (World.cell?_alloc_lt W o _ hbb).trans h3
  have hu := Tryd.underlying44
  have hu2 := Tryd.underlying46
  go_enter Tryd.func58, Tryd.ntmps58
  go_wp2_with fail
  refine (screen_touch.calls 8 a0 a1 b0 b1 x.f0.f0 x.f0.f1 x.f1.f0 x.f1.f1 _ _ (touchB_eq ..)).mono ?_
  rintro e w1 ⟨rfl, hb⟩
  go_wp2
  go_ret
  exact ⟨rfl, below_step (below_alloc (Below.refl _ W) _) hb⟩
def seesB (l : List S46) (a0 a1 b0 b1 : Int) : Bool := !(l.any fun x => touchB a0 a1 b0 b1 x.f0.f0 x.f0.f1 x.f1.f0 x.f1.f1)
def screen_sees.f (l0 : List S46) (a1_0 : Int) (a1_1 : Int) (a2_0 : Int) (a2_1 : Int) : Option Bool := some (seesB l0 a1_0 a1_1 a2_0 a2_1)
set_option maxHeartbeats 4000000 in
set_option maxRecDepth 100000 in
theorem screen_sees.calls (A0 : Option Addr) (c0 : Nat) (l0 : List S46) (a1_0 : Int) (a1_1 : Int) (a2_0 : Int) (a2_1 : Int) (r : Bool) (w : World) (hr0 : Kd.C k46 w A0 l0.length l0) (hc0 : l0.length ≤ c0) (h : screen_sees.f l0 a1_0 a1_1 a2_0 a2_1 = some r) :
    Calls Tryd.prog 39 #[.slice A0 l0.length c0, .agg #[.int .i64 a1_0, .int .i64 a1_1], .agg #[.int .i64 a2_0, .int .i64 a2_1]] w fun e w' => e = .returned (.bool r) ∧ Below w.heap.size w w' := by
  obtain rfl : seesB l0 a1_0 a1_1 a2_0 a2_1 = r := Option.some.inj h
  have HR := Aside0.mk hr0
  clear hr0 h
  have hu := Tryd.underlying44
  have hu2 := Tryd.underlying46
  go_enter Tryd.func39, Tryd.ntmps39
  go_wp2_with fail
  obtain ⟨q1, q2⟩ := alloc2_cells w #[.int .i64 a1_0, .int .i64 a1_1] #[.int .i64 a2_0, .int .i64 a2_1] 44 44
  have hb1 : Below w.heap.size w ((w.alloc (.cells #[.int .i64 a1_0, .int .i64 a1_1] 44)).alloc (.cells #[.int .i64 a2_0, .int .i64 a2_1] 44)) := below_alloc (below_alloc (Below.refl _ w) _) _
  have hs : ((w.alloc (.cells #[.int .i64 a1_0, .int .i64 a1_1] 44)).alloc (.cells #[.int .i64 a2_0, .int .i64 a2_1] 44)).heap.size = w.heap.size + 2 := by rw [alloc_size, alloc_size]
  refine (ContainsFunc_screen 58 #[.pointer (some ⟨w.heap.size, 0, none⟩), .pointer (some ⟨w.heap.size + 1, 0, none⟩)] (fenters Tryd.func58 (by kernel_rfl) rfl) (fun x => touchB a1_0 a1_1 a2_0 a2_1 x.f0.f0 x.f0.f1 x.f1.f0 x.f1.f1) _ l0 (fun x W _ hW => ?_) A0 c0 (Kd.C_below HR.out hb1) hc0).mono ?_
  · have z := hW.size
    exact sees1_calls w.heap.size (w.heap.size + 1) a1_0 a1_1 a2_0 a2_1 x W (by omega) (by omega) (pw_cell_below hW (q1 0)) (pw_cell_below hW (q1 1)) (pw_cell_below hW (q2 0)) (pw_cell_below hW (q2 1))
  · rintro e w1 ⟨rfl, hb⟩
    have hb2 := below_step hb1 hb
    go_wp2
    go_ret
    exact ⟨rfl, hb2⟩

end Go.Proofs.YtjiheojjfnfmaaaDoor.ST

