/- Of the text SWx34, what the row of TopSights reaches. -/
import Derived.Test.YtieffjkplaajdaaZTopSightsSWx0
import Derived.Test.YtieffjkplaajdaaZTopSightsSWx7
import Derived.Test.YtieffjkplaajdaaZTopSightsSWx33
namespace Go.Proofs.Ytieffjkplaajdaa.SW
open Go.RowKit Go.Proofs.YtieffjkplaajdaaW.PrintWords Go.Proofs.YtieffjkplaajdaaW.PrintLast Go.Proofs.YtieffjkplaajdaaW.PrintMore
open Go.Proofs.YtieffjkplaajdaaW.PrintWords renaming blk_drewN → bN, blk_drew → bD, blk_alloc → bA, below_alloc → wA, pw_below_drewN → wN, below_drew1 → wD, below_set → wS
open List renaming setIfInBounds_toArray → sA, set_cons_zero → s0, set_cons_succ → s1
open Act renaming put → ap
open Aside0 renaming mk → am
attribute [local go_sem] max2_int min2_int max_two min_two max_three min_three max_four min_four   -- for this text's walks alone
set_option linter.unusedVariables false
set_option linter.unusedSimpArgs false

def screen_changed.l0 (qf : Int → Int → Option (Int × Int)) : Nat → List (S48) → List (S48) → Int → Int → Option ((List (S48)) × Int)
  | 0, _, _, _, _ => none
  | k + 1, x6, x10, x11, x12 => if x12 < x11 then (if 0 ≤ x12 then (if x12 < (x10.length : Int) then ((qf ((rd_T48 x10 x12).f0.f0) ((rd_T48 x10 x12).f0.f1)).bind fun bt184 => ((qf ((rd_T48 x10 x12).f1.f0) ((rd_T48 x10 x12).f1.f1)).bind fun bt186 => (if x6.length < 4398046511104 then (screen_changed.l0 qf k (x6 ++ [(⟨(⟨bt184.1, bt184.2⟩ : S25), (⟨bt186.1, bt186.2⟩ : S25)⟩ : S48)]) x10 x11 (wrap64 (x12 + 1))) else (none)))) else (none)) else (none)) else ((screen_Validate.f k x6).bind fun t191 => (if t191 = 0 then (some (x6, 0)) else (some (([] : List (S48)), t191))))
def screen_changed.f (qf : Int → Int → Option (Int × Int)) (k : Nat) (l0 : List (S48)) (a1 : Int) : Option ((List (S48)) × Int) := screen_changed.l0 qf k ([] : List (S48)) l0 (l0.length : Int) 0
def screen_changed.T5 : Bool × List (List Nat × List Nat) := (true, [([], []), ([], []), ([], []), ([2], [2]), ([1, 3], [1, 3]), ([], []), ([], []), ([6], [6]), ([5, 7, 4], [5, 7]), ([4, 8], [4, 8]), ([9], [9]), ([0, 10, 8], [0, 10]), ([11, 11, 0, 1, 2, 3, 4, 5, 6, 7, 8, 9, 10, 11], [0, 11])])
def screen_changed.B5 : List Nat := [0, 0, 0, 4, 14, 0, 0, 64, 254, 510, 1022, 2047, 4095]
theorem screen_changed.tab5 : rtab .any (opsOf Try.f43 5) = screen_changed.T5 := by kernel_rfl
theorem screen_changed.bits5 : waitsOk screen_changed.T5.2 screen_changed.B5 = true := by kernel_rfl
open Bool renaming true → T, false → F
set_option maxHeartbeats 8000000 in
set_option maxRecDepth 100000 in
theorem screen_changed.calls (qf : Int → Int → Option (Int × Int)) (g : Nat) (lb : Array Value) (eg : ∀ args w, (callFunc g args).run Try.prog w = .ok (.enter g args) w) (k : Nat) (A0 : Option Addr) (c0 : Nat) (l0 : List (S48)) (a1 : Int) (r1 : List (S48)) (r2 : Int) (w : World) (hq : ∀ x y r1 r2 (W : World), Below w.heap.size w W → qf x y = some (r1, r2) → Calls Try.prog g (#[.agg #[.int .i64 x, .int .i64 y]] ++ lb) W fun e w' => e = .returned (.agg #[.int .i64 r1, .int .i64 r2]) ∧ Below W.heap.size W w') (hr0 : Kd.C k48 w A0 l0.length l0) (hc0 : l0.length ≤ c0) (h : screen_changed.f qf k l0 a1 = some (r1, r2)) :
 Calls Try.prog 43 #[.slice A0 l0.length c0, .func (.func g) #[] lb] w fun e w' => ∃ v0_ : Value, e = .returned (.tuple #[v0_, .int .i64 r2]) ∧ Kd.R k48 48 w' w.heap.size (fun _ => True) v0_ r1 ∧ Below w.heap.size w w' := by
 have hu48 := Try.underlying48
 have hu25 := Try.underlying25
 have HR0 := am hr0
 have HC0 := am hc0
 clear hr0 hc0
 have HB := am (Below.refl w.heap.size w)
 have H : (screen_changed.l0 qf k ([] : List (S48)) l0 (l0.length : Int) 0) = some (r1, r2) := h
 clear h
 have H' := am H
 clear H
 go_enter Try.func43, Try.ntmps43
 go_wp2
 go_loopg [6, 12] k (fun kq v6 v12 w' => ∃ (x6_1 : List (S48)) (x12_1 : Int), v12 = .int .i64 x12_1 ∧ Aside0 (screen_changed.l0 qf kq x6_1 l0 (l0.length : Int) x12_1 = some (r1, r2)) ∧ Aside0 (kq ≤ k) ∧ Aside0 (Kd.R k48 48 w' w.heap.size (fun _ => True) v6 x6_1) ∧ Aside0 (Below w.heap.size w w'))
 case atStart => exact ⟨(([] : List (S48))), (0), (by first | rfl | (simp; done) | (simp [*]; done)), H', ⟨Nat.le_refl _⟩, ⟨by first | exact Kd.R_nil _ _ _ _ _ | exact Kd.N_nil _ _ _ _ _ | exact Kd.V_nil _ _ _ _ _ | exact Kd.Q_nil _ _ _ _ _ | exact Kd.S_nil _ _ _ _ _⟩, ⟨by repeat (first | (with_reducible first | exact HB.out | apply below_alloc | apply pw_below_drewN | apply below_drew1) | exact HB.out)⟩⟩
 case round =>(
 clear H'
 try clear p2
 obtain ⟨x6_1, x12_1, rfl, HA, HK1, HO_6, HB⟩ := hrel
 cases gk with
 | zero => exact absurd HA.out (by simp [screen_changed.l0])
 | succ k1 =>
  have H := HA.out
  clear HA
  simp only [screen_changed.l0] at H
  by_cases c3 : x12_1 < (l0.length : Int)
  {
 rw [if_pos c3] at H
 have c3b0 : decide (x12_1 < (l0.length : Int)) = true := decide_eq_true c3
 clear c3
 by_cases c4 : 0 ≤ x12_1
 {
 rw [if_pos c4] at H
 have c4b0 : decide (0 ≤ x12_1) = true := decide_eq_true c4
 clear c4
 by_cases c5 : x12_1 < (l0.length : Int)
 {
 rw [if_pos c5] at H
 have c5b0 : decide (x12_1 < (l0.length : Int)) = true := decide_eq_true c5
 clear c5
 replace H := Option.bind_eq_some_iff.mp H
 obtain ⟨⟨t184, t185⟩, A60, H⟩ := H
 replace H : ((qf ((rd_T48 l0 x12_1).f1.f0) ((rd_T48 l0 x12_1).f1.f1)).bind fun bt186 => (if x6_1.length < 4398046511104 then (screen_changed.l0 qf k1 (x6_1 ++ [(⟨(⟨t184, t185⟩ : S25), (⟨bt186.1, bt186.2⟩ : S25)⟩ : S48)]) l0 (l0.length : Int) (wrap64 (x12_1 + 1))) else (none))) = some (r1, r2) := H
 have A6 := am A60
 clear A60
 replace H := Option.bind_eq_some_iff.mp H
 obtain ⟨⟨t186, t187⟩, A70, H⟩ := H
 replace H : (if x6_1.length < 4398046511104 then (screen_changed.l0 qf k1 (x6_1 ++ [(⟨(⟨t184, t185⟩ : S25), (⟨t186, t187⟩ : S25)⟩ : S48)]) l0 (l0.length : Int) (wrap64 (x12_1 + 1))) else (none)) = some (r1, r2) := H
 have A7 := am A70
 clear A70
 by_cases c8 : x6_1.length < 4398046511104
 {
 rw [if_pos c8] at H
 have LMc8 := am c8
 clear c8
 obtain ⟨y188, hy188⟩ : ∃ y_ : List (S48), y_ = (x6_1 ++ [(⟨(⟨t184, t185⟩ : S25), (⟨t186, t187⟩ : S25)⟩ : S48)]) := ⟨_, rfl⟩
 replace H : (screen_changed.l0 qf k1 y188 l0 (l0.length : Int) (wrap64 (x12_1 + 1))) = some (r1, r2) := by first | (rw [hy188]; with_reducible exact H) | (have H2_ := (Option.bind_some _ _).symm.trans H; rw [hy188]; with_reducible exact H2_) | (have H2_ := (Option.bind_some _ _).symm.trans H; with_reducible exact H2_) | with_reducible exact H | (rw [hy188]; exact H) | exact H
 have Ny188 := am hy188
 clear hy188
 have H' := am H
 clear H
 have p182 : 0 ≤ (x12_1 : Int) := of_decide_eq_true (by first | (with_reducible assumption) | assumption)
 have q182 : x12_1 < (l0.length : Int) := of_decide_eq_true (by first | (with_reducible assumption) | assumption)
 obtain ⟨ad182, e182, hx182_0, hx182_1, hx182_2, hx182_3⟩ := at_T48 HR0.out x12_1 p182 q182
 cases e182
 replace hx182_0 := (HB.out.cell (World.block_lt_of_cell? w _ hx182_0)).trans hx182_0
 replace hx182_1 := (HB.out.cell (World.block_lt_of_cell? w _ hx182_1)).trans hx182_1
 replace hx182_2 := (HB.out.cell (World.block_lt_of_cell? w _ hx182_2)).trans hx182_2
 replace hx182_3 := (HB.out.cell (World.block_lt_of_cell? w _ hx182_3)).trans hx182_3
 replace p182 := eq_true p182
 replace q182 := eq_true q182
 try go_wp2_with (first | ((with_reducible refine gate_dst (N := 8) rfl ?_); refine box_event ?hg (N := 8) ?hd (cs := #[.int .i64 0, .int .i64 0, .int .i64 0, .int .i64 0]) (t := 48) ?hr ?_; (case hd => rfl); (case hg => rfl); (case hr => first | (go_simp; done) | (go_simp; rfl)); intro gb183 hg w9 hbox hb; have n0_ := am (Kd.R_below (Kd.R_elderB (by (with_reducible repeat first|apply Kd.R_alloc|apply Kd.R_drewN|apply Kd.R_drew);exact HO_6.out) gb183 (Nat.le_of_eq hg.symm)) hb); have n1_ := am (below_step (by repeat first|(with_reducible first|exact HB.out|apply wA|apply wN|apply wD)|exact HB.out) hb); have n2_ := am (hbox); have n3_ := am ((by rw [hg]; exact (below_size (by repeat first|(with_reducible first|exact HB.out|apply wA|apply wN|apply wD)|exact HB.out)) : w.heap.size ≤ gb183)); have n4_ := am ((by rw [hg]; exact (below_size (by repeat first|(with_reducible first|exact HB.out|apply wA|apply wN|apply wD)|exact HB.out)) : w.heap.size ≤ gb183)); clear HO_6; clear HB; have HO_6 := n0_; have HB := n1_; have BK183 := n2_; have GW183 := n3_; have GE183 := n4_; clear n0_ n1_ n2_ n3_ n4_; clear hb hbox hg; have hcz10_0 : w9.cell? ⟨gb183, 0, none⟩ = some (.int .i64 0) := (blk_cell BK183.out 0).trans rfl; have hcz10_1 : w9.cell? ⟨gb183, 1, none⟩ = some (.int .i64 0) := (blk_cell BK183.out 1).trans rfl; have hcz10_2 : w9.cell? ⟨gb183, 2, none⟩ = some (.int .i64 0) := (blk_cell BK183.out 2).trans rfl; have hcz10_3 : w9.cell? ⟨gb183, 3, none⟩ = some (.int .i64 0) := (blk_cell BK183.out 3).trans rfl; have hfz10_0 := blk_frozen BK183.out 0; have hfz10_1 := blk_frozen BK183.out 1; have hfz10_2 := blk_frozen BK183.out 2; have hfz10_3 := blk_frozen BK183.out 3))
 have n0_ : Aside0 (Kd.R k48 48 ((((w9.setCell ⟨gb183, 0, none⟩ (.int .i64 ((rd_T48 l0 x12_1).f0.f0))).setCell ⟨gb183, 1, none⟩ (.int .i64 ((rd_T48 l0 x12_1).f0.f1))).setCell ⟨gb183, 2, none⟩ (.int .i64 ((rd_T48 l0 x12_1).f1.f0))).setCell ⟨gb183, 3, none⟩ (.int .i64 ((rd_T48 l0 x12_1).f1.f1))) w.heap.size (fun k_ => k_ ≠ gb183) u6 x6_1) := ⟨by (with_reducible repeat first|apply Kd.R_alloc|apply Kd.R_drewN|apply Kd.R_drew);exact Kd.R_mono (Kd.R_far (p := ⟨gb183, 3, none⟩) (Kd.R_far (p := ⟨gb183, 2, none⟩) (Kd.R_far (p := ⟨gb183, 1, none⟩) (Kd.R_far (p := ⟨gb183, 0, none⟩) (Kd.R_mono HO_6.out (fun k_ hk => (⟨hk, hk.2⟩ : _ ∧ k_ ≠ gb183))) (fun _ hk => hk.2) (.int .i64 ((rd_T48 l0 x12_1).f0.f0))) (fun _ hk => hk.2) (.int .i64 ((rd_T48 l0 x12_1).f0.f1))) (fun _ hk => hk.2) (.int .i64 ((rd_T48 l0 x12_1).f1.f0))) (fun _ hk => hk.2) (.int .i64 ((rd_T48 l0 x12_1).f1.f1))) (fun _ hk => hk.1.2)⟩
 have n1_ : Aside0 (((((w9.setCell ⟨gb183, 0, none⟩ (.int .i64 ((rd_T48 l0 x12_1).f0.f0))).setCell ⟨gb183, 1, none⟩ (.int .i64 ((rd_T48 l0 x12_1).f0.f1))).setCell ⟨gb183, 2, none⟩ (.int .i64 ((rd_T48 l0 x12_1).f1.f0))).setCell ⟨gb183, 3, none⟩ (.int .i64 ((rd_T48 l0 x12_1).f1.f1))).heap[gb183]? = some (.cells #[.int .i64 ((rd_T48 l0 x12_1).f0.f0), .int .i64 ((rd_T48 l0 x12_1).f0.f1), .int .i64 ((rd_T48 l0 x12_1).f1.f0), .int .i64 ((rd_T48 l0 x12_1).f1.f1)] 48 (0, 0))) := ⟨by (with_reducible repeat first|refine bN ?_ _|refine bD ?_|refine bA ?_ _);refine blk_put (cs := #[.int .i64 ((rd_T48 l0 x12_1).f0.f0), .int .i64 ((rd_T48 l0 x12_1).f0.f1), .int .i64 ((rd_T48 l0 x12_1).f1.f0), .int .i64 0]) ?_ 3 _ rfl; (with_reducible repeat first|refine bN ?_ _|refine bD ?_|refine bA ?_ _);refine blk_put (cs := #[.int .i64 ((rd_T48 l0 x12_1).f0.f0), .int .i64 ((rd_T48 l0 x12_1).f0.f1), .int .i64 0, .int .i64 0]) ?_ 2 _ rfl; (with_reducible repeat first|refine bN ?_ _|refine bD ?_|refine bA ?_ _);refine blk_put (cs := #[.int .i64 ((rd_T48 l0 x12_1).f0.f0), .int .i64 0, .int .i64 0, .int .i64 0]) ?_ 1 _ rfl; (with_reducible repeat first|refine bN ?_ _|refine bD ?_|refine bA ?_ _);refine blk_put (cs := #[.int .i64 0, .int .i64 0, .int .i64 0, .int .i64 0]) ?_ 0 _ rfl; (with_reducible repeat first|refine bN ?_ _|refine bD ?_|refine bA ?_ _);exact BK183.out⟩
 have n2_ : Aside0 (Below w.heap.size w ((((w9.setCell ⟨gb183, 0, none⟩ (.int .i64 ((rd_T48 l0 x12_1).f0.f0))).setCell ⟨gb183, 1, none⟩ (.int .i64 ((rd_T48 l0 x12_1).f0.f1))).setCell ⟨gb183, 2, none⟩ (.int .i64 ((rd_T48 l0 x12_1).f1.f0))).setCell ⟨gb183, 3, none⟩ (.int .i64 ((rd_T48 l0 x12_1).f1.f1)))) := ⟨by repeat (first | (with_reducible first | exact HB.out | apply below_alloc | apply pw_below_drewN | apply below_drew1 | refine below_set ?_ GE183.out) | exact HB.out)⟩
 (try clear HO_6)
 (try clear BK183)
 (try clear HB)
 generalize ((((w9.setCell ⟨gb183, 0, none⟩ (.int .i64 ((rd_T48 l0 x12_1).f0.f0))).setCell ⟨gb183, 1, none⟩ (.int .i64 ((rd_T48 l0 x12_1).f0.f1))).setCell ⟨gb183, 2, none⟩ (.int .i64 ((rd_T48 l0 x12_1).f1.f0))).setCell ⟨gb183, 3, none⟩ (.int .i64 ((rd_T48 l0 x12_1).f1.f1))) = w11 at n0_ n1_ n2_ ⊢
 have HO_6 := n0_
 have BK183 := n1_
 have HB := n2_
 clear n0_ n1_ n2_
 have n0_ := am (Kd.R_drew HO_6.out)
 have n1_ := am (blk_drew BK183.out)
 have n2_ := am (below_drew1 HB.out)
 clear HO_6
 clear BK183
 clear HB
 have HO_6 := n0_
 have BK183 := n1_
 have HB := n2_
 clear n0_ n1_ n2_
 refine start_ (n := 13) (S := fun w' => w'.cell? ⟨gb183, 0, none⟩ = some (.int .i64 ((rd_T48 l0 x12_1).f0.f0)) ∧ w'.cell? ⟨gb183, 1, none⟩ = some (.int .i64 ((rd_T48 l0 x12_1).f0.f1)) ∧ w'.cell? ⟨gb183, 2, none⟩ = some (.int .i64 ((rd_T48 l0 x12_1).f1.f0)) ∧ w'.cell? ⟨gb183, 3, none⟩ = some (.int .i64 ((rd_T48 l0 x12_1).f1.f1))) (ds := []) #[F,F,F,F,F,F,F,F,F,F,F,F,F] (by kernel_rfl) rfl rfl ⟨(blk_cell BK183.out 0).trans rfl, (blk_cell BK183.out 1).trans rfl, (blk_cell BK183.out 2).trans rfl, (blk_cell BK183.out 3).trans rfl⟩ (fun hHeld => ?_); refine with_tabW screen_changed.tab5 screen_changed.bits5 (fun HT_ HW_ => ?_)
 generalize w11.drew = w12 at HO_6 BK183 HB hHeld ⊢
 refine pure_ (i := 0) (N := some 16) (v := ?_) (a' := ?_) #[T,F,F,F,F,F,F,F,F,F,F,F,F] rfl rfl (any_of HT_.out (by kernel_rfl)) (fun _ _ _ h => h) (Or.inl ⟨by rfl, ?_⟩) ?_ ?_
 rotate_left;{
 intro w'
 go_simp
 with_reducible rfl}
 rotate_left;{
 simp only [ap,sA,s0,s1,i64_w,i32_w]
 rfl}
 refine pure_ (i := 1) (N := some 17) (v := ?_) (a' := ?_) #[T,T,F,F,F,F,F,F,F,F,F,F,F] rfl rfl (any_of HT_.out (by kernel_rfl)) (fun _ _ _ h => h) (Or.inl ⟨by rfl, ?_⟩) ?_ ?_
 rotate_left;{
 intro w'
 go_simp
 with_reducible rfl}
 rotate_left;{
 simp only [ap,sA,s0,s1,i64_w,i32_w]
 rfl}
 refine pure_ (i := 2) (N := some 18) (v := ?_) (a' := ?_) #[T,T,T,F,F,F,F,F,F,F,F,F,F] rfl rfl (any_of HT_.out (by kernel_rfl)) (fun _ _ _ h => h) (Or.inl ⟨by rfl, ?_⟩) ?_ ?_
 rotate_left;{
 intro w'
 go_simp
 with_reducible rfl}
 rotate_left;{
 simp only [ap,sA,s0,s1,i64_w,i32_w]
 rfl}
 refine pure_ (i := 5) (N := some 21) (v := ?_) (a' := ?_) #[T,T,T,F,F,T,F,F,F,F,F,F,F] rfl rfl (any_of HT_.out (by kernel_rfl)) (fun _ _ _ h => h) (Or.inl ⟨by rfl, ?_⟩) ?_ ?_
 rotate_left;{
 intro w'
 go_simp
 with_reducible rfl}
 rotate_left;{
 simp only [ap,sA,s0,s1,i64_w,i32_w]
 rfl}
 refine pure_ (i := 6) (N := some 22) (v := ?_) (a' := ?_) #[T,T,T,F,F,T,T,F,F,F,F,F,F] rfl rfl (any_of HT_.out (by kernel_rfl)) (fun _ _ _ h => h) (Or.inl ⟨by rfl, ?_⟩) ?_ ?_
 rotate_left;{
 intro w'
 go_simp
 with_reducible rfl}
 rotate_left;{
 simp only [ap,sA,s0,s1,i64_w,i32_w]
 rfl}
 refine take_ (i := 3) (N := some 19) (v := ?_) (a' := ?_) #[T,T,T,T,F,T,T,F,F,F,F,F,F] rfl rfl (take_ofW HT_.out HW_.out (by kernel_rfl)) (fun _ _ _ h => h) (Or.inl ⟨by rfl, ?_⟩) hHeld ?_ ?_
 rotate_left;{
 rintro w' ⟨s0, s1, s2, s3⟩
 go_simp
 with_reducible rfl}
 rotate_left;{
 simp only [ap,sA,s0,s1,i64_w,i32_w]
 rfl}
 refine take_ (i := 7) (N := some 23) (v := ?_) (a' := ?_) #[T,T,T,T,F,T,T,T,F,F,F,F,F] rfl rfl (take_ofW HT_.out HW_.out (by kernel_rfl)) (fun _ _ _ h => h) (Or.inl ⟨by rfl, ?_⟩) hHeld ?_ ?_
 rotate_left;{
 rintro w' ⟨s0, s1, s2, s3⟩
 go_simp
 with_reducible rfl}
 rotate_left;{
 simp only [ap,sA,s0,s1,i64_w,i32_w]
 rfl}
 refine one_ (i := 4) (N := some 20) #[T,T,T,T,T,T,T,T,F,F,F,F,F] rfl rfl (one_of HT_.out (by kernel_rfl)) (by decide) (fun K hK => ?_)
 refine goesV_ eg lb #[.agg #[.int .i64 ((rd_T48 l0 x12_1).f0.f0), .int .i64 ((rd_T48 l0 x12_1).f0.f1)]] (by rfl) rfl rfl rfl (by (try simp only [List.map_toArray, List.map_cons, List.map_nil]); first | done | rfl | (simp only [List.length_drop, List.length_take]; rfl)) ?_
 with_reducible refine (hq ((rd_T48 l0 x12_1).f0.f0) ((rd_T48 l0 x12_1).f0.f1) t184 t185 _ (by repeat first|(with_reducible first|exact HB.out|apply wA|apply wN|apply wD)|exact HB.out) A6.out).mono ?_
 rintro e w13 ⟨rfl, hb⟩
 refine ⟨_, rfl, ?_⟩
 have n0_ := am (Kd.R_below (by (with_reducible repeat first|apply Kd.R_alloc|apply Kd.R_drewN|apply Kd.R_drew);exact HO_6.out) hb)
 have n1_ := am (blk_below (by (with_reducible repeat first|refine bN ?_ _|refine bD ?_|refine bA ?_ _);exact BK183.out) hb)
 have n2_ := am (below_step (by repeat first|(with_reducible first|exact HB.out|apply wA|apply wN|apply wD|refine wS ?_ GE183.out)|exact HB.out) hb)
 clear HO_6
 clear BK183
 clear HB
 have HO_6 := n0_
 have BK183 := n1_
 have HB := n2_
 clear n0_ n1_ n2_
 (try clear hb)
 (try clear hb2)
 (try clear hk)
 (try clear hi)
 refine hK.out _ _ ⟨(blk_cell BK183.out 0).trans rfl, (blk_cell BK183.out 1).trans rfl, (blk_cell BK183.out 2).trans rfl, (blk_cell BK183.out 3).trans rfl⟩ (fun hHeld => ?_)
 clear hK K
 refine norm_ (a' := ?_) ?_ ?_
 rotate_left;{
 show Act.put _ (some 20) _ = _
 simp only [ap,sA,s0,s1,i64_w,i32_w]
 rfl}
 refine one_ (i := 8) (N := some 24) #[T,T,T,T,T,T,T,T,T,F,F,F,F] rfl rfl (one_of HT_.out (by kernel_rfl)) (by decide) (fun K hK => ?_)
 refine goesV_ eg lb #[.agg #[.int .i64 ((rd_T48 l0 x12_1).f1.f0), .int .i64 ((rd_T48 l0 x12_1).f1.f1)]] (by rfl) rfl rfl rfl (by (try simp only [List.map_toArray, List.map_cons, List.map_nil]); first | done | rfl | (simp only [List.length_drop, List.length_take]; rfl)) ?_
 with_reducible refine (hq ((rd_T48 l0 x12_1).f1.f0) ((rd_T48 l0 x12_1).f1.f1) t186 t187 _ (by repeat first|(with_reducible first|exact HB.out|apply wA|apply wN|apply wD)|exact HB.out) A7.out).mono ?_
 rintro e w14 ⟨rfl, hb⟩
 refine ⟨_, rfl, ?_⟩
 have n0_ := am (Kd.R_below (by (with_reducible repeat first|apply Kd.R_alloc|apply Kd.R_drewN|apply Kd.R_drew);exact HO_6.out) hb)
 have n1_ := am (blk_below (by (with_reducible repeat first|refine bN ?_ _|refine bD ?_|refine bA ?_ _);exact BK183.out) hb)
 have n2_ := am (below_step (by repeat first|(with_reducible first|exact HB.out|apply wA|apply wN|apply wD|refine wS ?_ GE183.out)|exact HB.out) hb)
 clear HO_6
 clear BK183
 clear HB
 have HO_6 := n0_
 have BK183 := n1_
 have HB := n2_
 clear n0_ n1_ n2_
 (try clear hb)
 (try clear hb2)
 (try clear hk)
 (try clear hi)
 refine hK.out _ _ ⟨(blk_cell BK183.out 0).trans rfl, (blk_cell BK183.out 1).trans rfl, (blk_cell BK183.out 2).trans rfl, (blk_cell BK183.out 3).trans rfl⟩ (fun hHeld => ?_)
 clear hK K
 refine norm_ (a' := ?_) ?_ ?_
 rotate_left;{
 show Act.put _ (some 24) _ = _
 simp only [ap,sA,s0,s1,i64_w,i32_w]
 rfl}
 refine pure_ (i := 9) (N := some 25) (v := ?_) (a' := ?_) #[T,T,T,T,T,T,T,T,T,T,F,F,F] rfl rfl (any_of HT_.out (by kernel_rfl)) (fun _ _ _ h => h) (Or.inl ⟨by rfl, ?_⟩) ?_ ?_
 rotate_left;{
 intro w'
 go_simp
 with_reducible rfl}
 rotate_left;{
 simp only [ap,sA,s0,s1,i64_w,i32_w]
 rfl}
 refine one_ (i := 10) (N := some 26) #[T,T,T,T,T,T,T,T,T,T,T,F,F] rfl rfl (one_of HT_.out (by kernel_rfl)) (by decide) (fun K hK => ?_)
 refine value_ (w1 := ?_) (v := ?_) (by rfl) rfl ?_ ?_
 rotate_left 2;{
 go_simp
 constructor;{
 rfl}
 rfl}
 refine hK.out _ _ ⟨(blk_cell (blk_alloc BK183.out _) 0).trans rfl, (blk_cell (blk_alloc BK183.out _) 1).trans rfl, (blk_cell (blk_alloc BK183.out _) 2).trans rfl, (blk_cell (blk_alloc BK183.out _) 3).trans rfl⟩ (fun hHeld => ?_)
 clear hK K
 refine norm_ (a' := ?_) ?_ ?_
 rotate_left;{
 show Act.put _ (some 26) _ = _
 simp only [ap,sA,s0,s1,i64_w,i32_w]
 rfl}
 refine one_ (i := 11) (N := some 27) #[T,T,T,T,T,T,T,T,T,T,T,T,F] rfl rfl (one_of HT_.out (by kernel_rfl)) (by decide) (fun K hK => ?_)
 refine Kd.R_append_step k48 (w0 := w) w.heap.size (by rfl) (.tmp 16) (.tmp 26) 22 48 (.agg #[(.int .i64 0), (.int .i64 0), (.int .i64 0), (.int .i64 0)]) 32 rfl Try.underlying22 info48 rfl (by decide) (by omega) u6 x6_1 (⟨(⟨t184, t185⟩ : S25), (⟨t186, t187⟩ : S25)⟩ : S48) [.int .i64 t184, .int .i64 t185, .int .i64 t186, .int .i64 t187] (fun k_ => k_ ≠ gb183) (fun _ => False) rfl rfl ?aP (fun _ hk => hk.elim) ?aF ?aO ?aB ?aS ?aL ?_
 (case aP => exact k48_mkM _ _ _ (⟨(⟨t184, t185⟩ : S25), (⟨t186, t187⟩ : S25)⟩ : S48))
 (case aB => exact (by repeat first|(with_reducible first|exact HB.out|apply wA|apply wN|apply wD|refine wS ?_ GE183.out)|exact HB.out))
 (case aF => exact (fun k_ hk => Kd.freshB (by (with_reducible repeat first|refine bN ?_ _|refine bD ?_|refine bA ?_ _);exact BK183.out) k_ hk))
 (case aO => exact (by (with_reducible repeat first|apply Kd.R_alloc|apply Kd.R_drewN|apply Kd.R_drew);exact HO_6.out))
 (case aS => exact (below_size (by repeat first|(with_reducible first|exact HB.out|apply wA|apply wN|apply wD|refine wS ?_ GE183.out)|exact HB.out)))
 (case aL => have := LMc8.out; omega)
 intro v189 w15 ho hb hg hat
 rw [← Ny188.out] at ho
 have n0_ := am (blk_grown (by (with_reducible repeat first|refine bN ?_ _|refine bD ?_|refine bA ?_ _);exact BK183.out) hg (Kd.R_away HO_6.out (fun _ hk => hk)))
 have n1_ := am (hb)
 have n2_ := am (ho)
 clear BK183
 clear HB
 clear HO_6
 have BK183 := n0_
 have HB := n1_
 have HO190 := n2_
 clear n0_ n1_ n2_
 clear ho hb hg hat
 refine hK.out _ _ ⟨(blk_cell BK183.out 0).trans rfl, (blk_cell BK183.out 1).trans rfl, (blk_cell BK183.out 2).trans rfl, (blk_cell BK183.out 3).trans rfl⟩ (fun hHeld => ?_)
 clear hK K
 refine norm_ (a' := ?_) ?_ ?_
 rotate_left;{
 show Act.put _ (some 27) _ = _
 simp only [ap,sA,s0,s1,i64_w,i32_w]
 rfl}
 refine pure_ (i := 12) (N := some 6) (v := ?_) (a' := ?_) #[T,T,T,T,T,T,T,T,T,T,T,T,T] rfl rfl (any_of HT_.out (by kernel_rfl)) (fun _ _ _ h => h) (Or.inl ⟨by rfl, ?_⟩) ?_ ?_
 rotate_left;{
 intro w'
 go_simp
 with_reducible rfl}
 rotate_left;{
 simp only [ap,sA,s0,s1,i64_w,i32_w]
 rfl}
 refine done_ (done_of HT_.out (by kernel_rfl)) ?_
 try go_wp2
 go_roundg k1
 case measure => have := HK1.out; omega
 case rel => exact ⟨(y188), (wrap64 (x12_1 + 1)), (by first | rfl | (simp; done) | (simp [*]; done)), H', ⟨by have := HK1.out; omega⟩, ⟨by (with_reducible repeat first|apply Kd.R_alloc|apply Kd.R_drewN|apply Kd.R_drew);exact Kd.R_mono HO190.out (fun _ hk => trivial)⟩, ⟨by repeat (first | (with_reducible first | exact HB.out | apply below_alloc | apply pw_below_drewN | apply below_drew1 | refine below_set ?_ GE183.out) | exact HB.out)⟩⟩}
 rw [if_neg c8] at H
 exact absurd H (by simp)}
 rw [if_neg c5] at H
 exact absurd H (by simp)}
 rw [if_neg c4] at H
 exact absurd H (by simp)}
  rw [if_neg c3] at H
  have c3b0 : decide (x12_1 < (l0.length : Int)) = false := decide_eq_false c3
  clear c3
  replace H := Option.bind_eq_some_iff.mp H
  obtain ⟨t191, A160, H⟩ := H
  replace H : (if t191 = 0 then (some (x6_1, 0)) else (some (([] : List (S48)), t191))) = some (r1, r2) := H
  have A16 := am A160
  clear A160
  by_cases c17 : t191 = 0
  {
 rw [if_pos c17] at H
 have c17b0 : (t191 == 0) = true := beq_iff_eq.mpr c17
 have c17b1 : (t191 != 0) = false := bne_eq_false_iff_eq.mpr c17
 clear c17
 simp only [Option.some.injEq, Prod.mk.injEq] at H
 obtain ⟨rfl, rfl⟩ := H
 obtain ⟨Ao18, co18, eo18⟩ := Kd.R_slice HO_6.out
 subst eo18
 go_wp2_with (first | ((with_reducible refine gate_callee (f := 42) rfl ?_); refine goesL_ (some 30) rfl rfl Try.func42 (by kernel_rfl) rfl #[.slice Ao18 x6_1.length co18] rfl (by (try simp only [List.map_toArray, List.map_cons, List.map_nil]); first | done | rfl | (simp only [List.length_drop, List.length_take]; rfl)) ?_; (with_reducible refine (screen_Validate.calls k1 _ _ x6_1 t191 _ ?side1 ?side2 A16.out).mono ?_); (case side1 => repeat (first | exact (Kd.R_reads' HO_6.out).2.2 | (with_reducible refine Kd.C_alloc ?_ _) | (with_reducible refine Kd.C_drewN ?_ _) | (with_reducible refine Kd.C_drew ?_))); (case side2 => exact (Kd.R_reads' HO_6.out).2.1); rintro e w19 ⟨rfl, hb⟩; refine ⟨_, rfl, ?_⟩; have n0_ := am (Kd.R_below (by (with_reducible repeat first|apply Kd.R_alloc|apply Kd.R_drewN|apply Kd.R_drew);exact HO_6.out) hb); have n1_ := am (below_step (by repeat first|(with_reducible first|exact HB.out|apply wA|apply wN|apply wD)|exact HB.out) hb); clear HO_6; clear HB; have HO_6 := n0_; have HB := n1_; clear n0_ n1_; (try clear hb); (try clear hb2); (try clear hk); (try clear hi)))
 go_ret2
 exact ⟨_, by first | rfl | (simp [errW_none, errW_some] <;> rfl) | (simp [*, errW_none, errW_some] <;> rfl), by (with_reducible repeat first|apply Kd.R_alloc|apply Kd.R_drewN|apply Kd.R_drew);exact HO_6.out, by repeat (first | (with_reducible first | exact HB.out | apply below_alloc | apply pw_below_drewN | apply below_drew1) | exact HB.out)⟩}
  rw [if_neg c17] at H
  have c17b0 : (t191 == 0) = false := beq_eq_false_iff_ne.mpr c17
  have c17b1 : (t191 != 0) = true := bne_iff_ne.mpr c17
  simp only [Option.some.injEq, Prod.mk.injEq] at H
  obtain ⟨rfl, rfl⟩ := H
  obtain ⟨Ao20, co20, eo20⟩ := Kd.R_slice HO_6.out
  subst eo20
  go_wp2_with (first | ((with_reducible refine gate_callee (f := 42) rfl ?_); refine goesL_ (some 30) rfl rfl Try.func42 (by kernel_rfl) rfl #[.slice Ao20 x6_1.length co20] rfl (by (try simp only [List.map_toArray, List.map_cons, List.map_nil]); first | done | rfl | (simp only [List.length_drop, List.length_take]; rfl)) ?_; (with_reducible refine (screen_Validate.calls k1 _ _ x6_1 t191 _ ?side1 ?side2 A16.out).mono ?_); (case side1 => repeat (first | exact (Kd.R_reads' HO_6.out).2.2 | (with_reducible refine Kd.C_alloc ?_ _) | (with_reducible refine Kd.C_drewN ?_ _) | (with_reducible refine Kd.C_drew ?_))); (case side2 => exact (Kd.R_reads' HO_6.out).2.1); rintro e w21 ⟨rfl, hb⟩; refine ⟨_, rfl, ?_⟩; have n0_ := am (Kd.R_below (by (with_reducible repeat first|apply Kd.R_alloc|apply Kd.R_drewN|apply Kd.R_drew);exact HO_6.out) hb); have n1_ := am (below_step (by repeat first|(with_reducible first|exact HB.out|apply wA|apply wN|apply wD)|exact HB.out) hb); clear HO_6; clear HB; have HO_6 := n0_; have HB := n1_; clear n0_ n1_; (try clear hb); (try clear hb2); (try clear hk); (try clear hi)))
  go_ret2
  exact ⟨_, by first | rfl | (simp [errW_none, errW_some] <;> rfl) | (simp [*, errW_none, errW_some] <;> rfl), by first | exact Kd.R_nil _ _ _ _ _ | exact Kd.N_nil _ _ _ _ _ | exact Kd.V_nil _ _ _ _ _ | exact Kd.Q_nil _ _ _ _ _ | exact Kd.S_nil _ _ _ _ _, by repeat (first | (with_reducible first | exact HB.out | apply below_alloc | apply pw_below_drewN | apply below_drew1) | exact HB.out)⟩)
def changed_turn.f (k : Nat) (l0 : List S48) : Option ((List S48) × Int) := screen_changed.f screen_Turn_1.f k l0 0
theorem changed_turn.calls (k : Nat) (A0 : Option Addr) (c0 : Nat) (l0 : List S48) (r1 : List S48) (r2 : Int) (w : World) (hr0 : Kd.C k48 w A0 l0.length l0) (hc0 : l0.length ≤ c0) (h : changed_turn.f k l0 = some (r1, r2)) :
 Calls Try.prog 43 #[.slice A0 l0.length c0, .func (.func 44) #[] #[]] w fun e w' => ∃ v0_ : Value, e = .returned (.tuple #[v0_, .int .i64 r2]) ∧ Kd.R k48 48 w' w.heap.size (fun _ => True) v0_ r1 ∧ Below w.heap.size w w' := by
 refine screen_changed.calls screen_Turn_1.f 44 #[] (fenters Try.func44 (by kernel_rfl) rfl) k A0 c0 l0 0 r1 r2 w (fun x y r1 r2 W _ hq => ?_) hr0 hc0 h
 exact screen_Turn_1.calls x y r1 r2 W hq
end Go.Proofs.Ytieffjkplaajdaa.SW

