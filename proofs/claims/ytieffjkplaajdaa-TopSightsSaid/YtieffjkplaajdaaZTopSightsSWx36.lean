/- Of the text SWx36, what the row of TopSights reaches. -/
import Derived.Test.YtieffjkplaajdaaZTopSightsSWx0
import Derived.Test.YtieffjkplaajdaaZTopSightsSWx2
import Derived.Test.YtieffjkplaajdaaZTopSightsSWx13
import Derived.Test.YtieffjkplaajdaaZTopSightsSWx28
import Derived.Test.YtieffjkplaajdaaZTopSightsSWx31
import Derived.Test.YtieffjkplaajdaaZTopSightsSWx32
import Derived.Test.YtieffjkplaajdaaZTopSightsSWx33
import Derived.Test.YtieffjkplaajdaaZTopSightsSWx35
namespace Go.Proofs.Ytieffjkplaajdaa.SW
open Go.RowKit Go.Proofs.YtieffjkplaajdaaW.PrintWords Go.Proofs.YtieffjkplaajdaaW.PrintLast Go.Proofs.YtieffjkplaajdaaW.PrintMore
open Go.Proofs.YtieffjkplaajdaaW.PrintWords renaming blk_drewN → bN, blk_drew → bD, blk_alloc → bA, below_alloc → wA, pw_below_drewN → wN, below_drew1 → wD, below_set → wS
open List renaming setIfInBounds_toArray → sA, set_cons_zero → s0, set_cons_succ → s1
open Act renaming put → ap
open Aside0 renaming mk → am
attribute [local go_sem] max2_int min2_int max_two min_two max_three min_three max_four min_four   -- for this text's walks alone
set_option linter.unusedVariables false
set_option linter.unusedSimpArgs false

mutual
def wigeontop_TopSights.j0 : Nat → List (S48) → Bool → List (S25) → Int → Int → Int → Int → Int → Int → Int → Int → Option (Bool)
  | 0, _, _, _, _, _, _, _, _, _, _, _ => none
  | k + 1, x0, x52, x414000, x414001, x414002, x414003, x414004, x414005, x414006, x414007, x414008 => if x52 = true then (some false) else ((wigeonlaw02_Long.f x0 x414000).bind fun t419 => (if t419 = true then (some true) else ((screen_Steps.f k x0 x414000 x414001 x414002 x414003 x414004 x414005 x414006 x414007 x414008).bind fun bt420 => ((screen_Steps.f k x0 x414000 x414001 x414002 x414003 x414004 x414007 x414008 x414005 x414006).bind fun bt423 => (if ((bt420.2.2 == 0) != (bt423.2.2 == 0)) = true then (wigeontop_TopSights.j1 k x0 bt420.1 bt420.2.1 bt420.2.2 true x414000 x414001 x414002 x414003 x414004 x414005 x414006 x414007 x414008) else (if bt420.1 = bt423.1 then (wigeontop_TopSights.j1 k x0 bt420.1 bt420.2.1 bt420.2.2 (bt420.2.1 != bt423.2.1) x414000 x414001 x414002 x414003 x414004 x414005 x414006 x414007 x414008) else (wigeontop_TopSights.j1 k x0 bt420.1 bt420.2.1 bt420.2.2 true x414000 x414001 x414002 x414003 x414004 x414005 x414006 x414007 x414008)))))))
def wigeontop_TopSights.j1 : Nat → List (S48) → Int → Bool → Int → Bool → List (S25) → Int → Int → Int → Int → Int → Int → Int → Int → Option (Bool)
  | 0, _, _, _, _, _, _, _, _, _, _, _, _, _, _ => none
  | k + 1, x0, x7, x8, x9, x99, x414000, x414001, x414002, x414003, x414004, x414005, x414006, x414007, x414008 => if x99 = true then (some false) else (if x9 = 0 then ((screen_Reach.f k x0 x414000 x414001 x414002 x414003 x414004 x414005 x414006).bind fun bt426 => ((screen_Way.f k x0 x414000 x414001 x414002 x414003 x414004 x414005 x414006 x414007 x414008).bind fun bt430 => (if bt426.2 = 0 then (if bt430.2.2 = 0 then (if (bt430.2.1 != x8) = true then (wigeontop_TopSights.j2 k x0 x7 x8 bt426.1 bt430.1 true x414000 x414001 x414002 x414003 x414004 x414005 x414006 x414007 x414008) else ((wigeontop_there.f k bt426.1 x414007 x414008).bind fun t435 => (wigeontop_TopSights.j2 k x0 x7 x8 bt426.1 bt430.1 (t435 != x8) x414000 x414001 x414002 x414003 x414004 x414005 x414006 x414007 x414008))) else (wigeontop_TopSights.j2 k x0 x7 x8 bt426.1 bt430.1 true x414000 x414001 x414002 x414003 x414004 x414005 x414006 x414007 x414008)) else (wigeontop_TopSights.j2 k x0 x7 x8 bt426.1 bt430.1 true x414000 x414001 x414002 x414003 x414004 x414005 x414006 x414007 x414008)))) else (if x7 = 0 then (some (!x8)) else (some false)))
def wigeontop_TopSights.j2 : Nat → List (S48) → Int → Bool → List (S25) → List (S25) → Bool → List (S25) → Int → Int → Int → Int → Int → Int → Int → Int → Option (Bool)
  | 0, _, _, _, _, _, _, _, _, _, _, _, _, _, _, _ => none
  | k + 1, x0, x7, x8, x13, x14, x151, x414000, x414001, x414002, x414003, x414004, x414005, x414006, x414007, x414008 => if x151 = true then (some false) else (if x8 = true then ((screen_CheckWay.f k x0 x414000 x414001 x414002 x414003 x414004 x14).bind fun bt436 => (if bt436.2 = 0 then (if bt436.1 = x7 then (wigeontop_TopSights.j3 k x0 x7 x8 x13 x14 ((x14.length : Int) != (wrap64 (x7 + 1))) x414000 x414001 x414002 x414003 x414004 x414005 x414006 x414007 x414008) else (wigeontop_TopSights.j3 k x0 x7 x8 x13 x14 true x414000 x414001 x414002 x414003 x414004 x414005 x414006 x414007 x414008)) else (wigeontop_TopSights.j3 k x0 x7 x8 x13 x14 true x414000 x414001 x414002 x414003 x414004 x414005 x414006 x414007 x414008))) else (wigeontop_TopSights.j5 k x0 x7 x8 x13 x414000 x414001 x414002 x414003 x414004 x414005 x414006 x414007 x414008))
def wigeontop_TopSights.j5 : Nat → List (S48) → Int → Bool → List (S25) → List (S25) → Int → Int → Int → Int → Int → Int → Int → Int → Option (Bool)
  | 0, _, _, _, _, _, _, _, _, _, _, _, _, _ => none
  | k + 1, x0, x7, x8, x13, x414000, x414001, x414002, x414003, x414004, x414005, x414006, x414007, x414008 => if (x414000.length : Int) > 0 then ((some (([] : List (S25)) : List (S25))).bind fun y443 => (if 1 ≤ (x414000.length : Int) then ((some (x414000.drop 1 : List (S25))).bind fun y446 => (if y443.length + y446.length < 8796093022208 then ((some (y443 ++ y446 : List (S25))).bind fun y450 => ((screen_Dark.f k x0 x414000 x414001 x414002 x414003 x414004).bind fun bt453 => ((screen_Dark.f k x0 y450 x414001 x414002 x414003 x414004).bind fun bt455 => ((screen_Reach.f k x0 y450 x414001 x414002 x414003 x414004 x414005 x414006).bind fun bt457 => (if bt453.2 = 0 then (if bt455.2 = 0 then (if bt457.2 = 0 then (if bt453.1 > bt455.1 then (wigeontop_TopSights.j6 k x0 x7 x8 x13 bt457.1 true x414000 x414001 x414002 x414003 x414004 x414005 x414006 x414007 x414008) else (wigeontop_TopSights.j6 k x0 x7 x8 x13 bt457.1 (decide ((x13.length : Int) > bt453.1)) x414000 x414001 x414002 x414003 x414004 x414005 x414006 x414007 x414008)) else (wigeontop_TopSights.j6 k x0 x7 x8 x13 bt457.1 true x414000 x414001 x414002 x414003 x414004 x414005 x414006 x414007 x414008)) else (wigeontop_TopSights.j6 k x0 x7 x8 x13 bt457.1 true x414000 x414001 x414002 x414003 x414004 x414005 x414006 x414007 x414008)) else (wigeontop_TopSights.j6 k x0 x7 x8 x13 bt457.1 true x414000 x414001 x414002 x414003 x414004 x414005 x414006 x414007 x414008)))))) else (none))) else (none))) else (wigeontop_TopSights.j8 k x0 x7 x8 x414000 x414001 x414002 x414003 x414004 x414005 x414006 x414007 x414008)
def wigeontop_TopSights.j8 : Nat → List (S48) → Int → Bool → List (S25) → Int → Int → Int → Int → Int → Int → Int → Int → Option (Bool)
  | 0, _, _, _, _, _, _, _, _, _, _, _, _ => none
  | k + 1, x0, x7, x8, x414000, x414001, x414002, x414003, x414004, x414005, x414006, x414007, x414008 => (screen_Turn.f k x0).bind fun bt463 => (wigeontop_TopSights.l2 k x7 x8 bt463.1 bt463.2 ([] : List (S25)) 0 x414000 x414001 x414002 x414003 x414004 x414005 x414006 x414007 x414008)
def wigeontop_TopSights.l2 : Nat → Int → Bool → List (S48) → Int → List (S25) → Int → List (S25) → Int → Int → Int → Int → Int → Int → Int → Int → Option (Bool)
  | 0, _, _, _, _, _, _, _, _, _, _, _, _, _, _, _ => none
  | k + 1, x7, x8, x30, x31, x32, x33, x414000, x414001, x414002, x414003, x414004, x414005, x414006, x414007, x414008 => if x33 < (x414000.length : Int) then (if 0 ≤ x33 then ((wigeonref02_Turned.f ((rd_T25 x414000 x33).f0) ((rd_T25 x414000 x33).f1)).bind fun bt468 => (if x32.length < 8796093022208 then (wigeontop_TopSights.l2 k x7 x8 x30 x31 (x32 ++ [(⟨bt468.1, bt468.2⟩ : S25)]) (wrap64 (x33 + 1)) x414000 x414001 x414002 x414003 x414004 x414005 x414006 x414007 x414008) else (none))) else (none)) else ((wigeonref02_Turned.f x414005 x414006).bind fun bt474 => ((wigeonref02_Turned.f x414007 x414008).bind fun bt476 => ((screen_Steps.f k x30 x32 (wrap64 (-x414004)) x414001 (wrap64 (-x414002)) x414003 bt474.1 bt474.2 bt476.1 bt476.2).bind fun bt478 => (if x31 = 0 then (if bt478.2.2 = 0 then (if bt478.1 = x7 then (some (bt478.2.1 == x8)) else (some false)) else (some false)) else (some false)))))
def wigeontop_TopSights.j6 : Nat → List (S48) → Int → Bool → List (S25) → List (S25) → Bool → List (S25) → Int → Int → Int → Int → Int → Int → Int → Int → Option (Bool)
  | 0, _, _, _, _, _, _, _, _, _, _, _, _, _, _, _ => none
  | k + 1, x0, x7, x8, x13, x27, x265, x414000, x414001, x414002, x414003, x414004, x414005, x414006, x414007, x414008 => if x265 = true then (some false) else (wigeontop_TopSights.l1 k x0 x7 x8 x13 x27 0 x414000 x414001 x414002 x414003 x414004 x414005 x414006 x414007 x414008)
def wigeontop_TopSights.l1 : Nat → List (S48) → Int → Bool → List (S25) → List (S25) → Int → List (S25) → Int → Int → Int → Int → Int → Int → Int → Int → Option (Bool)
  | 0, _, _, _, _, _, _, _, _, _, _, _, _, _, _, _ => none
  | k + 1, x0, x7, x8, x13, x27, x29, x414000, x414001, x414002, x414003, x414004, x414005, x414006, x414007, x414008 => if x29 < (x13.length : Int) then (if 0 ≤ x29 then ((wigeontop_there.f k x27 ((rd_T25 x13 x29).f0) ((rd_T25 x13 x29).f1)).bind fun t462 => (if t462 = true then (wigeontop_TopSights.l1 k x0 x7 x8 x13 x27 (wrap64 (x29 + 1)) x414000 x414001 x414002 x414003 x414004 x414005 x414006 x414007 x414008) else (some false))) else (none)) else (wigeontop_TopSights.j8 k x0 x7 x8 x414000 x414001 x414002 x414003 x414004 x414005 x414006 x414007 x414008)
def wigeontop_TopSights.j3 : Nat → List (S48) → Int → Bool → List (S25) → List (S25) → Bool → List (S25) → Int → Int → Int → Int → Int → Int → Int → Int → Option (Bool)
  | 0, _, _, _, _, _, _, _, _, _, _, _, _, _, _, _ => none
  | k + 1, x0, x7, x8, x13, x14, x176, x414000, x414001, x414002, x414003, x414004, x414005, x414006, x414007, x414008 => if x176 = true then (some false) else (wigeontop_TopSights.l0 k x0 x7 x8 x13 x14 0 x414000 x414001 x414002 x414003 x414004 x414005 x414006 x414007 x414008)
def wigeontop_TopSights.l0 : Nat → List (S48) → Int → Bool → List (S25) → List (S25) → Int → List (S25) → Int → Int → Int → Int → Int → Int → Int → Int → Option (Bool)
  | 0, _, _, _, _, _, _, _, _, _, _, _, _, _, _, _ => none
  | k + 1, x0, x7, x8, x13, x14, x19, x414000, x414001, x414002, x414003, x414004, x414005, x414006, x414007, x414008 => if x19 < (x14.length : Int) then (if 0 ≤ x19 then ((screen_Hidden.f k x0 x414000 ((rd_T25 x14 x19).f0) ((rd_T25 x14 x19).f1)).bind fun bt439 => (if bt439.2 = 0 then (if bt439.1 = true then ((wigeontop_there.f k x13 ((rd_T25 x14 x19).f0) ((rd_T25 x14 x19).f1)).bind fun t442 => (if t442 = true then (wigeontop_TopSights.l0 k x0 x7 x8 x13 x14 (wrap64 (x19 + 1)) x414000 x414001 x414002 x414003 x414004 x414005 x414006 x414007 x414008) else (some false))) else (some false)) else (some false))) else (none)) else (wigeontop_TopSights.j5 k x0 x7 x8 x13 x414000 x414001 x414002 x414003 x414004 x414005 x414006 x414007 x414008)
end
def wigeontop_TopSights.f (k : Nat) (l0 : List (S48)) (l1_0 : List (S25)) (a1_1 : Int) (a1_2 : Int) (a1_3 : Int) (a1_4 : Int) (a1_5 : Int) (a1_6 : Int) (a1_7 : Int) (a1_8 : Int) : Option (Bool) := (screen_Sees.f k (([(⟨(⟨0, 0⟩ : S25), (⟨2, 0⟩ : S25)⟩ : S48)] : List (S48))) 1 1 3 1).bind fun bt417 => (if bt417.2 = 0 then (wigeontop_TopSights.j0 k l0 (!bt417.1) l1_0 a1_1 a1_2 a1_3 a1_4 a1_5 a1_6 a1_7 a1_8) else (wigeontop_TopSights.j0 k l0 true l1_0 a1_1 a1_2 a1_3 a1_4 a1_5 a1_6 a1_7 a1_8))
def wigeontop_TopSights.T23 : Bool × List (List Nat × List Nat) := (true, [([], []), ([], []), ([1], [1]), ([], []), ([], []), ([3, 4], [3, 4]), ([5], [5]), ([0, 2, 6], [0, 2, 6]), ([7], [7]), ([8], [8]), ([8], [8]), ([9, 7, 0, 1, 2, 3, 4, 5, 6, 7, 8, 9], [9]), ([10, 11, 0, 1, 2, 3, 4, 5, 6, 7, 8, 9, 10, 11], [10])])
def wigeontop_TopSights.B23 : List Nat := [0, 0, 2, 0, 0, 24, 56, 127, 255, 511, 511, 1023, 4095]
theorem wigeontop_TopSights.tab23 : rtab .any (opsOf Try.f6 23) = wigeontop_TopSights.T23 := by kernel_rfl
theorem wigeontop_TopSights.bits23 : waitsOk wigeontop_TopSights.T23.2 wigeontop_TopSights.B23 = true := by kernel_rfl
def wigeontop_TopSights.T45 : Bool × List (List Nat × List Nat) := (true, [([], []), ([], []), ([], []), ([], []), ([3], [3]), ([4], [4]), ([], []), ([6], [6]), ([7, 5], [7]), ([0, 1, 2, 5, 8, 8], [0, 1, 2, 5, 8]), ([9], [9]), ([10], [10]), ([10], [10]), ([10], [10]), ([11, 9, 0, 1, 2, 3, 4, 5, 6, 7, 8, 9, 10, 11], [11]), ([12, 14, 0, 1, 2, 3, 4, 5, 6, 7, 8, 9, 10, 11, 12, 14], [12]), ([13, 15, 0, 1, 2, 3, 4, 5, 6, 7, 8, 9, 10, 11, 12, 13, 14, 15], [13])])
def wigeontop_TopSights.B45 : List Nat := [0, 0, 0, 0, 8, 24, 0, 64, 248, 511, 1023, 2047, 2047, 2047, 4095, 24575, 65535]
theorem wigeontop_TopSights.tab45 : rtab .any (opsOf Try.f6 45) = wigeontop_TopSights.T45 := by kernel_rfl
theorem wigeontop_TopSights.bits45 : waitsOk wigeontop_TopSights.T45.2 wigeontop_TopSights.B45 = true := by kernel_rfl
open Bool renaming true → T, false → F
set_option maxHeartbeats 8000000 in
set_option maxRecDepth 100000 in
theorem wigeontop_TopSights.calls (k : Nat) (A0 : Option Addr) (c0 : Nat) (l0 : List (S48)) (A1_0 : Option Addr) (c1_0 : Nat) (l1_0 : List (S25)) (a1_1 : Int) (a1_2 : Int) (a1_3 : Int) (a1_4 : Int) (a1_5 : Int) (a1_6 : Int) (a1_7 : Int) (a1_8 : Int) (r : Bool) (w : World) (hr0 : Kd.C k48 w A0 l0.length l0) (hc0 : l0.length ≤ c0) (hr1_0 : Kd.C k25 w A1_0 l1_0.length l1_0) (hc1_0 : l1_0.length ≤ c1_0) (h : wigeontop_TopSights.f k l0 l1_0 a1_1 a1_2 a1_3 a1_4 a1_5 a1_6 a1_7 a1_8 = some r) :
 Calls Try.prog 6 #[.slice A0 l0.length c0, .agg #[.slice A1_0 l1_0.length c1_0, .int .i64 a1_1, .int .i64 a1_2, .int .i64 a1_3, .int .i64 a1_4, .int .i64 a1_5, .int .i64 a1_6, .int .i64 a1_7, .int .i64 a1_8]] w fun e w' => e = .returned (.bool r) ∧ Below w.heap.size w w' := by
 have hu29 := Try.underlying29
 have hu25 := Try.underlying25
 have hu48 := Try.underlying48
 have hu27 := Try.underlying27
 have HR0 := am hr0
 have HC0 := am hc0
 clear hr0 hc0
 have HR1_0 := am hr1_0
 have HC1_0 := am hc1_0
 clear hr1_0 hc1_0
 have HB := am (Below.refl w.heap.size w)
 have H : ((screen_Sees.f k (([(⟨(⟨0, 0⟩ : S25), (⟨2, 0⟩ : S25)⟩ : S48)] : List (S48))) 1 1 3 1).bind fun bt417 => (if bt417.2 = 0 then (wigeontop_TopSights.j0 k l0 (!bt417.1) l1_0 a1_1 a1_2 a1_3 a1_4 a1_5 a1_6 a1_7 a1_8) else (wigeontop_TopSights.j0 k l0 true l1_0 a1_1 a1_2 a1_3 a1_4 a1_5 a1_6 a1_7 a1_8))) = some r := h
 clear h
 obtain ⟨y414, hy414⟩ : ∃ y_ : List (S48), y_ = (([(⟨(⟨0, 0⟩ : S25), (⟨2, 0⟩ : S25)⟩ : S48)] : List (S48))) := ⟨_, rfl⟩
 replace H : ((screen_Sees.f k y414 1 1 3 1).bind fun bt417 => (if bt417.2 = 0 then (wigeontop_TopSights.j0 k l0 (!bt417.1) l1_0 a1_1 a1_2 a1_3 a1_4 a1_5 a1_6 a1_7 a1_8) else (wigeontop_TopSights.j0 k l0 true l1_0 a1_1 a1_2 a1_3 a1_4 a1_5 a1_6 a1_7 a1_8))) = some r := by first | (rw [hy414]; with_reducible exact H) | (have H2_ := (Option.bind_some _ _).symm.trans H; rw [hy414]; with_reducible exact H2_) | (have H2_ := (Option.bind_some _ _).symm.trans H; with_reducible exact H2_) | with_reducible exact H | (rw [hy414]; exact H) | exact H
 have Ny414 := am hy414
 clear hy414
 replace H := Option.bind_eq_some_iff.mp H
 obtain ⟨⟨t417, t418⟩, A30, H⟩ := H
 replace H : (if t418 = 0 then (wigeontop_TopSights.j0 k l0 (!t417) l1_0 a1_1 a1_2 a1_3 a1_4 a1_5 a1_6 a1_7 a1_8) else (wigeontop_TopSights.j0 k l0 true l1_0 a1_1 a1_2 a1_3 a1_4 a1_5 a1_6 a1_7 a1_8)) = some r := H
 have A3 := am A30
 clear A30
 have HC4 := am H
 clear H
 go_enter Try.func6, Try.ntmps6
 go_upto_region 2 with (first | ((with_reducible refine gate_dst (N := 3) rfl ?_); (try (refine gate_guard (by rfl) ?_; dsimp only)); refine box_event ?hg (N := 3) ?hd (cs := #[.slice A1_0 l1_0.length c1_0, .int .i64 a1_1, .int .i64 a1_2, .int .i64 a1_3, .int .i64 a1_4, .int .i64 a1_5, .int .i64 a1_6, .int .i64 a1_7, .int .i64 a1_8]) (t := 29) ?hr ?_; (case hd => rfl); (case hg => rfl); (case hr => first | (go_simp; done) | (go_simp; rfl)); intro gb413 hg w5 hbox hb; have n0_ := am (below_step (by repeat first|(with_reducible first|exact HB.out|apply wA|apply wN|apply wD)|exact HB.out) hb); have n1_ := am (hbox); have n2_ := am ((by rw [hg]; exact (below_size (by repeat first|(with_reducible first|exact HB.out|apply wA|apply wN|apply wD)|exact HB.out)) : w.heap.size ≤ gb413)); have n3_ := am ((by rw [hg]; exact (below_size (by repeat first|(with_reducible first|exact HB.out|apply wA|apply wN|apply wD)|exact HB.out)) : w.heap.size ≤ gb413)); clear HB; have HB := n0_; have BK413 := n1_; have GW413 := n2_; have GE413 := n3_; clear n0_ n1_ n2_ n3_; clear hb hbox hg) | ((with_reducible refine gate_dst (N := 41) rfl ?_); (try (refine gate_guard (by rfl) ?_; dsimp only)); refine Kd.R_lit k48 _ 48 ?hg (N := 41) ?hd (xs := ([(⟨(⟨0, 0⟩ : S25), (⟨2, 0⟩ : S25)⟩ : S48)] : List (S48))) (inner := [.int .i64 0, .int .i64 0, .int .i64 2, .int .i64 0]) (ok := fun _ => True) (okp := fun _ => True) ?hr ?hp (fun _ hk => hk) trivial (Below.refl _ _) (Nat.le_refl _) (by simp) ?_; (case hd => rfl); (case hg => rfl); (case hr => first | (go_simp; done) | (go_simp; rfl)); (case hp => exact (Reps.c4 (show Kd.M k48 _ _ _ (⟨(⟨0, 0⟩ : S25), (⟨2, 0⟩ : S25)⟩ : S48) [.int .i64 0, .int .i64 0, .int .i64 2, .int .i64 0] from (k48_mkM _ _ _ (⟨(⟨0, 0⟩ : S25), (⟨2, 0⟩ : S25)⟩ : S48) )) (Reps.none _ _))); intro v415 w6 ho7 hb hg_ hnew_; clear hg_ hnew_; (first | rw [← Ny414.out] at ho7 | (simp only [Int.reduceToNat] at ho7; rw [← Ny414.out] at ho7)); have n0_ := am (Kd.R_lower ho7 (below_size (by repeat first|(with_reducible first|exact HB.out|apply wA|apply wN|apply wD|refine wS ?_ GE413.out)|exact HB.out))); have n1_ := am (blk_below (by (with_reducible repeat first|refine bN ?_ _|refine bD ?_|refine bA ?_ _);exact BK413.out) hb); have n2_ := am (below_step (by repeat first|(with_reducible first|exact HB.out|apply wA|apply wN|apply wD|refine wS ?_ GE413.out)|exact HB.out) hb); clear BK413; clear HB; have HO416 := n0_; have BK413 := n1_; have HB := n2_; clear n0_ n1_ n2_; clear hb ho7; obtain ⟨Ao8, co8, eo8⟩ := Kd.R_slice HO416.out; subst eo8) | ((with_reducible refine gate_callee (f := 16) rfl ?_); refine goesL_ (some 44) rfl rfl Try.func16 (by kernel_rfl) rfl #[.slice Ao8 y414.length co8, .agg #[.int .i64 1, .int .i64 1], .agg #[.int .i64 3, .int .i64 1]] rfl (by (try simp only [List.map_toArray, List.map_cons, List.map_nil]); first | done | rfl | (simp only [List.length_drop, List.length_take]; rfl)) ?_; (with_reducible refine (screen_Sees.calls k _ _ y414 1 1 3 1 t417 t418 _ ?side1 ?side2 A3.out).mono ?_); (case side1 => repeat (first | exact (Kd.R_reads' HO416.out).2.2 | (with_reducible refine Kd.C_alloc ?_ _) | (with_reducible refine Kd.C_drewN ?_ _) | (with_reducible refine Kd.C_drew ?_))); (case side2 => exact (Kd.R_reads' HO416.out).2.1); rintro e w9 ⟨rfl, hb⟩; refine ⟨_, rfl, ?_⟩; have n0_ := am (Kd.R_below (by (with_reducible repeat first|apply Kd.R_alloc|apply Kd.R_drewN|apply Kd.R_drew);exact HO416.out) hb); have n1_ := am (blk_below (by (with_reducible repeat first|refine bN ?_ _|refine bD ?_|refine bA ?_ _);exact BK413.out) hb); have n2_ := am (below_step (by repeat first|(with_reducible first|exact HB.out|apply wA|apply wN|apply wD|refine wS ?_ GE413.out)|exact HB.out) hb); clear HO416; clear BK413; clear HB; have HO416 := n0_; have BK413 := n1_; have HB := n2_; clear n0_ n1_ n2_; (try clear hb); (try clear hb2); (try clear hk); (try clear hi)))
 (try simp only [Act.put, List.setIfInBounds_toArray, List.set_cons_zero, List.set_cons_succ])
 go_cut [52] (fun v52 wc => ∃ (kq : Nat) (x52_3 : Bool), v52 = .bool x52_3 ∧ Aside0 (wigeontop_TopSights.j0 kq l0 x52_3 l1_0 a1_1 a1_2 a1_3 a1_4 a1_5 a1_6 a1_7 a1_8 = some r) ∧ Aside0 (kq ≤ k) ∧ Aside0 (wc.heap[gb413]? = some (.cells #[(.slice A1_0 l1_0.length c1_0), .int .i64 a1_1, .int .i64 a1_2, .int .i64 a1_3, .int .i64 a1_4, .int .i64 a1_5, .int .i64 a1_6, .int .i64 a1_7, .int .i64 a1_8] 29 (0, 0))) ∧ Aside0 (Below w.heap.size w wc))
 case first =>(as_aux_lemma =>(
 have H := HC4.out
 clear HC4
 by_cases c10 : t418 = 0
 {
 rw [if_pos c10] at H
 have c10b0 : (t418 == 0) = true := beq_iff_eq.mpr c10
 have c10b1 : (t418 != 0) = false := bne_eq_false_iff_eq.mpr c10
 clear c10
 (first | rw [c10b0] | (simp only [i64_w, i32_w]; rw [c10b0]) | skip)
 have H' := am H
 clear H
 go_wp2
 go_meet
 case rel => exact ⟨_, (!t417), (by first | rfl | (simp; done) | (simp [*]; done)), H', ⟨by first | omega | exact Nat.le_refl _⟩, ⟨by (with_reducible repeat first|refine bN ?_ _|refine bD ?_|refine bA ?_ _);exact BK413.out⟩, ⟨by repeat (first | (with_reducible first | exact HB.out | apply below_alloc | apply pw_below_drewN | apply below_drew1 | refine below_set ?_ GE413.out) | exact HB.out)⟩⟩}
 rw [if_neg c10] at H
 have c10b0 : (t418 == 0) = false := beq_eq_false_iff_ne.mpr c10
 have c10b1 : (t418 != 0) = true := bne_iff_ne.mpr c10
 (first | rw [c10b0] | (simp only [i64_w, i32_w]; rw [c10b0]) | skip)
 have H' := am H
 clear H
 go_wp2
 go_meet
 case rel => exact ⟨_, (true), (by first | rfl | (simp; done) | (simp [*]; done)), H', ⟨by first | omega | exact Nat.le_refl _⟩, ⟨by (with_reducible repeat first|refine bN ?_ _|refine bD ?_|refine bA ?_ _);exact BK413.out⟩, ⟨by repeat (first | (with_reducible first | exact HB.out | apply below_alloc | apply pw_below_drewN | apply below_drew1 | refine below_set ?_ GE413.out) | exact HB.out)⟩⟩))
 as_aux_lemma =>
  clear HC4
  obtain ⟨kq, x52_3, rfl, HA, HJ3, BK413, HB⟩ := hcut
  cases kq with
  | zero => exact absurd HA.out (by simp [wigeontop_TopSights.j0])
  | succ kj3 =>
   have H := HA.out
   clear HA
   simp only [wigeontop_TopSights.j0] at H
   by_cases c11 : x52_3 = true
   {
 subst c11
 have H1 : (some false) = some r := by rw [if_pos rfl] at H; exact H
 clear H
 have H := H1
 clear H1
 obtain rfl := Option.some.inj H
 go_wp2
 go_ret
 exact ⟨by first | rfl | (simp [errW_none, errW_some] <;> rfl) | (simp [*, errW_none, errW_some] <;> rfl), by repeat (first | (with_reducible first | exact HB.out | apply below_alloc | apply pw_below_drewN | apply below_drew1 | refine below_set ?_ GE413.out) | exact HB.out)⟩}
   replace c11 := Bool.eq_false_iff.mpr c11
   subst c11
   have H1 : ((wigeonlaw02_Long.f l0 l1_0).bind fun t419 => (if t419 = true then (some true) else ((screen_Steps.f kj3 l0 l1_0 a1_1 a1_2 a1_3 a1_4 a1_5 a1_6 a1_7 a1_8).bind fun bt420 => ((screen_Steps.f kj3 l0 l1_0 a1_1 a1_2 a1_3 a1_4 a1_7 a1_8 a1_5 a1_6).bind fun bt423 => (if ((bt420.2.2 == 0) != (bt423.2.2 == 0)) = true then (wigeontop_TopSights.j1 kj3 l0 bt420.1 bt420.2.1 bt420.2.2 true l1_0 a1_1 a1_2 a1_3 a1_4 a1_5 a1_6 a1_7 a1_8) else (if bt420.1 = bt423.1 then (wigeontop_TopSights.j1 kj3 l0 bt420.1 bt420.2.1 bt420.2.2 (bt420.2.1 != bt423.2.1) l1_0 a1_1 a1_2 a1_3 a1_4 a1_5 a1_6 a1_7 a1_8) else (wigeontop_TopSights.j1 kj3 l0 bt420.1 bt420.2.1 bt420.2.2 true l1_0 a1_1 a1_2 a1_3 a1_4 a1_5 a1_6 a1_7 a1_8))))))) = some r := by rw [if_neg (show ¬ (false = true) by decide)] at H; exact H
   clear H
   have H := H1
   clear H1
   replace H := Option.bind_eq_some_iff.mp H
   obtain ⟨t419, A120, H⟩ := H
   replace H : (if t419 = true then (some true) else ((screen_Steps.f kj3 l0 l1_0 a1_1 a1_2 a1_3 a1_4 a1_5 a1_6 a1_7 a1_8).bind fun bt420 => ((screen_Steps.f kj3 l0 l1_0 a1_1 a1_2 a1_3 a1_4 a1_7 a1_8 a1_5 a1_6).bind fun bt423 => (if ((bt420.2.2 == 0) != (bt423.2.2 == 0)) = true then (wigeontop_TopSights.j1 kj3 l0 bt420.1 bt420.2.1 bt420.2.2 true l1_0 a1_1 a1_2 a1_3 a1_4 a1_5 a1_6 a1_7 a1_8) else (if bt420.1 = bt423.1 then (wigeontop_TopSights.j1 kj3 l0 bt420.1 bt420.2.1 bt420.2.2 (bt420.2.1 != bt423.2.1) l1_0 a1_1 a1_2 a1_3 a1_4 a1_5 a1_6 a1_7 a1_8) else (wigeontop_TopSights.j1 kj3 l0 bt420.1 bt420.2.1 bt420.2.2 true l1_0 a1_1 a1_2 a1_3 a1_4 a1_5 a1_6 a1_7 a1_8)))))) = some r := H
   have A12 := am A120
   clear A120
   by_cases c13 : t419 = true
   {
 subst c13
 have H1 : (some true) = some r := by rw [if_pos rfl] at H; exact H
 clear H
 have H := H1
 clear H1
 obtain rfl := Option.some.inj H
 have hcz14_0 : wc.cell? ⟨gb413, 0, none⟩ = some (.slice A1_0 l1_0.length c1_0) := (blk_cell BK413.out 0).trans rfl
 have hcz14_1 : wc.cell? ⟨gb413, 1, none⟩ = some (.int .i64 a1_1) := (blk_cell BK413.out 1).trans rfl
 have hcz14_2 : wc.cell? ⟨gb413, 2, none⟩ = some (.int .i64 a1_2) := (blk_cell BK413.out 2).trans rfl
 have hcz14_3 : wc.cell? ⟨gb413, 3, none⟩ = some (.int .i64 a1_3) := (blk_cell BK413.out 3).trans rfl
 have hcz14_4 : wc.cell? ⟨gb413, 4, none⟩ = some (.int .i64 a1_4) := (blk_cell BK413.out 4).trans rfl
 have hcz14_5 : wc.cell? ⟨gb413, 5, none⟩ = some (.int .i64 a1_5) := (blk_cell BK413.out 5).trans rfl
 have hcz14_6 : wc.cell? ⟨gb413, 6, none⟩ = some (.int .i64 a1_6) := (blk_cell BK413.out 6).trans rfl
 have hcz14_7 : wc.cell? ⟨gb413, 7, none⟩ = some (.int .i64 a1_7) := (blk_cell BK413.out 7).trans rfl
 have hcz14_8 : wc.cell? ⟨gb413, 8, none⟩ = some (.int .i64 a1_8) := (blk_cell BK413.out 8).trans rfl
 have hfz14_0 := blk_frozen BK413.out 0
 have hfz14_1 := blk_frozen BK413.out 1
 have hfz14_2 := blk_frozen BK413.out 2
 have hfz14_3 := blk_frozen BK413.out 3
 have hfz14_4 := blk_frozen BK413.out 4
 have hfz14_5 := blk_frozen BK413.out 5
 have hfz14_6 := blk_frozen BK413.out 6
 have hfz14_7 := blk_frozen BK413.out 7
 have hfz14_8 := blk_frozen BK413.out 8
 go_wp2_with (first | ((with_reducible refine gate_callee (f := 7) rfl ?_); refine goesL_ (some 56) rfl rfl Try.func7 (by kernel_rfl) rfl #[.slice A0 l0.length c0, .slice A1_0 l1_0.length c1_0] rfl (by (try simp only [List.map_toArray, List.map_cons, List.map_nil]); first | done | rfl | (simp only [List.length_drop, List.length_take]; rfl)) ?_; (with_reducible refine (wigeonlaw02_Long.calls _ _ l0 _ _ l1_0 true _ ?side1 ?side2 ?side3 ?side4 A12.out).mono ?_); (case side1 => repeat (first | exact (Kd.C_below HR0.out HB.out) | (with_reducible refine Kd.C_alloc ?_ _) | (with_reducible refine Kd.C_drewN ?_ _) | (with_reducible refine Kd.C_drew ?_))); (case side2 => exact HC0.out); (case side3 => repeat (first | exact (Kd.C_below HR1_0.out HB.out) | (with_reducible refine Kd.C_alloc ?_ _) | (with_reducible refine Kd.C_drewN ?_ _) | (with_reducible refine Kd.C_drew ?_))); (case side4 => exact HC1_0.out); rintro e w' ⟨rfl, ⟨nd, rfl⟩⟩; refine ⟨_, rfl, ?_⟩))
 go_ret
 exact ⟨by first | rfl | (simp [errW_none, errW_some] <;> rfl) | (simp [*, errW_none, errW_some] <;> rfl), by repeat (first | (with_reducible first | exact HB.out | apply below_alloc | apply pw_below_drewN | apply below_drew1 | refine below_set ?_ GE413.out) | exact HB.out)⟩}
   replace c13 := Bool.eq_false_iff.mpr c13
   subst c13
   have H1 : ((screen_Steps.f kj3 l0 l1_0 a1_1 a1_2 a1_3 a1_4 a1_5 a1_6 a1_7 a1_8).bind fun bt420 => ((screen_Steps.f kj3 l0 l1_0 a1_1 a1_2 a1_3 a1_4 a1_7 a1_8 a1_5 a1_6).bind fun bt423 => (if ((bt420.2.2 == 0) != (bt423.2.2 == 0)) = true then (wigeontop_TopSights.j1 kj3 l0 bt420.1 bt420.2.1 bt420.2.2 true l1_0 a1_1 a1_2 a1_3 a1_4 a1_5 a1_6 a1_7 a1_8) else (if bt420.1 = bt423.1 then (wigeontop_TopSights.j1 kj3 l0 bt420.1 bt420.2.1 bt420.2.2 (bt420.2.1 != bt423.2.1) l1_0 a1_1 a1_2 a1_3 a1_4 a1_5 a1_6 a1_7 a1_8) else (wigeontop_TopSights.j1 kj3 l0 bt420.1 bt420.2.1 bt420.2.2 true l1_0 a1_1 a1_2 a1_3 a1_4 a1_5 a1_6 a1_7 a1_8))))) = some r := by rw [if_neg (show ¬ (false = true) by decide)] at H; exact H
   clear H
   have H := H1
   clear H1
   replace H := Option.bind_eq_some_iff.mp H
   obtain ⟨⟨t420, t421, t422⟩, A150, H⟩ := H
   replace H : ((screen_Steps.f kj3 l0 l1_0 a1_1 a1_2 a1_3 a1_4 a1_7 a1_8 a1_5 a1_6).bind fun bt423 => (if ((t422 == 0) != (bt423.2.2 == 0)) = true then (wigeontop_TopSights.j1 kj3 l0 t420 t421 t422 true l1_0 a1_1 a1_2 a1_3 a1_4 a1_5 a1_6 a1_7 a1_8) else (if t420 = bt423.1 then (wigeontop_TopSights.j1 kj3 l0 t420 t421 t422 (t421 != bt423.2.1) l1_0 a1_1 a1_2 a1_3 a1_4 a1_5 a1_6 a1_7 a1_8) else (wigeontop_TopSights.j1 kj3 l0 t420 t421 t422 true l1_0 a1_1 a1_2 a1_3 a1_4 a1_5 a1_6 a1_7 a1_8)))) = some r := H
   have A15 := am A150
   clear A150
   replace H := Option.bind_eq_some_iff.mp H
   obtain ⟨⟨t423, t424, t425⟩, A160, H⟩ := H
   replace H : (if ((t422 == 0) != (t425 == 0)) = true then (wigeontop_TopSights.j1 kj3 l0 t420 t421 t422 true l1_0 a1_1 a1_2 a1_3 a1_4 a1_5 a1_6 a1_7 a1_8) else (if t420 = t423 then (wigeontop_TopSights.j1 kj3 l0 t420 t421 t422 (t421 != t424) l1_0 a1_1 a1_2 a1_3 a1_4 a1_5 a1_6 a1_7 a1_8) else (wigeontop_TopSights.j1 kj3 l0 t420 t421 t422 true l1_0 a1_1 a1_2 a1_3 a1_4 a1_5 a1_6 a1_7 a1_8))) = some r := H
   have A16 := am A160
   clear A160
   have HC17 := am H
   clear H
   have hcz18_0 : wc.cell? ⟨gb413, 0, none⟩ = some (.slice A1_0 l1_0.length c1_0) := (blk_cell BK413.out 0).trans rfl
   have hcz18_1 : wc.cell? ⟨gb413, 1, none⟩ = some (.int .i64 a1_1) := (blk_cell BK413.out 1).trans rfl
   have hcz18_2 : wc.cell? ⟨gb413, 2, none⟩ = some (.int .i64 a1_2) := (blk_cell BK413.out 2).trans rfl
   have hcz18_3 : wc.cell? ⟨gb413, 3, none⟩ = some (.int .i64 a1_3) := (blk_cell BK413.out 3).trans rfl
   have hcz18_4 : wc.cell? ⟨gb413, 4, none⟩ = some (.int .i64 a1_4) := (blk_cell BK413.out 4).trans rfl
   have hcz18_5 : wc.cell? ⟨gb413, 5, none⟩ = some (.int .i64 a1_5) := (blk_cell BK413.out 5).trans rfl
   have hcz18_6 : wc.cell? ⟨gb413, 6, none⟩ = some (.int .i64 a1_6) := (blk_cell BK413.out 6).trans rfl
   have hcz18_7 : wc.cell? ⟨gb413, 7, none⟩ = some (.int .i64 a1_7) := (blk_cell BK413.out 7).trans rfl
   have hcz18_8 : wc.cell? ⟨gb413, 8, none⟩ = some (.int .i64 a1_8) := (blk_cell BK413.out 8).trans rfl
   have hfz18_0 := blk_frozen BK413.out 0
   have hfz18_1 := blk_frozen BK413.out 1
   have hfz18_2 := blk_frozen BK413.out 2
   have hfz18_3 := blk_frozen BK413.out 3
   have hfz18_4 := blk_frozen BK413.out 4
   have hfz18_5 := blk_frozen BK413.out 5
   have hfz18_6 := blk_frozen BK413.out 6
   have hfz18_7 := blk_frozen BK413.out 7
   have hfz18_8 := blk_frozen BK413.out 8
   go_upto_region 8 with (first | ((with_reducible refine gate_callee (f := 7) rfl ?_); refine goesL_ (some 56) rfl rfl Try.func7 (by kernel_rfl) rfl #[.slice A0 l0.length c0, .slice A1_0 l1_0.length c1_0] rfl (by (try simp only [List.map_toArray, List.map_cons, List.map_nil]); first | done | rfl | (simp only [List.length_drop, List.length_take]; rfl)) ?_; (with_reducible refine (wigeonlaw02_Long.calls _ _ l0 _ _ l1_0 false _ ?side1 ?side2 ?side3 ?side4 A12.out).mono ?_); (case side1 => repeat (first | exact (Kd.C_below HR0.out HB.out) | (with_reducible refine Kd.C_alloc ?_ _) | (with_reducible refine Kd.C_drewN ?_ _) | (with_reducible refine Kd.C_drew ?_))); (case side2 => exact HC0.out); (case side3 => repeat (first | exact (Kd.C_below HR1_0.out HB.out) | (with_reducible refine Kd.C_alloc ?_ _) | (with_reducible refine Kd.C_drewN ?_ _) | (with_reducible refine Kd.C_drew ?_))); (case side4 => exact HC1_0.out); rintro e w' ⟨rfl, ⟨nd, rfl⟩⟩; refine ⟨_, rfl, ?_⟩) | ((with_reducible refine gate_callee (f := 15) rfl ?_); refine goesL_ (some 67) rfl rfl Try.func15 (by kernel_rfl) rfl #[.slice A0 l0.length c0, .slice A1_0 l1_0.length c1_0, .agg #[.int .i64 a1_1, .int .i64 a1_2, .int .i64 a1_3, .int .i64 a1_4], .agg #[.int .i64 a1_5, .int .i64 a1_6], .agg #[.int .i64 a1_7, .int .i64 a1_8]] rfl (by (try simp only [List.map_toArray, List.map_cons, List.map_nil]); first | done | rfl | (simp only [List.length_drop, List.length_take]; rfl)) ?_; (with_reducible refine (screen_Steps.calls kj3 _ _ l0 _ _ l1_0 a1_1 a1_2 a1_3 a1_4 a1_5 a1_6 a1_7 a1_8 t420 t421 t422 _ ?side1 ?side2 ?side3 ?side4 A15.out).mono ?_); (case side1 => repeat (first | exact (Kd.C_below HR0.out (by repeat first|(with_reducible first|exact HB.out|apply wA|apply wN|apply wD|refine wS ?_ GE413.out)|exact HB.out)) | (with_reducible refine Kd.C_alloc ?_ _) | (with_reducible refine Kd.C_drewN ?_ _) | (with_reducible refine Kd.C_drew ?_))); (case side2 => exact HC0.out); (case side3 => repeat (first | exact (Kd.C_below HR1_0.out (by repeat first|(with_reducible first|exact HB.out|apply wA|apply wN|apply wD|refine wS ?_ GE413.out)|exact HB.out)) | (with_reducible refine Kd.C_alloc ?_ _) | (with_reducible refine Kd.C_drewN ?_ _) | (with_reducible refine Kd.C_drew ?_))); (case side4 => exact HC1_0.out); rintro e w19 ⟨rfl, hb⟩; refine ⟨_, rfl, ?_⟩; have n0_ := am (blk_below (by (with_reducible repeat first|refine bN ?_ _|refine bD ?_|refine bA ?_ _);exact BK413.out) hb); have n1_ := am (below_step (by repeat first|(with_reducible first|exact HB.out|apply wA|apply wN|apply wD|refine wS ?_ GE413.out)|exact HB.out) hb); clear BK413; clear HB; have BK413 := n0_; have HB := n1_; clear n0_ n1_; (try clear hb); (try clear hb2); (try clear hk); (try clear hi); have hcz20_0 : w19.cell? ⟨gb413, 0, none⟩ = some (.slice A1_0 l1_0.length c1_0) := (blk_cell BK413.out 0).trans rfl; have hcz20_1 : w19.cell? ⟨gb413, 1, none⟩ = some (.int .i64 a1_1) := (blk_cell BK413.out 1).trans rfl; have hcz20_2 : w19.cell? ⟨gb413, 2, none⟩ = some (.int .i64 a1_2) := (blk_cell BK413.out 2).trans rfl; have hcz20_3 : w19.cell? ⟨gb413, 3, none⟩ = some (.int .i64 a1_3) := (blk_cell BK413.out 3).trans rfl; have hcz20_4 : w19.cell? ⟨gb413, 4, none⟩ = some (.int .i64 a1_4) := (blk_cell BK413.out 4).trans rfl; have hcz20_5 : w19.cell? ⟨gb413, 5, none⟩ = some (.int .i64 a1_5) := (blk_cell BK413.out 5).trans rfl; have hcz20_6 : w19.cell? ⟨gb413, 6, none⟩ = some (.int .i64 a1_6) := (blk_cell BK413.out 6).trans rfl; have hcz20_7 : w19.cell? ⟨gb413, 7, none⟩ = some (.int .i64 a1_7) := (blk_cell BK413.out 7).trans rfl; have hcz20_8 : w19.cell? ⟨gb413, 8, none⟩ = some (.int .i64 a1_8) := (blk_cell BK413.out 8).trans rfl; have hfz20_0 := blk_frozen BK413.out 0; have hfz20_1 := blk_frozen BK413.out 1; have hfz20_2 := blk_frozen BK413.out 2; have hfz20_3 := blk_frozen BK413.out 3; have hfz20_4 := blk_frozen BK413.out 4; have hfz20_5 := blk_frozen BK413.out 5; have hfz20_6 := blk_frozen BK413.out 6; have hfz20_7 := blk_frozen BK413.out 7; have hfz20_8 := blk_frozen BK413.out 8) | ((with_reducible refine gate_callee (f := 15) rfl ?_); refine goesL_ (some 81) rfl rfl Try.func15 (by kernel_rfl) rfl #[.slice A0 l0.length c0, .slice A1_0 l1_0.length c1_0, .agg #[.int .i64 a1_1, .int .i64 a1_2, .int .i64 a1_3, .int .i64 a1_4], .agg #[.int .i64 a1_7, .int .i64 a1_8], .agg #[.int .i64 a1_5, .int .i64 a1_6]] rfl (by (try simp only [List.map_toArray, List.map_cons, List.map_nil]); first | done | rfl | (simp only [List.length_drop, List.length_take]; rfl)) ?_; (with_reducible refine (screen_Steps.calls kj3 _ _ l0 _ _ l1_0 a1_1 a1_2 a1_3 a1_4 a1_7 a1_8 a1_5 a1_6 t423 t424 t425 _ ?side1 ?side2 ?side3 ?side4 A16.out).mono ?_); (case side1 => repeat (first | exact (Kd.C_below HR0.out HB.out) | (with_reducible refine Kd.C_alloc ?_ _) | (with_reducible refine Kd.C_drewN ?_ _) | (with_reducible refine Kd.C_drew ?_))); (case side2 => exact HC0.out); (case side3 => repeat (first | exact (Kd.C_below HR1_0.out HB.out) | (with_reducible refine Kd.C_alloc ?_ _) | (with_reducible refine Kd.C_drewN ?_ _) | (with_reducible refine Kd.C_drew ?_))); (case side4 => exact HC1_0.out); rintro e w21 ⟨rfl, hb⟩; refine ⟨_, rfl, ?_⟩; have n0_ := am (blk_below (by (with_reducible repeat first|refine bN ?_ _|refine bD ?_|refine bA ?_ _);exact BK413.out) hb); have n1_ := am (below_step (by repeat first|(with_reducible first|exact HB.out|apply wA|apply wN|apply wD|refine wS ?_ GE413.out)|exact HB.out) hb); clear BK413; clear HB; have BK413 := n0_; have HB := n1_; clear n0_ n1_; (try clear hb); (try clear hb2); (try clear hk); (try clear hi)))
   (try simp only [Act.put, List.setIfInBounds_toArray, List.set_cons_zero, List.set_cons_succ])
   go_cut [99] (fun v99 wc => ∃ (kq : Nat) (x99_16 : Bool), v99 = .bool x99_16 ∧ Aside0 (wigeontop_TopSights.j1 kq l0 t420 t421 t422 x99_16 l1_0 a1_1 a1_2 a1_3 a1_4 a1_5 a1_6 a1_7 a1_8 = some r) ∧ Aside0 (kq ≤ kj3) ∧ Aside0 (wc.heap[gb413]? = some (.cells #[(.slice A1_0 l1_0.length c1_0), .int .i64 a1_1, .int .i64 a1_2, .int .i64 a1_3, .int .i64 a1_4, .int .i64 a1_5, .int .i64 a1_6, .int .i64 a1_7, .int .i64 a1_8] 29 (0, 0))) ∧ Aside0 (Below w.heap.size w wc))
   case first =>(as_aux_lemma =>(
 have H := HC17.out
 clear HC17
 by_cases c22 : ((t422 == 0) != (t425 == 0)) = true
 {
 rw [if_pos c22] at H
 have c22b0 : ((t422 == 0) != (t425 == 0)) = true := c22
 (try (have c22b1 : decide ((t422 == 0) = (t425 == 0)) = false := by simpa using c22))
 (try (have c22b2 : ((t422 == 0) == (t425 == 0)) = false := by simpa using c22))
 (try (have c22b3 : ¬ ((t422 == 0) = (t425 == 0)) := by simpa using c22))
 clear c22
 (first | rw [c22b0] | (simp only [i64_w, i32_w]; rw [c22b0]) | rw [c22b1] | skip)
 have H' := am H
 clear H
 go_wp2
 go_meet
 case rel => exact ⟨_, (true), (by first | rfl | (simp; done) | (simp [*]; done)), H', ⟨by have := HJ3.out; first | omega | exact Nat.le_refl _⟩, ⟨by (with_reducible repeat first|refine bN ?_ _|refine bD ?_|refine bA ?_ _);exact BK413.out⟩, ⟨by repeat (first | (with_reducible first | exact HB.out | apply below_alloc | apply pw_below_drewN | apply below_drew1 | refine below_set ?_ GE413.out) | exact HB.out)⟩⟩}
 rw [if_neg c22] at H
 have c22b0 : ((t422 == 0) != (t425 == 0)) = false := by simpa using c22
 (try (have c22b1 : decide ((t422 == 0) = (t425 == 0)) = true := by simpa using c22))
 (try (have c22b2 : ((t422 == 0) == (t425 == 0)) = true := by simpa using c22))
 clear c22
 (first | rw [c22b0] | (simp only [i64_w, i32_w]; rw [c22b0]) | rw [c22b1] | skip)
 by_cases c23 : t420 = t423
 {
 rw [if_pos c23] at H
 have c23b0 : (t420 == t423) = true := beq_iff_eq.mpr c23
 have c23b1 : (t420 != t423) = false := bne_eq_false_iff_eq.mpr c23
 clear c23
 have H' := am H
 clear H
 go_wp2
 go_meet
 case rel => exact ⟨_, ((t421 != t424)), (by first | rfl | (simp; done) | (simp [*]; done)), H', ⟨by have := HJ3.out; first | omega | exact Nat.le_refl _⟩, ⟨by (with_reducible repeat first|refine bN ?_ _|refine bD ?_|refine bA ?_ _);exact BK413.out⟩, ⟨by repeat (first | (with_reducible first | exact HB.out | apply below_alloc | apply pw_below_drewN | apply below_drew1 | refine below_set ?_ GE413.out) | exact HB.out)⟩⟩}
 rw [if_neg c23] at H
 have c23b0 : (t420 == t423) = false := beq_eq_false_iff_ne.mpr c23
 have c23b1 : (t420 != t423) = true := bne_iff_ne.mpr c23
 have H' := am H
 clear H
 go_wp2
 go_meet
 case rel => exact ⟨_, (true), (by first | rfl | (simp; done) | (simp [*]; done)), H', ⟨by have := HJ3.out; first | omega | exact Nat.le_refl _⟩, ⟨by (with_reducible repeat first|refine bN ?_ _|refine bD ?_|refine bA ?_ _);exact BK413.out⟩, ⟨by repeat (first | (with_reducible first | exact HB.out | apply below_alloc | apply pw_below_drewN | apply below_drew1 | refine below_set ?_ GE413.out) | exact HB.out)⟩⟩))
   as_aux_lemma =>
    clear HC17
    obtain ⟨kq, x99_16, rfl, HA, HJ16, BK413, HB⟩ := hcut
    cases kq with
    | zero => exact absurd HA.out (by simp [wigeontop_TopSights.j1])
    | succ kj16 =>
     have H := HA.out
     clear HA
     simp only [wigeontop_TopSights.j1] at H
     by_cases c24 : x99_16 = true
     {
 subst c24
 have H1 : (some false) = some r := by rw [if_pos rfl] at H; exact H
 clear H
 have H := H1
 clear H1
 obtain rfl := Option.some.inj H
 go_wp2
 go_ret
 exact ⟨by first | rfl | (simp [errW_none, errW_some] <;> rfl) | (simp [*, errW_none, errW_some] <;> rfl), by repeat (first | (with_reducible first | exact HB.out | apply below_alloc | apply pw_below_drewN | apply below_drew1 | refine below_set ?_ GE413.out) | exact HB.out)⟩}
     replace c24 := Bool.eq_false_iff.mpr c24
     subst c24
     have H1 : (if t422 = 0 then ((screen_Reach.f kj16 l0 l1_0 a1_1 a1_2 a1_3 a1_4 a1_5 a1_6).bind fun bt426 => ((screen_Way.f kj16 l0 l1_0 a1_1 a1_2 a1_3 a1_4 a1_5 a1_6 a1_7 a1_8).bind fun bt430 => (if bt426.2 = 0 then (if bt430.2.2 = 0 then (if (bt430.2.1 != t421) = true then (wigeontop_TopSights.j2 kj16 l0 t420 t421 bt426.1 bt430.1 true l1_0 a1_1 a1_2 a1_3 a1_4 a1_5 a1_6 a1_7 a1_8) else ((wigeontop_there.f kj16 bt426.1 a1_7 a1_8).bind fun t435 => (wigeontop_TopSights.j2 kj16 l0 t420 t421 bt426.1 bt430.1 (t435 != t421) l1_0 a1_1 a1_2 a1_3 a1_4 a1_5 a1_6 a1_7 a1_8))) else (wigeontop_TopSights.j2 kj16 l0 t420 t421 bt426.1 bt430.1 true l1_0 a1_1 a1_2 a1_3 a1_4 a1_5 a1_6 a1_7 a1_8)) else (wigeontop_TopSights.j2 kj16 l0 t420 t421 bt426.1 bt430.1 true l1_0 a1_1 a1_2 a1_3 a1_4 a1_5 a1_6 a1_7 a1_8)))) else (if t420 = 0 then (some (!t421)) else (some false))) = some r := by rw [if_neg (show ¬ (false = true) by decide)] at H; exact H
     clear H
     have H := H1
     clear H1
     by_cases c25 : t422 = 0
     {
 rw [if_pos c25] at H
 have c25b0 : (t422 == 0) = true := beq_iff_eq.mpr c25
 have c25b1 : (t422 != 0) = false := bne_eq_false_iff_eq.mpr c25
 clear c25
 replace H := Option.bind_eq_some_iff.mp H
 obtain ⟨⟨t426, t429⟩, A260, H⟩ := H
 replace H : ((screen_Way.f kj16 l0 l1_0 a1_1 a1_2 a1_3 a1_4 a1_5 a1_6 a1_7 a1_8).bind fun bt430 => (if t429 = 0 then (if bt430.2.2 = 0 then (if (bt430.2.1 != t421) = true then (wigeontop_TopSights.j2 kj16 l0 t420 t421 t426 bt430.1 true l1_0 a1_1 a1_2 a1_3 a1_4 a1_5 a1_6 a1_7 a1_8) else ((wigeontop_there.f kj16 t426 a1_7 a1_8).bind fun t435 => (wigeontop_TopSights.j2 kj16 l0 t420 t421 t426 bt430.1 (t435 != t421) l1_0 a1_1 a1_2 a1_3 a1_4 a1_5 a1_6 a1_7 a1_8))) else (wigeontop_TopSights.j2 kj16 l0 t420 t421 t426 bt430.1 true l1_0 a1_1 a1_2 a1_3 a1_4 a1_5 a1_6 a1_7 a1_8)) else (wigeontop_TopSights.j2 kj16 l0 t420 t421 t426 bt430.1 true l1_0 a1_1 a1_2 a1_3 a1_4 a1_5 a1_6 a1_7 a1_8))) = some r := H
 have A26 := am A260
 clear A260
 replace H := Option.bind_eq_some_iff.mp H
 obtain ⟨⟨t430, t433, t434⟩, A270, H⟩ := H
 replace H : (if t429 = 0 then (if t434 = 0 then (if (t433 != t421) = true then (wigeontop_TopSights.j2 kj16 l0 t420 t421 t426 t430 true l1_0 a1_1 a1_2 a1_3 a1_4 a1_5 a1_6 a1_7 a1_8) else ((wigeontop_there.f kj16 t426 a1_7 a1_8).bind fun t435 => (wigeontop_TopSights.j2 kj16 l0 t420 t421 t426 t430 (t435 != t421) l1_0 a1_1 a1_2 a1_3 a1_4 a1_5 a1_6 a1_7 a1_8))) else (wigeontop_TopSights.j2 kj16 l0 t420 t421 t426 t430 true l1_0 a1_1 a1_2 a1_3 a1_4 a1_5 a1_6 a1_7 a1_8)) else (wigeontop_TopSights.j2 kj16 l0 t420 t421 t426 t430 true l1_0 a1_1 a1_2 a1_3 a1_4 a1_5 a1_6 a1_7 a1_8)) = some r := H
 have A27 := am A270
 clear A270
 have HC28 := am H
 clear H
 have hcz29_0 : wc.cell? ⟨gb413, 0, none⟩ = some (.slice A1_0 l1_0.length c1_0) := (blk_cell BK413.out 0).trans rfl
 have hcz29_1 : wc.cell? ⟨gb413, 1, none⟩ = some (.int .i64 a1_1) := (blk_cell BK413.out 1).trans rfl
 have hcz29_2 : wc.cell? ⟨gb413, 2, none⟩ = some (.int .i64 a1_2) := (blk_cell BK413.out 2).trans rfl
 have hcz29_3 : wc.cell? ⟨gb413, 3, none⟩ = some (.int .i64 a1_3) := (blk_cell BK413.out 3).trans rfl
 have hcz29_4 : wc.cell? ⟨gb413, 4, none⟩ = some (.int .i64 a1_4) := (blk_cell BK413.out 4).trans rfl
 have hcz29_5 : wc.cell? ⟨gb413, 5, none⟩ = some (.int .i64 a1_5) := (blk_cell BK413.out 5).trans rfl
 have hcz29_6 : wc.cell? ⟨gb413, 6, none⟩ = some (.int .i64 a1_6) := (blk_cell BK413.out 6).trans rfl
 have hcz29_7 : wc.cell? ⟨gb413, 7, none⟩ = some (.int .i64 a1_7) := (blk_cell BK413.out 7).trans rfl
 have hcz29_8 : wc.cell? ⟨gb413, 8, none⟩ = some (.int .i64 a1_8) := (blk_cell BK413.out 8).trans rfl
 have hfz29_0 := blk_frozen BK413.out 0
 have hfz29_1 := blk_frozen BK413.out 1
 have hfz29_2 := blk_frozen BK413.out 2
 have hfz29_3 := blk_frozen BK413.out 3
 have hfz29_4 := blk_frozen BK413.out 4
 have hfz29_5 := blk_frozen BK413.out 5
 have hfz29_6 := blk_frozen BK413.out 6
 have hfz29_7 := blk_frozen BK413.out 7
 have hfz29_8 := blk_frozen BK413.out 8
 go_upto_region 14 with (first | ((with_reducible refine gate_callee (f := 12) rfl ?_); refine goesL_ (some 116) rfl rfl Try.func12 (by kernel_rfl) rfl #[.slice A0 l0.length c0, .slice A1_0 l1_0.length c1_0, .agg #[.int .i64 a1_1, .int .i64 a1_2, .int .i64 a1_3, .int .i64 a1_4], .agg #[.int .i64 a1_5, .int .i64 a1_6]] rfl (by (try simp only [List.map_toArray, List.map_cons, List.map_nil]); first | done | rfl | (simp only [List.length_drop, List.length_take]; rfl)) ?_; (with_reducible refine (screen_Reach.calls kj16 _ _ l0 _ _ l1_0 a1_1 a1_2 a1_3 a1_4 a1_5 a1_6 t426 t429 _ ?side1 ?side2 ?side3 ?side4 A26.out).mono ?_); (case side1 => repeat (first | exact (Kd.C_below HR0.out HB.out) | (with_reducible refine Kd.C_alloc ?_ _) | (with_reducible refine Kd.C_drewN ?_ _) | (with_reducible refine Kd.C_drew ?_))); (case side2 => exact HC0.out); (case side3 => repeat (first | exact (Kd.C_below HR1_0.out HB.out) | (with_reducible refine Kd.C_alloc ?_ _) | (with_reducible refine Kd.C_drewN ?_ _) | (with_reducible refine Kd.C_drew ?_))); (case side4 => exact HC1_0.out); rintro e w30 ⟨v427, rfl, ho0, hb⟩; refine ⟨_, rfl, ?_⟩; have n0_ := am (Kd.R_lower ho0 (below_size (by repeat first|(with_reducible first|exact HB.out|apply wA|apply wN|apply wD|refine wS ?_ GE413.out)|exact HB.out))); have n1_ := am (blk_below (by (with_reducible repeat first|refine bN ?_ _|refine bD ?_|refine bA ?_ _);exact BK413.out) hb); have n2_ := am (below_step (by repeat first|(with_reducible first|exact HB.out|apply wA|apply wN|apply wD|refine wS ?_ GE413.out)|exact HB.out) hb); clear BK413; clear HB; have HO428 := n0_; have BK413 := n1_; have HB := n2_; clear n0_ n1_ n2_; (try clear hb); (try clear hb2); (try clear hk); (try clear hi); (try clear ho0); have hcz31_0 : w30.cell? ⟨gb413, 0, none⟩ = some (.slice A1_0 l1_0.length c1_0) := (blk_cell BK413.out 0).trans rfl; have hcz31_1 : w30.cell? ⟨gb413, 1, none⟩ = some (.int .i64 a1_1) := (blk_cell BK413.out 1).trans rfl; have hcz31_2 : w30.cell? ⟨gb413, 2, none⟩ = some (.int .i64 a1_2) := (blk_cell BK413.out 2).trans rfl; have hcz31_3 : w30.cell? ⟨gb413, 3, none⟩ = some (.int .i64 a1_3) := (blk_cell BK413.out 3).trans rfl; have hcz31_4 : w30.cell? ⟨gb413, 4, none⟩ = some (.int .i64 a1_4) := (blk_cell BK413.out 4).trans rfl; have hcz31_5 : w30.cell? ⟨gb413, 5, none⟩ = some (.int .i64 a1_5) := (blk_cell BK413.out 5).trans rfl; have hcz31_6 : w30.cell? ⟨gb413, 6, none⟩ = some (.int .i64 a1_6) := (blk_cell BK413.out 6).trans rfl; have hcz31_7 : w30.cell? ⟨gb413, 7, none⟩ = some (.int .i64 a1_7) := (blk_cell BK413.out 7).trans rfl; have hcz31_8 : w30.cell? ⟨gb413, 8, none⟩ = some (.int .i64 a1_8) := (blk_cell BK413.out 8).trans rfl; have hfz31_0 := blk_frozen BK413.out 0; have hfz31_1 := blk_frozen BK413.out 1; have hfz31_2 := blk_frozen BK413.out 2; have hfz31_3 := blk_frozen BK413.out 3; have hfz31_4 := blk_frozen BK413.out 4; have hfz31_5 := blk_frozen BK413.out 5; have hfz31_6 := blk_frozen BK413.out 6; have hfz31_7 := blk_frozen BK413.out 7; have hfz31_8 := blk_frozen BK413.out 8) | ((with_reducible refine gate_callee (f := 9) rfl ?_); refine goesL_ (some 129) rfl rfl Try.func9 (by kernel_rfl) rfl #[.slice A0 l0.length c0, .slice A1_0 l1_0.length c1_0, .agg #[.int .i64 a1_1, .int .i64 a1_2, .int .i64 a1_3, .int .i64 a1_4], .agg #[.int .i64 a1_5, .int .i64 a1_6], .agg #[.int .i64 a1_7, .int .i64 a1_8]] rfl (by (try simp only [List.map_toArray, List.map_cons, List.map_nil]); first | done | rfl | (simp only [List.length_drop, List.length_take]; rfl)) ?_; (with_reducible refine (screen_Way.calls kj16 _ _ l0 _ _ l1_0 a1_1 a1_2 a1_3 a1_4 a1_5 a1_6 a1_7 a1_8 t430 t433 t434 _ ?side1 ?side2 ?side3 ?side4 A27.out).mono ?_); (case side1 => repeat (first | exact (Kd.C_below HR0.out HB.out) | (with_reducible refine Kd.C_alloc ?_ _) | (with_reducible refine Kd.C_drewN ?_ _) | (with_reducible refine Kd.C_drew ?_))); (case side2 => exact HC0.out); (case side3 => repeat (first | exact (Kd.C_below HR1_0.out HB.out) | (with_reducible refine Kd.C_alloc ?_ _) | (with_reducible refine Kd.C_drewN ?_ _) | (with_reducible refine Kd.C_drew ?_))); (case side4 => exact HC1_0.out); rintro e w32 ⟨v431, rfl, ho0, hb⟩; refine ⟨_, rfl, ?_⟩; have n0_ := am (Kd.R_elder' (by (with_reducible repeat first|apply Kd.R_alloc|apply Kd.R_drewN|apply Kd.R_drew);exact HO428.out) (Kd.R_base ho0) hb); have n1_ := am (Kd.R_lower (Kd.R_new' ho0 (Kd.R_lt (by (with_reducible repeat first|apply Kd.R_alloc|apply Kd.R_drewN|apply Kd.R_drew);exact HO428.out))) (below_size (by repeat first|(with_reducible first|exact HB.out|apply wA|apply wN|apply wD|refine wS ?_ GE413.out)|exact HB.out))); have n2_ := am (blk_below (by (with_reducible repeat first|refine bN ?_ _|refine bD ?_|refine bA ?_ _);exact BK413.out) hb); have n3_ := am (below_step (by repeat first|(with_reducible first|exact HB.out|apply wA|apply wN|apply wD|refine wS ?_ GE413.out)|exact HB.out) hb); clear HO428; clear BK413; clear HB; have HO428 := n0_; have HO432 := n1_; have BK413 := n2_; have HB := n3_; clear n0_ n1_ n2_ n3_; (try clear hb); (try clear hb2); (try clear hk); (try clear hi); (try clear ho0)))
 (try simp only [Act.put, List.setIfInBounds_toArray, List.set_cons_zero, List.set_cons_succ])
 go_cut [151] (fun v151 wc => ∃ (kq : Nat) (x151_27 : Bool), v151 = .bool x151_27 ∧ Aside0 (wigeontop_TopSights.j2 kq l0 t420 t421 t426 t430 x151_27 l1_0 a1_1 a1_2 a1_3 a1_4 a1_5 a1_6 a1_7 a1_8 = some r) ∧ Aside0 (kq ≤ kj16) ∧ Aside0 (Kd.R k25 25 wc w.heap.size (fun k_ => some k_ ≠ (v431 : Value).ownBlock) v427 t426) ∧ Aside0 (Kd.R k25 25 wc w.heap.size (fun k_ => some k_ ≠ (v427 : Value).ownBlock) v431 t430) ∧ Aside0 (wc.heap[gb413]? = some (.cells #[(.slice A1_0 l1_0.length c1_0), .int .i64 a1_1, .int .i64 a1_2, .int .i64 a1_3, .int .i64 a1_4, .int .i64 a1_5, .int .i64 a1_6, .int .i64 a1_7, .int .i64 a1_8] 29 (0, 0))) ∧ Aside0 (Below w.heap.size w wc))
 case first =>(as_aux_lemma =>(
 have H := HC28.out
 clear HC28
 by_cases c33 : t429 = 0
 {
 rw [if_pos c33] at H
 have c33b0 : (t429 == 0) = true := beq_iff_eq.mpr c33
 have c33b1 : (t429 != 0) = false := bne_eq_false_iff_eq.mpr c33
 clear c33
 (first | rw [c33b0] | (simp only [i64_w, i32_w]; rw [c33b0]) | skip)
 by_cases c34 : t434 = 0
 {
 rw [if_pos c34] at H
 have c34b0 : (t434 == 0) = true := beq_iff_eq.mpr c34
 have c34b1 : (t434 != 0) = false := bne_eq_false_iff_eq.mpr c34
 clear c34
 by_cases c35 : (t433 != t421) = true
 {
 rw [if_pos c35] at H
 have c35b0 : (t433 != t421) = true := c35
 (try (have c35b1 : decide (t433 = t421) = false := by simpa using c35))
 (try (have c35b2 : (t433 == t421) = false := by simpa using c35))
 (try (have c35b3 : ¬ (t433 = t421) := by simpa using c35))
 clear c35
 have H' := am H
 clear H
 go_wp2
 go_meet
 case rel => exact ⟨_, (true), (by first | rfl | (simp; done) | (simp [*]; done)), H', ⟨by have := HJ3.out; have := HJ16.out; first | omega | exact Nat.le_refl _⟩, ⟨by (with_reducible repeat first|apply Kd.R_alloc|apply Kd.R_drewN|apply Kd.R_drew);exact Kd.R_mono HO428.out (fun _ hk => hk.2)⟩, ⟨by (with_reducible repeat first|apply Kd.R_alloc|apply Kd.R_drewN|apply Kd.R_drew);exact Kd.R_mono HO432.out (fun _ hk => hk.2)⟩, ⟨by (with_reducible repeat first|refine bN ?_ _|refine bD ?_|refine bA ?_ _);exact BK413.out⟩, ⟨by repeat (first | (with_reducible first | exact HB.out | apply below_alloc | apply pw_below_drewN | apply below_drew1 | refine below_set ?_ GE413.out) | exact HB.out)⟩⟩}
 rw [if_neg c35] at H
 have c35b0 : (t433 != t421) = false := by simpa using c35
 (try (have c35b1 : decide (t433 = t421) = true := by simpa using c35))
 (try (have c35b2 : (t433 == t421) = true := by simpa using c35))
 clear c35
 replace H := Option.bind_eq_some_iff.mp H
 obtain ⟨t435, A360, H⟩ := H
 replace H : (wigeontop_TopSights.j2 kj16 l0 t420 t421 t426 t430 (t435 != t421) l1_0 a1_1 a1_2 a1_3 a1_4 a1_5 a1_6 a1_7 a1_8) = some r := H
 have A36 := am A360
 clear A360
 have H' := am H
 clear H
 have hcz37_0 : w32.cell? ⟨gb413, 0, none⟩ = some (.slice A1_0 l1_0.length c1_0) := (blk_cell BK413.out 0).trans rfl
 have hcz37_1 : w32.cell? ⟨gb413, 1, none⟩ = some (.int .i64 a1_1) := (blk_cell BK413.out 1).trans rfl
 have hcz37_2 : w32.cell? ⟨gb413, 2, none⟩ = some (.int .i64 a1_2) := (blk_cell BK413.out 2).trans rfl
 have hcz37_3 : w32.cell? ⟨gb413, 3, none⟩ = some (.int .i64 a1_3) := (blk_cell BK413.out 3).trans rfl
 have hcz37_4 : w32.cell? ⟨gb413, 4, none⟩ = some (.int .i64 a1_4) := (blk_cell BK413.out 4).trans rfl
 have hcz37_5 : w32.cell? ⟨gb413, 5, none⟩ = some (.int .i64 a1_5) := (blk_cell BK413.out 5).trans rfl
 have hcz37_6 : w32.cell? ⟨gb413, 6, none⟩ = some (.int .i64 a1_6) := (blk_cell BK413.out 6).trans rfl
 have hcz37_7 : w32.cell? ⟨gb413, 7, none⟩ = some (.int .i64 a1_7) := (blk_cell BK413.out 7).trans rfl
 have hcz37_8 : w32.cell? ⟨gb413, 8, none⟩ = some (.int .i64 a1_8) := (blk_cell BK413.out 8).trans rfl
 have hfz37_0 := blk_frozen BK413.out 0
 have hfz37_1 := blk_frozen BK413.out 1
 have hfz37_2 := blk_frozen BK413.out 2
 have hfz37_3 := blk_frozen BK413.out 3
 have hfz37_4 := blk_frozen BK413.out 4
 have hfz37_5 := blk_frozen BK413.out 5
 have hfz37_6 := blk_frozen BK413.out 6
 have hfz37_7 := blk_frozen BK413.out 7
 have hfz37_8 := blk_frozen BK413.out 8
 obtain ⟨Ao38, co38, eo38⟩ := Kd.R_slice HO428.out
 subst eo38
 go_wp2_with (first | (go_at_call 17; (with_reducible refine (wigeontop_there.calls kj16 _ _ t426 a1_7 a1_8 t435 _ ?side1 ?side2 A36.out).mono ?_); (case side1 => repeat (first | exact (Kd.R_reads' HO428.out).2.2 | (with_reducible refine Kd.C_alloc ?_ _) | (with_reducible refine Kd.C_drewN ?_ _) | (with_reducible refine Kd.C_drew ?_))); (case side2 => exact (Kd.R_reads' HO428.out).2.1); rintro e w39 ⟨rfl, hb⟩; have n0_ := am (Kd.R_below (by (with_reducible repeat first|apply Kd.R_alloc|apply Kd.R_drewN|apply Kd.R_drew);exact HO428.out) hb); have n1_ := am (Kd.R_below (by (with_reducible repeat first|apply Kd.R_alloc|apply Kd.R_drewN|apply Kd.R_drew);exact HO432.out) hb); have n2_ := am (blk_below (by (with_reducible repeat first|refine bN ?_ _|refine bD ?_|refine bA ?_ _);exact BK413.out) hb); have n3_ := am (below_step (by repeat first|(with_reducible first|exact HB.out|apply wA|apply wN|apply wD|refine wS ?_ GE413.out)|exact HB.out) hb); clear HO428; clear HO432; clear BK413; clear HB; have HO428 := n0_; have HO432 := n1_; have BK413 := n2_; have HB := n3_; clear n0_ n1_ n2_ n3_; (try clear hb); (try clear hb2); (try clear hk); (try clear hi)))
 go_meet
 case rel => exact ⟨_, ((t435 != t421)), (by first | rfl | (simp; done) | (simp [*]; done)), H', ⟨by have := HJ3.out; have := HJ16.out; first | omega | exact Nat.le_refl _⟩, ⟨by (with_reducible repeat first|apply Kd.R_alloc|apply Kd.R_drewN|apply Kd.R_drew);exact Kd.R_mono HO428.out (fun _ hk => hk.2)⟩, ⟨by (with_reducible repeat first|apply Kd.R_alloc|apply Kd.R_drewN|apply Kd.R_drew);exact Kd.R_mono HO432.out (fun _ hk => hk.2)⟩, ⟨by (with_reducible repeat first|refine bN ?_ _|refine bD ?_|refine bA ?_ _);exact BK413.out⟩, ⟨by repeat (first | (with_reducible first | exact HB.out | apply below_alloc | apply pw_below_drewN | apply below_drew1 | refine below_set ?_ GE413.out) | exact HB.out)⟩⟩}
 rw [if_neg c34] at H
 have c34b0 : (t434 == 0) = false := beq_eq_false_iff_ne.mpr c34
 have c34b1 : (t434 != 0) = true := bne_iff_ne.mpr c34
 have H' := am H
 clear H
 go_wp2
 go_meet
 case rel => exact ⟨_, (true), (by first | rfl | (simp; done) | (simp [*]; done)), H', ⟨by have := HJ3.out; have := HJ16.out; first | omega | exact Nat.le_refl _⟩, ⟨by (with_reducible repeat first|apply Kd.R_alloc|apply Kd.R_drewN|apply Kd.R_drew);exact Kd.R_mono HO428.out (fun _ hk => hk.2)⟩, ⟨by (with_reducible repeat first|apply Kd.R_alloc|apply Kd.R_drewN|apply Kd.R_drew);exact Kd.R_mono HO432.out (fun _ hk => hk.2)⟩, ⟨by (with_reducible repeat first|refine bN ?_ _|refine bD ?_|refine bA ?_ _);exact BK413.out⟩, ⟨by repeat (first | (with_reducible first | exact HB.out | apply below_alloc | apply pw_below_drewN | apply below_drew1 | refine below_set ?_ GE413.out) | exact HB.out)⟩⟩}
 rw [if_neg c33] at H
 have c33b0 : (t429 == 0) = false := beq_eq_false_iff_ne.mpr c33
 have c33b1 : (t429 != 0) = true := bne_iff_ne.mpr c33
 (first | rw [c33b0] | (simp only [i64_w, i32_w]; rw [c33b0]) | skip)
 have H' := am H
 clear H
 go_wp2
 go_meet
 case rel => exact ⟨_, (true), (by first | rfl | (simp; done) | (simp [*]; done)), H', ⟨by have := HJ3.out; have := HJ16.out; first | omega | exact Nat.le_refl _⟩, ⟨by (with_reducible repeat first|apply Kd.R_alloc|apply Kd.R_drewN|apply Kd.R_drew);exact Kd.R_mono HO428.out (fun _ hk => hk.2)⟩, ⟨by (with_reducible repeat first|apply Kd.R_alloc|apply Kd.R_drewN|apply Kd.R_drew);exact Kd.R_mono HO432.out (fun _ hk => hk.2)⟩, ⟨by (with_reducible repeat first|refine bN ?_ _|refine bD ?_|refine bA ?_ _);exact BK413.out⟩, ⟨by repeat (first | (with_reducible first | exact HB.out | apply below_alloc | apply pw_below_drewN | apply below_drew1 | refine below_set ?_ GE413.out) | exact HB.out)⟩⟩))
 as_aux_lemma =>
  clear HC28
  obtain ⟨kq, x151_27, rfl, HA, HJ27, HO_13, HO_14, BK413, HB⟩ := hcut
  cases kq with
  | zero => exact absurd HA.out (by simp [wigeontop_TopSights.j2])
  | succ kj27 =>
   have H := HA.out
   clear HA
   simp only [wigeontop_TopSights.j2] at H
   by_cases c40 : x151_27 = true
   {
 subst c40
 have H1 : (some false) = some r := by rw [if_pos rfl] at H; exact H
 clear H
 have H := H1
 clear H1
 obtain rfl := Option.some.inj H
 go_wp2
 go_ret
 exact ⟨by first | rfl | (simp [errW_none, errW_some] <;> rfl) | (simp [*, errW_none, errW_some] <;> rfl), by repeat (first | (with_reducible first | exact HB.out | apply below_alloc | apply pw_below_drewN | apply below_drew1 | refine below_set ?_ GE413.out) | exact HB.out)⟩}
   replace c40 := Bool.eq_false_iff.mpr c40
   subst c40
   have H1 : (if t421 = true then ((screen_CheckWay.f kj27 l0 l1_0 a1_1 a1_2 a1_3 a1_4 t430).bind fun bt436 => (if bt436.2 = 0 then (if bt436.1 = t420 then (wigeontop_TopSights.j3 kj27 l0 t420 t421 t426 t430 ((t430.length : Int) != (wrap64 (t420 + 1))) l1_0 a1_1 a1_2 a1_3 a1_4 a1_5 a1_6 a1_7 a1_8) else (wigeontop_TopSights.j3 kj27 l0 t420 t421 t426 t430 true l1_0 a1_1 a1_2 a1_3 a1_4 a1_5 a1_6 a1_7 a1_8)) else (wigeontop_TopSights.j3 kj27 l0 t420 t421 t426 t430 true l1_0 a1_1 a1_2 a1_3 a1_4 a1_5 a1_6 a1_7 a1_8))) else (wigeontop_TopSights.j5 kj27 l0 t420 t421 t426 l1_0 a1_1 a1_2 a1_3 a1_4 a1_5 a1_6 a1_7 a1_8)) = some r := by rw [if_neg (show ¬ (false = true) by decide)] at H; exact H
   clear H
   have H := H1
   clear H1
   have HC41 := am H
   clear H
   go_upto_if 152 with (fail)
   go_cut [] (fun wc => ∃ (kq : Nat), Aside0 (wigeontop_TopSights.j5 kq l0 t420 t421 t426 l1_0 a1_1 a1_2 a1_3 a1_4 a1_5 a1_6 a1_7 a1_8 = some r) ∧ Aside0 (kq ≤ kj27) ∧ Aside0 (Kd.R k25 25 wc w.heap.size (fun _ => True) v427 t426) ∧ Aside0 (wc.heap[gb413]? = some (.cells #[(.slice A1_0 l1_0.length c1_0), .int .i64 a1_1, .int .i64 a1_2, .int .i64 a1_3, .int .i64 a1_4, .int .i64 a1_5, .int .i64 a1_6, .int .i64 a1_7, .int .i64 a1_8] 29 (0, 0))) ∧ Aside0 (Below w.heap.size w wc))
   case first =>(as_aux_lemma =>(
 have H := HC41.out
 clear HC41
 by_cases c42 : t421 = true
 {
 subst c42
 have H1 : ((screen_CheckWay.f kj27 l0 l1_0 a1_1 a1_2 a1_3 a1_4 t430).bind fun bt436 => (if bt436.2 = 0 then (if bt436.1 = t420 then (wigeontop_TopSights.j3 kj27 l0 t420 true t426 t430 ((t430.length : Int) != (wrap64 (t420 + 1))) l1_0 a1_1 a1_2 a1_3 a1_4 a1_5 a1_6 a1_7 a1_8) else (wigeontop_TopSights.j3 kj27 l0 t420 true t426 t430 true l1_0 a1_1 a1_2 a1_3 a1_4 a1_5 a1_6 a1_7 a1_8)) else (wigeontop_TopSights.j3 kj27 l0 t420 true t426 t430 true l1_0 a1_1 a1_2 a1_3 a1_4 a1_5 a1_6 a1_7 a1_8))) = some r := by rw [if_pos rfl] at H; exact H
 clear H
 have H := H1
 clear H1
 replace H := Option.bind_eq_some_iff.mp H
 obtain ⟨⟨t436, t437⟩, A430, H⟩ := H
 replace H : (if t437 = 0 then (if t436 = t420 then (wigeontop_TopSights.j3 kj27 l0 t420 true t426 t430 ((t430.length : Int) != (wrap64 (t420 + 1))) l1_0 a1_1 a1_2 a1_3 a1_4 a1_5 a1_6 a1_7 a1_8) else (wigeontop_TopSights.j3 kj27 l0 t420 true t426 t430 true l1_0 a1_1 a1_2 a1_3 a1_4 a1_5 a1_6 a1_7 a1_8)) else (wigeontop_TopSights.j3 kj27 l0 t420 true t426 t430 true l1_0 a1_1 a1_2 a1_3 a1_4 a1_5 a1_6 a1_7 a1_8)) = some r := H
 have A43 := am A430
 clear A430
 have HC44 := am H
 clear H
 have hcz45_0 : wc.cell? ⟨gb413, 0, none⟩ = some (.slice A1_0 l1_0.length c1_0) := (blk_cell BK413.out 0).trans rfl
 have hcz45_1 : wc.cell? ⟨gb413, 1, none⟩ = some (.int .i64 a1_1) := (blk_cell BK413.out 1).trans rfl
 have hcz45_2 : wc.cell? ⟨gb413, 2, none⟩ = some (.int .i64 a1_2) := (blk_cell BK413.out 2).trans rfl
 have hcz45_3 : wc.cell? ⟨gb413, 3, none⟩ = some (.int .i64 a1_3) := (blk_cell BK413.out 3).trans rfl
 have hcz45_4 : wc.cell? ⟨gb413, 4, none⟩ = some (.int .i64 a1_4) := (blk_cell BK413.out 4).trans rfl
 have hcz45_5 : wc.cell? ⟨gb413, 5, none⟩ = some (.int .i64 a1_5) := (blk_cell BK413.out 5).trans rfl
 have hcz45_6 : wc.cell? ⟨gb413, 6, none⟩ = some (.int .i64 a1_6) := (blk_cell BK413.out 6).trans rfl
 have hcz45_7 : wc.cell? ⟨gb413, 7, none⟩ = some (.int .i64 a1_7) := (blk_cell BK413.out 7).trans rfl
 have hcz45_8 : wc.cell? ⟨gb413, 8, none⟩ = some (.int .i64 a1_8) := (blk_cell BK413.out 8).trans rfl
 have hfz45_0 := blk_frozen BK413.out 0
 have hfz45_1 := blk_frozen BK413.out 1
 have hfz45_2 := blk_frozen BK413.out 2
 have hfz45_3 := blk_frozen BK413.out 3
 have hfz45_4 := blk_frozen BK413.out 4
 have hfz45_5 := blk_frozen BK413.out 5
 have hfz45_6 := blk_frozen BK413.out 6
 have hfz45_7 := blk_frozen BK413.out 7
 have hfz45_8 := blk_frozen BK413.out 8
 obtain ⟨Ao46, co46, eo46⟩ := Kd.R_slice HO_14.out
 subst eo46
 go_upto_region 18 with (first | ((with_reducible refine gate_callee (f := 18) rfl ?_); refine goesL_ (some 160) rfl rfl Try.func18 (by kernel_rfl) rfl #[.slice A0 l0.length c0, .slice A1_0 l1_0.length c1_0, .agg #[.int .i64 a1_1, .int .i64 a1_2, .int .i64 a1_3, .int .i64 a1_4], .slice Ao46 t430.length co46] rfl (by (try simp only [List.map_toArray, List.map_cons, List.map_nil]); first | done | rfl | (simp only [List.length_drop, List.length_take]; rfl)) ?_; (with_reducible refine (screen_CheckWay.calls kj27 _ _ l0 _ _ l1_0 a1_1 a1_2 a1_3 a1_4 _ _ t430 t436 t437 _ ?side1 ?side2 ?side3 ?side4 ?side5 ?side6 A43.out).mono ?_); (case side1 => repeat (first | exact (Kd.C_below HR0.out HB.out) | (with_reducible refine Kd.C_alloc ?_ _) | (with_reducible refine Kd.C_drewN ?_ _) | (with_reducible refine Kd.C_drew ?_))); (case side2 => exact HC0.out); (case side3 => repeat (first | exact (Kd.C_below HR1_0.out HB.out) | (with_reducible refine Kd.C_alloc ?_ _) | (with_reducible refine Kd.C_drewN ?_ _) | (with_reducible refine Kd.C_drew ?_))); (case side4 => exact HC1_0.out); (case side5 => repeat (first | exact (Kd.R_reads' HO_14.out).2.2 | (with_reducible refine Kd.C_alloc ?_ _) | (with_reducible refine Kd.C_drewN ?_ _) | (with_reducible refine Kd.C_drew ?_))); (case side6 => exact (Kd.R_reads' HO_14.out).2.1); rintro e w47 ⟨rfl, hb⟩; refine ⟨_, rfl, ?_⟩; have n0_ := am (Kd.R_below (by (with_reducible repeat first|apply Kd.R_alloc|apply Kd.R_drewN|apply Kd.R_drew);exact HO_13.out) hb); have n1_ := am (Kd.R_below (by (with_reducible repeat first|apply Kd.R_alloc|apply Kd.R_drewN|apply Kd.R_drew);exact HO_14.out) hb); have n2_ := am (blk_below (by (with_reducible repeat first|refine bN ?_ _|refine bD ?_|refine bA ?_ _);exact BK413.out) hb); have n3_ := am (below_step (by repeat first|(with_reducible first|exact HB.out|apply wA|apply wN|apply wD|refine wS ?_ GE413.out)|exact HB.out) hb); clear HO_13; clear HO_14; clear BK413; clear HB; have HO_13 := n0_; have HO_14 := n1_; have BK413 := n2_; have HB := n3_; clear n0_ n1_ n2_ n3_; (try clear hb); (try clear hb2); (try clear hk); (try clear hi)))
 (try simp only [Act.put, List.setIfInBounds_toArray, List.set_cons_zero, List.set_cons_succ])
 go_cut [176] (fun v176 wc => ∃ (kq : Nat) (x176_43 : Bool), v176 = .bool x176_43 ∧ Aside0 (wigeontop_TopSights.j3 kq l0 t420 true t426 t430 x176_43 l1_0 a1_1 a1_2 a1_3 a1_4 a1_5 a1_6 a1_7 a1_8 = some r) ∧ Aside0 (kq ≤ kj27) ∧ Aside0 (Kd.R k25 25 wc w.heap.size (fun k_ => some k_ ≠ ((.slice Ao46 t430.length co46) : Value).ownBlock) v427 t426) ∧ Aside0 (Kd.R k25 25 wc w.heap.size (fun k_ => some k_ ≠ (v427 : Value).ownBlock) (.slice Ao46 t430.length co46) t430) ∧ Aside0 (wc.heap[gb413]? = some (.cells #[(.slice A1_0 l1_0.length c1_0), .int .i64 a1_1, .int .i64 a1_2, .int .i64 a1_3, .int .i64 a1_4, .int .i64 a1_5, .int .i64 a1_6, .int .i64 a1_7, .int .i64 a1_8] 29 (0, 0))) ∧ Aside0 (Below w.heap.size w wc))
 case first =>(as_aux_lemma =>(
 have H := HC44.out
 clear HC44
 by_cases c48 : t437 = 0
 {
 rw [if_pos c48] at H
 have c48b0 : (t437 == 0) = true := beq_iff_eq.mpr c48
 have c48b1 : (t437 != 0) = false := bne_eq_false_iff_eq.mpr c48
 clear c48
 (first | rw [c48b0] | (simp only [i64_w, i32_w]; rw [c48b0]) | skip)
 by_cases c49 : t436 = t420
 {
 rw [if_pos c49] at H
 have c49b0 : (t436 == t420) = true := beq_iff_eq.mpr c49
 have c49b1 : (t436 != t420) = false := bne_eq_false_iff_eq.mpr c49
 clear c49
 have H' := am H
 clear H
 go_wp2
 go_meet
 case rel => exact ⟨_, (((t430.length : Int) != (wrap64 (t420 + 1)))), (by first | rfl | (simp; done) | (simp [*]; done)), H', ⟨by have := HJ3.out; have := HJ16.out; have := HJ27.out; first | omega | exact Nat.le_refl _⟩, ⟨by (with_reducible repeat first|apply Kd.R_alloc|apply Kd.R_drewN|apply Kd.R_drew);exact HO_13.out⟩, ⟨by (with_reducible repeat first|apply Kd.R_alloc|apply Kd.R_drewN|apply Kd.R_drew);exact HO_14.out⟩, ⟨by (with_reducible repeat first|refine bN ?_ _|refine bD ?_|refine bA ?_ _);exact BK413.out⟩, ⟨by repeat (first | (with_reducible first | exact HB.out | apply below_alloc | apply pw_below_drewN | apply below_drew1 | refine below_set ?_ GE413.out) | exact HB.out)⟩⟩}
 rw [if_neg c49] at H
 have c49b0 : (t436 == t420) = false := beq_eq_false_iff_ne.mpr c49
 have c49b1 : (t436 != t420) = true := bne_iff_ne.mpr c49
 have H' := am H
 clear H
 go_wp2
 go_meet
 case rel => exact ⟨_, (true), (by first | rfl | (simp; done) | (simp [*]; done)), H', ⟨by have := HJ3.out; have := HJ16.out; have := HJ27.out; first | omega | exact Nat.le_refl _⟩, ⟨by (with_reducible repeat first|apply Kd.R_alloc|apply Kd.R_drewN|apply Kd.R_drew);exact HO_13.out⟩, ⟨by (with_reducible repeat first|apply Kd.R_alloc|apply Kd.R_drewN|apply Kd.R_drew);exact HO_14.out⟩, ⟨by (with_reducible repeat first|refine bN ?_ _|refine bD ?_|refine bA ?_ _);exact BK413.out⟩, ⟨by repeat (first | (with_reducible first | exact HB.out | apply below_alloc | apply pw_below_drewN | apply below_drew1 | refine below_set ?_ GE413.out) | exact HB.out)⟩⟩}
 rw [if_neg c48] at H
 have c48b0 : (t437 == 0) = false := beq_eq_false_iff_ne.mpr c48
 have c48b1 : (t437 != 0) = true := bne_iff_ne.mpr c48
 (first | rw [c48b0] | (simp only [i64_w, i32_w]; rw [c48b0]) | skip)
 have H' := am H
 clear H
 go_wp2
 go_meet
 case rel => exact ⟨_, (true), (by first | rfl | (simp; done) | (simp [*]; done)), H', ⟨by have := HJ3.out; have := HJ16.out; have := HJ27.out; first | omega | exact Nat.le_refl _⟩, ⟨by (with_reducible repeat first|apply Kd.R_alloc|apply Kd.R_drewN|apply Kd.R_drew);exact HO_13.out⟩, ⟨by (with_reducible repeat first|apply Kd.R_alloc|apply Kd.R_drewN|apply Kd.R_drew);exact HO_14.out⟩, ⟨by (with_reducible repeat first|refine bN ?_ _|refine bD ?_|refine bA ?_ _);exact BK413.out⟩, ⟨by repeat (first | (with_reducible first | exact HB.out | apply below_alloc | apply pw_below_drewN | apply below_drew1 | refine below_set ?_ GE413.out) | exact HB.out)⟩⟩))
 as_aux_lemma =>
  clear HC44
  obtain ⟨kq, x176_43, rfl, HA, HJ43, HO_13, HO_14, BK413, HB⟩ := hcut
  cases kq with
  | zero => exact absurd HA.out (by simp [wigeontop_TopSights.j3])
  | succ kj43 =>
   have H := HA.out
   clear HA
   simp only [wigeontop_TopSights.j3] at H
   by_cases c50 : x176_43 = true
   {
 subst c50
 have H1 : (some false) = some r := by rw [if_pos rfl] at H; exact H
 clear H
 have H := H1
 clear H1
 obtain rfl := Option.some.inj H
 go_wp2
 go_ret
 exact ⟨by first | rfl | (simp [errW_none, errW_some] <;> rfl) | (simp [*, errW_none, errW_some] <;> rfl), by repeat (first | (with_reducible first | exact HB.out | apply below_alloc | apply pw_below_drewN | apply below_drew1 | refine below_set ?_ GE413.out) | exact HB.out)⟩}
   replace c50 := Bool.eq_false_iff.mpr c50
   subst c50
   have H1 : (wigeontop_TopSights.l0 kj43 l0 t420 true t426 t430 0 l1_0 a1_1 a1_2 a1_3 a1_4 a1_5 a1_6 a1_7 a1_8) = some r := by rw [if_neg (show ¬ (false = true) by decide)] at H; exact H
   clear H
   have H := H1
   clear H1
   have H' := am H
   clear H
   go_wp2
   go_loopg [19] kj43 (fun kq v19 w' => ∃ (x19_5 : Int), v19 = .int .i64 x19_5 ∧ Aside0 (wigeontop_TopSights.l0 kq l0 t420 true t426 t430 x19_5 l1_0 a1_1 a1_2 a1_3 a1_4 a1_5 a1_6 a1_7 a1_8 = some r) ∧ Aside0 (kq ≤ kj43) ∧ Aside0 (Kd.R k25 25 w' w.heap.size (fun k_ => some k_ ≠ ((.slice Ao46 t430.length co46) : Value).ownBlock) v427 t426) ∧ Aside0 (Kd.R k25 25 w' w.heap.size (fun k_ => some k_ ≠ (v427 : Value).ownBlock) (.slice Ao46 t430.length co46) t430) ∧ Aside0 (w'.heap[gb413]? = some (.cells #[(.slice A1_0 l1_0.length c1_0), .int .i64 a1_1, .int .i64 a1_2, .int .i64 a1_3, .int .i64 a1_4, .int .i64 a1_5, .int .i64 a1_6, .int .i64 a1_7, .int .i64 a1_8] 29 (0, 0))) ∧ Aside0 (Below w.heap.size w w'))
   case atStart => exact ⟨(0), (by first | rfl | (simp; done) | (simp [*]; done)), H', ⟨Nat.le_refl _⟩, ⟨by (with_reducible repeat first|apply Kd.R_alloc|apply Kd.R_drewN|apply Kd.R_drew);exact HO_13.out⟩, ⟨by (with_reducible repeat first|apply Kd.R_alloc|apply Kd.R_drewN|apply Kd.R_drew);exact HO_14.out⟩, ⟨by (with_reducible repeat first|refine bN ?_ _|refine bD ?_|refine bA ?_ _);exact BK413.out⟩, ⟨by repeat (first | (with_reducible first | exact HB.out | apply below_alloc | apply pw_below_drewN | apply below_drew1 | refine below_set ?_ GE413.out) | exact HB.out)⟩⟩
   case round =>(
 clear H'
 obtain ⟨x19_5, rfl, HA, HK5, HO_13, HO_14, BK413, HB⟩ := hrel
 cases gk with
 | zero => exact absurd HA.out (by simp [wigeontop_TopSights.l0])
 | succ k5 =>
  have H := HA.out
  clear HA
  simp only [wigeontop_TopSights.l0] at H
  by_cases c51 : x19_5 < (t430.length : Int)
  {
 rw [if_pos c51] at H
 have c51b0 : decide (x19_5 < (t430.length : Int)) = true := decide_eq_true c51
 clear c51
 by_cases c52 : 0 ≤ x19_5
 {
 rw [if_pos c52] at H
 have c52b0 : decide (0 ≤ x19_5) = true := decide_eq_true c52
 clear c52
 replace H := Option.bind_eq_some_iff.mp H
 obtain ⟨⟨t439, t440⟩, A530, H⟩ := H
 replace H : (if t440 = 0 then (if t439 = true then ((wigeontop_there.f k5 t426 ((rd_T25 t430 x19_5).f0) ((rd_T25 t430 x19_5).f1)).bind fun t442 => (if t442 = true then (wigeontop_TopSights.l0 k5 l0 t420 true t426 t430 (wrap64 (x19_5 + 1)) l1_0 a1_1 a1_2 a1_3 a1_4 a1_5 a1_6 a1_7 a1_8) else (some false))) else (some false)) else (some false)) = some r := H
 have A53 := am A530
 clear A530
 by_cases c54 : t440 = 0
 {
 rw [if_pos c54] at H
 have c54b0 : (t440 == 0) = true := beq_iff_eq.mpr c54
 have c54b1 : (t440 != 0) = false := bne_eq_false_iff_eq.mpr c54
 clear c54
 by_cases c55 : t439 = true
 {
 subst c55
 have H1 : ((wigeontop_there.f k5 t426 ((rd_T25 t430 x19_5).f0) ((rd_T25 t430 x19_5).f1)).bind fun t442 => (if t442 = true then (wigeontop_TopSights.l0 k5 l0 t420 true t426 t430 (wrap64 (x19_5 + 1)) l1_0 a1_1 a1_2 a1_3 a1_4 a1_5 a1_6 a1_7 a1_8) else (some false))) = some r := by rw [if_pos rfl] at H; exact H
 clear H
 have H := H1
 clear H1
 replace H := Option.bind_eq_some_iff.mp H
 obtain ⟨t442, A560, H⟩ := H
 replace H : (if t442 = true then (wigeontop_TopSights.l0 k5 l0 t420 true t426 t430 (wrap64 (x19_5 + 1)) l1_0 a1_1 a1_2 a1_3 a1_4 a1_5 a1_6 a1_7 a1_8) else (some false)) = some r := H
 have A56 := am A560
 clear A560
 by_cases c57 : t442 = true
 {
 subst c57
 have H1 : (wigeontop_TopSights.l0 k5 l0 t420 true t426 t430 (wrap64 (x19_5 + 1)) l1_0 a1_1 a1_2 a1_3 a1_4 a1_5 a1_6 a1_7 a1_8) = some r := by rw [if_pos rfl] at H; exact H
 clear H
 have H := H1
 clear H1
 have H' := am H
 clear H
 try go_wp2
 have n0_ := am (Kd.R_drew HO_13.out)
 have n1_ := am (Kd.R_drew HO_14.out)
 have n2_ := am (blk_drew BK413.out)
 have n3_ := am (below_drew1 HB.out)
 clear HO_13
 clear HO_14
 clear BK413
 clear HB
 have HO_13 := n0_
 have HO_14 := n1_
 have BK413 := n2_
 have HB := n3_
 clear n0_ n1_ n2_ n3_
 have p438 : 0 ≤ (x19_5 : Int) := of_decide_eq_true (by first | (with_reducible assumption) | assumption)
 have q438 : x19_5 < (t430.length : Int) := of_decide_eq_true (by first | (with_reducible assumption) | assumption)
 obtain ⟨ad438, e438, hx438_0, hx438_1⟩ := at_T25 (Kd.R_reads' HO_14.out).2.2 x19_5 p438 q438
 cases e438
 replace p438 := eq_true p438
 replace q438 := eq_true q438
 refine start_ (n := 13) (S := fun w' => w'.cell? ⟨gb413, 0, none⟩ = some (.slice A1_0 l1_0.length c1_0) ∧ w'.cell? ⟨gb413, 1, none⟩ = some (.int .i64 a1_1) ∧ w'.cell? ⟨gb413, 2, none⟩ = some (.int .i64 a1_2) ∧ w'.cell? ⟨gb413, 3, none⟩ = some (.int .i64 a1_3) ∧ w'.cell? ⟨gb413, 4, none⟩ = some (.int .i64 a1_4) ∧ w'.cell? ⟨gb413, 5, none⟩ = some (.int .i64 a1_5) ∧ w'.cell? ⟨gb413, 6, none⟩ = some (.int .i64 a1_6) ∧ w'.cell? ⟨gb413, 7, none⟩ = some (.int .i64 a1_7) ∧ w'.cell? ⟨gb413, 8, none⟩ = some (.int .i64 a1_8) ∧ w'.cell? (ad438.add ((x19_5).toNat * 2)) = some (.int .i64 ((rd_T25 t430 x19_5).f0)) ∧ w'.cell? ⟨(ad438.add ((x19_5).toNat * 2)).block, (ad438.add ((x19_5).toNat * 2)).off + 1, none⟩ = some (.int .i64 ((rd_T25 t430 x19_5).f1))) (ds := []) #[F,F,F,F,F,F,F,F,F,F,F,F,F] (by kernel_rfl) rfl rfl ⟨(blk_cell BK413.out 0).trans rfl, (blk_cell BK413.out 1).trans rfl, (blk_cell BK413.out 2).trans rfl, (blk_cell BK413.out 3).trans rfl, (blk_cell BK413.out 4).trans rfl, (blk_cell BK413.out 5).trans rfl, (blk_cell BK413.out 6).trans rfl, (blk_cell BK413.out 7).trans rfl, (blk_cell BK413.out 8).trans rfl, hx438_0, hx438_1⟩ (fun hHeld => ?_); refine with_tabW wigeontop_TopSights.tab23 wigeontop_TopSights.bits23 (fun HT_ HW_ => ?_)
 generalize wr.drew = w58 at HO_13 HO_14 BK413 HB hx438_0 hx438_1 hHeld ⊢
 refine pure_ (i := 0) (N := some 184) (v := ?_) (a' := ?_) #[T,F,F,F,F,F,F,F,F,F,F,F,F] rfl rfl (any_of HT_.out (by kernel_rfl)) (fun _ _ _ h => h) (Or.inl ⟨by rfl, ?_⟩) ?_ ?_
 rotate_left;{
 intro w'
 go_simp
 with_reducible rfl}
 rotate_left;{
 simp only [ap,sA,s0,s1,i64_w,i32_w]
 rfl}
 refine pure_ (i := 1) (N := some 185) (v := ?_) (a' := ?_) #[T,T,F,F,F,F,F,F,F,F,F,F,F] rfl rfl (any_of HT_.out (by kernel_rfl)) (fun _ _ _ h => h) (Or.inl ⟨by rfl, ?_⟩) ?_ ?_
 rotate_left;{
 intro w'
 go_simp
 with_reducible rfl}
 rotate_left;{
 simp only [ap,sA,s0,s1,i64_w,i32_w]
 rfl}
 refine pure_ (i := 3) (N := some 187) (v := ?_) (a' := ?_) #[T,T,F,T,F,F,F,F,F,F,F,F,F] rfl rfl (any_of HT_.out (by kernel_rfl)) (fun _ _ _ h => h) (Or.inl ⟨by rfl, ?_⟩) ?_ ?_
 rotate_left;{
 intro w'
 go_simp
 with_reducible rfl}
 rotate_left;{
 simp only [ap,sA,s0,s1,i64_w,i32_w]
 rfl}
 refine pure_ (i := 4) (N := some 188) (v := ?_) (a' := ?_) #[T,T,F,T,T,F,F,F,F,F,F,F,F] rfl rfl (any_of HT_.out (by kernel_rfl)) (fun _ _ _ h => h) (Or.inl ⟨by rfl, ?_⟩) ?_ ?_
 rotate_left;{
 intro w'
 go_simp
 with_reducible rfl}
 rotate_left;{
 simp only [ap,sA,s0,s1,i64_w,i32_w]
 rfl}
 refine pure_ (i := 5) (N := some 189) (v := ?_) (a' := ?_) #[T,T,F,T,T,T,F,F,F,F,F,F,F] rfl rfl (any_of HT_.out (by kernel_rfl)) (fun _ _ _ h => h) (Or.inl ⟨by rfl, ?_⟩) ?_ ?_
 rotate_left;{
 intro w'
 go_simp
 with_reducible rfl}
 rotate_left;{
 simp only [ap,sA,s0,s1,i64_w,i32_w]
 rfl}
 refine take_ (i := 2) (N := some 186) (v := ?_) (a' := ?_) #[T,T,T,T,T,T,F,F,F,F,F,F,F] rfl rfl (take_ofW HT_.out HW_.out (by kernel_rfl)) (fun _ _ _ h => h) (Or.inl ⟨by rfl, ?_⟩) hHeld ?_ ?_
 rotate_left;{
 rintro w' ⟨s0, s1, s2, s3, s4, s5, s6, s7, s8, s9, s10⟩
 go_simp
 with_reducible rfl}
 rotate_left;{
 simp only [ap,sA,s0,s1,i64_w,i32_w]
 rfl}
 refine take_ (i := 6) (N := some 190) (v := ?_) (a' := ?_) #[T,T,T,T,T,T,T,F,F,F,F,F,F] rfl rfl (take_ofW HT_.out HW_.out (by kernel_rfl)) (fun _ _ _ h => h) (Or.inl ⟨by rfl, ?_⟩) hHeld ?_ ?_
 rotate_left;{
 rintro w' ⟨s0, s1, s2, s3, s4, s5, s6, s7, s8, s9, s10⟩
 go_simp
 with_reducible rfl}
 rotate_left;{
 simp only [ap,sA,s0,s1,i64_w,i32_w]
 rfl}
 refine one_ (i := 7) (N := some 191) #[T,T,T,T,T,T,T,T,F,F,F,F,F] rfl rfl (one_of HT_.out (by kernel_rfl)) (by decide) (fun K hK => ?_)
 refine goes_ Try.func19 (by kernel_rfl) rfl #[.slice A0 l0.length c0, .slice A1_0 l1_0.length c1_0, .agg #[.int .i64 ((rd_T25 t430 x19_5).f0), .int .i64 ((rd_T25 t430 x19_5).f1)]] (by rfl) rfl rfl (by (try simp only [List.map_toArray, List.map_cons, List.map_nil]); first | done | rfl | (simp only [List.length_drop, List.length_take]; rfl)) ?_
 with_reducible refine (screen_Hidden.calls k5 _ _ l0 _ _ l1_0 ((rd_T25 t430 x19_5).f0) ((rd_T25 t430 x19_5).f1) true t440 _ ?side1 ?side2 ?side3 ?side4 A53.out).mono ?_
 (case side1 => repeat (first | exact (Kd.C_below HR0.out HB.out) | (with_reducible refine Kd.C_alloc ?_ _) | (with_reducible refine Kd.C_drewN ?_ _) | (with_reducible refine Kd.C_drew ?_)))
 (case side2 => exact HC0.out)
 (case side3 => repeat (first | exact (Kd.C_below HR1_0.out HB.out) | (with_reducible refine Kd.C_alloc ?_ _) | (with_reducible refine Kd.C_drewN ?_ _) | (with_reducible refine Kd.C_drew ?_)))
 (case side4 => exact HC1_0.out)
 rintro e w59 ⟨rfl, hb⟩
 have HS9_ := (hb.cell (World.block_lt_of_cell? _ _ (hHeld.2.2.2.2.2.2.2.2.2.1))).trans (hHeld.2.2.2.2.2.2.2.2.2.1)
 have HS10_ := (hb.cell (World.block_lt_of_cell? _ _ (hHeld.2.2.2.2.2.2.2.2.2.2))).trans (hHeld.2.2.2.2.2.2.2.2.2.2)
 refine ⟨_, rfl, ?_⟩
 have n0_ := am (Kd.R_below (by (with_reducible repeat first|apply Kd.R_alloc|apply Kd.R_drewN|apply Kd.R_drew);exact HO_13.out) hb)
 have n1_ := am (Kd.R_below (by (with_reducible repeat first|apply Kd.R_alloc|apply Kd.R_drewN|apply Kd.R_drew);exact HO_14.out) hb)
 have n2_ := am (blk_below (by (with_reducible repeat first|refine bN ?_ _|refine bD ?_|refine bA ?_ _);exact BK413.out) hb)
 have n3_ := am (below_step (by repeat first|(with_reducible first|exact HB.out|apply wA|apply wN|apply wD|refine wS ?_ GE413.out)|exact HB.out) hb)
 clear HO_13
 clear HO_14
 clear BK413
 clear HB
 have HO_13 := n0_
 have HO_14 := n1_
 have BK413 := n2_
 have HB := n3_
 clear n0_ n1_ n2_ n3_
 (try clear hb)
 (try clear hb2)
 (try clear hk)
 (try clear hi)
 refine hK.out _ _ ⟨(blk_cell BK413.out 0).trans rfl, (blk_cell BK413.out 1).trans rfl, (blk_cell BK413.out 2).trans rfl, (blk_cell BK413.out 3).trans rfl, (blk_cell BK413.out 4).trans rfl, (blk_cell BK413.out 5).trans rfl, (blk_cell BK413.out 6).trans rfl, (blk_cell BK413.out 7).trans rfl, (blk_cell BK413.out 8).trans rfl, HS9_, HS10_⟩ (fun hHeld => ?_)
 clear hK K
 refine norm_ (a' := ?_) ?_ ?_
 rotate_left;{
 show Act.put _ (some 191) _ = _
 simp only [ap,sA,s0,s1,i64_w,i32_w]
 rfl}
 refine pure_ (i := 8) (N := some 183) (v := ?_) (a' := ?_) #[T,T,T,T,T,T,T,T,T,F,F,F,F] rfl rfl (any_of HT_.out (by kernel_rfl)) (fun _ _ _ h => h) (Or.inl ⟨by rfl, ?_⟩) ?_ ?_
 rotate_left;{
 intro w'
 go_simp
 with_reducible rfl}
 rotate_left;{
 simp only [ap,sA,s0,s1,i64_w,i32_w]
 rfl}
 refine pure_ (i := 9) (N := some 192) (v := ?_) (a' := ?_) #[T,T,T,T,T,T,T,T,T,T,F,F,F] rfl rfl (any_of HT_.out (by kernel_rfl)) (fun _ _ _ h => h) (Or.inl ⟨by rfl, ?_⟩) ?_ ?_
 rotate_left;{
 intro w'
 go_simp
 with_reducible rfl}
 rotate_left;{
 simp only [ap,sA,s0,s1,i64_w,i32_w]
 rfl}
 refine pure_ (i := 10) (N := some 193) (v := ?_) (a' := ?_) #[T,T,T,T,T,T,T,T,T,T,T,F,F] rfl rfl (any_of HT_.out (by kernel_rfl)) (fun _ _ _ h => h) (Or.inl ⟨by rfl, ?_⟩) ?_ ?_
 rotate_left;{
 intro w'
 go_simp
 with_reducible rfl}
 rotate_left;{
 simp only [ap,sA,s0,s1,i64_w,i32_w]
 rfl}
 refine pure_ (i := 11) (N := some 20) (v := ?_) (a' := ?_) #[T,T,T,T,T,T,T,T,T,T,T,T,F] rfl rfl (any_of HT_.out (by kernel_rfl)) (fun _ _ _ h => h) (Or.inl ⟨by rfl, ?_⟩) ?_ ?_
 rotate_left;{
 intro w'
 go_simp
 with_reducible rfl}
 rotate_left;{
 simp only [ap,sA,s0,s1,i64_w,i32_w]
 rfl}
 refine pure_ (i := 12) (N := some 21) (v := ?_) (a' := ?_) #[T,T,T,T,T,T,T,T,T,T,T,T,T] rfl rfl (any_of HT_.out (by kernel_rfl)) (fun _ _ _ h => h) (Or.inl ⟨by rfl, ?_⟩) ?_ ?_
 rotate_left;{
 intro w'
 go_simp
 with_reducible rfl}
 rotate_left;{
 simp only [ap,sA,s0,s1,i64_w,i32_w]
 rfl}
 refine done_ (done_of HT_.out (by kernel_rfl)) ?_
 have p441 : 0 ≤ (x19_5 : Int) := of_decide_eq_true (by first | (with_reducible assumption) | assumption)
 have q441 : x19_5 < (t430.length : Int) := of_decide_eq_true (by first | (with_reducible assumption) | assumption)
 obtain ⟨ad441, e441, hx441_0, hx441_1⟩ := at_T25 (Kd.R_reads' HO_14.out).2.2 x19_5 p441 q441
 obtain rfl : ad438 = ad441 := (by injection e441)
 replace p441 := eq_true p441
 replace q441 := eq_true q441
 obtain ⟨Ao60, co60, eo60⟩ := Kd.R_slice HO_13.out
 subst eo60
 try go_wp2_with (first | (go_at_call 17; (with_reducible refine (wigeontop_there.calls k5 _ _ t426 ((rd_T25 t430 x19_5).f0) ((rd_T25 t430 x19_5).f1) true _ ?side1 ?side2 A56.out).mono ?_); (case side1 => repeat (first | exact (Kd.R_reads' HO_13.out).2.2 | (with_reducible refine Kd.C_alloc ?_ _) | (with_reducible refine Kd.C_drewN ?_ _) | (with_reducible refine Kd.C_drew ?_))); (case side2 => exact (Kd.R_reads' HO_13.out).2.1); rintro e w61 ⟨rfl, hb⟩; have n0_ := am (Kd.R_below (by (with_reducible repeat first|apply Kd.R_alloc|apply Kd.R_drewN|apply Kd.R_drew);exact HO_13.out) hb); have n1_ := am (Kd.R_below (by (with_reducible repeat first|apply Kd.R_alloc|apply Kd.R_drewN|apply Kd.R_drew);exact HO_14.out) hb); have n2_ := am (blk_below (by (with_reducible repeat first|refine bN ?_ _|refine bD ?_|refine bA ?_ _);exact BK413.out) hb); have n3_ := am (below_step (by repeat first|(with_reducible first|exact HB.out|apply wA|apply wN|apply wD|refine wS ?_ GE413.out)|exact HB.out) hb); clear HO_13; clear HO_14; clear BK413; clear HB; have HO_13 := n0_; have HO_14 := n1_; have BK413 := n2_; have HB := n3_; clear n0_ n1_ n2_ n3_; (try clear hb); (try clear hb2); (try clear hk); (try clear hi)))
 go_roundg k5
 case measure => have := HJ3.out; have := HJ16.out; have := HJ27.out; have := HJ43.out; have := HK5.out; omega
 case rel => exact ⟨(wrap64 (x19_5 + 1)), (by first | rfl | (simp; done) | (simp [*]; done)), H', ⟨by have := HJ3.out; have := HJ16.out; have := HJ27.out; have := HJ43.out; have := HK5.out; omega⟩, ⟨by (with_reducible repeat first|apply Kd.R_alloc|apply Kd.R_drewN|apply Kd.R_drew);exact HO_13.out⟩, ⟨by (with_reducible repeat first|apply Kd.R_alloc|apply Kd.R_drewN|apply Kd.R_drew);exact HO_14.out⟩, ⟨by (with_reducible repeat first|refine bN ?_ _|refine bD ?_|refine bA ?_ _);exact BK413.out⟩, ⟨by repeat (first | (with_reducible first | exact HB.out | apply below_alloc | apply pw_below_drewN | apply below_drew1 | refine below_set ?_ GE413.out) | exact HB.out)⟩⟩}
 replace c57 := Bool.eq_false_iff.mpr c57
 subst c57
 have H1 : (some false) = some r := by rw [if_neg (show ¬ (false = true) by decide)] at H; exact H
 clear H
 have H := H1
 clear H1
 obtain rfl := Option.some.inj H
 try go_wp2
 have n0_ := am (Kd.R_drew HO_13.out)
 have n1_ := am (Kd.R_drew HO_14.out)
 have n2_ := am (blk_drew BK413.out)
 have n3_ := am (below_drew1 HB.out)
 clear HO_13
 clear HO_14
 clear BK413
 clear HB
 have HO_13 := n0_
 have HO_14 := n1_
 have BK413 := n2_
 have HB := n3_
 clear n0_ n1_ n2_ n3_
 have p438 : 0 ≤ (x19_5 : Int) := of_decide_eq_true (by first | (with_reducible assumption) | assumption)
 have q438 : x19_5 < (t430.length : Int) := of_decide_eq_true (by first | (with_reducible assumption) | assumption)
 obtain ⟨ad438, e438, hx438_0, hx438_1⟩ := at_T25 (Kd.R_reads' HO_14.out).2.2 x19_5 p438 q438
 cases e438
 replace p438 := eq_true p438
 replace q438 := eq_true q438
 refine start_ (n := 13) (S := fun w' => w'.cell? ⟨gb413, 0, none⟩ = some (.slice A1_0 l1_0.length c1_0) ∧ w'.cell? ⟨gb413, 1, none⟩ = some (.int .i64 a1_1) ∧ w'.cell? ⟨gb413, 2, none⟩ = some (.int .i64 a1_2) ∧ w'.cell? ⟨gb413, 3, none⟩ = some (.int .i64 a1_3) ∧ w'.cell? ⟨gb413, 4, none⟩ = some (.int .i64 a1_4) ∧ w'.cell? ⟨gb413, 5, none⟩ = some (.int .i64 a1_5) ∧ w'.cell? ⟨gb413, 6, none⟩ = some (.int .i64 a1_6) ∧ w'.cell? ⟨gb413, 7, none⟩ = some (.int .i64 a1_7) ∧ w'.cell? ⟨gb413, 8, none⟩ = some (.int .i64 a1_8) ∧ w'.cell? (ad438.add ((x19_5).toNat * 2)) = some (.int .i64 ((rd_T25 t430 x19_5).f0)) ∧ w'.cell? ⟨(ad438.add ((x19_5).toNat * 2)).block, (ad438.add ((x19_5).toNat * 2)).off + 1, none⟩ = some (.int .i64 ((rd_T25 t430 x19_5).f1))) (ds := []) #[F,F,F,F,F,F,F,F,F,F,F,F,F] (by kernel_rfl) rfl rfl ⟨(blk_cell BK413.out 0).trans rfl, (blk_cell BK413.out 1).trans rfl, (blk_cell BK413.out 2).trans rfl, (blk_cell BK413.out 3).trans rfl, (blk_cell BK413.out 4).trans rfl, (blk_cell BK413.out 5).trans rfl, (blk_cell BK413.out 6).trans rfl, (blk_cell BK413.out 7).trans rfl, (blk_cell BK413.out 8).trans rfl, hx438_0, hx438_1⟩ (fun hHeld => ?_); refine with_tabW wigeontop_TopSights.tab23 wigeontop_TopSights.bits23 (fun HT_ HW_ => ?_)
 generalize wr.drew = w62 at HO_13 HO_14 BK413 HB hx438_0 hx438_1 hHeld ⊢
 refine pure_ (i := 0) (N := some 184) (v := ?_) (a' := ?_) #[T,F,F,F,F,F,F,F,F,F,F,F,F] rfl rfl (any_of HT_.out (by kernel_rfl)) (fun _ _ _ h => h) (Or.inl ⟨by rfl, ?_⟩) ?_ ?_
 rotate_left;{
 intro w'
 go_simp
 with_reducible rfl}
 rotate_left;{
 simp only [ap,sA,s0,s1,i64_w,i32_w]
 rfl}
 refine pure_ (i := 1) (N := some 185) (v := ?_) (a' := ?_) #[T,T,F,F,F,F,F,F,F,F,F,F,F] rfl rfl (any_of HT_.out (by kernel_rfl)) (fun _ _ _ h => h) (Or.inl ⟨by rfl, ?_⟩) ?_ ?_
 rotate_left;{
 intro w'
 go_simp
 with_reducible rfl}
 rotate_left;{
 simp only [ap,sA,s0,s1,i64_w,i32_w]
 rfl}
 refine pure_ (i := 3) (N := some 187) (v := ?_) (a' := ?_) #[T,T,F,T,F,F,F,F,F,F,F,F,F] rfl rfl (any_of HT_.out (by kernel_rfl)) (fun _ _ _ h => h) (Or.inl ⟨by rfl, ?_⟩) ?_ ?_
 rotate_left;{
 intro w'
 go_simp
 with_reducible rfl}
 rotate_left;{
 simp only [ap,sA,s0,s1,i64_w,i32_w]
 rfl}
 refine pure_ (i := 4) (N := some 188) (v := ?_) (a' := ?_) #[T,T,F,T,T,F,F,F,F,F,F,F,F] rfl rfl (any_of HT_.out (by kernel_rfl)) (fun _ _ _ h => h) (Or.inl ⟨by rfl, ?_⟩) ?_ ?_
 rotate_left;{
 intro w'
 go_simp
 with_reducible rfl}
 rotate_left;{
 simp only [ap,sA,s0,s1,i64_w,i32_w]
 rfl}
 refine pure_ (i := 5) (N := some 189) (v := ?_) (a' := ?_) #[T,T,F,T,T,T,F,F,F,F,F,F,F] rfl rfl (any_of HT_.out (by kernel_rfl)) (fun _ _ _ h => h) (Or.inl ⟨by rfl, ?_⟩) ?_ ?_
 rotate_left;{
 intro w'
 go_simp
 with_reducible rfl}
 rotate_left;{
 simp only [ap,sA,s0,s1,i64_w,i32_w]
 rfl}
 refine take_ (i := 2) (N := some 186) (v := ?_) (a' := ?_) #[T,T,T,T,T,T,F,F,F,F,F,F,F] rfl rfl (take_ofW HT_.out HW_.out (by kernel_rfl)) (fun _ _ _ h => h) (Or.inl ⟨by rfl, ?_⟩) hHeld ?_ ?_
 rotate_left;{
 rintro w' ⟨s0, s1, s2, s3, s4, s5, s6, s7, s8, s9, s10⟩
 go_simp
 with_reducible rfl}
 rotate_left;{
 simp only [ap,sA,s0,s1,i64_w,i32_w]
 rfl}
 refine take_ (i := 6) (N := some 190) (v := ?_) (a' := ?_) #[T,T,T,T,T,T,T,F,F,F,F,F,F] rfl rfl (take_ofW HT_.out HW_.out (by kernel_rfl)) (fun _ _ _ h => h) (Or.inl ⟨by rfl, ?_⟩) hHeld ?_ ?_
 rotate_left;{
 rintro w' ⟨s0, s1, s2, s3, s4, s5, s6, s7, s8, s9, s10⟩
 go_simp
 with_reducible rfl}
 rotate_left;{
 simp only [ap,sA,s0,s1,i64_w,i32_w]
 rfl}
 refine one_ (i := 7) (N := some 191) #[T,T,T,T,T,T,T,T,F,F,F,F,F] rfl rfl (one_of HT_.out (by kernel_rfl)) (by decide) (fun K hK => ?_)
 refine goes_ Try.func19 (by kernel_rfl) rfl #[.slice A0 l0.length c0, .slice A1_0 l1_0.length c1_0, .agg #[.int .i64 ((rd_T25 t430 x19_5).f0), .int .i64 ((rd_T25 t430 x19_5).f1)]] (by rfl) rfl rfl (by (try simp only [List.map_toArray, List.map_cons, List.map_nil]); first | done | rfl | (simp only [List.length_drop, List.length_take]; rfl)) ?_
 with_reducible refine (screen_Hidden.calls k5 _ _ l0 _ _ l1_0 ((rd_T25 t430 x19_5).f0) ((rd_T25 t430 x19_5).f1) true t440 _ ?side1 ?side2 ?side3 ?side4 A53.out).mono ?_
 (case side1 => repeat (first | exact (Kd.C_below HR0.out HB.out) | (with_reducible refine Kd.C_alloc ?_ _) | (with_reducible refine Kd.C_drewN ?_ _) | (with_reducible refine Kd.C_drew ?_)))
 (case side2 => exact HC0.out)
 (case side3 => repeat (first | exact (Kd.C_below HR1_0.out HB.out) | (with_reducible refine Kd.C_alloc ?_ _) | (with_reducible refine Kd.C_drewN ?_ _) | (with_reducible refine Kd.C_drew ?_)))
 (case side4 => exact HC1_0.out)
 rintro e w63 ⟨rfl, hb⟩
 have HS9_ := (hb.cell (World.block_lt_of_cell? _ _ (hHeld.2.2.2.2.2.2.2.2.2.1))).trans (hHeld.2.2.2.2.2.2.2.2.2.1)
 have HS10_ := (hb.cell (World.block_lt_of_cell? _ _ (hHeld.2.2.2.2.2.2.2.2.2.2))).trans (hHeld.2.2.2.2.2.2.2.2.2.2)
 refine ⟨_, rfl, ?_⟩
 have n0_ := am (Kd.R_below (by (with_reducible repeat first|apply Kd.R_alloc|apply Kd.R_drewN|apply Kd.R_drew);exact HO_13.out) hb)
 have n1_ := am (Kd.R_below (by (with_reducible repeat first|apply Kd.R_alloc|apply Kd.R_drewN|apply Kd.R_drew);exact HO_14.out) hb)
 have n2_ := am (blk_below (by (with_reducible repeat first|refine bN ?_ _|refine bD ?_|refine bA ?_ _);exact BK413.out) hb)
 have n3_ := am (below_step (by repeat first|(with_reducible first|exact HB.out|apply wA|apply wN|apply wD|refine wS ?_ GE413.out)|exact HB.out) hb)
 clear HO_13
 clear HO_14
 clear BK413
 clear HB
 have HO_13 := n0_
 have HO_14 := n1_
 have BK413 := n2_
 have HB := n3_
 clear n0_ n1_ n2_ n3_
 (try clear hb)
 (try clear hb2)
 (try clear hk)
 (try clear hi)
 refine hK.out _ _ ⟨(blk_cell BK413.out 0).trans rfl, (blk_cell BK413.out 1).trans rfl, (blk_cell BK413.out 2).trans rfl, (blk_cell BK413.out 3).trans rfl, (blk_cell BK413.out 4).trans rfl, (blk_cell BK413.out 5).trans rfl, (blk_cell BK413.out 6).trans rfl, (blk_cell BK413.out 7).trans rfl, (blk_cell BK413.out 8).trans rfl, HS9_, HS10_⟩ (fun hHeld => ?_)
 clear hK K
 refine norm_ (a' := ?_) ?_ ?_
 rotate_left;{
 show Act.put _ (some 191) _ = _
 simp only [ap,sA,s0,s1,i64_w,i32_w]
 rfl}
 refine pure_ (i := 8) (N := some 183) (v := ?_) (a' := ?_) #[T,T,T,T,T,T,T,T,T,F,F,F,F] rfl rfl (any_of HT_.out (by kernel_rfl)) (fun _ _ _ h => h) (Or.inl ⟨by rfl, ?_⟩) ?_ ?_
 rotate_left;{
 intro w'
 go_simp
 with_reducible rfl}
 rotate_left;{
 simp only [ap,sA,s0,s1,i64_w,i32_w]
 rfl}
 refine pure_ (i := 9) (N := some 192) (v := ?_) (a' := ?_) #[T,T,T,T,T,T,T,T,T,T,F,F,F] rfl rfl (any_of HT_.out (by kernel_rfl)) (fun _ _ _ h => h) (Or.inl ⟨by rfl, ?_⟩) ?_ ?_
 rotate_left;{
 intro w'
 go_simp
 with_reducible rfl}
 rotate_left;{
 simp only [ap,sA,s0,s1,i64_w,i32_w]
 rfl}
 refine pure_ (i := 10) (N := some 193) (v := ?_) (a' := ?_) #[T,T,T,T,T,T,T,T,T,T,T,F,F] rfl rfl (any_of HT_.out (by kernel_rfl)) (fun _ _ _ h => h) (Or.inl ⟨by rfl, ?_⟩) ?_ ?_
 rotate_left;{
 intro w'
 go_simp
 with_reducible rfl}
 rotate_left;{
 simp only [ap,sA,s0,s1,i64_w,i32_w]
 rfl}
 refine pure_ (i := 11) (N := some 20) (v := ?_) (a' := ?_) #[T,T,T,T,T,T,T,T,T,T,T,T,F] rfl rfl (any_of HT_.out (by kernel_rfl)) (fun _ _ _ h => h) (Or.inl ⟨by rfl, ?_⟩) ?_ ?_
 rotate_left;{
 intro w'
 go_simp
 with_reducible rfl}
 rotate_left;{
 simp only [ap,sA,s0,s1,i64_w,i32_w]
 rfl}
 refine pure_ (i := 12) (N := some 21) (v := ?_) (a' := ?_) #[T,T,T,T,T,T,T,T,T,T,T,T,T] rfl rfl (any_of HT_.out (by kernel_rfl)) (fun _ _ _ h => h) (Or.inl ⟨by rfl, ?_⟩) ?_ ?_
 rotate_left;{
 intro w'
 go_simp
 with_reducible rfl}
 rotate_left;{
 simp only [ap,sA,s0,s1,i64_w,i32_w]
 rfl}
 refine done_ (done_of HT_.out (by kernel_rfl)) ?_
 have p441 : 0 ≤ (x19_5 : Int) := of_decide_eq_true (by first | (with_reducible assumption) | assumption)
 have q441 : x19_5 < (t430.length : Int) := of_decide_eq_true (by first | (with_reducible assumption) | assumption)
 obtain ⟨ad441, e441, hx441_0, hx441_1⟩ := at_T25 (Kd.R_reads' HO_14.out).2.2 x19_5 p441 q441
 obtain rfl : ad438 = ad441 := (by injection e441)
 replace p441 := eq_true p441
 replace q441 := eq_true q441
 obtain ⟨Ao64, co64, eo64⟩ := Kd.R_slice HO_13.out
 subst eo64
 try go_wp2_with (first | (go_at_call 17; (with_reducible refine (wigeontop_there.calls k5 _ _ t426 ((rd_T25 t430 x19_5).f0) ((rd_T25 t430 x19_5).f1) false _ ?side1 ?side2 A56.out).mono ?_); (case side1 => repeat (first | exact (Kd.R_reads' HO_13.out).2.2 | (with_reducible refine Kd.C_alloc ?_ _) | (with_reducible refine Kd.C_drewN ?_ _) | (with_reducible refine Kd.C_drew ?_))); (case side2 => exact (Kd.R_reads' HO_13.out).2.1); rintro e w65 ⟨rfl, hb⟩; have n0_ := am (Kd.R_below (by (with_reducible repeat first|apply Kd.R_alloc|apply Kd.R_drewN|apply Kd.R_drew);exact HO_13.out) hb); have n1_ := am (Kd.R_below (by (with_reducible repeat first|apply Kd.R_alloc|apply Kd.R_drewN|apply Kd.R_drew);exact HO_14.out) hb); have n2_ := am (blk_below (by (with_reducible repeat first|refine bN ?_ _|refine bD ?_|refine bA ?_ _);exact BK413.out) hb); have n3_ := am (below_step (by repeat first|(with_reducible first|exact HB.out|apply wA|apply wN|apply wD|refine wS ?_ GE413.out)|exact HB.out) hb); clear HO_13; clear HO_14; clear BK413; clear HB; have HO_13 := n0_; have HO_14 := n1_; have BK413 := n2_; have HB := n3_; clear n0_ n1_ n2_ n3_; (try clear hb); (try clear hb2); (try clear hk); (try clear hi)))
 go_ret
 exact ⟨by first | rfl | (simp [errW_none, errW_some] <;> rfl) | (simp [*, errW_none, errW_some] <;> rfl), by repeat (first | (with_reducible first | exact HB.out | apply below_alloc | apply pw_below_drewN | apply below_drew1 | refine below_set ?_ GE413.out) | exact HB.out)⟩}
 replace c55 := Bool.eq_false_iff.mpr c55
 subst c55
 have H1 : (some false) = some r := by rw [if_neg (show ¬ (false = true) by decide)] at H; exact H
 clear H
 have H := H1
 clear H1
 obtain rfl := Option.some.inj H
 try go_wp2
 have n0_ := am (Kd.R_drew HO_13.out)
 have n1_ := am (Kd.R_drew HO_14.out)
 have n2_ := am (blk_drew BK413.out)
 have n3_ := am (below_drew1 HB.out)
 clear HO_13
 clear HO_14
 clear BK413
 clear HB
 have HO_13 := n0_
 have HO_14 := n1_
 have BK413 := n2_
 have HB := n3_
 clear n0_ n1_ n2_ n3_
 have p438 : 0 ≤ (x19_5 : Int) := of_decide_eq_true (by first | (with_reducible assumption) | assumption)
 have q438 : x19_5 < (t430.length : Int) := of_decide_eq_true (by first | (with_reducible assumption) | assumption)
 obtain ⟨ad438, e438, hx438_0, hx438_1⟩ := at_T25 (Kd.R_reads' HO_14.out).2.2 x19_5 p438 q438
 cases e438
 replace p438 := eq_true p438
 replace q438 := eq_true q438
 refine start_ (n := 13) (S := fun w' => w'.cell? ⟨gb413, 0, none⟩ = some (.slice A1_0 l1_0.length c1_0) ∧ w'.cell? ⟨gb413, 1, none⟩ = some (.int .i64 a1_1) ∧ w'.cell? ⟨gb413, 2, none⟩ = some (.int .i64 a1_2) ∧ w'.cell? ⟨gb413, 3, none⟩ = some (.int .i64 a1_3) ∧ w'.cell? ⟨gb413, 4, none⟩ = some (.int .i64 a1_4) ∧ w'.cell? ⟨gb413, 5, none⟩ = some (.int .i64 a1_5) ∧ w'.cell? ⟨gb413, 6, none⟩ = some (.int .i64 a1_6) ∧ w'.cell? ⟨gb413, 7, none⟩ = some (.int .i64 a1_7) ∧ w'.cell? ⟨gb413, 8, none⟩ = some (.int .i64 a1_8) ∧ w'.cell? (ad438.add ((x19_5).toNat * 2)) = some (.int .i64 ((rd_T25 t430 x19_5).f0)) ∧ w'.cell? ⟨(ad438.add ((x19_5).toNat * 2)).block, (ad438.add ((x19_5).toNat * 2)).off + 1, none⟩ = some (.int .i64 ((rd_T25 t430 x19_5).f1))) (ds := []) #[F,F,F,F,F,F,F,F,F,F,F,F,F] (by kernel_rfl) rfl rfl ⟨(blk_cell BK413.out 0).trans rfl, (blk_cell BK413.out 1).trans rfl, (blk_cell BK413.out 2).trans rfl, (blk_cell BK413.out 3).trans rfl, (blk_cell BK413.out 4).trans rfl, (blk_cell BK413.out 5).trans rfl, (blk_cell BK413.out 6).trans rfl, (blk_cell BK413.out 7).trans rfl, (blk_cell BK413.out 8).trans rfl, hx438_0, hx438_1⟩ (fun hHeld => ?_); refine with_tabW wigeontop_TopSights.tab23 wigeontop_TopSights.bits23 (fun HT_ HW_ => ?_)
 generalize wr.drew = w66 at HO_13 HO_14 BK413 HB hx438_0 hx438_1 hHeld ⊢
 refine pure_ (i := 0) (N := some 184) (v := ?_) (a' := ?_) #[T,F,F,F,F,F,F,F,F,F,F,F,F] rfl rfl (any_of HT_.out (by kernel_rfl)) (fun _ _ _ h => h) (Or.inl ⟨by rfl, ?_⟩) ?_ ?_
 rotate_left;{
 intro w'
 go_simp
 with_reducible rfl}
 rotate_left;{
 simp only [ap,sA,s0,s1,i64_w,i32_w]
 rfl}
 refine pure_ (i := 1) (N := some 185) (v := ?_) (a' := ?_) #[T,T,F,F,F,F,F,F,F,F,F,F,F] rfl rfl (any_of HT_.out (by kernel_rfl)) (fun _ _ _ h => h) (Or.inl ⟨by rfl, ?_⟩) ?_ ?_
 rotate_left;{
 intro w'
 go_simp
 with_reducible rfl}
 rotate_left;{
 simp only [ap,sA,s0,s1,i64_w,i32_w]
 rfl}
 refine pure_ (i := 3) (N := some 187) (v := ?_) (a' := ?_) #[T,T,F,T,F,F,F,F,F,F,F,F,F] rfl rfl (any_of HT_.out (by kernel_rfl)) (fun _ _ _ h => h) (Or.inl ⟨by rfl, ?_⟩) ?_ ?_
 rotate_left;{
 intro w'
 go_simp
 with_reducible rfl}
 rotate_left;{
 simp only [ap,sA,s0,s1,i64_w,i32_w]
 rfl}
 refine pure_ (i := 4) (N := some 188) (v := ?_) (a' := ?_) #[T,T,F,T,T,F,F,F,F,F,F,F,F] rfl rfl (any_of HT_.out (by kernel_rfl)) (fun _ _ _ h => h) (Or.inl ⟨by rfl, ?_⟩) ?_ ?_
 rotate_left;{
 intro w'
 go_simp
 with_reducible rfl}
 rotate_left;{
 simp only [ap,sA,s0,s1,i64_w,i32_w]
 rfl}
 refine pure_ (i := 5) (N := some 189) (v := ?_) (a' := ?_) #[T,T,F,T,T,T,F,F,F,F,F,F,F] rfl rfl (any_of HT_.out (by kernel_rfl)) (fun _ _ _ h => h) (Or.inl ⟨by rfl, ?_⟩) ?_ ?_
 rotate_left;{
 intro w'
 go_simp
 with_reducible rfl}
 rotate_left;{
 simp only [ap,sA,s0,s1,i64_w,i32_w]
 rfl}
 refine take_ (i := 2) (N := some 186) (v := ?_) (a' := ?_) #[T,T,T,T,T,T,F,F,F,F,F,F,F] rfl rfl (take_ofW HT_.out HW_.out (by kernel_rfl)) (fun _ _ _ h => h) (Or.inl ⟨by rfl, ?_⟩) hHeld ?_ ?_
 rotate_left;{
 rintro w' ⟨s0, s1, s2, s3, s4, s5, s6, s7, s8, s9, s10⟩
 go_simp
 with_reducible rfl}
 rotate_left;{
 simp only [ap,sA,s0,s1,i64_w,i32_w]
 rfl}
 refine take_ (i := 6) (N := some 190) (v := ?_) (a' := ?_) #[T,T,T,T,T,T,T,F,F,F,F,F,F] rfl rfl (take_ofW HT_.out HW_.out (by kernel_rfl)) (fun _ _ _ h => h) (Or.inl ⟨by rfl, ?_⟩) hHeld ?_ ?_
 rotate_left;{
 rintro w' ⟨s0, s1, s2, s3, s4, s5, s6, s7, s8, s9, s10⟩
 go_simp
 with_reducible rfl}
 rotate_left;{
 simp only [ap,sA,s0,s1,i64_w,i32_w]
 rfl}
 refine one_ (i := 7) (N := some 191) #[T,T,T,T,T,T,T,T,F,F,F,F,F] rfl rfl (one_of HT_.out (by kernel_rfl)) (by decide) (fun K hK => ?_)
 refine goes_ Try.func19 (by kernel_rfl) rfl #[.slice A0 l0.length c0, .slice A1_0 l1_0.length c1_0, .agg #[.int .i64 ((rd_T25 t430 x19_5).f0), .int .i64 ((rd_T25 t430 x19_5).f1)]] (by rfl) rfl rfl (by (try simp only [List.map_toArray, List.map_cons, List.map_nil]); first | done | rfl | (simp only [List.length_drop, List.length_take]; rfl)) ?_
 with_reducible refine (screen_Hidden.calls k5 _ _ l0 _ _ l1_0 ((rd_T25 t430 x19_5).f0) ((rd_T25 t430 x19_5).f1) false t440 _ ?side1 ?side2 ?side3 ?side4 A53.out).mono ?_
 (case side1 => repeat (first | exact (Kd.C_below HR0.out HB.out) | (with_reducible refine Kd.C_alloc ?_ _) | (with_reducible refine Kd.C_drewN ?_ _) | (with_reducible refine Kd.C_drew ?_)))
 (case side2 => exact HC0.out)
 (case side3 => repeat (first | exact (Kd.C_below HR1_0.out HB.out) | (with_reducible refine Kd.C_alloc ?_ _) | (with_reducible refine Kd.C_drewN ?_ _) | (with_reducible refine Kd.C_drew ?_)))
 (case side4 => exact HC1_0.out)
 rintro e w67 ⟨rfl, hb⟩
 have HS9_ := (hb.cell (World.block_lt_of_cell? _ _ (hHeld.2.2.2.2.2.2.2.2.2.1))).trans (hHeld.2.2.2.2.2.2.2.2.2.1)
 have HS10_ := (hb.cell (World.block_lt_of_cell? _ _ (hHeld.2.2.2.2.2.2.2.2.2.2))).trans (hHeld.2.2.2.2.2.2.2.2.2.2)
 refine ⟨_, rfl, ?_⟩
 have n0_ := am (Kd.R_below (by (with_reducible repeat first|apply Kd.R_alloc|apply Kd.R_drewN|apply Kd.R_drew);exact HO_13.out) hb)
 have n1_ := am (Kd.R_below (by (with_reducible repeat first|apply Kd.R_alloc|apply Kd.R_drewN|apply Kd.R_drew);exact HO_14.out) hb)
 have n2_ := am (blk_below (by (with_reducible repeat first|refine bN ?_ _|refine bD ?_|refine bA ?_ _);exact BK413.out) hb)
 have n3_ := am (below_step (by repeat first|(with_reducible first|exact HB.out|apply wA|apply wN|apply wD|refine wS ?_ GE413.out)|exact HB.out) hb)
 clear HO_13
 clear HO_14
 clear BK413
 clear HB
 have HO_13 := n0_
 have HO_14 := n1_
 have BK413 := n2_
 have HB := n3_
 clear n0_ n1_ n2_ n3_
 (try clear hb)
 (try clear hb2)
 (try clear hk)
 (try clear hi)
 refine hK.out _ _ ⟨(blk_cell BK413.out 0).trans rfl, (blk_cell BK413.out 1).trans rfl, (blk_cell BK413.out 2).trans rfl, (blk_cell BK413.out 3).trans rfl, (blk_cell BK413.out 4).trans rfl, (blk_cell BK413.out 5).trans rfl, (blk_cell BK413.out 6).trans rfl, (blk_cell BK413.out 7).trans rfl, (blk_cell BK413.out 8).trans rfl, HS9_, HS10_⟩ (fun hHeld => ?_)
 clear hK K
 refine norm_ (a' := ?_) ?_ ?_
 rotate_left;{
 show Act.put _ (some 191) _ = _
 simp only [ap,sA,s0,s1,i64_w,i32_w]
 rfl}
 refine pure_ (i := 8) (N := some 183) (v := ?_) (a' := ?_) #[T,T,T,T,T,T,T,T,T,F,F,F,F] rfl rfl (any_of HT_.out (by kernel_rfl)) (fun _ _ _ h => h) (Or.inl ⟨by rfl, ?_⟩) ?_ ?_
 rotate_left;{
 intro w'
 go_simp
 with_reducible rfl}
 rotate_left;{
 simp only [ap,sA,s0,s1,i64_w,i32_w]
 rfl}
 refine pure_ (i := 9) (N := some 192) (v := ?_) (a' := ?_) #[T,T,T,T,T,T,T,T,T,T,F,F,F] rfl rfl (any_of HT_.out (by kernel_rfl)) (fun _ _ _ h => h) (Or.inl ⟨by rfl, ?_⟩) ?_ ?_
 rotate_left;{
 intro w'
 go_simp
 with_reducible rfl}
 rotate_left;{
 simp only [ap,sA,s0,s1,i64_w,i32_w]
 rfl}
 refine pure_ (i := 10) (N := some 193) (v := ?_) (a' := ?_) #[T,T,T,T,T,T,T,T,T,T,T,F,F] rfl rfl (any_of HT_.out (by kernel_rfl)) (fun _ _ _ h => h) (Or.inl ⟨by rfl, ?_⟩) ?_ ?_
 rotate_left;{
 intro w'
 go_simp
 with_reducible rfl}
 rotate_left;{
 simp only [ap,sA,s0,s1,i64_w,i32_w]
 rfl}
 refine pure_ (i := 11) (N := some 20) (v := ?_) (a' := ?_) #[T,T,T,T,T,T,T,T,T,T,T,T,F] rfl rfl (any_of HT_.out (by kernel_rfl)) (fun _ _ _ h => h) (Or.inl ⟨by rfl, ?_⟩) ?_ ?_
 rotate_left;{
 intro w'
 go_simp
 with_reducible rfl}
 rotate_left;{
 simp only [ap,sA,s0,s1,i64_w,i32_w]
 rfl}
 refine pure_ (i := 12) (N := some 21) (v := ?_) (a' := ?_) #[T,T,T,T,T,T,T,T,T,T,T,T,T] rfl rfl (any_of HT_.out (by kernel_rfl)) (fun _ _ _ h => h) (Or.inl ⟨by rfl, ?_⟩) ?_ ?_
 rotate_left;{
 intro w'
 go_simp
 with_reducible rfl}
 rotate_left;{
 simp only [ap,sA,s0,s1,i64_w,i32_w]
 rfl}
 refine done_ (done_of HT_.out (by kernel_rfl)) ?_
 try go_wp2
 go_ret
 exact ⟨by first | rfl | (simp [errW_none, errW_some] <;> rfl) | (simp [*, errW_none, errW_some] <;> rfl), by repeat (first | (with_reducible first | exact HB.out | apply below_alloc | apply pw_below_drewN | apply below_drew1 | refine below_set ?_ GE413.out) | exact HB.out)⟩}
 rw [if_neg c54] at H
 have c54b0 : (t440 == 0) = false := beq_eq_false_iff_ne.mpr c54
 have c54b1 : (t440 != 0) = true := bne_iff_ne.mpr c54
 obtain rfl := Option.some.inj H
 try go_wp2
 have n0_ := am (Kd.R_drew HO_13.out)
 have n1_ := am (Kd.R_drew HO_14.out)
 have n2_ := am (blk_drew BK413.out)
 have n3_ := am (below_drew1 HB.out)
 clear HO_13
 clear HO_14
 clear BK413
 clear HB
 have HO_13 := n0_
 have HO_14 := n1_
 have BK413 := n2_
 have HB := n3_
 clear n0_ n1_ n2_ n3_
 have p438 : 0 ≤ (x19_5 : Int) := of_decide_eq_true (by first | (with_reducible assumption) | assumption)
 have q438 : x19_5 < (t430.length : Int) := of_decide_eq_true (by first | (with_reducible assumption) | assumption)
 obtain ⟨ad438, e438, hx438_0, hx438_1⟩ := at_T25 (Kd.R_reads' HO_14.out).2.2 x19_5 p438 q438
 cases e438
 replace p438 := eq_true p438
 replace q438 := eq_true q438
 refine start_ (n := 13) (S := fun w' => w'.cell? ⟨gb413, 0, none⟩ = some (.slice A1_0 l1_0.length c1_0) ∧ w'.cell? ⟨gb413, 1, none⟩ = some (.int .i64 a1_1) ∧ w'.cell? ⟨gb413, 2, none⟩ = some (.int .i64 a1_2) ∧ w'.cell? ⟨gb413, 3, none⟩ = some (.int .i64 a1_3) ∧ w'.cell? ⟨gb413, 4, none⟩ = some (.int .i64 a1_4) ∧ w'.cell? ⟨gb413, 5, none⟩ = some (.int .i64 a1_5) ∧ w'.cell? ⟨gb413, 6, none⟩ = some (.int .i64 a1_6) ∧ w'.cell? ⟨gb413, 7, none⟩ = some (.int .i64 a1_7) ∧ w'.cell? ⟨gb413, 8, none⟩ = some (.int .i64 a1_8) ∧ w'.cell? (ad438.add ((x19_5).toNat * 2)) = some (.int .i64 ((rd_T25 t430 x19_5).f0)) ∧ w'.cell? ⟨(ad438.add ((x19_5).toNat * 2)).block, (ad438.add ((x19_5).toNat * 2)).off + 1, none⟩ = some (.int .i64 ((rd_T25 t430 x19_5).f1))) (ds := []) #[F,F,F,F,F,F,F,F,F,F,F,F,F] (by kernel_rfl) rfl rfl ⟨(blk_cell BK413.out 0).trans rfl, (blk_cell BK413.out 1).trans rfl, (blk_cell BK413.out 2).trans rfl, (blk_cell BK413.out 3).trans rfl, (blk_cell BK413.out 4).trans rfl, (blk_cell BK413.out 5).trans rfl, (blk_cell BK413.out 6).trans rfl, (blk_cell BK413.out 7).trans rfl, (blk_cell BK413.out 8).trans rfl, hx438_0, hx438_1⟩ (fun hHeld => ?_); refine with_tabW wigeontop_TopSights.tab23 wigeontop_TopSights.bits23 (fun HT_ HW_ => ?_)
 generalize wr.drew = w68 at HO_13 HO_14 BK413 HB hx438_0 hx438_1 hHeld ⊢
 refine pure_ (i := 0) (N := some 184) (v := ?_) (a' := ?_) #[T,F,F,F,F,F,F,F,F,F,F,F,F] rfl rfl (any_of HT_.out (by kernel_rfl)) (fun _ _ _ h => h) (Or.inl ⟨by rfl, ?_⟩) ?_ ?_
 rotate_left;{
 intro w'
 go_simp
 with_reducible rfl}
 rotate_left;{
 simp only [ap,sA,s0,s1,i64_w,i32_w]
 rfl}
 refine pure_ (i := 1) (N := some 185) (v := ?_) (a' := ?_) #[T,T,F,F,F,F,F,F,F,F,F,F,F] rfl rfl (any_of HT_.out (by kernel_rfl)) (fun _ _ _ h => h) (Or.inl ⟨by rfl, ?_⟩) ?_ ?_
 rotate_left;{
 intro w'
 go_simp
 with_reducible rfl}
 rotate_left;{
 simp only [ap,sA,s0,s1,i64_w,i32_w]
 rfl}
 refine pure_ (i := 3) (N := some 187) (v := ?_) (a' := ?_) #[T,T,F,T,F,F,F,F,F,F,F,F,F] rfl rfl (any_of HT_.out (by kernel_rfl)) (fun _ _ _ h => h) (Or.inl ⟨by rfl, ?_⟩) ?_ ?_
 rotate_left;{
 intro w'
 go_simp
 with_reducible rfl}
 rotate_left;{
 simp only [ap,sA,s0,s1,i64_w,i32_w]
 rfl}
 refine pure_ (i := 4) (N := some 188) (v := ?_) (a' := ?_) #[T,T,F,T,T,F,F,F,F,F,F,F,F] rfl rfl (any_of HT_.out (by kernel_rfl)) (fun _ _ _ h => h) (Or.inl ⟨by rfl, ?_⟩) ?_ ?_
 rotate_left;{
 intro w'
 go_simp
 with_reducible rfl}
 rotate_left;{
 simp only [ap,sA,s0,s1,i64_w,i32_w]
 rfl}
 refine pure_ (i := 5) (N := some 189) (v := ?_) (a' := ?_) #[T,T,F,T,T,T,F,F,F,F,F,F,F] rfl rfl (any_of HT_.out (by kernel_rfl)) (fun _ _ _ h => h) (Or.inl ⟨by rfl, ?_⟩) ?_ ?_
 rotate_left;{
 intro w'
 go_simp
 with_reducible rfl}
 rotate_left;{
 simp only [ap,sA,s0,s1,i64_w,i32_w]
 rfl}
 refine take_ (i := 2) (N := some 186) (v := ?_) (a' := ?_) #[T,T,T,T,T,T,F,F,F,F,F,F,F] rfl rfl (take_ofW HT_.out HW_.out (by kernel_rfl)) (fun _ _ _ h => h) (Or.inl ⟨by rfl, ?_⟩) hHeld ?_ ?_
 rotate_left;{
 rintro w' ⟨s0, s1, s2, s3, s4, s5, s6, s7, s8, s9, s10⟩
 go_simp
 with_reducible rfl}
 rotate_left;{
 simp only [ap,sA,s0,s1,i64_w,i32_w]
 rfl}
 refine take_ (i := 6) (N := some 190) (v := ?_) (a' := ?_) #[T,T,T,T,T,T,T,F,F,F,F,F,F] rfl rfl (take_ofW HT_.out HW_.out (by kernel_rfl)) (fun _ _ _ h => h) (Or.inl ⟨by rfl, ?_⟩) hHeld ?_ ?_
 rotate_left;{
 rintro w' ⟨s0, s1, s2, s3, s4, s5, s6, s7, s8, s9, s10⟩
 go_simp
 with_reducible rfl}
 rotate_left;{
 simp only [ap,sA,s0,s1,i64_w,i32_w]
 rfl}
 refine one_ (i := 7) (N := some 191) #[T,T,T,T,T,T,T,T,F,F,F,F,F] rfl rfl (one_of HT_.out (by kernel_rfl)) (by decide) (fun K hK => ?_)
 refine goes_ Try.func19 (by kernel_rfl) rfl #[.slice A0 l0.length c0, .slice A1_0 l1_0.length c1_0, .agg #[.int .i64 ((rd_T25 t430 x19_5).f0), .int .i64 ((rd_T25 t430 x19_5).f1)]] (by rfl) rfl rfl (by (try simp only [List.map_toArray, List.map_cons, List.map_nil]); first | done | rfl | (simp only [List.length_drop, List.length_take]; rfl)) ?_
 with_reducible refine (screen_Hidden.calls k5 _ _ l0 _ _ l1_0 ((rd_T25 t430 x19_5).f0) ((rd_T25 t430 x19_5).f1) t439 t440 _ ?side1 ?side2 ?side3 ?side4 A53.out).mono ?_
 (case side1 => repeat (first | exact (Kd.C_below HR0.out HB.out) | (with_reducible refine Kd.C_alloc ?_ _) | (with_reducible refine Kd.C_drewN ?_ _) | (with_reducible refine Kd.C_drew ?_)))
 (case side2 => exact HC0.out)
 (case side3 => repeat (first | exact (Kd.C_below HR1_0.out HB.out) | (with_reducible refine Kd.C_alloc ?_ _) | (with_reducible refine Kd.C_drewN ?_ _) | (with_reducible refine Kd.C_drew ?_)))
 (case side4 => exact HC1_0.out)
 rintro e w69 ⟨rfl, hb⟩
 have HS9_ := (hb.cell (World.block_lt_of_cell? _ _ (hHeld.2.2.2.2.2.2.2.2.2.1))).trans (hHeld.2.2.2.2.2.2.2.2.2.1)
 have HS10_ := (hb.cell (World.block_lt_of_cell? _ _ (hHeld.2.2.2.2.2.2.2.2.2.2))).trans (hHeld.2.2.2.2.2.2.2.2.2.2)
 refine ⟨_, rfl, ?_⟩
 have n0_ := am (Kd.R_below (by (with_reducible repeat first|apply Kd.R_alloc|apply Kd.R_drewN|apply Kd.R_drew);exact HO_13.out) hb)
 have n1_ := am (Kd.R_below (by (with_reducible repeat first|apply Kd.R_alloc|apply Kd.R_drewN|apply Kd.R_drew);exact HO_14.out) hb)
 have n2_ := am (blk_below (by (with_reducible repeat first|refine bN ?_ _|refine bD ?_|refine bA ?_ _);exact BK413.out) hb)
 have n3_ := am (below_step (by repeat first|(with_reducible first|exact HB.out|apply wA|apply wN|apply wD|refine wS ?_ GE413.out)|exact HB.out) hb)
 clear HO_13
 clear HO_14
 clear BK413
 clear HB
 have HO_13 := n0_
 have HO_14 := n1_
 have BK413 := n2_
 have HB := n3_
 clear n0_ n1_ n2_ n3_
 (try clear hb)
 (try clear hb2)
 (try clear hk)
 (try clear hi)
 refine hK.out _ _ ⟨(blk_cell BK413.out 0).trans rfl, (blk_cell BK413.out 1).trans rfl, (blk_cell BK413.out 2).trans rfl, (blk_cell BK413.out 3).trans rfl, (blk_cell BK413.out 4).trans rfl, (blk_cell BK413.out 5).trans rfl, (blk_cell BK413.out 6).trans rfl, (blk_cell BK413.out 7).trans rfl, (blk_cell BK413.out 8).trans rfl, HS9_, HS10_⟩ (fun hHeld => ?_)
 clear hK K
 refine norm_ (a' := ?_) ?_ ?_
 rotate_left;{
 show Act.put _ (some 191) _ = _
 simp only [ap,sA,s0,s1,i64_w,i32_w]
 rfl}
 refine pure_ (i := 8) (N := some 183) (v := ?_) (a' := ?_) #[T,T,T,T,T,T,T,T,T,F,F,F,F] rfl rfl (any_of HT_.out (by kernel_rfl)) (fun _ _ _ h => h) (Or.inl ⟨by rfl, ?_⟩) ?_ ?_
 rotate_left;{
 intro w'
 go_simp
 with_reducible rfl}
 rotate_left;{
 simp only [ap,sA,s0,s1,i64_w,i32_w]
 rfl}
 refine pure_ (i := 9) (N := some 192) (v := ?_) (a' := ?_) #[T,T,T,T,T,T,T,T,T,T,F,F,F] rfl rfl (any_of HT_.out (by kernel_rfl)) (fun _ _ _ h => h) (Or.inl ⟨by rfl, ?_⟩) ?_ ?_
 rotate_left;{
 intro w'
 go_simp
 with_reducible rfl}
 rotate_left;{
 simp only [ap,sA,s0,s1,i64_w,i32_w]
 rfl}
 refine pure_ (i := 10) (N := some 193) (v := ?_) (a' := ?_) #[T,T,T,T,T,T,T,T,T,T,T,F,F] rfl rfl (any_of HT_.out (by kernel_rfl)) (fun _ _ _ h => h) (Or.inl ⟨by rfl, ?_⟩) ?_ ?_
 rotate_left;{
 intro w'
 go_simp
 with_reducible rfl}
 rotate_left;{
 simp only [ap,sA,s0,s1,i64_w,i32_w]
 rfl}
 refine pure_ (i := 11) (N := some 20) (v := ?_) (a' := ?_) #[T,T,T,T,T,T,T,T,T,T,T,T,F] rfl rfl (any_of HT_.out (by kernel_rfl)) (fun _ _ _ h => h) (Or.inl ⟨by rfl, ?_⟩) ?_ ?_
 rotate_left;{
 intro w'
 go_simp
 with_reducible rfl}
 rotate_left;{
 simp only [ap,sA,s0,s1,i64_w,i32_w]
 rfl}
 refine pure_ (i := 12) (N := some 21) (v := ?_) (a' := ?_) #[T,T,T,T,T,T,T,T,T,T,T,T,T] rfl rfl (any_of HT_.out (by kernel_rfl)) (fun _ _ _ h => h) (Or.inl ⟨by rfl, ?_⟩) ?_ ?_
 rotate_left;{
 intro w'
 go_simp
 with_reducible rfl}
 rotate_left;{
 simp only [ap,sA,s0,s1,i64_w,i32_w]
 rfl}
 refine done_ (done_of HT_.out (by kernel_rfl)) ?_
 try go_wp2
 go_ret
 exact ⟨by first | rfl | (simp [errW_none, errW_some] <;> rfl) | (simp [*, errW_none, errW_some] <;> rfl), by repeat (first | (with_reducible first | exact HB.out | apply below_alloc | apply pw_below_drewN | apply below_drew1 | refine below_set ?_ GE413.out) | exact HB.out)⟩}
 rw [if_neg c52] at H
 exact absurd H (by simp)}
  rw [if_neg c51] at H
  have c51b0 : decide (x19_5 < (t430.length : Int)) = false := decide_eq_false c51
  clear c51
  have H' := am H
  clear H
  go_wp2
  go_meet
  case rel => exact ⟨_, H', ⟨by have := HJ3.out; have := HJ16.out; have := HJ27.out; have := HJ43.out; have := HK5.out; first | omega | exact Nat.le_refl _⟩, ⟨by (with_reducible repeat first|apply Kd.R_alloc|apply Kd.R_drewN|apply Kd.R_drew);exact Kd.R_mono HO_13.out (fun _ hk => trivial)⟩, ⟨by (with_reducible repeat first|refine bN ?_ _|refine bD ?_|refine bA ?_ _);exact BK413.out⟩, ⟨by repeat (first | (with_reducible first | exact HB.out | apply below_alloc | apply pw_below_drewN | apply below_drew1 | refine below_set ?_ GE413.out) | exact HB.out)⟩⟩)}
 replace c42 := Bool.eq_false_iff.mpr c42
 subst c42
 have H1 : (wigeontop_TopSights.j5 kj27 l0 t420 false t426 l1_0 a1_1 a1_2 a1_3 a1_4 a1_5 a1_6 a1_7 a1_8) = some r := by rw [if_neg (show ¬ (false = true) by decide)] at H; exact H
 clear H
 have H := H1
 clear H1
 have H' := am H
 clear H
 go_wp2
 go_meet
 case rel => exact ⟨_, H', ⟨by have := HJ3.out; have := HJ16.out; have := HJ27.out; first | omega | exact Nat.le_refl _⟩, ⟨by (with_reducible repeat first|apply Kd.R_alloc|apply Kd.R_drewN|apply Kd.R_drew);exact Kd.R_mono HO_13.out (fun _ hk => trivial)⟩, ⟨by (with_reducible repeat first|refine bN ?_ _|refine bD ?_|refine bA ?_ _);exact BK413.out⟩, ⟨by repeat (first | (with_reducible first | exact HB.out | apply below_alloc | apply pw_below_drewN | apply below_drew1 | refine below_set ?_ GE413.out) | exact HB.out)⟩⟩))
   as_aux_lemma =>
    clear HC41
    obtain ⟨kq, HA, HJ40, HO_13, BK413, HB⟩ := hcut
    cases kq with
    | zero => exact absurd HA.out (by simp [wigeontop_TopSights.j5])
    | succ kj40 =>
     have H := HA.out
     clear HA
     simp only [wigeontop_TopSights.j5] at H
     have HC70 := am H
     clear H
     have hcz71_0 : wc.cell? ⟨gb413, 0, none⟩ = some (.slice A1_0 l1_0.length c1_0) := (blk_cell BK413.out 0).trans rfl
     have hcz71_1 : wc.cell? ⟨gb413, 1, none⟩ = some (.int .i64 a1_1) := (blk_cell BK413.out 1).trans rfl
     have hcz71_2 : wc.cell? ⟨gb413, 2, none⟩ = some (.int .i64 a1_2) := (blk_cell BK413.out 2).trans rfl
     have hcz71_3 : wc.cell? ⟨gb413, 3, none⟩ = some (.int .i64 a1_3) := (blk_cell BK413.out 3).trans rfl
     have hcz71_4 : wc.cell? ⟨gb413, 4, none⟩ = some (.int .i64 a1_4) := (blk_cell BK413.out 4).trans rfl
     have hcz71_5 : wc.cell? ⟨gb413, 5, none⟩ = some (.int .i64 a1_5) := (blk_cell BK413.out 5).trans rfl
     have hcz71_6 : wc.cell? ⟨gb413, 6, none⟩ = some (.int .i64 a1_6) := (blk_cell BK413.out 6).trans rfl
     have hcz71_7 : wc.cell? ⟨gb413, 7, none⟩ = some (.int .i64 a1_7) := (blk_cell BK413.out 7).trans rfl
     have hcz71_8 : wc.cell? ⟨gb413, 8, none⟩ = some (.int .i64 a1_8) := (blk_cell BK413.out 8).trans rfl
     have hfz71_0 := blk_frozen BK413.out 0
     have hfz71_1 := blk_frozen BK413.out 1
     have hfz71_2 := blk_frozen BK413.out 2
     have hfz71_3 := blk_frozen BK413.out 3
     have hfz71_4 := blk_frozen BK413.out 4
     have hfz71_5 := blk_frozen BK413.out 5
     have hfz71_6 := blk_frozen BK413.out 6
     have hfz71_7 := blk_frozen BK413.out 7
     have hfz71_8 := blk_frozen BK413.out 8
     go_upto_if 212 with (fail)
     go_cut [] (fun wc => ∃ (kq : Nat), Aside0 (wigeontop_TopSights.j8 kq l0 t420 t421 l1_0 a1_1 a1_2 a1_3 a1_4 a1_5 a1_6 a1_7 a1_8 = some r) ∧ Aside0 (kq ≤ kj40) ∧ Aside0 (wc.heap[gb413]? = some (.cells #[(.slice A1_0 l1_0.length c1_0), .int .i64 a1_1, .int .i64 a1_2, .int .i64 a1_3, .int .i64 a1_4, .int .i64 a1_5, .int .i64 a1_6, .int .i64 a1_7, .int .i64 a1_8] 29 (0, 0))) ∧ Aside0 (Below w.heap.size w wc))
     case first =>(as_aux_lemma =>(
 have H := HC70.out
 clear HC70
 by_cases c72 : (l1_0.length : Int) > 0
 {
 rw [if_pos c72] at H
 have c72b0 : decide (0 < (l1_0.length : Int)) = true := decide_eq_true c72
 have c72b1 : decide (0 < l1_0.length) = true := decide_eq_true (by omega)
 clear c72
 (first | rw [c72b0] | (simp only [i64_w, i32_w]; rw [c72b0]) | rw [c72b1] | skip)
 obtain ⟨y443, hy443⟩ : ∃ y_ : List (S25), y_ = (([] : List (S25))) := ⟨_, rfl⟩
 replace H : (if 1 ≤ (l1_0.length : Int) then ((some (l1_0.drop 1 : List (S25))).bind fun y446 => (if y443.length + y446.length < 8796093022208 then ((some (y443 ++ y446 : List (S25))).bind fun y450 => ((screen_Dark.f kj40 l0 l1_0 a1_1 a1_2 a1_3 a1_4).bind fun bt453 => ((screen_Dark.f kj40 l0 y450 a1_1 a1_2 a1_3 a1_4).bind fun bt455 => ((screen_Reach.f kj40 l0 y450 a1_1 a1_2 a1_3 a1_4 a1_5 a1_6).bind fun bt457 => (if bt453.2 = 0 then (if bt455.2 = 0 then (if bt457.2 = 0 then (if bt453.1 > bt455.1 then (wigeontop_TopSights.j6 kj40 l0 t420 t421 t426 bt457.1 true l1_0 a1_1 a1_2 a1_3 a1_4 a1_5 a1_6 a1_7 a1_8) else (wigeontop_TopSights.j6 kj40 l0 t420 t421 t426 bt457.1 (decide ((t426.length : Int) > bt453.1)) l1_0 a1_1 a1_2 a1_3 a1_4 a1_5 a1_6 a1_7 a1_8)) else (wigeontop_TopSights.j6 kj40 l0 t420 t421 t426 bt457.1 true l1_0 a1_1 a1_2 a1_3 a1_4 a1_5 a1_6 a1_7 a1_8)) else (wigeontop_TopSights.j6 kj40 l0 t420 t421 t426 bt457.1 true l1_0 a1_1 a1_2 a1_3 a1_4 a1_5 a1_6 a1_7 a1_8)) else (wigeontop_TopSights.j6 kj40 l0 t420 t421 t426 bt457.1 true l1_0 a1_1 a1_2 a1_3 a1_4 a1_5 a1_6 a1_7 a1_8)))))) else (none))) else (none)) = some r := by first | (rw [hy443]; with_reducible exact H) | (have H2_ := (Option.bind_some _ _).symm.trans H; rw [hy443]; with_reducible exact H2_) | (have H2_ := (Option.bind_some _ _).symm.trans H; with_reducible exact H2_) | with_reducible exact H | (rw [hy443]; exact H) | exact H
 have Ny443 := am hy443
 clear hy443
 by_cases c73 : 1 ≤ (l1_0.length : Int)
 {
 rw [if_pos c73] at H
 have c73b0 := eq_true c73
 have c73b1 : decide (1 ≤ (l1_0.length : Int)) = true := decide_eq_true c73
 clear c73
 obtain ⟨y446, hy446⟩ : ∃ y_ : List (S25), y_ = (l1_0.drop 1) := ⟨_, rfl⟩
 replace H : (if y443.length + y446.length < 8796093022208 then ((some (y443 ++ y446 : List (S25))).bind fun y450 => ((screen_Dark.f kj40 l0 l1_0 a1_1 a1_2 a1_3 a1_4).bind fun bt453 => ((screen_Dark.f kj40 l0 y450 a1_1 a1_2 a1_3 a1_4).bind fun bt455 => ((screen_Reach.f kj40 l0 y450 a1_1 a1_2 a1_3 a1_4 a1_5 a1_6).bind fun bt457 => (if bt453.2 = 0 then (if bt455.2 = 0 then (if bt457.2 = 0 then (if bt453.1 > bt455.1 then (wigeontop_TopSights.j6 kj40 l0 t420 t421 t426 bt457.1 true l1_0 a1_1 a1_2 a1_3 a1_4 a1_5 a1_6 a1_7 a1_8) else (wigeontop_TopSights.j6 kj40 l0 t420 t421 t426 bt457.1 (decide ((t426.length : Int) > bt453.1)) l1_0 a1_1 a1_2 a1_3 a1_4 a1_5 a1_6 a1_7 a1_8)) else (wigeontop_TopSights.j6 kj40 l0 t420 t421 t426 bt457.1 true l1_0 a1_1 a1_2 a1_3 a1_4 a1_5 a1_6 a1_7 a1_8)) else (wigeontop_TopSights.j6 kj40 l0 t420 t421 t426 bt457.1 true l1_0 a1_1 a1_2 a1_3 a1_4 a1_5 a1_6 a1_7 a1_8)) else (wigeontop_TopSights.j6 kj40 l0 t420 t421 t426 bt457.1 true l1_0 a1_1 a1_2 a1_3 a1_4 a1_5 a1_6 a1_7 a1_8)))))) else (none)) = some r := by first | (rw [hy446]; with_reducible exact H) | (have H2_ := (Option.bind_some _ _).symm.trans H; rw [hy446]; with_reducible exact H2_) | (have H2_ := (Option.bind_some _ _).symm.trans H; with_reducible exact H2_) | with_reducible exact H | (rw [hy446]; exact H) | exact H
 have Ny446 := am hy446
 clear hy446
 by_cases c74 : y443.length + y446.length < 8796093022208
 {
 rw [if_pos c74] at H
 have LMc74 := am c74
 clear c74
 obtain ⟨y450, hy450⟩ : ∃ y_ : List (S25), y_ = (y443 ++ y446) := ⟨_, rfl⟩
 replace H : ((screen_Dark.f kj40 l0 l1_0 a1_1 a1_2 a1_3 a1_4).bind fun bt453 => ((screen_Dark.f kj40 l0 y450 a1_1 a1_2 a1_3 a1_4).bind fun bt455 => ((screen_Reach.f kj40 l0 y450 a1_1 a1_2 a1_3 a1_4 a1_5 a1_6).bind fun bt457 => (if bt453.2 = 0 then (if bt455.2 = 0 then (if bt457.2 = 0 then (if bt453.1 > bt455.1 then (wigeontop_TopSights.j6 kj40 l0 t420 t421 t426 bt457.1 true l1_0 a1_1 a1_2 a1_3 a1_4 a1_5 a1_6 a1_7 a1_8) else (wigeontop_TopSights.j6 kj40 l0 t420 t421 t426 bt457.1 (decide ((t426.length : Int) > bt453.1)) l1_0 a1_1 a1_2 a1_3 a1_4 a1_5 a1_6 a1_7 a1_8)) else (wigeontop_TopSights.j6 kj40 l0 t420 t421 t426 bt457.1 true l1_0 a1_1 a1_2 a1_3 a1_4 a1_5 a1_6 a1_7 a1_8)) else (wigeontop_TopSights.j6 kj40 l0 t420 t421 t426 bt457.1 true l1_0 a1_1 a1_2 a1_3 a1_4 a1_5 a1_6 a1_7 a1_8)) else (wigeontop_TopSights.j6 kj40 l0 t420 t421 t426 bt457.1 true l1_0 a1_1 a1_2 a1_3 a1_4 a1_5 a1_6 a1_7 a1_8))))) = some r := by first | (rw [hy450]; with_reducible exact H) | (have H2_ := (Option.bind_some _ _).symm.trans H; rw [hy450]; with_reducible exact H2_) | (have H2_ := (Option.bind_some _ _).symm.trans H; with_reducible exact H2_) | with_reducible exact H | (rw [hy450]; exact H) | exact H
 have Ny450 := am hy450
 clear hy450
 replace H := Option.bind_eq_some_iff.mp H
 obtain ⟨⟨t453, t454⟩, A750, H⟩ := H
 replace H : ((screen_Dark.f kj40 l0 y450 a1_1 a1_2 a1_3 a1_4).bind fun bt455 => ((screen_Reach.f kj40 l0 y450 a1_1 a1_2 a1_3 a1_4 a1_5 a1_6).bind fun bt457 => (if t454 = 0 then (if bt455.2 = 0 then (if bt457.2 = 0 then (if t453 > bt455.1 then (wigeontop_TopSights.j6 kj40 l0 t420 t421 t426 bt457.1 true l1_0 a1_1 a1_2 a1_3 a1_4 a1_5 a1_6 a1_7 a1_8) else (wigeontop_TopSights.j6 kj40 l0 t420 t421 t426 bt457.1 (decide ((t426.length : Int) > t453)) l1_0 a1_1 a1_2 a1_3 a1_4 a1_5 a1_6 a1_7 a1_8)) else (wigeontop_TopSights.j6 kj40 l0 t420 t421 t426 bt457.1 true l1_0 a1_1 a1_2 a1_3 a1_4 a1_5 a1_6 a1_7 a1_8)) else (wigeontop_TopSights.j6 kj40 l0 t420 t421 t426 bt457.1 true l1_0 a1_1 a1_2 a1_3 a1_4 a1_5 a1_6 a1_7 a1_8)) else (wigeontop_TopSights.j6 kj40 l0 t420 t421 t426 bt457.1 true l1_0 a1_1 a1_2 a1_3 a1_4 a1_5 a1_6 a1_7 a1_8)))) = some r := H
 have A75 := am A750
 clear A750
 replace H := Option.bind_eq_some_iff.mp H
 obtain ⟨⟨t455, t456⟩, A760, H⟩ := H
 replace H : ((screen_Reach.f kj40 l0 y450 a1_1 a1_2 a1_3 a1_4 a1_5 a1_6).bind fun bt457 => (if t454 = 0 then (if t456 = 0 then (if bt457.2 = 0 then (if t453 > t455 then (wigeontop_TopSights.j6 kj40 l0 t420 t421 t426 bt457.1 true l1_0 a1_1 a1_2 a1_3 a1_4 a1_5 a1_6 a1_7 a1_8) else (wigeontop_TopSights.j6 kj40 l0 t420 t421 t426 bt457.1 (decide ((t426.length : Int) > t453)) l1_0 a1_1 a1_2 a1_3 a1_4 a1_5 a1_6 a1_7 a1_8)) else (wigeontop_TopSights.j6 kj40 l0 t420 t421 t426 bt457.1 true l1_0 a1_1 a1_2 a1_3 a1_4 a1_5 a1_6 a1_7 a1_8)) else (wigeontop_TopSights.j6 kj40 l0 t420 t421 t426 bt457.1 true l1_0 a1_1 a1_2 a1_3 a1_4 a1_5 a1_6 a1_7 a1_8)) else (wigeontop_TopSights.j6 kj40 l0 t420 t421 t426 bt457.1 true l1_0 a1_1 a1_2 a1_3 a1_4 a1_5 a1_6 a1_7 a1_8))) = some r := H
 have A76 := am A760
 clear A760
 replace H := Option.bind_eq_some_iff.mp H
 obtain ⟨⟨t457, t460⟩, A770, H⟩ := H
 replace H : (if t454 = 0 then (if t456 = 0 then (if t460 = 0 then (if t453 > t455 then (wigeontop_TopSights.j6 kj40 l0 t420 t421 t426 t457 true l1_0 a1_1 a1_2 a1_3 a1_4 a1_5 a1_6 a1_7 a1_8) else (wigeontop_TopSights.j6 kj40 l0 t420 t421 t426 t457 (decide ((t426.length : Int) > t453)) l1_0 a1_1 a1_2 a1_3 a1_4 a1_5 a1_6 a1_7 a1_8)) else (wigeontop_TopSights.j6 kj40 l0 t420 t421 t426 t457 true l1_0 a1_1 a1_2 a1_3 a1_4 a1_5 a1_6 a1_7 a1_8)) else (wigeontop_TopSights.j6 kj40 l0 t420 t421 t426 t457 true l1_0 a1_1 a1_2 a1_3 a1_4 a1_5 a1_6 a1_7 a1_8)) else (wigeontop_TopSights.j6 kj40 l0 t420 t421 t426 t457 true l1_0 a1_1 a1_2 a1_3 a1_4 a1_5 a1_6 a1_7 a1_8)) = some r := H
 have A77 := am A770
 clear A770
 have HC78 := am H
 clear H
 go_upto_region 31 with (first | ((with_reducible refine gate_dst (N := 213) rfl ?_); (try (refine gate_guard (by rfl) ?_; dsimp only)); refine Kd.R_lit k25 _ 25 ?hg (N := 213) ?hd (xs := ([] : List (S25))) (inner := []) (ok := fun _ => True) (okp := fun _ => True) ?hr ?hp (fun _ hk => hk) trivial (Below.refl _ _) (Nat.le_refl _) (by simp) ?_; (case hd => rfl); (case hg => rfl); (case hr => first | (go_simp; done) | (go_simp; rfl)); (case hp => exact (Reps.none _ _)); intro v444 w79 ho80 hb hg_ hnew_; clear hg_ hnew_; (first | rw [← Ny443.out] at ho80 | (simp only [Int.reduceToNat] at ho80; rw [← Ny443.out] at ho80)); have n0_ := am (Kd.R_elder' (by (with_reducible repeat first|apply Kd.R_alloc|apply Kd.R_drewN|apply Kd.R_drew);exact HO_13.out) (Kd.R_base ho80) hb); have n1_ := am (Kd.R_lower (Kd.R_new' ho80 (Kd.R_lt (by (with_reducible repeat first|apply Kd.R_alloc|apply Kd.R_drewN|apply Kd.R_drew);exact HO_13.out))) (below_size (by repeat first|(with_reducible first|exact HB.out|apply wA|apply wN|apply wD|refine wS ?_ GE413.out)|exact HB.out))); have n2_ := am (blk_below (by (with_reducible repeat first|refine bN ?_ _|refine bD ?_|refine bA ?_ _);exact BK413.out) hb); have n3_ := am (below_step (by repeat first|(with_reducible first|exact HB.out|apply wA|apply wN|apply wD|refine wS ?_ GE413.out)|exact HB.out) hb); clear HO_13; clear BK413; clear HB; have HO_13 := n0_; have HO445 := n1_; have BK413 := n2_; have HB := n3_; clear n0_ n1_ n2_ n3_; clear hb ho80; have hcz81_0 : w79.cell? ⟨gb413, 0, none⟩ = some (.slice A1_0 l1_0.length c1_0) := (blk_cell BK413.out 0).trans rfl; have hcz81_1 : w79.cell? ⟨gb413, 1, none⟩ = some (.int .i64 a1_1) := (blk_cell BK413.out 1).trans rfl; have hcz81_2 : w79.cell? ⟨gb413, 2, none⟩ = some (.int .i64 a1_2) := (blk_cell BK413.out 2).trans rfl; have hcz81_3 : w79.cell? ⟨gb413, 3, none⟩ = some (.int .i64 a1_3) := (blk_cell BK413.out 3).trans rfl; have hcz81_4 : w79.cell? ⟨gb413, 4, none⟩ = some (.int .i64 a1_4) := (blk_cell BK413.out 4).trans rfl; have hcz81_5 : w79.cell? ⟨gb413, 5, none⟩ = some (.int .i64 a1_5) := (blk_cell BK413.out 5).trans rfl; have hcz81_6 : w79.cell? ⟨gb413, 6, none⟩ = some (.int .i64 a1_6) := (blk_cell BK413.out 6).trans rfl; have hcz81_7 : w79.cell? ⟨gb413, 7, none⟩ = some (.int .i64 a1_7) := (blk_cell BK413.out 7).trans rfl; have hcz81_8 : w79.cell? ⟨gb413, 8, none⟩ = some (.int .i64 a1_8) := (blk_cell BK413.out 8).trans rfl; have hfz81_0 := blk_frozen BK413.out 0; have hfz81_1 := blk_frozen BK413.out 1; have hfz81_2 := blk_frozen BK413.out 2; have hfz81_3 := blk_frozen BK413.out 3; have hfz81_4 := blk_frozen BK413.out 4; have hfz81_5 := blk_frozen BK413.out 5; have hfz81_6 := blk_frozen BK413.out 6; have hfz81_7 := blk_frozen BK413.out 7; have hfz81_8 := blk_frozen BK413.out 8; have q82 : (1 : Int) ≤ ((l1_0.length : Int) : Int) := of_decide_eq_true (by first | (with_reducible assumption) | assumption); obtain ⟨i082, hi082, _, hsz82, _⟩ := info_parts info25; have hroom82 : l1_0.length ≤ c1_0 := HC1_0.out; have hC82 : Kd.C k25 _ A1_0 l1_0.length l1_0 := HR1_0.out; have hcut82 := cut_from (P := Try.prog) 23 25 .i64 Try.underlying23 hi082 2 hsz82 A1_0 l1_0.length c1_0 1 (by omega) q82; have hr82 := Kd.C_drop (m := (1 : Int).toNat) (c := c1_0) hC82 (by omega) hroom82; obtain ⟨A82, hA82⟩ : ∃ A1, A1 = (if c1_0 = (1 : Int).toNat then A1_0 else (A1_0 : Option Addr).map (·.add ((1 : Int).toNat * 2))) := ⟨_, rfl⟩; obtain ⟨c82, hc82⟩ : ∃ c1, c1 = c1_0 - (1 : Int).toNat := ⟨_, rfl⟩; have hy82 : y446.length = l1_0.length - (1 : Int).toNat := (by rw [Ny446.out, List.length_drop] <;> omega); rw [show (l1_0).drop (1 : Int).toNat = y446 from Ny446.out.symm] at hr82; replace hr82 : Kd.C k25 _ A82 y446.length y446 := (by rw [hA82]; exact hr82); rw [← hy82, ← hA82, ← hc82] at hcut82; have HR449 := am hr82; have HC449 := am (show y446.length ≤ c82 from by rw [hy82, hc82]; exact Nat.sub_le_sub_right hroom82 _); clear hr82 hC82 hroom82 hi082 hsz82 hc82; have KY82 := am hy82; have KA82 := am hA82; clear hy82 hA82; replace q82 := eq_true q82) | ((with_reducible refine gate_builtin (b := .append) (xs := #[.tmp 213, .tmp 216]) rfl ?_); (try (refine gate_guard (by rfl) ?_; dsimp only)); at_builtin; refine Kd.R_append_rows k25 (w0 := w) w.heap.size rfl (.tmp 213) (.tmp 216) 23 25 (.agg #[(.int .i64 0), (.int .i64 0)]) 16 rfl Try.underlying23 info25 rfl (by decide) (by omega) v444 y443 y446 _ _ _ (fun k_ => some k_ ≠ (v427 : Value).ownBlock) (fun _ => False) rfl rfl ?aO ?aR (fun _ _ h => h) (fun _ h => h.elim) ?aF ?aB ?aS ?aL ?_; (case aR => repeat (first | exact (Kd.C_below HR449.out HB.out) | (with_reducible refine Kd.C_alloc ?_ _) | (with_reducible refine Kd.C_drewN ?_ _) | (with_reducible refine Kd.C_drew ?_))); (case aB => exact (by repeat first|(with_reducible first|exact HB.out|apply wA|apply wN|apply wD|refine wS ?_ GE413.out)|exact HB.out)); (case aF => exact (fun k_ hk => Kd.fresh' (Kd.R_lt (by (with_reducible repeat first|apply Kd.R_alloc|apply Kd.R_drewN|apply Kd.R_drew);exact HO_13.out)) k_ hk)); (case aO => exact (by (with_reducible repeat first|apply Kd.R_alloc|apply Kd.R_drewN|apply Kd.R_drew);exact Kd.R_mono HO445.out (fun _ hk => hk.2))); (case aS => exact (below_size (by repeat first|(with_reducible first|exact HB.out|apply wA|apply wN|apply wD|refine wS ?_ GE413.out)|exact HB.out))); (case aL => have := LMc74.out; omega); intro v451 w83 ho hb hg hat; rw [← Ny450.out] at ho; have n0_ := am (Kd.R_after (ok := (fun _ => True)) (by (with_reducible repeat first|apply Kd.R_alloc|apply Kd.R_drewN|apply Kd.R_drew);exact HO_13.out) hg hat); have n1_ := am (blk_grown (by (with_reducible repeat first|refine bN ?_ _|refine bD ?_|refine bA ?_ _);exact BK413.out) hg (Kd.R_ne HO445.out BK413.out (by decide))); have n2_ := am (hb); have n3_ := am (ho); clear HO_13; clear BK413; clear HB; clear HO445; have HO_13 := n0_; have BK413 := n1_; have HB := n2_; have HO452 := n3_; clear n0_ n1_ n2_ n3_; clear ho hb hg hat; have hcz84_0 : w83.cell? ⟨gb413, 0, none⟩ = some (.slice A1_0 l1_0.length c1_0) := (blk_cell BK413.out 0).trans rfl; have hcz84_1 : w83.cell? ⟨gb413, 1, none⟩ = some (.int .i64 a1_1) := (blk_cell BK413.out 1).trans rfl; have hcz84_2 : w83.cell? ⟨gb413, 2, none⟩ = some (.int .i64 a1_2) := (blk_cell BK413.out 2).trans rfl; have hcz84_3 : w83.cell? ⟨gb413, 3, none⟩ = some (.int .i64 a1_3) := (blk_cell BK413.out 3).trans rfl; have hcz84_4 : w83.cell? ⟨gb413, 4, none⟩ = some (.int .i64 a1_4) := (blk_cell BK413.out 4).trans rfl; have hcz84_5 : w83.cell? ⟨gb413, 5, none⟩ = some (.int .i64 a1_5) := (blk_cell BK413.out 5).trans rfl; have hcz84_6 : w83.cell? ⟨gb413, 6, none⟩ = some (.int .i64 a1_6) := (blk_cell BK413.out 6).trans rfl; have hcz84_7 : w83.cell? ⟨gb413, 7, none⟩ = some (.int .i64 a1_7) := (blk_cell BK413.out 7).trans rfl; have hcz84_8 : w83.cell? ⟨gb413, 8, none⟩ = some (.int .i64 a1_8) := (blk_cell BK413.out 8).trans rfl; have hfz84_0 := blk_frozen BK413.out 0; have hfz84_1 := blk_frozen BK413.out 1; have hfz84_2 := blk_frozen BK413.out 2; have hfz84_3 := blk_frozen BK413.out 3; have hfz84_4 := blk_frozen BK413.out 4; have hfz84_5 := blk_frozen BK413.out 5; have hfz84_6 := blk_frozen BK413.out 6; have hfz84_7 := blk_frozen BK413.out 7; have hfz84_8 := blk_frozen BK413.out 8) | ((with_reducible refine gate_callee (f := 20) rfl ?_); refine goesL_ (some 224) rfl rfl Try.func20 (by kernel_rfl) rfl #[.slice A0 l0.length c0, .slice A1_0 l1_0.length c1_0, .agg #[.int .i64 a1_1, .int .i64 a1_2, .int .i64 a1_3, .int .i64 a1_4]] rfl (by (try simp only [List.map_toArray, List.map_cons, List.map_nil]); first | done | rfl | (simp only [List.length_drop, List.length_take]; rfl)) ?_; (with_reducible refine (screen_Dark.calls kj40 _ _ l0 _ _ l1_0 a1_1 a1_2 a1_3 a1_4 t453 t454 _ ?side1 ?side2 ?side3 ?side4 A75.out).mono ?_); (case side1 => repeat (first | exact (Kd.C_below HR0.out HB.out) | (with_reducible refine Kd.C_alloc ?_ _) | (with_reducible refine Kd.C_drewN ?_ _) | (with_reducible refine Kd.C_drew ?_))); (case side2 => exact HC0.out); (case side3 => repeat (first | exact (Kd.C_below HR1_0.out HB.out) | (with_reducible refine Kd.C_alloc ?_ _) | (with_reducible refine Kd.C_drewN ?_ _) | (with_reducible refine Kd.C_drew ?_))); (case side4 => exact HC1_0.out); rintro e w85 ⟨rfl, hb⟩; refine ⟨_, rfl, ?_⟩; have n0_ := am (Kd.R_below (by (with_reducible repeat first|apply Kd.R_alloc|apply Kd.R_drewN|apply Kd.R_drew);exact HO_13.out) hb); have n1_ := am (Kd.R_below (by (with_reducible repeat first|apply Kd.R_alloc|apply Kd.R_drewN|apply Kd.R_drew);exact HO452.out) hb); have n2_ := am (blk_below (by (with_reducible repeat first|refine bN ?_ _|refine bD ?_|refine bA ?_ _);exact BK413.out) hb); have n3_ := am (below_step (by repeat first|(with_reducible first|exact HB.out|apply wA|apply wN|apply wD|refine wS ?_ GE413.out)|exact HB.out) hb); clear HO_13; clear HO452; clear BK413; clear HB; have HO_13 := n0_; have HO452 := n1_; have BK413 := n2_; have HB := n3_; clear n0_ n1_ n2_ n3_; (try clear hb); (try clear hb2); (try clear hk); (try clear hi); have hcz86_0 : w85.cell? ⟨gb413, 0, none⟩ = some (.slice A1_0 l1_0.length c1_0) := (blk_cell BK413.out 0).trans rfl; have hcz86_1 : w85.cell? ⟨gb413, 1, none⟩ = some (.int .i64 a1_1) := (blk_cell BK413.out 1).trans rfl; have hcz86_2 : w85.cell? ⟨gb413, 2, none⟩ = some (.int .i64 a1_2) := (blk_cell BK413.out 2).trans rfl; have hcz86_3 : w85.cell? ⟨gb413, 3, none⟩ = some (.int .i64 a1_3) := (blk_cell BK413.out 3).trans rfl; have hcz86_4 : w85.cell? ⟨gb413, 4, none⟩ = some (.int .i64 a1_4) := (blk_cell BK413.out 4).trans rfl; have hcz86_5 : w85.cell? ⟨gb413, 5, none⟩ = some (.int .i64 a1_5) := (blk_cell BK413.out 5).trans rfl; have hcz86_6 : w85.cell? ⟨gb413, 6, none⟩ = some (.int .i64 a1_6) := (blk_cell BK413.out 6).trans rfl; have hcz86_7 : w85.cell? ⟨gb413, 7, none⟩ = some (.int .i64 a1_7) := (blk_cell BK413.out 7).trans rfl; have hcz86_8 : w85.cell? ⟨gb413, 8, none⟩ = some (.int .i64 a1_8) := (blk_cell BK413.out 8).trans rfl; have hfz86_0 := blk_frozen BK413.out 0; have hfz86_1 := blk_frozen BK413.out 1; have hfz86_2 := blk_frozen BK413.out 2; have hfz86_3 := blk_frozen BK413.out 3; have hfz86_4 := blk_frozen BK413.out 4; have hfz86_5 := blk_frozen BK413.out 5; have hfz86_6 := blk_frozen BK413.out 6; have hfz86_7 := blk_frozen BK413.out 7; have hfz86_8 := blk_frozen BK413.out 8; obtain ⟨Ao87, co87, eo87⟩ := Kd.R_slice HO452.out; subst eo87) | ((with_reducible refine gate_callee (f := 20) rfl ?_); refine goesL_ (some 232) rfl rfl Try.func20 (by kernel_rfl) rfl #[.slice A0 l0.length c0, .slice Ao87 y450.length co87, .agg #[.int .i64 a1_1, .int .i64 a1_2, .int .i64 a1_3, .int .i64 a1_4]] rfl (by (try simp only [List.map_toArray, List.map_cons, List.map_nil]); first | done | rfl | (simp only [List.length_drop, List.length_take]; rfl)) ?_; (with_reducible refine (screen_Dark.calls kj40 _ _ l0 _ _ y450 a1_1 a1_2 a1_3 a1_4 t455 t456 _ ?side1 ?side2 ?side3 ?side4 A76.out).mono ?_); (case side1 => repeat (first | exact (Kd.C_below HR0.out HB.out) | (with_reducible refine Kd.C_alloc ?_ _) | (with_reducible refine Kd.C_drewN ?_ _) | (with_reducible refine Kd.C_drew ?_))); (case side2 => exact HC0.out); (case side3 => repeat (first | exact (Kd.R_reads' HO452.out).2.2 | (with_reducible refine Kd.C_alloc ?_ _) | (with_reducible refine Kd.C_drewN ?_ _) | (with_reducible refine Kd.C_drew ?_))); (case side4 => exact (Kd.R_reads' HO452.out).2.1); rintro e w88 ⟨rfl, hb⟩; refine ⟨_, rfl, ?_⟩; have n0_ := am (Kd.R_below (by (with_reducible repeat first|apply Kd.R_alloc|apply Kd.R_drewN|apply Kd.R_drew);exact HO_13.out) hb); have n1_ := am (Kd.R_below (by (with_reducible repeat first|apply Kd.R_alloc|apply Kd.R_drewN|apply Kd.R_drew);exact HO452.out) hb); have n2_ := am (blk_below (by (with_reducible repeat first|refine bN ?_ _|refine bD ?_|refine bA ?_ _);exact BK413.out) hb); have n3_ := am (below_step (by repeat first|(with_reducible first|exact HB.out|apply wA|apply wN|apply wD|refine wS ?_ GE413.out)|exact HB.out) hb); clear HO_13; clear HO452; clear BK413; clear HB; have HO_13 := n0_; have HO452 := n1_; have BK413 := n2_; have HB := n3_; clear n0_ n1_ n2_ n3_; (try clear hb); (try clear hb2); (try clear hk); (try clear hi); have hcz89_0 : w88.cell? ⟨gb413, 0, none⟩ = some (.slice A1_0 l1_0.length c1_0) := (blk_cell BK413.out 0).trans rfl; have hcz89_1 : w88.cell? ⟨gb413, 1, none⟩ = some (.int .i64 a1_1) := (blk_cell BK413.out 1).trans rfl; have hcz89_2 : w88.cell? ⟨gb413, 2, none⟩ = some (.int .i64 a1_2) := (blk_cell BK413.out 2).trans rfl; have hcz89_3 : w88.cell? ⟨gb413, 3, none⟩ = some (.int .i64 a1_3) := (blk_cell BK413.out 3).trans rfl; have hcz89_4 : w88.cell? ⟨gb413, 4, none⟩ = some (.int .i64 a1_4) := (blk_cell BK413.out 4).trans rfl; have hcz89_5 : w88.cell? ⟨gb413, 5, none⟩ = some (.int .i64 a1_5) := (blk_cell BK413.out 5).trans rfl; have hcz89_6 : w88.cell? ⟨gb413, 6, none⟩ = some (.int .i64 a1_6) := (blk_cell BK413.out 6).trans rfl; have hcz89_7 : w88.cell? ⟨gb413, 7, none⟩ = some (.int .i64 a1_7) := (blk_cell BK413.out 7).trans rfl; have hcz89_8 : w88.cell? ⟨gb413, 8, none⟩ = some (.int .i64 a1_8) := (blk_cell BK413.out 8).trans rfl; have hfz89_0 := blk_frozen BK413.out 0; have hfz89_1 := blk_frozen BK413.out 1; have hfz89_2 := blk_frozen BK413.out 2; have hfz89_3 := blk_frozen BK413.out 3; have hfz89_4 := blk_frozen BK413.out 4; have hfz89_5 := blk_frozen BK413.out 5; have hfz89_6 := blk_frozen BK413.out 6; have hfz89_7 := blk_frozen BK413.out 7; have hfz89_8 := blk_frozen BK413.out 8) | ((with_reducible refine gate_callee (f := 12) rfl ?_); refine goesL_ (some 242) rfl rfl Try.func12 (by kernel_rfl) rfl #[.slice A0 l0.length c0, .slice Ao87 y450.length co87, .agg #[.int .i64 a1_1, .int .i64 a1_2, .int .i64 a1_3, .int .i64 a1_4], .agg #[.int .i64 a1_5, .int .i64 a1_6]] rfl (by (try simp only [List.map_toArray, List.map_cons, List.map_nil]); first | done | rfl | (simp only [List.length_drop, List.length_take]; rfl)) ?_; (with_reducible refine (screen_Reach.calls kj40 _ _ l0 _ _ y450 a1_1 a1_2 a1_3 a1_4 a1_5 a1_6 t457 t460 _ ?side1 ?side2 ?side3 ?side4 A77.out).mono ?_); (case side1 => repeat (first | exact (Kd.C_below HR0.out HB.out) | (with_reducible refine Kd.C_alloc ?_ _) | (with_reducible refine Kd.C_drewN ?_ _) | (with_reducible refine Kd.C_drew ?_))); (case side2 => exact HC0.out); (case side3 => repeat (first | exact (Kd.R_reads' HO452.out).2.2 | (with_reducible refine Kd.C_alloc ?_ _) | (with_reducible refine Kd.C_drewN ?_ _) | (with_reducible refine Kd.C_drew ?_))); (case side4 => exact (Kd.R_reads' HO452.out).2.1); rintro e w90 ⟨v458, rfl, ho0, hb⟩; refine ⟨_, rfl, ?_⟩; have n0_ := am (Kd.R_elder' (by (with_reducible repeat first|apply Kd.R_alloc|apply Kd.R_drewN|apply Kd.R_drew);exact HO_13.out) (Kd.R_base ho0) hb); have n1_ := am (Kd.R_elder' (by (with_reducible repeat first|apply Kd.R_alloc|apply Kd.R_drewN|apply Kd.R_drew);exact HO452.out) (Kd.R_base ho0) hb); have n2_ := am (Kd.R_lower (Kd.R_new' (Kd.R_new' ho0 (Kd.R_lt (by (with_reducible repeat first|apply Kd.R_alloc|apply Kd.R_drewN|apply Kd.R_drew);exact HO_13.out))) (Kd.R_lt (by (with_reducible repeat first|apply Kd.R_alloc|apply Kd.R_drewN|apply Kd.R_drew);exact HO452.out))) (below_size (by repeat first|(with_reducible first|exact HB.out|apply wA|apply wN|apply wD|refine wS ?_ GE413.out)|exact HB.out))); have n3_ := am (blk_below (by (with_reducible repeat first|refine bN ?_ _|refine bD ?_|refine bA ?_ _);exact BK413.out) hb); have n4_ := am (below_step (by repeat first|(with_reducible first|exact HB.out|apply wA|apply wN|apply wD|refine wS ?_ GE413.out)|exact HB.out) hb); clear HO_13; clear HO452; clear BK413; clear HB; have HO_13 := n0_; have HO452 := n1_; have HO459 := n2_; have BK413 := n3_; have HB := n4_; clear n0_ n1_ n2_ n3_ n4_; (try clear hb); (try clear hb2); (try clear hk); (try clear hi); (try clear ho0)))
 (try simp only [Act.put, List.setIfInBounds_toArray, List.set_cons_zero, List.set_cons_succ])
 go_cut [265] (fun v265 wc => ∃ (kq : Nat) (x265_77 : Bool), v265 = .bool x265_77 ∧ Aside0 (wigeontop_TopSights.j6 kq l0 t420 t421 t426 t457 x265_77 l1_0 a1_1 a1_2 a1_3 a1_4 a1_5 a1_6 a1_7 a1_8 = some r) ∧ Aside0 (kq ≤ kj40) ∧ Aside0 (Kd.R k25 25 wc w.heap.size (fun k_ => some k_ ≠ (v458 : Value).ownBlock) v427 t426) ∧ Aside0 (Kd.R k25 25 wc w.heap.size (fun k_ => some k_ ≠ (v427 : Value).ownBlock) v458 t457) ∧ Aside0 (wc.heap[gb413]? = some (.cells #[(.slice A1_0 l1_0.length c1_0), .int .i64 a1_1, .int .i64 a1_2, .int .i64 a1_3, .int .i64 a1_4, .int .i64 a1_5, .int .i64 a1_6, .int .i64 a1_7, .int .i64 a1_8] 29 (0, 0))) ∧ Aside0 (Below w.heap.size w wc))
 case first =>(as_aux_lemma =>(
 have H := HC78.out
 clear HC78
 by_cases c91 : t454 = 0
 {
 rw [if_pos c91] at H
 have c91b0 : (t454 == 0) = true := beq_iff_eq.mpr c91
 have c91b1 : (t454 != 0) = false := bne_eq_false_iff_eq.mpr c91
 clear c91
 (first | rw [c91b0] | (simp only [i64_w, i32_w]; rw [c91b0]) | skip)
 by_cases c92 : t456 = 0
 {
 rw [if_pos c92] at H
 have c92b0 : (t456 == 0) = true := beq_iff_eq.mpr c92
 have c92b1 : (t456 != 0) = false := bne_eq_false_iff_eq.mpr c92
 clear c92
 by_cases c93 : t460 = 0
 {
 rw [if_pos c93] at H
 have c93b0 : (t460 == 0) = true := beq_iff_eq.mpr c93
 have c93b1 : (t460 != 0) = false := bne_eq_false_iff_eq.mpr c93
 clear c93
 by_cases c94 : t453 > t455
 {
 rw [if_pos c94] at H
 have c94b0 : decide (t455 < t453) = true := decide_eq_true c94
 clear c94
 have H' := am H
 clear H
 go_wp2
 go_meet
 case rel => exact ⟨_, (true), (by first | rfl | (simp; done) | (simp [*]; done)), H', ⟨by have := HJ3.out; have := HJ16.out; have := HJ27.out; have := HJ40.out; first | omega | exact Nat.le_refl _⟩, ⟨by (with_reducible repeat first|apply Kd.R_alloc|apply Kd.R_drewN|apply Kd.R_drew);exact Kd.R_mono HO_13.out (fun _ hk => hk.2)⟩, ⟨by (with_reducible repeat first|apply Kd.R_alloc|apply Kd.R_drewN|apply Kd.R_drew);exact Kd.R_mono HO459.out (fun _ hk => hk.1.2)⟩, ⟨by (with_reducible repeat first|refine bN ?_ _|refine bD ?_|refine bA ?_ _);exact BK413.out⟩, ⟨by repeat (first | (with_reducible first | exact HB.out | apply below_alloc | apply pw_below_drewN | apply below_drew1 | refine below_set ?_ GE413.out) | exact HB.out)⟩⟩}
 rw [if_neg c94] at H
 have c94b0 : decide (t455 < t453) = false := decide_eq_false c94
 clear c94
 have H' := am H
 clear H
 obtain ⟨Ao95, co95, eo95⟩ := Kd.R_slice HO_13.out
 subst eo95
 go_wp2
 go_meet
 case rel => exact ⟨_, (decide ((t426.length : Int) > t453)), (by first | rfl | (simp; done) | (simp [*]; done)), H', ⟨by have := HJ3.out; have := HJ16.out; have := HJ27.out; have := HJ40.out; first | omega | exact Nat.le_refl _⟩, ⟨by (with_reducible repeat first|apply Kd.R_alloc|apply Kd.R_drewN|apply Kd.R_drew);exact Kd.R_mono HO_13.out (fun _ hk => hk.2)⟩, ⟨by (with_reducible repeat first|apply Kd.R_alloc|apply Kd.R_drewN|apply Kd.R_drew);exact Kd.R_mono HO459.out (fun _ hk => hk.1.2)⟩, ⟨by (with_reducible repeat first|refine bN ?_ _|refine bD ?_|refine bA ?_ _);exact BK413.out⟩, ⟨by repeat (first | (with_reducible first | exact HB.out | apply below_alloc | apply pw_below_drewN | apply below_drew1 | refine below_set ?_ GE413.out) | exact HB.out)⟩⟩}
 rw [if_neg c93] at H
 have c93b0 : (t460 == 0) = false := beq_eq_false_iff_ne.mpr c93
 have c93b1 : (t460 != 0) = true := bne_iff_ne.mpr c93
 have H' := am H
 clear H
 go_wp2
 go_meet
 case rel => exact ⟨_, (true), (by first | rfl | (simp; done) | (simp [*]; done)), H', ⟨by have := HJ3.out; have := HJ16.out; have := HJ27.out; have := HJ40.out; first | omega | exact Nat.le_refl _⟩, ⟨by (with_reducible repeat first|apply Kd.R_alloc|apply Kd.R_drewN|apply Kd.R_drew);exact Kd.R_mono HO_13.out (fun _ hk => hk.2)⟩, ⟨by (with_reducible repeat first|apply Kd.R_alloc|apply Kd.R_drewN|apply Kd.R_drew);exact Kd.R_mono HO459.out (fun _ hk => hk.1.2)⟩, ⟨by (with_reducible repeat first|refine bN ?_ _|refine bD ?_|refine bA ?_ _);exact BK413.out⟩, ⟨by repeat (first | (with_reducible first | exact HB.out | apply below_alloc | apply pw_below_drewN | apply below_drew1 | refine below_set ?_ GE413.out) | exact HB.out)⟩⟩}
 rw [if_neg c92] at H
 have c92b0 : (t456 == 0) = false := beq_eq_false_iff_ne.mpr c92
 have c92b1 : (t456 != 0) = true := bne_iff_ne.mpr c92
 have H' := am H
 clear H
 go_wp2
 go_meet
 case rel => exact ⟨_, (true), (by first | rfl | (simp; done) | (simp [*]; done)), H', ⟨by have := HJ3.out; have := HJ16.out; have := HJ27.out; have := HJ40.out; first | omega | exact Nat.le_refl _⟩, ⟨by (with_reducible repeat first|apply Kd.R_alloc|apply Kd.R_drewN|apply Kd.R_drew);exact Kd.R_mono HO_13.out (fun _ hk => hk.2)⟩, ⟨by (with_reducible repeat first|apply Kd.R_alloc|apply Kd.R_drewN|apply Kd.R_drew);exact Kd.R_mono HO459.out (fun _ hk => hk.1.2)⟩, ⟨by (with_reducible repeat first|refine bN ?_ _|refine bD ?_|refine bA ?_ _);exact BK413.out⟩, ⟨by repeat (first | (with_reducible first | exact HB.out | apply below_alloc | apply pw_below_drewN | apply below_drew1 | refine below_set ?_ GE413.out) | exact HB.out)⟩⟩}
 rw [if_neg c91] at H
 have c91b0 : (t454 == 0) = false := beq_eq_false_iff_ne.mpr c91
 have c91b1 : (t454 != 0) = true := bne_iff_ne.mpr c91
 (first | rw [c91b0] | (simp only [i64_w, i32_w]; rw [c91b0]) | skip)
 have H' := am H
 clear H
 go_wp2
 go_meet
 case rel => exact ⟨_, (true), (by first | rfl | (simp; done) | (simp [*]; done)), H', ⟨by have := HJ3.out; have := HJ16.out; have := HJ27.out; have := HJ40.out; first | omega | exact Nat.le_refl _⟩, ⟨by (with_reducible repeat first|apply Kd.R_alloc|apply Kd.R_drewN|apply Kd.R_drew);exact Kd.R_mono HO_13.out (fun _ hk => hk.2)⟩, ⟨by (with_reducible repeat first|apply Kd.R_alloc|apply Kd.R_drewN|apply Kd.R_drew);exact Kd.R_mono HO459.out (fun _ hk => hk.1.2)⟩, ⟨by (with_reducible repeat first|refine bN ?_ _|refine bD ?_|refine bA ?_ _);exact BK413.out⟩, ⟨by repeat (first | (with_reducible first | exact HB.out | apply below_alloc | apply pw_below_drewN | apply below_drew1 | refine below_set ?_ GE413.out) | exact HB.out)⟩⟩))
 as_aux_lemma =>
  clear HC78
  obtain ⟨kq, x265_77, rfl, HA, HJ77, HO_13, HO_27, BK413, HB⟩ := hcut
  cases kq with
  | zero => exact absurd HA.out (by simp [wigeontop_TopSights.j6])
  | succ kj77 =>
   have H := HA.out
   clear HA
   simp only [wigeontop_TopSights.j6] at H
   by_cases c96 : x265_77 = true
   {
 subst c96
 have H1 : (some false) = some r := by rw [if_pos rfl] at H; exact H
 clear H
 have H := H1
 clear H1
 obtain rfl := Option.some.inj H
 go_wp2
 go_ret
 exact ⟨by first | rfl | (simp [errW_none, errW_some] <;> rfl) | (simp [*, errW_none, errW_some] <;> rfl), by repeat (first | (with_reducible first | exact HB.out | apply below_alloc | apply pw_below_drewN | apply below_drew1 | refine below_set ?_ GE413.out) | exact HB.out)⟩}
   replace c96 := Bool.eq_false_iff.mpr c96
   subst c96
   have H1 : (wigeontop_TopSights.l1 kj77 l0 t420 t421 t426 t457 0 l1_0 a1_1 a1_2 a1_3 a1_4 a1_5 a1_6 a1_7 a1_8) = some r := by rw [if_neg (show ¬ (false = true) by decide)] at H; exact H
   clear H
   have H := H1
   clear H1
   have H' := am H
   clear H
   go_wp2
   go_loopg [29] kj77 (fun kq v29 w' => ∃ (x29_6 : Int), v29 = .int .i64 x29_6 ∧ Aside0 (wigeontop_TopSights.l1 kq l0 t420 t421 t426 t457 x29_6 l1_0 a1_1 a1_2 a1_3 a1_4 a1_5 a1_6 a1_7 a1_8 = some r) ∧ Aside0 (kq ≤ kj77) ∧ Aside0 (Kd.R k25 25 w' w.heap.size (fun k_ => some k_ ≠ (v458 : Value).ownBlock) v427 t426) ∧ Aside0 (Kd.R k25 25 w' w.heap.size (fun k_ => some k_ ≠ (v427 : Value).ownBlock) v458 t457) ∧ Aside0 (w'.heap[gb413]? = some (.cells #[(.slice A1_0 l1_0.length c1_0), .int .i64 a1_1, .int .i64 a1_2, .int .i64 a1_3, .int .i64 a1_4, .int .i64 a1_5, .int .i64 a1_6, .int .i64 a1_7, .int .i64 a1_8] 29 (0, 0))) ∧ Aside0 (Below w.heap.size w w'))
   case atStart => exact ⟨(0), (by first | rfl | (simp; done) | (simp [*]; done)), H', ⟨Nat.le_refl _⟩, ⟨by (with_reducible repeat first|apply Kd.R_alloc|apply Kd.R_drewN|apply Kd.R_drew);exact HO_13.out⟩, ⟨by (with_reducible repeat first|apply Kd.R_alloc|apply Kd.R_drewN|apply Kd.R_drew);exact HO_27.out⟩, ⟨by (with_reducible repeat first|refine bN ?_ _|refine bD ?_|refine bA ?_ _);exact BK413.out⟩, ⟨by repeat (first | (with_reducible first | exact HB.out | apply below_alloc | apply pw_below_drewN | apply below_drew1 | refine below_set ?_ GE413.out) | exact HB.out)⟩⟩
   case round =>(
 clear H'
 obtain ⟨x29_6, rfl, HA, HK6, HO_13, HO_27, BK413, HB⟩ := hrel
 cases gk with
 | zero => exact absurd HA.out (by simp [wigeontop_TopSights.l1])
 | succ k6 =>
  have H := HA.out
  clear HA
  simp only [wigeontop_TopSights.l1] at H
  by_cases c97 : x29_6 < (t426.length : Int)
  {
 rw [if_pos c97] at H
 have c97b0 : decide (x29_6 < (t426.length : Int)) = true := decide_eq_true c97
 clear c97
 by_cases c98 : 0 ≤ x29_6
 {
 rw [if_pos c98] at H
 have c98b0 : decide (0 ≤ x29_6) = true := decide_eq_true c98
 clear c98
 replace H := Option.bind_eq_some_iff.mp H
 obtain ⟨t462, A990, H⟩ := H
 replace H : (if t462 = true then (wigeontop_TopSights.l1 k6 l0 t420 t421 t426 t457 (wrap64 (x29_6 + 1)) l1_0 a1_1 a1_2 a1_3 a1_4 a1_5 a1_6 a1_7 a1_8) else (some false)) = some r := H
 have A99 := am A990
 clear A990
 by_cases c100 : t462 = true
 {
 subst c100
 have H1 : (wigeontop_TopSights.l1 k6 l0 t420 t421 t426 t457 (wrap64 (x29_6 + 1)) l1_0 a1_1 a1_2 a1_3 a1_4 a1_5 a1_6 a1_7 a1_8) = some r := by rw [if_pos rfl] at H; exact H
 clear H
 have H := H1
 clear H1
 have H' := am H
 clear H
 obtain ⟨Ao101, co101, eo101⟩ := Kd.R_slice HO_13.out
 subst eo101
 have p461 : 0 ≤ (x29_6 : Int) := of_decide_eq_true (by first | (with_reducible assumption) | assumption)
 have q461 : x29_6 < (t426.length : Int) := of_decide_eq_true (by first | (with_reducible assumption) | assumption)
 obtain ⟨ad461, e461, hx461_0, hx461_1⟩ := at_T25 (Kd.R_reads' HO_13.out).2.2 x29_6 p461 q461
 cases e461
 replace p461 := eq_true p461
 replace q461 := eq_true q461
 obtain ⟨Ao102, co102, eo102⟩ := Kd.R_slice HO_27.out
 subst eo102
 go_wp2_with (first | ((with_reducible refine gate_callee (f := 17) rfl ?_); refine goesL_ (some 277) rfl rfl Try.func17 (by kernel_rfl) rfl #[.slice Ao102 t457.length co102, .agg #[.int .i64 ((rd_T25 t426 x29_6).f0), .int .i64 ((rd_T25 t426 x29_6).f1)]] rfl (by (try simp only [List.map_toArray, List.map_cons, List.map_nil]); first | done | rfl | (simp only [List.length_drop, List.length_take]; rfl)) ?_; (with_reducible refine (wigeontop_there.calls k6 _ _ t457 ((rd_T25 t426 x29_6).f0) ((rd_T25 t426 x29_6).f1) true _ ?side1 ?side2 A99.out).mono ?_); (case side1 => repeat (first | exact (Kd.R_reads' HO_27.out).2.2 | (with_reducible refine Kd.C_alloc ?_ _) | (with_reducible refine Kd.C_drewN ?_ _) | (with_reducible refine Kd.C_drew ?_))); (case side2 => exact (Kd.R_reads' HO_27.out).2.1); rintro e w103 ⟨rfl, hb⟩; refine ⟨_, rfl, ?_⟩; have n0_ := am (Kd.R_below (by (with_reducible repeat first|apply Kd.R_alloc|apply Kd.R_drewN|apply Kd.R_drew);exact HO_13.out) hb); have n1_ := am (Kd.R_below (by (with_reducible repeat first|apply Kd.R_alloc|apply Kd.R_drewN|apply Kd.R_drew);exact HO_27.out) hb); have n2_ := am (blk_below (by (with_reducible repeat first|refine bN ?_ _|refine bD ?_|refine bA ?_ _);exact BK413.out) hb); have n3_ := am (below_step (by repeat first|(with_reducible first|exact HB.out|apply wA|apply wN|apply wD|refine wS ?_ GE413.out)|exact HB.out) hb); clear HO_13; clear HO_27; clear BK413; clear HB; have HO_13 := n0_; have HO_27 := n1_; have BK413 := n2_; have HB := n3_; clear n0_ n1_ n2_ n3_; (try clear hb); (try clear hb2); (try clear hk); (try clear hi)))
 go_roundg k6
 case measure => have := HJ3.out; have := HJ16.out; have := HJ27.out; have := HJ40.out; have := HJ77.out; have := HK6.out; omega
 case rel => exact ⟨(wrap64 (x29_6 + 1)), (by first | rfl | (simp; done) | (simp [*]; done)), H', ⟨by have := HJ3.out; have := HJ16.out; have := HJ27.out; have := HJ40.out; have := HJ77.out; have := HK6.out; omega⟩, ⟨by (with_reducible repeat first|apply Kd.R_alloc|apply Kd.R_drewN|apply Kd.R_drew);exact HO_13.out⟩, ⟨by (with_reducible repeat first|apply Kd.R_alloc|apply Kd.R_drewN|apply Kd.R_drew);exact HO_27.out⟩, ⟨by (with_reducible repeat first|refine bN ?_ _|refine bD ?_|refine bA ?_ _);exact BK413.out⟩, ⟨by repeat (first | (with_reducible first | exact HB.out | apply below_alloc | apply pw_below_drewN | apply below_drew1 | refine below_set ?_ GE413.out) | exact HB.out)⟩⟩}
 replace c100 := Bool.eq_false_iff.mpr c100
 subst c100
 have H1 : (some false) = some r := by rw [if_neg (show ¬ (false = true) by decide)] at H; exact H
 clear H
 have H := H1
 clear H1
 obtain rfl := Option.some.inj H
 obtain ⟨Ao104, co104, eo104⟩ := Kd.R_slice HO_13.out
 subst eo104
 have p461 : 0 ≤ (x29_6 : Int) := of_decide_eq_true (by first | (with_reducible assumption) | assumption)
 have q461 : x29_6 < (t426.length : Int) := of_decide_eq_true (by first | (with_reducible assumption) | assumption)
 obtain ⟨ad461, e461, hx461_0, hx461_1⟩ := at_T25 (Kd.R_reads' HO_13.out).2.2 x29_6 p461 q461
 cases e461
 replace p461 := eq_true p461
 replace q461 := eq_true q461
 obtain ⟨Ao105, co105, eo105⟩ := Kd.R_slice HO_27.out
 subst eo105
 go_wp2_with (first | ((with_reducible refine gate_callee (f := 17) rfl ?_); refine goesL_ (some 277) rfl rfl Try.func17 (by kernel_rfl) rfl #[.slice Ao105 t457.length co105, .agg #[.int .i64 ((rd_T25 t426 x29_6).f0), .int .i64 ((rd_T25 t426 x29_6).f1)]] rfl (by (try simp only [List.map_toArray, List.map_cons, List.map_nil]); first | done | rfl | (simp only [List.length_drop, List.length_take]; rfl)) ?_; (with_reducible refine (wigeontop_there.calls k6 _ _ t457 ((rd_T25 t426 x29_6).f0) ((rd_T25 t426 x29_6).f1) false _ ?side1 ?side2 A99.out).mono ?_); (case side1 => repeat (first | exact (Kd.R_reads' HO_27.out).2.2 | (with_reducible refine Kd.C_alloc ?_ _) | (with_reducible refine Kd.C_drewN ?_ _) | (with_reducible refine Kd.C_drew ?_))); (case side2 => exact (Kd.R_reads' HO_27.out).2.1); rintro e w106 ⟨rfl, hb⟩; refine ⟨_, rfl, ?_⟩; have n0_ := am (Kd.R_below (by (with_reducible repeat first|apply Kd.R_alloc|apply Kd.R_drewN|apply Kd.R_drew);exact HO_13.out) hb); have n1_ := am (Kd.R_below (by (with_reducible repeat first|apply Kd.R_alloc|apply Kd.R_drewN|apply Kd.R_drew);exact HO_27.out) hb); have n2_ := am (blk_below (by (with_reducible repeat first|refine bN ?_ _|refine bD ?_|refine bA ?_ _);exact BK413.out) hb); have n3_ := am (below_step (by repeat first|(with_reducible first|exact HB.out|apply wA|apply wN|apply wD|refine wS ?_ GE413.out)|exact HB.out) hb); clear HO_13; clear HO_27; clear BK413; clear HB; have HO_13 := n0_; have HO_27 := n1_; have BK413 := n2_; have HB := n3_; clear n0_ n1_ n2_ n3_; (try clear hb); (try clear hb2); (try clear hk); (try clear hi)))
 go_ret
 exact ⟨by first | rfl | (simp [errW_none, errW_some] <;> rfl) | (simp [*, errW_none, errW_some] <;> rfl), by repeat (first | (with_reducible first | exact HB.out | apply below_alloc | apply pw_below_drewN | apply below_drew1 | refine below_set ?_ GE413.out) | exact HB.out)⟩}
 rw [if_neg c98] at H
 exact absurd H (by simp)}
  rw [if_neg c97] at H
  have c97b0 : decide (x29_6 < (t426.length : Int)) = false := decide_eq_false c97
  clear c97
  have H' := am H
  clear H
  obtain ⟨Ao107, co107, eo107⟩ := Kd.R_slice HO_13.out
  subst eo107
  go_wp2
  go_meet
  case rel => exact ⟨_, H', ⟨by have := HJ3.out; have := HJ16.out; have := HJ27.out; have := HJ40.out; have := HJ77.out; have := HK6.out; first | omega | exact Nat.le_refl _⟩, ⟨by (with_reducible repeat first|refine bN ?_ _|refine bD ?_|refine bA ?_ _);exact BK413.out⟩, ⟨by repeat (first | (with_reducible first | exact HB.out | apply below_alloc | apply pw_below_drewN | apply below_drew1 | refine below_set ?_ GE413.out) | exact HB.out)⟩⟩)}
 rw [if_neg c74] at H
 exact absurd H (by simp)}
 rw [if_neg c73] at H
 exact absurd H (by simp)}
 rw [if_neg c72] at H
 have c72b0 : decide (0 < (l1_0.length : Int)) = false := decide_eq_false c72
 have c72b1 : decide (0 < l1_0.length) = false := decide_eq_false (by omega)
 clear c72
 (first | rw [c72b0] | (simp only [i64_w, i32_w]; rw [c72b0]) | rw [c72b1] | skip)
 have H' := am H
 clear H
 go_wp2
 go_meet
 case rel => exact ⟨_, H', ⟨by have := HJ3.out; have := HJ16.out; have := HJ27.out; have := HJ40.out; first | omega | exact Nat.le_refl _⟩, ⟨by (with_reducible repeat first|refine bN ?_ _|refine bD ?_|refine bA ?_ _);exact BK413.out⟩, ⟨by repeat (first | (with_reducible first | exact HB.out | apply below_alloc | apply pw_below_drewN | apply below_drew1 | refine below_set ?_ GE413.out) | exact HB.out)⟩⟩))
     as_aux_lemma =>
      clear HC70
      obtain ⟨kq, HA, HJ69, BK413, HB⟩ := hcut
      cases kq with
      | zero => exact absurd HA.out (by simp [wigeontop_TopSights.j8])
      | succ kj69 =>
       have H := HA.out
       clear HA
       simp only [wigeontop_TopSights.j8] at H
       replace H := Option.bind_eq_some_iff.mp H
       obtain ⟨⟨t463, t464⟩, A1080, H⟩ := H
       replace H : (wigeontop_TopSights.l2 kj69 t420 t421 t463 t464 ([] : List (S25)) 0 l1_0 a1_1 a1_2 a1_3 a1_4 a1_5 a1_6 a1_7 a1_8) = some r := H
       have A108 := am A1080
       clear A1080
       have H' := am H
       clear H
       go_wp2_with (first | ((with_reducible refine gate_callee (f := 21) rfl ?_); refine goesL_ (some 281) rfl rfl Try.func21 (by kernel_rfl) rfl #[.slice A0 l0.length c0] rfl (by (try simp only [List.map_toArray, List.map_cons, List.map_nil]); first | done | rfl | (simp only [List.length_drop, List.length_take]; rfl)) ?_; (with_reducible refine (screen_Turn.calls kj69 _ _ l0 t463 t464 _ ?side1 ?side2 A108.out).mono ?_); (case side1 => repeat (first | exact (Kd.C_below HR0.out HB.out) | (with_reducible refine Kd.C_alloc ?_ _) | (with_reducible refine Kd.C_drewN ?_ _) | (with_reducible refine Kd.C_drew ?_))); (case side2 => exact HC0.out); rintro e w109 ⟨v465, rfl, ho0, hb⟩; refine ⟨_, rfl, ?_⟩; have n0_ := am (Kd.R_lower ho0 (below_size (by repeat first|(with_reducible first|exact HB.out|apply wA|apply wN|apply wD|refine wS ?_ GE413.out)|exact HB.out))); have n1_ := am (blk_below (by (with_reducible repeat first|refine bN ?_ _|refine bD ?_|refine bA ?_ _);exact BK413.out) hb); have n2_ := am (below_step (by repeat first|(with_reducible first|exact HB.out|apply wA|apply wN|apply wD|refine wS ?_ GE413.out)|exact HB.out) hb); clear BK413; clear HB; have HO466 := n0_; have BK413 := n1_; have HB := n2_; clear n0_ n1_ n2_; (try clear hb); (try clear hb2); (try clear hk); (try clear hi); (try clear ho0)))
       go_loopg [32, 33] kj69 (fun kq v32 v33 w' => ∃ (x32_6 : List (S25)) (x33_6 : Int), v33 = .int .i64 x33_6 ∧ Aside0 (wigeontop_TopSights.l2 kq t420 t421 t463 t464 x32_6 x33_6 l1_0 a1_1 a1_2 a1_3 a1_4 a1_5 a1_6 a1_7 a1_8 = some r) ∧ Aside0 (kq ≤ kj69) ∧ Aside0 (Kd.R k48 48 w' w.heap.size (fun _ => True) v465 t463) ∧ Aside0 (Kd.R k25 25 w' w.heap.size (fun _ => True) v32 x32_6) ∧ Aside0 (w'.heap[gb413]? = some (.cells #[(.slice A1_0 l1_0.length c1_0), .int .i64 a1_1, .int .i64 a1_2, .int .i64 a1_3, .int .i64 a1_4, .int .i64 a1_5, .int .i64 a1_6, .int .i64 a1_7, .int .i64 a1_8] 29 (0, 0))) ∧ Aside0 (Below w.heap.size w w'))
       case atStart => exact ⟨(([] : List (S25))), (0), (by first | rfl | (simp; done) | (simp [*]; done)), H', ⟨Nat.le_refl _⟩, ⟨by (with_reducible repeat first|apply Kd.R_alloc|apply Kd.R_drewN|apply Kd.R_drew);exact HO466.out⟩, ⟨by first | exact Kd.R_nil _ _ _ _ _ | exact Kd.N_nil _ _ _ _ _ | exact Kd.V_nil _ _ _ _ _ | exact Kd.Q_nil _ _ _ _ _ | exact Kd.S_nil _ _ _ _ _⟩, ⟨by (with_reducible repeat first|refine bN ?_ _|refine bD ?_|refine bA ?_ _);exact BK413.out⟩, ⟨by repeat (first | (with_reducible first | exact HB.out | apply below_alloc | apply pw_below_drewN | apply below_drew1 | refine below_set ?_ GE413.out) | exact HB.out)⟩⟩
       case round =>(
 clear H'
 obtain ⟨x32_6, x33_6, rfl, HA, HK6, HO_30, HO_32, BK413, HB⟩ := hrel
 cases gk with
 | zero => exact absurd HA.out (by simp [wigeontop_TopSights.l2])
 | succ k6 =>
  have H := HA.out
  clear HA
  simp only [wigeontop_TopSights.l2] at H
  by_cases c110 : x33_6 < (l1_0.length : Int)
  {
 rw [if_pos c110] at H
 have c110b0 : decide (x33_6 < (l1_0.length : Int)) = true := decide_eq_true c110
 clear c110
 by_cases c111 : 0 ≤ x33_6
 {
 rw [if_pos c111] at H
 have c111b0 : decide (0 ≤ x33_6) = true := decide_eq_true c111
 clear c111
 replace H := Option.bind_eq_some_iff.mp H
 obtain ⟨⟨t468, t469⟩, A1120, H⟩ := H
 replace H : (if x32_6.length < 8796093022208 then (wigeontop_TopSights.l2 k6 t420 t421 t463 t464 (x32_6 ++ [(⟨t468, t469⟩ : S25)]) (wrap64 (x33_6 + 1)) l1_0 a1_1 a1_2 a1_3 a1_4 a1_5 a1_6 a1_7 a1_8) else (none)) = some r := H
 have A112 := am A1120
 clear A1120
 by_cases c113 : x32_6.length < 8796093022208
 {
 rw [if_pos c113] at H
 have LMc113 := am c113
 clear c113
 obtain ⟨y470, hy470⟩ : ∃ y_ : List (S25), y_ = (x32_6 ++ [(⟨t468, t469⟩ : S25)]) := ⟨_, rfl⟩
 replace H : (wigeontop_TopSights.l2 k6 t420 t421 t463 t464 y470 (wrap64 (x33_6 + 1)) l1_0 a1_1 a1_2 a1_3 a1_4 a1_5 a1_6 a1_7 a1_8) = some r := by first | (rw [hy470]; with_reducible exact H) | (have H2_ := (Option.bind_some _ _).symm.trans H; rw [hy470]; with_reducible exact H2_) | (have H2_ := (Option.bind_some _ _).symm.trans H; with_reducible exact H2_) | with_reducible exact H | (rw [hy470]; exact H) | exact H
 have Ny470 := am hy470
 clear hy470
 have H' := am H
 clear H
 have hcz114_0 : wr.cell? ⟨gb413, 0, none⟩ = some (.slice A1_0 l1_0.length c1_0) := (blk_cell BK413.out 0).trans rfl
 have hcz114_1 : wr.cell? ⟨gb413, 1, none⟩ = some (.int .i64 a1_1) := (blk_cell BK413.out 1).trans rfl
 have hcz114_2 : wr.cell? ⟨gb413, 2, none⟩ = some (.int .i64 a1_2) := (blk_cell BK413.out 2).trans rfl
 have hcz114_3 : wr.cell? ⟨gb413, 3, none⟩ = some (.int .i64 a1_3) := (blk_cell BK413.out 3).trans rfl
 have hcz114_4 : wr.cell? ⟨gb413, 4, none⟩ = some (.int .i64 a1_4) := (blk_cell BK413.out 4).trans rfl
 have hcz114_5 : wr.cell? ⟨gb413, 5, none⟩ = some (.int .i64 a1_5) := (blk_cell BK413.out 5).trans rfl
 have hcz114_6 : wr.cell? ⟨gb413, 6, none⟩ = some (.int .i64 a1_6) := (blk_cell BK413.out 6).trans rfl
 have hcz114_7 : wr.cell? ⟨gb413, 7, none⟩ = some (.int .i64 a1_7) := (blk_cell BK413.out 7).trans rfl
 have hcz114_8 : wr.cell? ⟨gb413, 8, none⟩ = some (.int .i64 a1_8) := (blk_cell BK413.out 8).trans rfl
 have hfz114_0 := blk_frozen BK413.out 0
 have hfz114_1 := blk_frozen BK413.out 1
 have hfz114_2 := blk_frozen BK413.out 2
 have hfz114_3 := blk_frozen BK413.out 3
 have hfz114_4 := blk_frozen BK413.out 4
 have hfz114_5 := blk_frozen BK413.out 5
 have hfz114_6 := blk_frozen BK413.out 6
 have hfz114_7 := blk_frozen BK413.out 7
 have hfz114_8 := blk_frozen BK413.out 8
 have p467 : 0 ≤ (x33_6 : Int) := of_decide_eq_true (by first | (with_reducible assumption) | assumption)
 have q467 : x33_6 < (l1_0.length : Int) := of_decide_eq_true (by first | (with_reducible assumption) | assumption)
 obtain ⟨ad467, e467, hx467_0, hx467_1⟩ := at_T25 HR1_0.out x33_6 p467 q467
 cases e467
 replace hx467_0 := (HB.out.cell (World.block_lt_of_cell? w _ hx467_0)).trans hx467_0
 replace hx467_1 := (HB.out.cell (World.block_lt_of_cell? w _ hx467_1)).trans hx467_1
 replace p467 := eq_true p467
 replace q467 := eq_true q467
 go_wp2_with (first | ((with_reducible refine gate_callee (f := 22) rfl ?_); refine goesL_ (some 297) rfl rfl Try.func22 (by kernel_rfl) rfl #[.agg #[.int .i64 ((rd_T25 l1_0 x33_6).f0), .int .i64 ((rd_T25 l1_0 x33_6).f1)]] rfl (by (try simp only [List.map_toArray, List.map_cons, List.map_nil]); first | done | rfl | (simp only [List.length_drop, List.length_take]; rfl)) ?_; (with_reducible refine (wigeonref02_Turned.calls ((rd_T25 l1_0 x33_6).f0) ((rd_T25 l1_0 x33_6).f1) t468 t469 _ A112.out).mono ?_); rintro e w115 ⟨rfl, hb⟩; refine ⟨_, rfl, ?_⟩; have n0_ := am (Kd.R_below (by (with_reducible repeat first|apply Kd.R_alloc|apply Kd.R_drewN|apply Kd.R_drew);exact HO_30.out) hb); have n1_ := am (Kd.R_below (by (with_reducible repeat first|apply Kd.R_alloc|apply Kd.R_drewN|apply Kd.R_drew);exact HO_32.out) hb); have n2_ := am (blk_below (by (with_reducible repeat first|refine bN ?_ _|refine bD ?_|refine bA ?_ _);exact BK413.out) hb); have n3_ := am (below_step (by repeat first|(with_reducible first|exact HB.out|apply wA|apply wN|apply wD|refine wS ?_ GE413.out)|exact HB.out) hb); clear HO_30; clear HO_32; clear BK413; clear HB; have HO_30 := n0_; have HO_32 := n1_; have BK413 := n2_; have HB := n3_; clear n0_ n1_ n2_ n3_; (try clear hb); (try clear hb2); (try clear hk); (try clear hi)) | ((with_reducible refine gate_builtin (b := .append) (xs := #[.tmp 291, .tmp 298]) rfl ?_); (try (refine gate_guard (by rfl) ?_; dsimp only)); at_builtin; refine Kd.R_append k25 (w0 := w) w.heap.size rfl (.tmp 291) (.tmp 298) 23 25 (.agg #[(.int .i64 0), (.int .i64 0)]) 16 rfl Try.underlying23 info25 rfl (by decide) (by omega) u32 x32_6 (⟨t468, t469⟩ : S25) [.int .i64 t468, .int .i64 t469] (fun _ => True) (fun _ => False) rfl rfl ?aP (fun _ hk => hk.elim) ?aF ?aO ?aB ?aS ?aL ?_; (case aP => exact k25_mkM _ _ _ (⟨t468, t469⟩ : S25)); (case aB => exact (by repeat first|(with_reducible first|exact HB.out|apply wA|apply wN|apply wD|refine wS ?_ GE413.out)|exact HB.out)); (case aF => exact (fun _ _ => trivial)); (case aO => exact (by (with_reducible repeat first|apply Kd.R_alloc|apply Kd.R_drewN|apply Kd.R_drew);exact HO_32.out)); (case aS => exact (below_size (by repeat first|(with_reducible first|exact HB.out|apply wA|apply wN|apply wD|refine wS ?_ GE413.out)|exact HB.out))); (case aL => have := LMc113.out; omega); intro v471 w116 ho hb hg hat; rw [← Ny470.out] at ho; have n0_ := am (Kd.R_over' (by (with_reducible repeat first|apply Kd.R_alloc|apply Kd.R_drewN|apply Kd.R_drew);exact HO_30.out) (Kd.R_typed (by (with_reducible repeat first|apply Kd.R_alloc|apply Kd.R_drewN|apply Kd.R_drew);exact HO_32.out)) (by decide) hg); have n1_ := am (blk_grown (by (with_reducible repeat first|refine bN ?_ _|refine bD ?_|refine bA ?_ _);exact BK413.out) hg (Kd.R_ne HO_32.out BK413.out (by decide))); have n2_ := am (hb); have n3_ := am (ho); clear HO_30; clear BK413; clear HB; clear HO_32; have HO_30 := n0_; have BK413 := n1_; have HB := n2_; have HO472 := n3_; clear n0_ n1_ n2_ n3_; clear ho hb hg hat))
 go_roundg k6
 case measure => have := HJ3.out; have := HJ16.out; have := HJ27.out; have := HJ40.out; have := HJ69.out; have := HK6.out; omega
 case rel => exact ⟨(y470), (wrap64 (x33_6 + 1)), (by first | rfl | (simp; done) | (simp [*]; done)), H', ⟨by have := HJ3.out; have := HJ16.out; have := HJ27.out; have := HJ40.out; have := HJ69.out; have := HK6.out; omega⟩, ⟨by (with_reducible repeat first|apply Kd.R_alloc|apply Kd.R_drewN|apply Kd.R_drew);exact HO_30.out⟩, ⟨by (with_reducible repeat first|apply Kd.R_alloc|apply Kd.R_drewN|apply Kd.R_drew);exact HO472.out⟩, ⟨by (with_reducible repeat first|refine bN ?_ _|refine bD ?_|refine bA ?_ _);exact BK413.out⟩, ⟨by repeat (first | (with_reducible first | exact HB.out | apply below_alloc | apply pw_below_drewN | apply below_drew1 | refine below_set ?_ GE413.out) | exact HB.out)⟩⟩}
 rw [if_neg c113] at H
 exact absurd H (by simp)}
 rw [if_neg c111] at H
 exact absurd H (by simp)}
  rw [if_neg c110] at H
  have c110b0 : decide (x33_6 < (l1_0.length : Int)) = false := decide_eq_false c110
  clear c110
  replace H := Option.bind_eq_some_iff.mp H
  obtain ⟨⟨t474, t475⟩, A1170, H⟩ := H
  replace H : ((wigeonref02_Turned.f a1_7 a1_8).bind fun bt476 => ((screen_Steps.f k6 t463 x32_6 (wrap64 (-a1_4)) a1_1 (wrap64 (-a1_2)) a1_3 t474 t475 bt476.1 bt476.2).bind fun bt478 => (if t464 = 0 then (if bt478.2.2 = 0 then (if bt478.1 = t420 then (some (bt478.2.1 == t421)) else (some false)) else (some false)) else (some false)))) = some r := H
  have A117 := am A1170
  clear A1170
  replace H := Option.bind_eq_some_iff.mp H
  obtain ⟨⟨t476, t477⟩, A1180, H⟩ := H
  replace H : ((screen_Steps.f k6 t463 x32_6 (wrap64 (-a1_4)) a1_1 (wrap64 (-a1_2)) a1_3 t474 t475 t476 t477).bind fun bt478 => (if t464 = 0 then (if bt478.2.2 = 0 then (if bt478.1 = t420 then (some (bt478.2.1 == t421)) else (some false)) else (some false)) else (some false))) = some r := H
  have A118 := am A1180
  clear A1180
  replace H := Option.bind_eq_some_iff.mp H
  obtain ⟨⟨t478, t479, t480⟩, A1190, H⟩ := H
  replace H : (if t464 = 0 then (if t480 = 0 then (if t478 = t420 then (some (t479 == t421)) else (some false)) else (some false)) else (some false)) = some r := H
  have A119 := am A1190
  clear A1190
  by_cases c120 : t464 = 0
  {
 rw [if_pos c120] at H
 have c120b0 : (t464 == 0) = true := beq_iff_eq.mpr c120
 have c120b1 : (t464 != 0) = false := bne_eq_false_iff_eq.mpr c120
 clear c120
 by_cases c121 : t480 = 0
 {
 rw [if_pos c121] at H
 have c121b0 : (t480 == 0) = true := beq_iff_eq.mpr c121
 have c121b1 : (t480 != 0) = false := bne_eq_false_iff_eq.mpr c121
 clear c121
 by_cases c122 : t478 = t420
 {
 rw [if_pos c122] at H
 have c122b0 : (t478 == t420) = true := beq_iff_eq.mpr c122
 have c122b1 : (t478 != t420) = false := bne_eq_false_iff_eq.mpr c122
 clear c122
 obtain rfl := Option.some.inj H
 have hcz123_0 : wr.cell? ⟨gb413, 0, none⟩ = some (.slice A1_0 l1_0.length c1_0) := (blk_cell BK413.out 0).trans rfl
 have hcz123_1 : wr.cell? ⟨gb413, 1, none⟩ = some (.int .i64 a1_1) := (blk_cell BK413.out 1).trans rfl
 have hcz123_2 : wr.cell? ⟨gb413, 2, none⟩ = some (.int .i64 a1_2) := (blk_cell BK413.out 2).trans rfl
 have hcz123_3 : wr.cell? ⟨gb413, 3, none⟩ = some (.int .i64 a1_3) := (blk_cell BK413.out 3).trans rfl
 have hcz123_4 : wr.cell? ⟨gb413, 4, none⟩ = some (.int .i64 a1_4) := (blk_cell BK413.out 4).trans rfl
 have hcz123_5 : wr.cell? ⟨gb413, 5, none⟩ = some (.int .i64 a1_5) := (blk_cell BK413.out 5).trans rfl
 have hcz123_6 : wr.cell? ⟨gb413, 6, none⟩ = some (.int .i64 a1_6) := (blk_cell BK413.out 6).trans rfl
 have hcz123_7 : wr.cell? ⟨gb413, 7, none⟩ = some (.int .i64 a1_7) := (blk_cell BK413.out 7).trans rfl
 have hcz123_8 : wr.cell? ⟨gb413, 8, none⟩ = some (.int .i64 a1_8) := (blk_cell BK413.out 8).trans rfl
 have hfz123_0 := blk_frozen BK413.out 0
 have hfz123_1 := blk_frozen BK413.out 1
 have hfz123_2 := blk_frozen BK413.out 2
 have hfz123_3 := blk_frozen BK413.out 3
 have hfz123_4 := blk_frozen BK413.out 4
 have hfz123_5 := blk_frozen BK413.out 5
 have hfz123_6 := blk_frozen BK413.out 6
 have hfz123_7 := blk_frozen BK413.out 7
 have hfz123_8 := blk_frozen BK413.out 8
 try go_wp2_with (first | ((with_reducible refine gate_dst (N := 34) rfl ?_); (try (refine gate_guard (by rfl) ?_; dsimp only)); refine box_event ?hg (N := 34) ?hd (cs := #[.int .i64 0, .int .i64 0, .int .i64 0, .int .i64 0]) (t := 27) ?hr ?_; (case hd => rfl); (case hg => rfl); (case hr => first | (go_simp; done) | (go_simp; rfl)); intro gb473 hg w124 hbox hb; have n0_ := am (Kd.R_below (by (with_reducible repeat first|apply Kd.R_alloc|apply Kd.R_drewN|apply Kd.R_drew);exact HO_30.out) hb); have n1_ := am (Kd.R_below (by (with_reducible repeat first|apply Kd.R_alloc|apply Kd.R_drewN|apply Kd.R_drew);exact HO_32.out) hb); have n2_ := am (blk_below (by (with_reducible repeat first|refine bN ?_ _|refine bD ?_|refine bA ?_ _);exact BK413.out) hb); have n3_ := am (below_step (by repeat first|(with_reducible first|exact HB.out|apply wA|apply wN|apply wD|refine wS ?_ GE413.out)|exact HB.out) hb); have n4_ := am (hbox); have n5_ := am ((by rw [hg]; exact (below_size (by repeat first|(with_reducible first|exact HB.out|apply wA|apply wN|apply wD|refine wS ?_ GE413.out)|exact HB.out)) : w.heap.size ≤ gb473)); have n6_ := am ((by rw [hg]; exact (below_size (by repeat first|(with_reducible first|exact HB.out|apply wA|apply wN|apply wD|refine wS ?_ GE413.out)|exact HB.out)) : w.heap.size ≤ gb473)); have n7_ := am ((by rw [hg]; exact Nat.ne_of_lt (blk_lt (by (with_reducible repeat first|refine bN ?_ _|refine bD ?_|refine bA ?_ _);exact BK413.out)) : gb413 ≠ gb473)); have n8_ := am ((by rw [hg]; exact Nat.ne_of_gt (blk_lt (by (with_reducible repeat first|refine bN ?_ _|refine bD ?_|refine bA ?_ _);exact BK413.out)) : gb473 ≠ gb413)); clear HO_30; clear HO_32; clear BK413; clear HB; have HO_30 := n0_; have HO_32 := n1_; have BK413 := n2_; have HB := n3_; have BK473 := n4_; have GW473 := n5_; have GE473 := n6_; have NB413_473 := n7_; have NB473_413 := n8_; clear n0_ n1_ n2_ n3_ n4_ n5_ n6_ n7_ n8_; clear hb hbox hg; have hnb125 := NB473_413.out; have hnc125 := NB413_473.out; have hcz126_0 : w124.cell? ⟨gb473, 0, none⟩ = some (.int .i64 0) := (blk_cell BK473.out 0).trans rfl; have hcz126_1 : w124.cell? ⟨gb473, 1, none⟩ = some (.int .i64 0) := (blk_cell BK473.out 1).trans rfl; have hcz126_2 : w124.cell? ⟨gb473, 2, none⟩ = some (.int .i64 0) := (blk_cell BK473.out 2).trans rfl; have hcz126_3 : w124.cell? ⟨gb473, 3, none⟩ = some (.int .i64 0) := (blk_cell BK473.out 3).trans rfl; have hfz126_0 := blk_frozen BK473.out 0; have hfz126_1 := blk_frozen BK473.out 1; have hfz126_2 := blk_frozen BK473.out 2; have hfz126_3 := blk_frozen BK473.out 3))
 have n0_ : Aside0 (Kd.R k48 48 ((((w124.setCell ⟨gb473, 0, none⟩ (.int .i64 (wrap64 (-a1_4)))).setCell ⟨gb473, 1, none⟩ (.int .i64 a1_1)).setCell ⟨gb473, 2, none⟩ (.int .i64 (wrap64 (-a1_2)))).setCell ⟨gb473, 3, none⟩ (.int .i64 a1_3)) w.heap.size (fun _ => True) v465 t463) := ⟨by (with_reducible repeat first|apply Kd.R_alloc|apply Kd.R_drewN|apply Kd.R_drew);exact Kd.R_mono (Kd.R_far (p := ⟨gb473, 3, none⟩) (Kd.R_far (p := ⟨gb473, 2, none⟩) (Kd.R_far (p := ⟨gb473, 1, none⟩) (Kd.R_far (p := ⟨gb473, 0, none⟩) (Kd.R_types HO_30.out BK473.out (by decide)) (fun _ hk => hk.2) (.int .i64 (wrap64 (-a1_4)))) (fun _ hk => hk.2) (.int .i64 a1_1)) (fun _ hk => hk.2) (.int .i64 (wrap64 (-a1_2)))) (fun _ hk => hk.2) (.int .i64 a1_3)) (fun _ hk => trivial)⟩
 have n1_ : Aside0 (Kd.R k25 25 ((((w124.setCell ⟨gb473, 0, none⟩ (.int .i64 (wrap64 (-a1_4)))).setCell ⟨gb473, 1, none⟩ (.int .i64 a1_1)).setCell ⟨gb473, 2, none⟩ (.int .i64 (wrap64 (-a1_2)))).setCell ⟨gb473, 3, none⟩ (.int .i64 a1_3)) w.heap.size (fun _ => True) u32 x32_6) := ⟨by (with_reducible repeat first|apply Kd.R_alloc|apply Kd.R_drewN|apply Kd.R_drew);exact Kd.R_mono (Kd.R_far (p := ⟨gb473, 3, none⟩) (Kd.R_far (p := ⟨gb473, 2, none⟩) (Kd.R_far (p := ⟨gb473, 1, none⟩) (Kd.R_far (p := ⟨gb473, 0, none⟩) (Kd.R_types HO_32.out BK473.out (by decide)) (fun _ hk => hk.2) (.int .i64 (wrap64 (-a1_4)))) (fun _ hk => hk.2) (.int .i64 a1_1)) (fun _ hk => hk.2) (.int .i64 (wrap64 (-a1_2)))) (fun _ hk => hk.2) (.int .i64 a1_3)) (fun _ hk => trivial)⟩
 have n2_ : Aside0 (((((w124.setCell ⟨gb473, 0, none⟩ (.int .i64 (wrap64 (-a1_4)))).setCell ⟨gb473, 1, none⟩ (.int .i64 a1_1)).setCell ⟨gb473, 2, none⟩ (.int .i64 (wrap64 (-a1_2)))).setCell ⟨gb473, 3, none⟩ (.int .i64 a1_3)).heap[gb413]? = some (.cells #[.slice A1_0 l1_0.length c1_0, .int .i64 a1_1, .int .i64 a1_2, .int .i64 a1_3, .int .i64 a1_4, .int .i64 a1_5, .int .i64 a1_6, .int .i64 a1_7, .int .i64 a1_8] 29 (0, 0))) := ⟨by (with_reducible repeat first|refine bN ?_ _|refine bD ?_|refine bA ?_ _);refine blk_far ?_ NB413_473.out _; (with_reducible repeat first|refine bN ?_ _|refine bD ?_|refine bA ?_ _);refine blk_far ?_ NB413_473.out _; (with_reducible repeat first|refine bN ?_ _|refine bD ?_|refine bA ?_ _);refine blk_far ?_ NB413_473.out _; (with_reducible repeat first|refine bN ?_ _|refine bD ?_|refine bA ?_ _);refine blk_far ?_ NB413_473.out _; (with_reducible repeat first|refine bN ?_ _|refine bD ?_|refine bA ?_ _);exact BK413.out⟩
 have n3_ : Aside0 (((((w124.setCell ⟨gb473, 0, none⟩ (.int .i64 (wrap64 (-a1_4)))).setCell ⟨gb473, 1, none⟩ (.int .i64 a1_1)).setCell ⟨gb473, 2, none⟩ (.int .i64 (wrap64 (-a1_2)))).setCell ⟨gb473, 3, none⟩ (.int .i64 a1_3)).heap[gb473]? = some (.cells #[.int .i64 (wrap64 (-a1_4)), .int .i64 a1_1, .int .i64 (wrap64 (-a1_2)), .int .i64 a1_3] 27 (0, 0))) := ⟨by (with_reducible repeat first|refine bN ?_ _|refine bD ?_|refine bA ?_ _);refine blk_put (cs := #[.int .i64 (wrap64 (-a1_4)), .int .i64 a1_1, .int .i64 (wrap64 (-a1_2)), .int .i64 0]) ?_ 3 _ rfl; (with_reducible repeat first|refine bN ?_ _|refine bD ?_|refine bA ?_ _);refine blk_put (cs := #[.int .i64 (wrap64 (-a1_4)), .int .i64 a1_1, .int .i64 0, .int .i64 0]) ?_ 2 _ rfl; (with_reducible repeat first|refine bN ?_ _|refine bD ?_|refine bA ?_ _);refine blk_put (cs := #[.int .i64 (wrap64 (-a1_4)), .int .i64 0, .int .i64 0, .int .i64 0]) ?_ 1 _ rfl; (with_reducible repeat first|refine bN ?_ _|refine bD ?_|refine bA ?_ _);refine blk_put (cs := #[.int .i64 0, .int .i64 0, .int .i64 0, .int .i64 0]) ?_ 0 _ rfl; (with_reducible repeat first|refine bN ?_ _|refine bD ?_|refine bA ?_ _);exact BK473.out⟩
 have n4_ : Aside0 (Below w.heap.size w ((((w124.setCell ⟨gb473, 0, none⟩ (.int .i64 (wrap64 (-a1_4)))).setCell ⟨gb473, 1, none⟩ (.int .i64 a1_1)).setCell ⟨gb473, 2, none⟩ (.int .i64 (wrap64 (-a1_2)))).setCell ⟨gb473, 3, none⟩ (.int .i64 a1_3))) := ⟨by repeat (first | (with_reducible first | exact HB.out | apply below_alloc | apply pw_below_drewN | apply below_drew1 | refine below_set ?_ GE413.out | refine below_set ?_ GE473.out) | exact HB.out)⟩
 (try clear HO_30)
 (try clear HO_32)
 (try clear BK413)
 (try clear BK473)
 (try clear HB)
 generalize ((((w124.setCell ⟨gb473, 0, none⟩ (.int .i64 (wrap64 (-a1_4)))).setCell ⟨gb473, 1, none⟩ (.int .i64 a1_1)).setCell ⟨gb473, 2, none⟩ (.int .i64 (wrap64 (-a1_2)))).setCell ⟨gb473, 3, none⟩ (.int .i64 a1_3)) = w127 at n0_ n1_ n2_ n3_ n4_ ⊢
 have HO_30 := n0_
 have HO_32 := n1_
 have BK413 := n2_
 have BK473 := n3_
 have HB := n4_
 clear n0_ n1_ n2_ n3_ n4_
 have n0_ := am (Kd.R_drew HO_30.out)
 have n1_ := am (Kd.R_drew HO_32.out)
 have n2_ := am (blk_drew BK413.out)
 have n3_ := am (blk_drew BK473.out)
 have n4_ := am (below_drew1 HB.out)
 clear HO_30
 clear HO_32
 clear BK413
 clear BK473
 clear HB
 have HO_30 := n0_
 have HO_32 := n1_
 have BK413 := n2_
 have BK473 := n3_
 have HB := n4_
 clear n0_ n1_ n2_ n3_ n4_
 refine start_ (n := 17) (S := fun w' => w'.cell? ⟨gb473, 0, none⟩ = some (.int .i64 (wrap64 (-a1_4))) ∧ w'.cell? ⟨gb473, 1, none⟩ = some (.int .i64 a1_1) ∧ w'.cell? ⟨gb473, 2, none⟩ = some (.int .i64 (wrap64 (-a1_2))) ∧ w'.cell? ⟨gb473, 3, none⟩ = some (.int .i64 a1_3) ∧ w'.cell? ⟨gb413, 0, none⟩ = some (.slice A1_0 l1_0.length c1_0) ∧ w'.cell? ⟨gb413, 1, none⟩ = some (.int .i64 a1_1) ∧ w'.cell? ⟨gb413, 2, none⟩ = some (.int .i64 a1_2) ∧ w'.cell? ⟨gb413, 3, none⟩ = some (.int .i64 a1_3) ∧ w'.cell? ⟨gb413, 4, none⟩ = some (.int .i64 a1_4) ∧ w'.cell? ⟨gb413, 5, none⟩ = some (.int .i64 a1_5) ∧ w'.cell? ⟨gb413, 6, none⟩ = some (.int .i64 a1_6) ∧ w'.cell? ⟨gb413, 7, none⟩ = some (.int .i64 a1_7) ∧ w'.cell? ⟨gb413, 8, none⟩ = some (.int .i64 a1_8)) (ds := []) #[F,F,F,F,F,F,F,F,F,F,F,F,F,F,F,F,F] (by kernel_rfl) rfl rfl ⟨(blk_cell BK473.out 0).trans rfl, (blk_cell BK473.out 1).trans rfl, (blk_cell BK473.out 2).trans rfl, (blk_cell BK473.out 3).trans rfl, (blk_cell BK413.out 0).trans rfl, (blk_cell BK413.out 1).trans rfl, (blk_cell BK413.out 2).trans rfl, (blk_cell BK413.out 3).trans rfl, (blk_cell BK413.out 4).trans rfl, (blk_cell BK413.out 5).trans rfl, (blk_cell BK413.out 6).trans rfl, (blk_cell BK413.out 7).trans rfl, (blk_cell BK413.out 8).trans rfl⟩ (fun hHeld => ?_); refine with_tabW wigeontop_TopSights.tab45 wigeontop_TopSights.bits45 (fun HT_ HW_ => ?_)
 generalize w127.drew = w128 at HO_30 HO_32 BK413 BK473 HB hHeld ⊢
 refine pure_ (i := 0) (N := some 322) (v := ?_) (a' := ?_) #[T,F,F,F,F,F,F,F,F,F,F,F,F,F,F,F,F] rfl rfl (any_of HT_.out (by kernel_rfl)) (fun _ _ _ h => h) (Or.inl ⟨by rfl, ?_⟩) ?_ ?_
 rotate_left;{
 intro w'
 go_simp
 with_reducible rfl}
 rotate_left;{
 simp only [ap,sA,s0,s1,i64_w,i32_w]
 rfl}
 refine pure_ (i := 1) (N := some 323) (v := ?_) (a' := ?_) #[T,T,F,F,F,F,F,F,F,F,F,F,F,F,F,F,F] rfl rfl (any_of HT_.out (by kernel_rfl)) (fun _ _ _ h => h) (Or.inl ⟨by rfl, ?_⟩) ?_ ?_
 rotate_left;{
 intro w'
 go_simp
 with_reducible rfl}
 rotate_left;{
 simp only [ap,sA,s0,s1,i64_w,i32_w]
 rfl}
 refine pure_ (i := 3) (N := some 325) (v := ?_) (a' := ?_) #[T,T,F,T,F,F,F,F,F,F,F,F,F,F,F,F,F] rfl rfl (any_of HT_.out (by kernel_rfl)) (fun _ _ _ h => h) (Or.inl ⟨by rfl, ?_⟩) ?_ ?_
 rotate_left;{
 intro w'
 go_simp
 with_reducible rfl}
 rotate_left;{
 simp only [ap,sA,s0,s1,i64_w,i32_w]
 rfl}
 refine pure_ (i := 6) (N := some 328) (v := ?_) (a' := ?_) #[T,T,F,T,F,F,T,F,F,F,F,F,F,F,F,F,F] rfl rfl (any_of HT_.out (by kernel_rfl)) (fun _ _ _ h => h) (Or.inl ⟨by rfl, ?_⟩) ?_ ?_
 rotate_left;{
 intro w'
 go_simp
 with_reducible rfl}
 rotate_left;{
 simp only [ap,sA,s0,s1,i64_w,i32_w]
 rfl}
 refine take_ (i := 2) (N := some 324) (v := ?_) (a' := ?_) #[T,T,T,T,F,F,T,F,F,F,F,F,F,F,F,F,F] rfl rfl (take_ofW HT_.out HW_.out (by kernel_rfl)) (fun _ _ _ h => h) (Or.inl ⟨by rfl, ?_⟩) hHeld ?_ ?_
 rotate_left;{
 rintro w' ⟨s0, s1, s2, s3, s4, s5, s6, s7, s8, s9, s10, s11, s12⟩
 go_simp
 with_reducible rfl}
 rotate_left;{
 simp only [ap,sA,s0,s1,i64_w,i32_w]
 rfl}
 refine take_ (i := 4) (N := some 326) (v := ?_) (a' := ?_) #[T,T,T,T,T,F,T,F,F,F,F,F,F,F,F,F,F] rfl rfl (take_ofW HT_.out HW_.out (by kernel_rfl)) (fun _ _ _ h => h) (Or.inl ⟨by rfl, ?_⟩) hHeld ?_ ?_
 rotate_left;{
 rintro w' ⟨s0, s1, s2, s3, s4, s5, s6, s7, s8, s9, s10, s11, s12⟩
 go_simp
 with_reducible rfl}
 rotate_left;{
 simp only [ap,sA,s0,s1,i64_w,i32_w]
 rfl}
 refine take_ (i := 7) (N := some 329) (v := ?_) (a' := ?_) #[T,T,T,T,T,F,T,T,F,F,F,F,F,F,F,F,F] rfl rfl (take_ofW HT_.out HW_.out (by kernel_rfl)) (fun _ _ _ h => h) (Or.inl ⟨by rfl, ?_⟩) hHeld ?_ ?_
 rotate_left;{
 rintro w' ⟨s0, s1, s2, s3, s4, s5, s6, s7, s8, s9, s10, s11, s12⟩
 go_simp
 with_reducible rfl}
 rotate_left;{
 simp only [ap,sA,s0,s1,i64_w,i32_w]
 rfl}
 refine one_ (i := 5) (N := some 327) #[T,T,T,T,T,T,T,T,F,F,F,F,F,F,F,F,F] rfl rfl (one_of HT_.out (by kernel_rfl)) (by decide) (fun K hK => ?_)
 refine goes_ Try.func22 (by kernel_rfl) rfl #[.agg #[.int .i64 a1_5, .int .i64 a1_6]] (by rfl) rfl rfl (by (try simp only [List.map_toArray, List.map_cons, List.map_nil]); first | done | rfl | (simp only [List.length_drop, List.length_take]; rfl)) ?_
 with_reducible refine (wigeonref02_Turned.calls a1_5 a1_6 t474 t475 _ A117.out).mono ?_
 rintro e w129 ⟨rfl, hb⟩
 refine ⟨_, rfl, ?_⟩
 have n0_ := am (Kd.R_below (by (with_reducible repeat first|apply Kd.R_alloc|apply Kd.R_drewN|apply Kd.R_drew);exact HO_30.out) hb)
 have n1_ := am (Kd.R_below (by (with_reducible repeat first|apply Kd.R_alloc|apply Kd.R_drewN|apply Kd.R_drew);exact HO_32.out) hb)
 have n2_ := am (blk_below (by (with_reducible repeat first|refine bN ?_ _|refine bD ?_|refine bA ?_ _);exact BK413.out) hb)
 have n3_ := am (blk_below (by (with_reducible repeat first|refine bN ?_ _|refine bD ?_|refine bA ?_ _);exact BK473.out) hb)
 have n4_ := am (below_step (by repeat first|(with_reducible first|exact HB.out|apply wA|apply wN|apply wD|refine wS ?_ GE413.out|refine wS ?_ GE473.out)|exact HB.out) hb)
 clear HO_30
 clear HO_32
 clear BK413
 clear BK473
 clear HB
 have HO_30 := n0_
 have HO_32 := n1_
 have BK413 := n2_
 have BK473 := n3_
 have HB := n4_
 clear n0_ n1_ n2_ n3_ n4_
 (try clear hb)
 (try clear hb2)
 (try clear hk)
 (try clear hi)
 refine hK.out _ _ ⟨(blk_cell BK473.out 0).trans rfl, (blk_cell BK473.out 1).trans rfl, (blk_cell BK473.out 2).trans rfl, (blk_cell BK473.out 3).trans rfl, (blk_cell BK413.out 0).trans rfl, (blk_cell BK413.out 1).trans rfl, (blk_cell BK413.out 2).trans rfl, (blk_cell BK413.out 3).trans rfl, (blk_cell BK413.out 4).trans rfl, (blk_cell BK413.out 5).trans rfl, (blk_cell BK413.out 6).trans rfl, (blk_cell BK413.out 7).trans rfl, (blk_cell BK413.out 8).trans rfl⟩ (fun hHeld => ?_)
 clear hK K
 refine norm_ (a' := ?_) ?_ ?_
 rotate_left;{
 show Act.put _ (some 327) _ = _
 simp only [ap,sA,s0,s1,i64_w,i32_w]
 rfl}
 refine one_ (i := 8) (N := some 330) #[T,T,T,T,T,T,T,T,T,F,F,F,F,F,F,F,F] rfl rfl (one_of HT_.out (by kernel_rfl)) (by decide) (fun K hK => ?_)
 refine goes_ Try.func22 (by kernel_rfl) rfl #[.agg #[.int .i64 a1_7, .int .i64 a1_8]] (by rfl) rfl rfl (by (try simp only [List.map_toArray, List.map_cons, List.map_nil]); first | done | rfl | (simp only [List.length_drop, List.length_take]; rfl)) ?_
 with_reducible refine (wigeonref02_Turned.calls a1_7 a1_8 t476 t477 _ A118.out).mono ?_
 rintro e w130 ⟨rfl, hb⟩
 refine ⟨_, rfl, ?_⟩
 have n0_ := am (Kd.R_below (by (with_reducible repeat first|apply Kd.R_alloc|apply Kd.R_drewN|apply Kd.R_drew);exact HO_30.out) hb)
 have n1_ := am (Kd.R_below (by (with_reducible repeat first|apply Kd.R_alloc|apply Kd.R_drewN|apply Kd.R_drew);exact HO_32.out) hb)
 have n2_ := am (blk_below (by (with_reducible repeat first|refine bN ?_ _|refine bD ?_|refine bA ?_ _);exact BK413.out) hb)
 have n3_ := am (blk_below (by (with_reducible repeat first|refine bN ?_ _|refine bD ?_|refine bA ?_ _);exact BK473.out) hb)
 have n4_ := am (below_step (by repeat first|(with_reducible first|exact HB.out|apply wA|apply wN|apply wD|refine wS ?_ GE413.out|refine wS ?_ GE473.out)|exact HB.out) hb)
 clear HO_30
 clear HO_32
 clear BK413
 clear BK473
 clear HB
 have HO_30 := n0_
 have HO_32 := n1_
 have BK413 := n2_
 have BK473 := n3_
 have HB := n4_
 clear n0_ n1_ n2_ n3_ n4_
 (try clear hb)
 (try clear hb2)
 (try clear hk)
 (try clear hi)
 obtain ⟨Ao131, co131, eo131⟩ := Kd.R_slice HO_30.out
 (first | subst eo131 | (injection eo131 with f1_ f2_ f3_; have f4_ := f1_.symm; have f5_ := f3_.symm; clear f1_ f2_ f3_; subst f4_; subst f5_))
 obtain ⟨Ao132, co132, eo132⟩ := Kd.R_slice HO_32.out
 (first | subst eo132 | (injection eo132 with f1_ f2_ f3_; have f4_ := f1_.symm; have f5_ := f3_.symm; clear f1_ f2_ f3_; subst f4_; subst f5_))
 refine hK.out _ _ ⟨(blk_cell BK473.out 0).trans rfl, (blk_cell BK473.out 1).trans rfl, (blk_cell BK473.out 2).trans rfl, (blk_cell BK473.out 3).trans rfl, (blk_cell BK413.out 0).trans rfl, (blk_cell BK413.out 1).trans rfl, (blk_cell BK413.out 2).trans rfl, (blk_cell BK413.out 3).trans rfl, (blk_cell BK413.out 4).trans rfl, (blk_cell BK413.out 5).trans rfl, (blk_cell BK413.out 6).trans rfl, (blk_cell BK413.out 7).trans rfl, (blk_cell BK413.out 8).trans rfl⟩ (fun hHeld => ?_)
 clear hK K
 refine norm_ (a' := ?_) ?_ ?_
 rotate_left;{
 show Act.put _ (some 330) _ = _
 simp only [ap,sA,s0,s1,i64_w,i32_w]
 rfl}
 refine one_ (i := 9) (N := some 331) #[T,T,T,T,T,T,T,T,T,T,F,F,F,F,F,F,F] rfl rfl (one_of HT_.out (by kernel_rfl)) (by decide) (fun K hK => ?_)
 refine goes_ Try.func15 (by kernel_rfl) rfl #[.slice Ao131 t463.length co131, .slice Ao132 x32_6.length co132, .agg #[.int .i64 (wrap64 (-a1_4)), .int .i64 a1_1, .int .i64 (wrap64 (-a1_2)), .int .i64 a1_3], .agg #[.int .i64 t474, .int .i64 t475], .agg #[.int .i64 t476, .int .i64 t477]] (by rfl) rfl rfl (by (try simp only [List.map_toArray, List.map_cons, List.map_nil]); first | done | rfl | (simp only [List.length_drop, List.length_take]; rfl)) ?_
 with_reducible refine (screen_Steps.calls k6 _ _ t463 _ _ x32_6 (wrap64 (-a1_4)) a1_1 (wrap64 (-a1_2)) a1_3 t474 t475 t476 t477 t478 t479 t480 _ ?side1 ?side2 ?side3 ?side4 A119.out).mono ?_
 (case side1 => repeat (first | exact (Kd.R_reads' HO_30.out).2.2 | (with_reducible refine Kd.C_alloc ?_ _) | (with_reducible refine Kd.C_drewN ?_ _) | (with_reducible refine Kd.C_drew ?_)))
 (case side2 => exact (Kd.R_reads' HO_30.out).2.1)
 (case side3 => repeat (first | exact (Kd.R_reads' HO_32.out).2.2 | (with_reducible refine Kd.C_alloc ?_ _) | (with_reducible refine Kd.C_drewN ?_ _) | (with_reducible refine Kd.C_drew ?_)))
 (case side4 => exact (Kd.R_reads' HO_32.out).2.1)
 rintro e w133 ⟨rfl, hb⟩
 refine ⟨_, rfl, ?_⟩
 have n0_ := am (Kd.R_below (by (with_reducible repeat first|apply Kd.R_alloc|apply Kd.R_drewN|apply Kd.R_drew);exact HO_30.out) hb)
 have n1_ := am (Kd.R_below (by (with_reducible repeat first|apply Kd.R_alloc|apply Kd.R_drewN|apply Kd.R_drew);exact HO_32.out) hb)
 have n2_ := am (blk_below (by (with_reducible repeat first|refine bN ?_ _|refine bD ?_|refine bA ?_ _);exact BK413.out) hb)
 have n3_ := am (blk_below (by (with_reducible repeat first|refine bN ?_ _|refine bD ?_|refine bA ?_ _);exact BK473.out) hb)
 have n4_ := am (below_step (by repeat first|(with_reducible first|exact HB.out|apply wA|apply wN|apply wD|refine wS ?_ GE413.out|refine wS ?_ GE473.out)|exact HB.out) hb)
 clear HO_30
 clear HO_32
 clear BK413
 clear BK473
 clear HB
 have HO_30 := n0_
 have HO_32 := n1_
 have BK413 := n2_
 have BK473 := n3_
 have HB := n4_
 clear n0_ n1_ n2_ n3_ n4_
 (try clear hb)
 (try clear hb2)
 (try clear hk)
 (try clear hi)
 refine hK.out _ _ ⟨(blk_cell BK473.out 0).trans rfl, (blk_cell BK473.out 1).trans rfl, (blk_cell BK473.out 2).trans rfl, (blk_cell BK473.out 3).trans rfl, (blk_cell BK413.out 0).trans rfl, (blk_cell BK413.out 1).trans rfl, (blk_cell BK413.out 2).trans rfl, (blk_cell BK413.out 3).trans rfl, (blk_cell BK413.out 4).trans rfl, (blk_cell BK413.out 5).trans rfl, (blk_cell BK413.out 6).trans rfl, (blk_cell BK413.out 7).trans rfl, (blk_cell BK413.out 8).trans rfl⟩ (fun hHeld => ?_)
 clear hK K
 refine norm_ (a' := ?_) ?_ ?_
 rotate_left;{
 show Act.put _ (some 331) _ = _
 simp only [ap,sA,s0,s1,i64_w,i32_w]
 rfl}
 refine pure_ (i := 10) (N := some 321) (v := ?_) (a' := ?_) #[T,T,T,T,T,T,T,T,T,T,T,F,F,F,F,F,F] rfl rfl (any_of HT_.out (by kernel_rfl)) (fun _ _ _ h => h) (Or.inl ⟨by rfl, ?_⟩) ?_ ?_
 rotate_left;{
 intro w'
 go_simp
 with_reducible rfl}
 rotate_left;{
 simp only [ap,sA,s0,s1,i64_w,i32_w]
 rfl}
 refine pure_ (i := 11) (N := some 332) (v := ?_) (a' := ?_) #[T,T,T,T,T,T,T,T,T,T,T,T,F,F,F,F,F] rfl rfl (any_of HT_.out (by kernel_rfl)) (fun _ _ _ h => h) (Or.inl ⟨by rfl, ?_⟩) ?_ ?_
 rotate_left;{
 intro w'
 go_simp
 with_reducible rfl}
 rotate_left;{
 simp only [ap,sA,s0,s1,i64_w,i32_w]
 rfl}
 refine pure_ (i := 12) (N := some 333) (v := ?_) (a' := ?_) #[T,T,T,T,T,T,T,T,T,T,T,T,T,F,F,F,F] rfl rfl (any_of HT_.out (by kernel_rfl)) (fun _ _ _ h => h) (Or.inl ⟨by rfl, ?_⟩) ?_ ?_
 rotate_left;{
 intro w'
 go_simp
 with_reducible rfl}
 rotate_left;{
 simp only [ap,sA,s0,s1,i64_w,i32_w]
 rfl}
 refine pure_ (i := 13) (N := some 334) (v := ?_) (a' := ?_) #[T,T,T,T,T,T,T,T,T,T,T,T,T,T,F,F,F] rfl rfl (any_of HT_.out (by kernel_rfl)) (fun _ _ _ h => h) (Or.inl ⟨by rfl, ?_⟩) ?_ ?_
 rotate_left;{
 intro w'
 go_simp
 with_reducible rfl}
 rotate_left;{
 simp only [ap,sA,s0,s1,i64_w,i32_w]
 rfl}
 refine pure_ (i := 14) (N := some 35) (v := ?_) (a' := ?_) #[T,T,T,T,T,T,T,T,T,T,T,T,T,T,T,F,F] rfl rfl (any_of HT_.out (by kernel_rfl)) (fun _ _ _ h => h) (Or.inl ⟨by rfl, ?_⟩) ?_ ?_
 rotate_left;{
 intro w'
 go_simp
 with_reducible rfl}
 rotate_left;{
 simp only [ap,sA,s0,s1,i64_w,i32_w]
 rfl}
 refine pure_ (i := 15) (N := some 36) (v := ?_) (a' := ?_) #[T,T,T,T,T,T,T,T,T,T,T,T,T,T,T,T,F] rfl rfl (any_of HT_.out (by kernel_rfl)) (fun _ _ _ h => h) (Or.inl ⟨by rfl, ?_⟩) ?_ ?_
 rotate_left;{
 intro w'
 go_simp
 with_reducible rfl}
 rotate_left;{
 simp only [ap,sA,s0,s1,i64_w,i32_w]
 rfl}
 refine pure_ (i := 16) (N := some 37) (v := ?_) (a' := ?_) #[T,T,T,T,T,T,T,T,T,T,T,T,T,T,T,T,T] rfl rfl (any_of HT_.out (by kernel_rfl)) (fun _ _ _ h => h) (Or.inl ⟨by rfl, ?_⟩) ?_ ?_
 rotate_left;{
 intro w'
 go_simp
 with_reducible rfl}
 rotate_left;{
 simp only [ap,sA,s0,s1,i64_w,i32_w]
 rfl}
 refine done_ (done_of HT_.out (by kernel_rfl)) ?_
 try go_wp2
 go_ret
 exact ⟨by first | rfl | (simp [errW_none, errW_some] <;> rfl) | (simp [*, errW_none, errW_some] <;> rfl), by repeat (first | (with_reducible first | exact HB.out | apply below_alloc | apply pw_below_drewN | apply below_drew1 | refine below_set ?_ GE413.out | refine below_set ?_ GE473.out) | exact HB.out)⟩}
 rw [if_neg c122] at H
 have c122b0 : (t478 == t420) = false := beq_eq_false_iff_ne.mpr c122
 have c122b1 : (t478 != t420) = true := bne_iff_ne.mpr c122
 obtain rfl := Option.some.inj H
 have hcz134_0 : wr.cell? ⟨gb413, 0, none⟩ = some (.slice A1_0 l1_0.length c1_0) := (blk_cell BK413.out 0).trans rfl
 have hcz134_1 : wr.cell? ⟨gb413, 1, none⟩ = some (.int .i64 a1_1) := (blk_cell BK413.out 1).trans rfl
 have hcz134_2 : wr.cell? ⟨gb413, 2, none⟩ = some (.int .i64 a1_2) := (blk_cell BK413.out 2).trans rfl
 have hcz134_3 : wr.cell? ⟨gb413, 3, none⟩ = some (.int .i64 a1_3) := (blk_cell BK413.out 3).trans rfl
 have hcz134_4 : wr.cell? ⟨gb413, 4, none⟩ = some (.int .i64 a1_4) := (blk_cell BK413.out 4).trans rfl
 have hcz134_5 : wr.cell? ⟨gb413, 5, none⟩ = some (.int .i64 a1_5) := (blk_cell BK413.out 5).trans rfl
 have hcz134_6 : wr.cell? ⟨gb413, 6, none⟩ = some (.int .i64 a1_6) := (blk_cell BK413.out 6).trans rfl
 have hcz134_7 : wr.cell? ⟨gb413, 7, none⟩ = some (.int .i64 a1_7) := (blk_cell BK413.out 7).trans rfl
 have hcz134_8 : wr.cell? ⟨gb413, 8, none⟩ = some (.int .i64 a1_8) := (blk_cell BK413.out 8).trans rfl
 have hfz134_0 := blk_frozen BK413.out 0
 have hfz134_1 := blk_frozen BK413.out 1
 have hfz134_2 := blk_frozen BK413.out 2
 have hfz134_3 := blk_frozen BK413.out 3
 have hfz134_4 := blk_frozen BK413.out 4
 have hfz134_5 := blk_frozen BK413.out 5
 have hfz134_6 := blk_frozen BK413.out 6
 have hfz134_7 := blk_frozen BK413.out 7
 have hfz134_8 := blk_frozen BK413.out 8
 try go_wp2_with (first | ((with_reducible refine gate_dst (N := 34) rfl ?_); (try (refine gate_guard (by rfl) ?_; dsimp only)); refine box_event ?hg (N := 34) ?hd (cs := #[.int .i64 0, .int .i64 0, .int .i64 0, .int .i64 0]) (t := 27) ?hr ?_; (case hd => rfl); (case hg => rfl); (case hr => first | (go_simp; done) | (go_simp; rfl)); intro gb473 hg w135 hbox hb; have n0_ := am (Kd.R_below (by (with_reducible repeat first|apply Kd.R_alloc|apply Kd.R_drewN|apply Kd.R_drew);exact HO_30.out) hb); have n1_ := am (Kd.R_below (by (with_reducible repeat first|apply Kd.R_alloc|apply Kd.R_drewN|apply Kd.R_drew);exact HO_32.out) hb); have n2_ := am (blk_below (by (with_reducible repeat first|refine bN ?_ _|refine bD ?_|refine bA ?_ _);exact BK413.out) hb); have n3_ := am (below_step (by repeat first|(with_reducible first|exact HB.out|apply wA|apply wN|apply wD|refine wS ?_ GE413.out)|exact HB.out) hb); have n4_ := am (hbox); have n5_ := am ((by rw [hg]; exact (below_size (by repeat first|(with_reducible first|exact HB.out|apply wA|apply wN|apply wD|refine wS ?_ GE413.out)|exact HB.out)) : w.heap.size ≤ gb473)); have n6_ := am ((by rw [hg]; exact (below_size (by repeat first|(with_reducible first|exact HB.out|apply wA|apply wN|apply wD|refine wS ?_ GE413.out)|exact HB.out)) : w.heap.size ≤ gb473)); have n7_ := am ((by rw [hg]; exact Nat.ne_of_lt (blk_lt (by (with_reducible repeat first|refine bN ?_ _|refine bD ?_|refine bA ?_ _);exact BK413.out)) : gb413 ≠ gb473)); have n8_ := am ((by rw [hg]; exact Nat.ne_of_gt (blk_lt (by (with_reducible repeat first|refine bN ?_ _|refine bD ?_|refine bA ?_ _);exact BK413.out)) : gb473 ≠ gb413)); clear HO_30; clear HO_32; clear BK413; clear HB; have HO_30 := n0_; have HO_32 := n1_; have BK413 := n2_; have HB := n3_; have BK473 := n4_; have GW473 := n5_; have GE473 := n6_; have NB413_473 := n7_; have NB473_413 := n8_; clear n0_ n1_ n2_ n3_ n4_ n5_ n6_ n7_ n8_; clear hb hbox hg; have hnb136 := NB473_413.out; have hnc136 := NB413_473.out; have hcz137_0 : w135.cell? ⟨gb473, 0, none⟩ = some (.int .i64 0) := (blk_cell BK473.out 0).trans rfl; have hcz137_1 : w135.cell? ⟨gb473, 1, none⟩ = some (.int .i64 0) := (blk_cell BK473.out 1).trans rfl; have hcz137_2 : w135.cell? ⟨gb473, 2, none⟩ = some (.int .i64 0) := (blk_cell BK473.out 2).trans rfl; have hcz137_3 : w135.cell? ⟨gb473, 3, none⟩ = some (.int .i64 0) := (blk_cell BK473.out 3).trans rfl; have hfz137_0 := blk_frozen BK473.out 0; have hfz137_1 := blk_frozen BK473.out 1; have hfz137_2 := blk_frozen BK473.out 2; have hfz137_3 := blk_frozen BK473.out 3))
 have n0_ : Aside0 (Kd.R k48 48 ((((w135.setCell ⟨gb473, 0, none⟩ (.int .i64 (wrap64 (-a1_4)))).setCell ⟨gb473, 1, none⟩ (.int .i64 a1_1)).setCell ⟨gb473, 2, none⟩ (.int .i64 (wrap64 (-a1_2)))).setCell ⟨gb473, 3, none⟩ (.int .i64 a1_3)) w.heap.size (fun _ => True) v465 t463) := ⟨by (with_reducible repeat first|apply Kd.R_alloc|apply Kd.R_drewN|apply Kd.R_drew);exact Kd.R_mono (Kd.R_far (p := ⟨gb473, 3, none⟩) (Kd.R_far (p := ⟨gb473, 2, none⟩) (Kd.R_far (p := ⟨gb473, 1, none⟩) (Kd.R_far (p := ⟨gb473, 0, none⟩) (Kd.R_types HO_30.out BK473.out (by decide)) (fun _ hk => hk.2) (.int .i64 (wrap64 (-a1_4)))) (fun _ hk => hk.2) (.int .i64 a1_1)) (fun _ hk => hk.2) (.int .i64 (wrap64 (-a1_2)))) (fun _ hk => hk.2) (.int .i64 a1_3)) (fun _ hk => trivial)⟩
 have n1_ : Aside0 (Kd.R k25 25 ((((w135.setCell ⟨gb473, 0, none⟩ (.int .i64 (wrap64 (-a1_4)))).setCell ⟨gb473, 1, none⟩ (.int .i64 a1_1)).setCell ⟨gb473, 2, none⟩ (.int .i64 (wrap64 (-a1_2)))).setCell ⟨gb473, 3, none⟩ (.int .i64 a1_3)) w.heap.size (fun _ => True) u32 x32_6) := ⟨by (with_reducible repeat first|apply Kd.R_alloc|apply Kd.R_drewN|apply Kd.R_drew);exact Kd.R_mono (Kd.R_far (p := ⟨gb473, 3, none⟩) (Kd.R_far (p := ⟨gb473, 2, none⟩) (Kd.R_far (p := ⟨gb473, 1, none⟩) (Kd.R_far (p := ⟨gb473, 0, none⟩) (Kd.R_types HO_32.out BK473.out (by decide)) (fun _ hk => hk.2) (.int .i64 (wrap64 (-a1_4)))) (fun _ hk => hk.2) (.int .i64 a1_1)) (fun _ hk => hk.2) (.int .i64 (wrap64 (-a1_2)))) (fun _ hk => hk.2) (.int .i64 a1_3)) (fun _ hk => trivial)⟩
 have n2_ : Aside0 (((((w135.setCell ⟨gb473, 0, none⟩ (.int .i64 (wrap64 (-a1_4)))).setCell ⟨gb473, 1, none⟩ (.int .i64 a1_1)).setCell ⟨gb473, 2, none⟩ (.int .i64 (wrap64 (-a1_2)))).setCell ⟨gb473, 3, none⟩ (.int .i64 a1_3)).heap[gb413]? = some (.cells #[.slice A1_0 l1_0.length c1_0, .int .i64 a1_1, .int .i64 a1_2, .int .i64 a1_3, .int .i64 a1_4, .int .i64 a1_5, .int .i64 a1_6, .int .i64 a1_7, .int .i64 a1_8] 29 (0, 0))) := ⟨by (with_reducible repeat first|refine bN ?_ _|refine bD ?_|refine bA ?_ _);refine blk_far ?_ NB413_473.out _; (with_reducible repeat first|refine bN ?_ _|refine bD ?_|refine bA ?_ _);refine blk_far ?_ NB413_473.out _; (with_reducible repeat first|refine bN ?_ _|refine bD ?_|refine bA ?_ _);refine blk_far ?_ NB413_473.out _; (with_reducible repeat first|refine bN ?_ _|refine bD ?_|refine bA ?_ _);refine blk_far ?_ NB413_473.out _; (with_reducible repeat first|refine bN ?_ _|refine bD ?_|refine bA ?_ _);exact BK413.out⟩
 have n3_ : Aside0 (((((w135.setCell ⟨gb473, 0, none⟩ (.int .i64 (wrap64 (-a1_4)))).setCell ⟨gb473, 1, none⟩ (.int .i64 a1_1)).setCell ⟨gb473, 2, none⟩ (.int .i64 (wrap64 (-a1_2)))).setCell ⟨gb473, 3, none⟩ (.int .i64 a1_3)).heap[gb473]? = some (.cells #[.int .i64 (wrap64 (-a1_4)), .int .i64 a1_1, .int .i64 (wrap64 (-a1_2)), .int .i64 a1_3] 27 (0, 0))) := ⟨by (with_reducible repeat first|refine bN ?_ _|refine bD ?_|refine bA ?_ _);refine blk_put (cs := #[.int .i64 (wrap64 (-a1_4)), .int .i64 a1_1, .int .i64 (wrap64 (-a1_2)), .int .i64 0]) ?_ 3 _ rfl; (with_reducible repeat first|refine bN ?_ _|refine bD ?_|refine bA ?_ _);refine blk_put (cs := #[.int .i64 (wrap64 (-a1_4)), .int .i64 a1_1, .int .i64 0, .int .i64 0]) ?_ 2 _ rfl; (with_reducible repeat first|refine bN ?_ _|refine bD ?_|refine bA ?_ _);refine blk_put (cs := #[.int .i64 (wrap64 (-a1_4)), .int .i64 0, .int .i64 0, .int .i64 0]) ?_ 1 _ rfl; (with_reducible repeat first|refine bN ?_ _|refine bD ?_|refine bA ?_ _);refine blk_put (cs := #[.int .i64 0, .int .i64 0, .int .i64 0, .int .i64 0]) ?_ 0 _ rfl; (with_reducible repeat first|refine bN ?_ _|refine bD ?_|refine bA ?_ _);exact BK473.out⟩
 have n4_ : Aside0 (Below w.heap.size w ((((w135.setCell ⟨gb473, 0, none⟩ (.int .i64 (wrap64 (-a1_4)))).setCell ⟨gb473, 1, none⟩ (.int .i64 a1_1)).setCell ⟨gb473, 2, none⟩ (.int .i64 (wrap64 (-a1_2)))).setCell ⟨gb473, 3, none⟩ (.int .i64 a1_3))) := ⟨by repeat (first | (with_reducible first | exact HB.out | apply below_alloc | apply pw_below_drewN | apply below_drew1 | refine below_set ?_ GE413.out | refine below_set ?_ GE473.out) | exact HB.out)⟩
 (try clear HO_30)
 (try clear HO_32)
 (try clear BK413)
 (try clear BK473)
 (try clear HB)
 generalize ((((w135.setCell ⟨gb473, 0, none⟩ (.int .i64 (wrap64 (-a1_4)))).setCell ⟨gb473, 1, none⟩ (.int .i64 a1_1)).setCell ⟨gb473, 2, none⟩ (.int .i64 (wrap64 (-a1_2)))).setCell ⟨gb473, 3, none⟩ (.int .i64 a1_3)) = w138 at n0_ n1_ n2_ n3_ n4_ ⊢
 have HO_30 := n0_
 have HO_32 := n1_
 have BK413 := n2_
 have BK473 := n3_
 have HB := n4_
 clear n0_ n1_ n2_ n3_ n4_
 have n0_ := am (Kd.R_drew HO_30.out)
 have n1_ := am (Kd.R_drew HO_32.out)
 have n2_ := am (blk_drew BK413.out)
 have n3_ := am (blk_drew BK473.out)
 have n4_ := am (below_drew1 HB.out)
 clear HO_30
 clear HO_32
 clear BK413
 clear BK473
 clear HB
 have HO_30 := n0_
 have HO_32 := n1_
 have BK413 := n2_
 have BK473 := n3_
 have HB := n4_
 clear n0_ n1_ n2_ n3_ n4_
 refine start_ (n := 17) (S := fun w' => w'.cell? ⟨gb473, 0, none⟩ = some (.int .i64 (wrap64 (-a1_4))) ∧ w'.cell? ⟨gb473, 1, none⟩ = some (.int .i64 a1_1) ∧ w'.cell? ⟨gb473, 2, none⟩ = some (.int .i64 (wrap64 (-a1_2))) ∧ w'.cell? ⟨gb473, 3, none⟩ = some (.int .i64 a1_3) ∧ w'.cell? ⟨gb413, 0, none⟩ = some (.slice A1_0 l1_0.length c1_0) ∧ w'.cell? ⟨gb413, 1, none⟩ = some (.int .i64 a1_1) ∧ w'.cell? ⟨gb413, 2, none⟩ = some (.int .i64 a1_2) ∧ w'.cell? ⟨gb413, 3, none⟩ = some (.int .i64 a1_3) ∧ w'.cell? ⟨gb413, 4, none⟩ = some (.int .i64 a1_4) ∧ w'.cell? ⟨gb413, 5, none⟩ = some (.int .i64 a1_5) ∧ w'.cell? ⟨gb413, 6, none⟩ = some (.int .i64 a1_6) ∧ w'.cell? ⟨gb413, 7, none⟩ = some (.int .i64 a1_7) ∧ w'.cell? ⟨gb413, 8, none⟩ = some (.int .i64 a1_8)) (ds := []) #[F,F,F,F,F,F,F,F,F,F,F,F,F,F,F,F,F] (by kernel_rfl) rfl rfl ⟨(blk_cell BK473.out 0).trans rfl, (blk_cell BK473.out 1).trans rfl, (blk_cell BK473.out 2).trans rfl, (blk_cell BK473.out 3).trans rfl, (blk_cell BK413.out 0).trans rfl, (blk_cell BK413.out 1).trans rfl, (blk_cell BK413.out 2).trans rfl, (blk_cell BK413.out 3).trans rfl, (blk_cell BK413.out 4).trans rfl, (blk_cell BK413.out 5).trans rfl, (blk_cell BK413.out 6).trans rfl, (blk_cell BK413.out 7).trans rfl, (blk_cell BK413.out 8).trans rfl⟩ (fun hHeld => ?_); refine with_tabW wigeontop_TopSights.tab45 wigeontop_TopSights.bits45 (fun HT_ HW_ => ?_)
 generalize w138.drew = w139 at HO_30 HO_32 BK413 BK473 HB hHeld ⊢
 refine pure_ (i := 0) (N := some 322) (v := ?_) (a' := ?_) #[T,F,F,F,F,F,F,F,F,F,F,F,F,F,F,F,F] rfl rfl (any_of HT_.out (by kernel_rfl)) (fun _ _ _ h => h) (Or.inl ⟨by rfl, ?_⟩) ?_ ?_
 rotate_left;{
 intro w'
 go_simp
 with_reducible rfl}
 rotate_left;{
 simp only [ap,sA,s0,s1,i64_w,i32_w]
 rfl}
 refine pure_ (i := 1) (N := some 323) (v := ?_) (a' := ?_) #[T,T,F,F,F,F,F,F,F,F,F,F,F,F,F,F,F] rfl rfl (any_of HT_.out (by kernel_rfl)) (fun _ _ _ h => h) (Or.inl ⟨by rfl, ?_⟩) ?_ ?_
 rotate_left;{
 intro w'
 go_simp
 with_reducible rfl}
 rotate_left;{
 simp only [ap,sA,s0,s1,i64_w,i32_w]
 rfl}
 refine pure_ (i := 3) (N := some 325) (v := ?_) (a' := ?_) #[T,T,F,T,F,F,F,F,F,F,F,F,F,F,F,F,F] rfl rfl (any_of HT_.out (by kernel_rfl)) (fun _ _ _ h => h) (Or.inl ⟨by rfl, ?_⟩) ?_ ?_
 rotate_left;{
 intro w'
 go_simp
 with_reducible rfl}
 rotate_left;{
 simp only [ap,sA,s0,s1,i64_w,i32_w]
 rfl}
 refine pure_ (i := 6) (N := some 328) (v := ?_) (a' := ?_) #[T,T,F,T,F,F,T,F,F,F,F,F,F,F,F,F,F] rfl rfl (any_of HT_.out (by kernel_rfl)) (fun _ _ _ h => h) (Or.inl ⟨by rfl, ?_⟩) ?_ ?_
 rotate_left;{
 intro w'
 go_simp
 with_reducible rfl}
 rotate_left;{
 simp only [ap,sA,s0,s1,i64_w,i32_w]
 rfl}
 refine take_ (i := 2) (N := some 324) (v := ?_) (a' := ?_) #[T,T,T,T,F,F,T,F,F,F,F,F,F,F,F,F,F] rfl rfl (take_ofW HT_.out HW_.out (by kernel_rfl)) (fun _ _ _ h => h) (Or.inl ⟨by rfl, ?_⟩) hHeld ?_ ?_
 rotate_left;{
 rintro w' ⟨s0, s1, s2, s3, s4, s5, s6, s7, s8, s9, s10, s11, s12⟩
 go_simp
 with_reducible rfl}
 rotate_left;{
 simp only [ap,sA,s0,s1,i64_w,i32_w]
 rfl}
 refine take_ (i := 4) (N := some 326) (v := ?_) (a' := ?_) #[T,T,T,T,T,F,T,F,F,F,F,F,F,F,F,F,F] rfl rfl (take_ofW HT_.out HW_.out (by kernel_rfl)) (fun _ _ _ h => h) (Or.inl ⟨by rfl, ?_⟩) hHeld ?_ ?_
 rotate_left;{
 rintro w' ⟨s0, s1, s2, s3, s4, s5, s6, s7, s8, s9, s10, s11, s12⟩
 go_simp
 with_reducible rfl}
 rotate_left;{
 simp only [ap,sA,s0,s1,i64_w,i32_w]
 rfl}
 refine take_ (i := 7) (N := some 329) (v := ?_) (a' := ?_) #[T,T,T,T,T,F,T,T,F,F,F,F,F,F,F,F,F] rfl rfl (take_ofW HT_.out HW_.out (by kernel_rfl)) (fun _ _ _ h => h) (Or.inl ⟨by rfl, ?_⟩) hHeld ?_ ?_
 rotate_left;{
 rintro w' ⟨s0, s1, s2, s3, s4, s5, s6, s7, s8, s9, s10, s11, s12⟩
 go_simp
 with_reducible rfl}
 rotate_left;{
 simp only [ap,sA,s0,s1,i64_w,i32_w]
 rfl}
 refine one_ (i := 5) (N := some 327) #[T,T,T,T,T,T,T,T,F,F,F,F,F,F,F,F,F] rfl rfl (one_of HT_.out (by kernel_rfl)) (by decide) (fun K hK => ?_)
 refine goes_ Try.func22 (by kernel_rfl) rfl #[.agg #[.int .i64 a1_5, .int .i64 a1_6]] (by rfl) rfl rfl (by (try simp only [List.map_toArray, List.map_cons, List.map_nil]); first | done | rfl | (simp only [List.length_drop, List.length_take]; rfl)) ?_
 with_reducible refine (wigeonref02_Turned.calls a1_5 a1_6 t474 t475 _ A117.out).mono ?_
 rintro e w140 ⟨rfl, hb⟩
 refine ⟨_, rfl, ?_⟩
 have n0_ := am (Kd.R_below (by (with_reducible repeat first|apply Kd.R_alloc|apply Kd.R_drewN|apply Kd.R_drew);exact HO_30.out) hb)
 have n1_ := am (Kd.R_below (by (with_reducible repeat first|apply Kd.R_alloc|apply Kd.R_drewN|apply Kd.R_drew);exact HO_32.out) hb)
 have n2_ := am (blk_below (by (with_reducible repeat first|refine bN ?_ _|refine bD ?_|refine bA ?_ _);exact BK413.out) hb)
 have n3_ := am (blk_below (by (with_reducible repeat first|refine bN ?_ _|refine bD ?_|refine bA ?_ _);exact BK473.out) hb)
 have n4_ := am (below_step (by repeat first|(with_reducible first|exact HB.out|apply wA|apply wN|apply wD|refine wS ?_ GE413.out|refine wS ?_ GE473.out)|exact HB.out) hb)
 clear HO_30
 clear HO_32
 clear BK413
 clear BK473
 clear HB
 have HO_30 := n0_
 have HO_32 := n1_
 have BK413 := n2_
 have BK473 := n3_
 have HB := n4_
 clear n0_ n1_ n2_ n3_ n4_
 (try clear hb)
 (try clear hb2)
 (try clear hk)
 (try clear hi)
 refine hK.out _ _ ⟨(blk_cell BK473.out 0).trans rfl, (blk_cell BK473.out 1).trans rfl, (blk_cell BK473.out 2).trans rfl, (blk_cell BK473.out 3).trans rfl, (blk_cell BK413.out 0).trans rfl, (blk_cell BK413.out 1).trans rfl, (blk_cell BK413.out 2).trans rfl, (blk_cell BK413.out 3).trans rfl, (blk_cell BK413.out 4).trans rfl, (blk_cell BK413.out 5).trans rfl, (blk_cell BK413.out 6).trans rfl, (blk_cell BK413.out 7).trans rfl, (blk_cell BK413.out 8).trans rfl⟩ (fun hHeld => ?_)
 clear hK K
 refine norm_ (a' := ?_) ?_ ?_
 rotate_left;{
 show Act.put _ (some 327) _ = _
 simp only [ap,sA,s0,s1,i64_w,i32_w]
 rfl}
 refine one_ (i := 8) (N := some 330) #[T,T,T,T,T,T,T,T,T,F,F,F,F,F,F,F,F] rfl rfl (one_of HT_.out (by kernel_rfl)) (by decide) (fun K hK => ?_)
 refine goes_ Try.func22 (by kernel_rfl) rfl #[.agg #[.int .i64 a1_7, .int .i64 a1_8]] (by rfl) rfl rfl (by (try simp only [List.map_toArray, List.map_cons, List.map_nil]); first | done | rfl | (simp only [List.length_drop, List.length_take]; rfl)) ?_
 with_reducible refine (wigeonref02_Turned.calls a1_7 a1_8 t476 t477 _ A118.out).mono ?_
 rintro e w141 ⟨rfl, hb⟩
 refine ⟨_, rfl, ?_⟩
 have n0_ := am (Kd.R_below (by (with_reducible repeat first|apply Kd.R_alloc|apply Kd.R_drewN|apply Kd.R_drew);exact HO_30.out) hb)
 have n1_ := am (Kd.R_below (by (with_reducible repeat first|apply Kd.R_alloc|apply Kd.R_drewN|apply Kd.R_drew);exact HO_32.out) hb)
 have n2_ := am (blk_below (by (with_reducible repeat first|refine bN ?_ _|refine bD ?_|refine bA ?_ _);exact BK413.out) hb)
 have n3_ := am (blk_below (by (with_reducible repeat first|refine bN ?_ _|refine bD ?_|refine bA ?_ _);exact BK473.out) hb)
 have n4_ := am (below_step (by repeat first|(with_reducible first|exact HB.out|apply wA|apply wN|apply wD|refine wS ?_ GE413.out|refine wS ?_ GE473.out)|exact HB.out) hb)
 clear HO_30
 clear HO_32
 clear BK413
 clear BK473
 clear HB
 have HO_30 := n0_
 have HO_32 := n1_
 have BK413 := n2_
 have BK473 := n3_
 have HB := n4_
 clear n0_ n1_ n2_ n3_ n4_
 (try clear hb)
 (try clear hb2)
 (try clear hk)
 (try clear hi)
 obtain ⟨Ao142, co142, eo142⟩ := Kd.R_slice HO_30.out
 (first | subst eo142 | (injection eo142 with f1_ f2_ f3_; have f4_ := f1_.symm; have f5_ := f3_.symm; clear f1_ f2_ f3_; subst f4_; subst f5_))
 obtain ⟨Ao143, co143, eo143⟩ := Kd.R_slice HO_32.out
 (first | subst eo143 | (injection eo143 with f1_ f2_ f3_; have f4_ := f1_.symm; have f5_ := f3_.symm; clear f1_ f2_ f3_; subst f4_; subst f5_))
 refine hK.out _ _ ⟨(blk_cell BK473.out 0).trans rfl, (blk_cell BK473.out 1).trans rfl, (blk_cell BK473.out 2).trans rfl, (blk_cell BK473.out 3).trans rfl, (blk_cell BK413.out 0).trans rfl, (blk_cell BK413.out 1).trans rfl, (blk_cell BK413.out 2).trans rfl, (blk_cell BK413.out 3).trans rfl, (blk_cell BK413.out 4).trans rfl, (blk_cell BK413.out 5).trans rfl, (blk_cell BK413.out 6).trans rfl, (blk_cell BK413.out 7).trans rfl, (blk_cell BK413.out 8).trans rfl⟩ (fun hHeld => ?_)
 clear hK K
 refine norm_ (a' := ?_) ?_ ?_
 rotate_left;{
 show Act.put _ (some 330) _ = _
 simp only [ap,sA,s0,s1,i64_w,i32_w]
 rfl}
 refine one_ (i := 9) (N := some 331) #[T,T,T,T,T,T,T,T,T,T,F,F,F,F,F,F,F] rfl rfl (one_of HT_.out (by kernel_rfl)) (by decide) (fun K hK => ?_)
 refine goes_ Try.func15 (by kernel_rfl) rfl #[.slice Ao142 t463.length co142, .slice Ao143 x32_6.length co143, .agg #[.int .i64 (wrap64 (-a1_4)), .int .i64 a1_1, .int .i64 (wrap64 (-a1_2)), .int .i64 a1_3], .agg #[.int .i64 t474, .int .i64 t475], .agg #[.int .i64 t476, .int .i64 t477]] (by rfl) rfl rfl (by (try simp only [List.map_toArray, List.map_cons, List.map_nil]); first | done | rfl | (simp only [List.length_drop, List.length_take]; rfl)) ?_
 with_reducible refine (screen_Steps.calls k6 _ _ t463 _ _ x32_6 (wrap64 (-a1_4)) a1_1 (wrap64 (-a1_2)) a1_3 t474 t475 t476 t477 t478 t479 t480 _ ?side1 ?side2 ?side3 ?side4 A119.out).mono ?_
 (case side1 => repeat (first | exact (Kd.R_reads' HO_30.out).2.2 | (with_reducible refine Kd.C_alloc ?_ _) | (with_reducible refine Kd.C_drewN ?_ _) | (with_reducible refine Kd.C_drew ?_)))
 (case side2 => exact (Kd.R_reads' HO_30.out).2.1)
 (case side3 => repeat (first | exact (Kd.R_reads' HO_32.out).2.2 | (with_reducible refine Kd.C_alloc ?_ _) | (with_reducible refine Kd.C_drewN ?_ _) | (with_reducible refine Kd.C_drew ?_)))
 (case side4 => exact (Kd.R_reads' HO_32.out).2.1)
 rintro e w144 ⟨rfl, hb⟩
 refine ⟨_, rfl, ?_⟩
 have n0_ := am (Kd.R_below (by (with_reducible repeat first|apply Kd.R_alloc|apply Kd.R_drewN|apply Kd.R_drew);exact HO_30.out) hb)
 have n1_ := am (Kd.R_below (by (with_reducible repeat first|apply Kd.R_alloc|apply Kd.R_drewN|apply Kd.R_drew);exact HO_32.out) hb)
 have n2_ := am (blk_below (by (with_reducible repeat first|refine bN ?_ _|refine bD ?_|refine bA ?_ _);exact BK413.out) hb)
 have n3_ := am (blk_below (by (with_reducible repeat first|refine bN ?_ _|refine bD ?_|refine bA ?_ _);exact BK473.out) hb)
 have n4_ := am (below_step (by repeat first|(with_reducible first|exact HB.out|apply wA|apply wN|apply wD|refine wS ?_ GE413.out|refine wS ?_ GE473.out)|exact HB.out) hb)
 clear HO_30
 clear HO_32
 clear BK413
 clear BK473
 clear HB
 have HO_30 := n0_
 have HO_32 := n1_
 have BK413 := n2_
 have BK473 := n3_
 have HB := n4_
 clear n0_ n1_ n2_ n3_ n4_
 (try clear hb)
 (try clear hb2)
 (try clear hk)
 (try clear hi)
 refine hK.out _ _ ⟨(blk_cell BK473.out 0).trans rfl, (blk_cell BK473.out 1).trans rfl, (blk_cell BK473.out 2).trans rfl, (blk_cell BK473.out 3).trans rfl, (blk_cell BK413.out 0).trans rfl, (blk_cell BK413.out 1).trans rfl, (blk_cell BK413.out 2).trans rfl, (blk_cell BK413.out 3).trans rfl, (blk_cell BK413.out 4).trans rfl, (blk_cell BK413.out 5).trans rfl, (blk_cell BK413.out 6).trans rfl, (blk_cell BK413.out 7).trans rfl, (blk_cell BK413.out 8).trans rfl⟩ (fun hHeld => ?_)
 clear hK K
 refine norm_ (a' := ?_) ?_ ?_
 rotate_left;{
 show Act.put _ (some 331) _ = _
 simp only [ap,sA,s0,s1,i64_w,i32_w]
 rfl}
 refine pure_ (i := 10) (N := some 321) (v := ?_) (a' := ?_) #[T,T,T,T,T,T,T,T,T,T,T,F,F,F,F,F,F] rfl rfl (any_of HT_.out (by kernel_rfl)) (fun _ _ _ h => h) (Or.inl ⟨by rfl, ?_⟩) ?_ ?_
 rotate_left;{
 intro w'
 go_simp
 with_reducible rfl}
 rotate_left;{
 simp only [ap,sA,s0,s1,i64_w,i32_w]
 rfl}
 refine pure_ (i := 11) (N := some 332) (v := ?_) (a' := ?_) #[T,T,T,T,T,T,T,T,T,T,T,T,F,F,F,F,F] rfl rfl (any_of HT_.out (by kernel_rfl)) (fun _ _ _ h => h) (Or.inl ⟨by rfl, ?_⟩) ?_ ?_
 rotate_left;{
 intro w'
 go_simp
 with_reducible rfl}
 rotate_left;{
 simp only [ap,sA,s0,s1,i64_w,i32_w]
 rfl}
 refine pure_ (i := 12) (N := some 333) (v := ?_) (a' := ?_) #[T,T,T,T,T,T,T,T,T,T,T,T,T,F,F,F,F] rfl rfl (any_of HT_.out (by kernel_rfl)) (fun _ _ _ h => h) (Or.inl ⟨by rfl, ?_⟩) ?_ ?_
 rotate_left;{
 intro w'
 go_simp
 with_reducible rfl}
 rotate_left;{
 simp only [ap,sA,s0,s1,i64_w,i32_w]
 rfl}
 refine pure_ (i := 13) (N := some 334) (v := ?_) (a' := ?_) #[T,T,T,T,T,T,T,T,T,T,T,T,T,T,F,F,F] rfl rfl (any_of HT_.out (by kernel_rfl)) (fun _ _ _ h => h) (Or.inl ⟨by rfl, ?_⟩) ?_ ?_
 rotate_left;{
 intro w'
 go_simp
 with_reducible rfl}
 rotate_left;{
 simp only [ap,sA,s0,s1,i64_w,i32_w]
 rfl}
 refine pure_ (i := 14) (N := some 35) (v := ?_) (a' := ?_) #[T,T,T,T,T,T,T,T,T,T,T,T,T,T,T,F,F] rfl rfl (any_of HT_.out (by kernel_rfl)) (fun _ _ _ h => h) (Or.inl ⟨by rfl, ?_⟩) ?_ ?_
 rotate_left;{
 intro w'
 go_simp
 with_reducible rfl}
 rotate_left;{
 simp only [ap,sA,s0,s1,i64_w,i32_w]
 rfl}
 refine pure_ (i := 15) (N := some 36) (v := ?_) (a' := ?_) #[T,T,T,T,T,T,T,T,T,T,T,T,T,T,T,T,F] rfl rfl (any_of HT_.out (by kernel_rfl)) (fun _ _ _ h => h) (Or.inl ⟨by rfl, ?_⟩) ?_ ?_
 rotate_left;{
 intro w'
 go_simp
 with_reducible rfl}
 rotate_left;{
 simp only [ap,sA,s0,s1,i64_w,i32_w]
 rfl}
 refine pure_ (i := 16) (N := some 37) (v := ?_) (a' := ?_) #[T,T,T,T,T,T,T,T,T,T,T,T,T,T,T,T,T] rfl rfl (any_of HT_.out (by kernel_rfl)) (fun _ _ _ h => h) (Or.inl ⟨by rfl, ?_⟩) ?_ ?_
 rotate_left;{
 intro w'
 go_simp
 with_reducible rfl}
 rotate_left;{
 simp only [ap,sA,s0,s1,i64_w,i32_w]
 rfl}
 refine done_ (done_of HT_.out (by kernel_rfl)) ?_
 try go_wp2
 go_ret
 exact ⟨by first | rfl | (simp [errW_none, errW_some] <;> rfl) | (simp [*, errW_none, errW_some] <;> rfl), by repeat (first | (with_reducible first | exact HB.out | apply below_alloc | apply pw_below_drewN | apply below_drew1 | refine below_set ?_ GE413.out | refine below_set ?_ GE473.out) | exact HB.out)⟩}
 rw [if_neg c121] at H
 have c121b0 : (t480 == 0) = false := beq_eq_false_iff_ne.mpr c121
 have c121b1 : (t480 != 0) = true := bne_iff_ne.mpr c121
 obtain rfl := Option.some.inj H
 have hcz145_0 : wr.cell? ⟨gb413, 0, none⟩ = some (.slice A1_0 l1_0.length c1_0) := (blk_cell BK413.out 0).trans rfl
 have hcz145_1 : wr.cell? ⟨gb413, 1, none⟩ = some (.int .i64 a1_1) := (blk_cell BK413.out 1).trans rfl
 have hcz145_2 : wr.cell? ⟨gb413, 2, none⟩ = some (.int .i64 a1_2) := (blk_cell BK413.out 2).trans rfl
 have hcz145_3 : wr.cell? ⟨gb413, 3, none⟩ = some (.int .i64 a1_3) := (blk_cell BK413.out 3).trans rfl
 have hcz145_4 : wr.cell? ⟨gb413, 4, none⟩ = some (.int .i64 a1_4) := (blk_cell BK413.out 4).trans rfl
 have hcz145_5 : wr.cell? ⟨gb413, 5, none⟩ = some (.int .i64 a1_5) := (blk_cell BK413.out 5).trans rfl
 have hcz145_6 : wr.cell? ⟨gb413, 6, none⟩ = some (.int .i64 a1_6) := (blk_cell BK413.out 6).trans rfl
 have hcz145_7 : wr.cell? ⟨gb413, 7, none⟩ = some (.int .i64 a1_7) := (blk_cell BK413.out 7).trans rfl
 have hcz145_8 : wr.cell? ⟨gb413, 8, none⟩ = some (.int .i64 a1_8) := (blk_cell BK413.out 8).trans rfl
 have hfz145_0 := blk_frozen BK413.out 0
 have hfz145_1 := blk_frozen BK413.out 1
 have hfz145_2 := blk_frozen BK413.out 2
 have hfz145_3 := blk_frozen BK413.out 3
 have hfz145_4 := blk_frozen BK413.out 4
 have hfz145_5 := blk_frozen BK413.out 5
 have hfz145_6 := blk_frozen BK413.out 6
 have hfz145_7 := blk_frozen BK413.out 7
 have hfz145_8 := blk_frozen BK413.out 8
 try go_wp2_with (first | ((with_reducible refine gate_dst (N := 34) rfl ?_); (try (refine gate_guard (by rfl) ?_; dsimp only)); refine box_event ?hg (N := 34) ?hd (cs := #[.int .i64 0, .int .i64 0, .int .i64 0, .int .i64 0]) (t := 27) ?hr ?_; (case hd => rfl); (case hg => rfl); (case hr => first | (go_simp; done) | (go_simp; rfl)); intro gb473 hg w146 hbox hb; have n0_ := am (Kd.R_below (by (with_reducible repeat first|apply Kd.R_alloc|apply Kd.R_drewN|apply Kd.R_drew);exact HO_30.out) hb); have n1_ := am (Kd.R_below (by (with_reducible repeat first|apply Kd.R_alloc|apply Kd.R_drewN|apply Kd.R_drew);exact HO_32.out) hb); have n2_ := am (blk_below (by (with_reducible repeat first|refine bN ?_ _|refine bD ?_|refine bA ?_ _);exact BK413.out) hb); have n3_ := am (below_step (by repeat first|(with_reducible first|exact HB.out|apply wA|apply wN|apply wD|refine wS ?_ GE413.out)|exact HB.out) hb); have n4_ := am (hbox); have n5_ := am ((by rw [hg]; exact (below_size (by repeat first|(with_reducible first|exact HB.out|apply wA|apply wN|apply wD|refine wS ?_ GE413.out)|exact HB.out)) : w.heap.size ≤ gb473)); have n6_ := am ((by rw [hg]; exact (below_size (by repeat first|(with_reducible first|exact HB.out|apply wA|apply wN|apply wD|refine wS ?_ GE413.out)|exact HB.out)) : w.heap.size ≤ gb473)); have n7_ := am ((by rw [hg]; exact Nat.ne_of_lt (blk_lt (by (with_reducible repeat first|refine bN ?_ _|refine bD ?_|refine bA ?_ _);exact BK413.out)) : gb413 ≠ gb473)); have n8_ := am ((by rw [hg]; exact Nat.ne_of_gt (blk_lt (by (with_reducible repeat first|refine bN ?_ _|refine bD ?_|refine bA ?_ _);exact BK413.out)) : gb473 ≠ gb413)); clear HO_30; clear HO_32; clear BK413; clear HB; have HO_30 := n0_; have HO_32 := n1_; have BK413 := n2_; have HB := n3_; have BK473 := n4_; have GW473 := n5_; have GE473 := n6_; have NB413_473 := n7_; have NB473_413 := n8_; clear n0_ n1_ n2_ n3_ n4_ n5_ n6_ n7_ n8_; clear hb hbox hg; have hnb147 := NB473_413.out; have hnc147 := NB413_473.out; have hcz148_0 : w146.cell? ⟨gb473, 0, none⟩ = some (.int .i64 0) := (blk_cell BK473.out 0).trans rfl; have hcz148_1 : w146.cell? ⟨gb473, 1, none⟩ = some (.int .i64 0) := (blk_cell BK473.out 1).trans rfl; have hcz148_2 : w146.cell? ⟨gb473, 2, none⟩ = some (.int .i64 0) := (blk_cell BK473.out 2).trans rfl; have hcz148_3 : w146.cell? ⟨gb473, 3, none⟩ = some (.int .i64 0) := (blk_cell BK473.out 3).trans rfl; have hfz148_0 := blk_frozen BK473.out 0; have hfz148_1 := blk_frozen BK473.out 1; have hfz148_2 := blk_frozen BK473.out 2; have hfz148_3 := blk_frozen BK473.out 3))
 have n0_ : Aside0 (Kd.R k48 48 ((((w146.setCell ⟨gb473, 0, none⟩ (.int .i64 (wrap64 (-a1_4)))).setCell ⟨gb473, 1, none⟩ (.int .i64 a1_1)).setCell ⟨gb473, 2, none⟩ (.int .i64 (wrap64 (-a1_2)))).setCell ⟨gb473, 3, none⟩ (.int .i64 a1_3)) w.heap.size (fun _ => True) v465 t463) := ⟨by (with_reducible repeat first|apply Kd.R_alloc|apply Kd.R_drewN|apply Kd.R_drew);exact Kd.R_mono (Kd.R_far (p := ⟨gb473, 3, none⟩) (Kd.R_far (p := ⟨gb473, 2, none⟩) (Kd.R_far (p := ⟨gb473, 1, none⟩) (Kd.R_far (p := ⟨gb473, 0, none⟩) (Kd.R_types HO_30.out BK473.out (by decide)) (fun _ hk => hk.2) (.int .i64 (wrap64 (-a1_4)))) (fun _ hk => hk.2) (.int .i64 a1_1)) (fun _ hk => hk.2) (.int .i64 (wrap64 (-a1_2)))) (fun _ hk => hk.2) (.int .i64 a1_3)) (fun _ hk => trivial)⟩
 have n1_ : Aside0 (Kd.R k25 25 ((((w146.setCell ⟨gb473, 0, none⟩ (.int .i64 (wrap64 (-a1_4)))).setCell ⟨gb473, 1, none⟩ (.int .i64 a1_1)).setCell ⟨gb473, 2, none⟩ (.int .i64 (wrap64 (-a1_2)))).setCell ⟨gb473, 3, none⟩ (.int .i64 a1_3)) w.heap.size (fun _ => True) u32 x32_6) := ⟨by (with_reducible repeat first|apply Kd.R_alloc|apply Kd.R_drewN|apply Kd.R_drew);exact Kd.R_mono (Kd.R_far (p := ⟨gb473, 3, none⟩) (Kd.R_far (p := ⟨gb473, 2, none⟩) (Kd.R_far (p := ⟨gb473, 1, none⟩) (Kd.R_far (p := ⟨gb473, 0, none⟩) (Kd.R_types HO_32.out BK473.out (by decide)) (fun _ hk => hk.2) (.int .i64 (wrap64 (-a1_4)))) (fun _ hk => hk.2) (.int .i64 a1_1)) (fun _ hk => hk.2) (.int .i64 (wrap64 (-a1_2)))) (fun _ hk => hk.2) (.int .i64 a1_3)) (fun _ hk => trivial)⟩
 have n2_ : Aside0 (((((w146.setCell ⟨gb473, 0, none⟩ (.int .i64 (wrap64 (-a1_4)))).setCell ⟨gb473, 1, none⟩ (.int .i64 a1_1)).setCell ⟨gb473, 2, none⟩ (.int .i64 (wrap64 (-a1_2)))).setCell ⟨gb473, 3, none⟩ (.int .i64 a1_3)).heap[gb413]? = some (.cells #[.slice A1_0 l1_0.length c1_0, .int .i64 a1_1, .int .i64 a1_2, .int .i64 a1_3, .int .i64 a1_4, .int .i64 a1_5, .int .i64 a1_6, .int .i64 a1_7, .int .i64 a1_8] 29 (0, 0))) := ⟨by (with_reducible repeat first|refine bN ?_ _|refine bD ?_|refine bA ?_ _);refine blk_far ?_ NB413_473.out _; (with_reducible repeat first|refine bN ?_ _|refine bD ?_|refine bA ?_ _);refine blk_far ?_ NB413_473.out _; (with_reducible repeat first|refine bN ?_ _|refine bD ?_|refine bA ?_ _);refine blk_far ?_ NB413_473.out _; (with_reducible repeat first|refine bN ?_ _|refine bD ?_|refine bA ?_ _);refine blk_far ?_ NB413_473.out _; (with_reducible repeat first|refine bN ?_ _|refine bD ?_|refine bA ?_ _);exact BK413.out⟩
 have n3_ : Aside0 (((((w146.setCell ⟨gb473, 0, none⟩ (.int .i64 (wrap64 (-a1_4)))).setCell ⟨gb473, 1, none⟩ (.int .i64 a1_1)).setCell ⟨gb473, 2, none⟩ (.int .i64 (wrap64 (-a1_2)))).setCell ⟨gb473, 3, none⟩ (.int .i64 a1_3)).heap[gb473]? = some (.cells #[.int .i64 (wrap64 (-a1_4)), .int .i64 a1_1, .int .i64 (wrap64 (-a1_2)), .int .i64 a1_3] 27 (0, 0))) := ⟨by (with_reducible repeat first|refine bN ?_ _|refine bD ?_|refine bA ?_ _);refine blk_put (cs := #[.int .i64 (wrap64 (-a1_4)), .int .i64 a1_1, .int .i64 (wrap64 (-a1_2)), .int .i64 0]) ?_ 3 _ rfl; (with_reducible repeat first|refine bN ?_ _|refine bD ?_|refine bA ?_ _);refine blk_put (cs := #[.int .i64 (wrap64 (-a1_4)), .int .i64 a1_1, .int .i64 0, .int .i64 0]) ?_ 2 _ rfl; (with_reducible repeat first|refine bN ?_ _|refine bD ?_|refine bA ?_ _);refine blk_put (cs := #[.int .i64 (wrap64 (-a1_4)), .int .i64 0, .int .i64 0, .int .i64 0]) ?_ 1 _ rfl; (with_reducible repeat first|refine bN ?_ _|refine bD ?_|refine bA ?_ _);refine blk_put (cs := #[.int .i64 0, .int .i64 0, .int .i64 0, .int .i64 0]) ?_ 0 _ rfl; (with_reducible repeat first|refine bN ?_ _|refine bD ?_|refine bA ?_ _);exact BK473.out⟩
 have n4_ : Aside0 (Below w.heap.size w ((((w146.setCell ⟨gb473, 0, none⟩ (.int .i64 (wrap64 (-a1_4)))).setCell ⟨gb473, 1, none⟩ (.int .i64 a1_1)).setCell ⟨gb473, 2, none⟩ (.int .i64 (wrap64 (-a1_2)))).setCell ⟨gb473, 3, none⟩ (.int .i64 a1_3))) := ⟨by repeat (first | (with_reducible first | exact HB.out | apply below_alloc | apply pw_below_drewN | apply below_drew1 | refine below_set ?_ GE413.out | refine below_set ?_ GE473.out) | exact HB.out)⟩
 (try clear HO_30)
 (try clear HO_32)
 (try clear BK413)
 (try clear BK473)
 (try clear HB)
 generalize ((((w146.setCell ⟨gb473, 0, none⟩ (.int .i64 (wrap64 (-a1_4)))).setCell ⟨gb473, 1, none⟩ (.int .i64 a1_1)).setCell ⟨gb473, 2, none⟩ (.int .i64 (wrap64 (-a1_2)))).setCell ⟨gb473, 3, none⟩ (.int .i64 a1_3)) = w149 at n0_ n1_ n2_ n3_ n4_ ⊢
 have HO_30 := n0_
 have HO_32 := n1_
 have BK413 := n2_
 have BK473 := n3_
 have HB := n4_
 clear n0_ n1_ n2_ n3_ n4_
 have n0_ := am (Kd.R_drew HO_30.out)
 have n1_ := am (Kd.R_drew HO_32.out)
 have n2_ := am (blk_drew BK413.out)
 have n3_ := am (blk_drew BK473.out)
 have n4_ := am (below_drew1 HB.out)
 clear HO_30
 clear HO_32
 clear BK413
 clear BK473
 clear HB
 have HO_30 := n0_
 have HO_32 := n1_
 have BK413 := n2_
 have BK473 := n3_
 have HB := n4_
 clear n0_ n1_ n2_ n3_ n4_
 refine start_ (n := 17) (S := fun w' => w'.cell? ⟨gb473, 0, none⟩ = some (.int .i64 (wrap64 (-a1_4))) ∧ w'.cell? ⟨gb473, 1, none⟩ = some (.int .i64 a1_1) ∧ w'.cell? ⟨gb473, 2, none⟩ = some (.int .i64 (wrap64 (-a1_2))) ∧ w'.cell? ⟨gb473, 3, none⟩ = some (.int .i64 a1_3) ∧ w'.cell? ⟨gb413, 0, none⟩ = some (.slice A1_0 l1_0.length c1_0) ∧ w'.cell? ⟨gb413, 1, none⟩ = some (.int .i64 a1_1) ∧ w'.cell? ⟨gb413, 2, none⟩ = some (.int .i64 a1_2) ∧ w'.cell? ⟨gb413, 3, none⟩ = some (.int .i64 a1_3) ∧ w'.cell? ⟨gb413, 4, none⟩ = some (.int .i64 a1_4) ∧ w'.cell? ⟨gb413, 5, none⟩ = some (.int .i64 a1_5) ∧ w'.cell? ⟨gb413, 6, none⟩ = some (.int .i64 a1_6) ∧ w'.cell? ⟨gb413, 7, none⟩ = some (.int .i64 a1_7) ∧ w'.cell? ⟨gb413, 8, none⟩ = some (.int .i64 a1_8)) (ds := []) #[F,F,F,F,F,F,F,F,F,F,F,F,F,F,F,F,F] (by kernel_rfl) rfl rfl ⟨(blk_cell BK473.out 0).trans rfl, (blk_cell BK473.out 1).trans rfl, (blk_cell BK473.out 2).trans rfl, (blk_cell BK473.out 3).trans rfl, (blk_cell BK413.out 0).trans rfl, (blk_cell BK413.out 1).trans rfl, (blk_cell BK413.out 2).trans rfl, (blk_cell BK413.out 3).trans rfl, (blk_cell BK413.out 4).trans rfl, (blk_cell BK413.out 5).trans rfl, (blk_cell BK413.out 6).trans rfl, (blk_cell BK413.out 7).trans rfl, (blk_cell BK413.out 8).trans rfl⟩ (fun hHeld => ?_); refine with_tabW wigeontop_TopSights.tab45 wigeontop_TopSights.bits45 (fun HT_ HW_ => ?_)
 generalize w149.drew = w150 at HO_30 HO_32 BK413 BK473 HB hHeld ⊢
 refine pure_ (i := 0) (N := some 322) (v := ?_) (a' := ?_) #[T,F,F,F,F,F,F,F,F,F,F,F,F,F,F,F,F] rfl rfl (any_of HT_.out (by kernel_rfl)) (fun _ _ _ h => h) (Or.inl ⟨by rfl, ?_⟩) ?_ ?_
 rotate_left;{
 intro w'
 go_simp
 with_reducible rfl}
 rotate_left;{
 simp only [ap,sA,s0,s1,i64_w,i32_w]
 rfl}
 refine pure_ (i := 1) (N := some 323) (v := ?_) (a' := ?_) #[T,T,F,F,F,F,F,F,F,F,F,F,F,F,F,F,F] rfl rfl (any_of HT_.out (by kernel_rfl)) (fun _ _ _ h => h) (Or.inl ⟨by rfl, ?_⟩) ?_ ?_
 rotate_left;{
 intro w'
 go_simp
 with_reducible rfl}
 rotate_left;{
 simp only [ap,sA,s0,s1,i64_w,i32_w]
 rfl}
 refine pure_ (i := 3) (N := some 325) (v := ?_) (a' := ?_) #[T,T,F,T,F,F,F,F,F,F,F,F,F,F,F,F,F] rfl rfl (any_of HT_.out (by kernel_rfl)) (fun _ _ _ h => h) (Or.inl ⟨by rfl, ?_⟩) ?_ ?_
 rotate_left;{
 intro w'
 go_simp
 with_reducible rfl}
 rotate_left;{
 simp only [ap,sA,s0,s1,i64_w,i32_w]
 rfl}
 refine pure_ (i := 6) (N := some 328) (v := ?_) (a' := ?_) #[T,T,F,T,F,F,T,F,F,F,F,F,F,F,F,F,F] rfl rfl (any_of HT_.out (by kernel_rfl)) (fun _ _ _ h => h) (Or.inl ⟨by rfl, ?_⟩) ?_ ?_
 rotate_left;{
 intro w'
 go_simp
 with_reducible rfl}
 rotate_left;{
 simp only [ap,sA,s0,s1,i64_w,i32_w]
 rfl}
 refine take_ (i := 2) (N := some 324) (v := ?_) (a' := ?_) #[T,T,T,T,F,F,T,F,F,F,F,F,F,F,F,F,F] rfl rfl (take_ofW HT_.out HW_.out (by kernel_rfl)) (fun _ _ _ h => h) (Or.inl ⟨by rfl, ?_⟩) hHeld ?_ ?_
 rotate_left;{
 rintro w' ⟨s0, s1, s2, s3, s4, s5, s6, s7, s8, s9, s10, s11, s12⟩
 go_simp
 with_reducible rfl}
 rotate_left;{
 simp only [ap,sA,s0,s1,i64_w,i32_w]
 rfl}
 refine take_ (i := 4) (N := some 326) (v := ?_) (a' := ?_) #[T,T,T,T,T,F,T,F,F,F,F,F,F,F,F,F,F] rfl rfl (take_ofW HT_.out HW_.out (by kernel_rfl)) (fun _ _ _ h => h) (Or.inl ⟨by rfl, ?_⟩) hHeld ?_ ?_
 rotate_left;{
 rintro w' ⟨s0, s1, s2, s3, s4, s5, s6, s7, s8, s9, s10, s11, s12⟩
 go_simp
 with_reducible rfl}
 rotate_left;{
 simp only [ap,sA,s0,s1,i64_w,i32_w]
 rfl}
 refine take_ (i := 7) (N := some 329) (v := ?_) (a' := ?_) #[T,T,T,T,T,F,T,T,F,F,F,F,F,F,F,F,F] rfl rfl (take_ofW HT_.out HW_.out (by kernel_rfl)) (fun _ _ _ h => h) (Or.inl ⟨by rfl, ?_⟩) hHeld ?_ ?_
 rotate_left;{
 rintro w' ⟨s0, s1, s2, s3, s4, s5, s6, s7, s8, s9, s10, s11, s12⟩
 go_simp
 with_reducible rfl}
 rotate_left;{
 simp only [ap,sA,s0,s1,i64_w,i32_w]
 rfl}
 refine one_ (i := 5) (N := some 327) #[T,T,T,T,T,T,T,T,F,F,F,F,F,F,F,F,F] rfl rfl (one_of HT_.out (by kernel_rfl)) (by decide) (fun K hK => ?_)
 refine goes_ Try.func22 (by kernel_rfl) rfl #[.agg #[.int .i64 a1_5, .int .i64 a1_6]] (by rfl) rfl rfl (by (try simp only [List.map_toArray, List.map_cons, List.map_nil]); first | done | rfl | (simp only [List.length_drop, List.length_take]; rfl)) ?_
 with_reducible refine (wigeonref02_Turned.calls a1_5 a1_6 t474 t475 _ A117.out).mono ?_
 rintro e w151 ⟨rfl, hb⟩
 refine ⟨_, rfl, ?_⟩
 have n0_ := am (Kd.R_below (by (with_reducible repeat first|apply Kd.R_alloc|apply Kd.R_drewN|apply Kd.R_drew);exact HO_30.out) hb)
 have n1_ := am (Kd.R_below (by (with_reducible repeat first|apply Kd.R_alloc|apply Kd.R_drewN|apply Kd.R_drew);exact HO_32.out) hb)
 have n2_ := am (blk_below (by (with_reducible repeat first|refine bN ?_ _|refine bD ?_|refine bA ?_ _);exact BK413.out) hb)
 have n3_ := am (blk_below (by (with_reducible repeat first|refine bN ?_ _|refine bD ?_|refine bA ?_ _);exact BK473.out) hb)
 have n4_ := am (below_step (by repeat first|(with_reducible first|exact HB.out|apply wA|apply wN|apply wD|refine wS ?_ GE413.out|refine wS ?_ GE473.out)|exact HB.out) hb)
 clear HO_30
 clear HO_32
 clear BK413
 clear BK473
 clear HB
 have HO_30 := n0_
 have HO_32 := n1_
 have BK413 := n2_
 have BK473 := n3_
 have HB := n4_
 clear n0_ n1_ n2_ n3_ n4_
 (try clear hb)
 (try clear hb2)
 (try clear hk)
 (try clear hi)
 refine hK.out _ _ ⟨(blk_cell BK473.out 0).trans rfl, (blk_cell BK473.out 1).trans rfl, (blk_cell BK473.out 2).trans rfl, (blk_cell BK473.out 3).trans rfl, (blk_cell BK413.out 0).trans rfl, (blk_cell BK413.out 1).trans rfl, (blk_cell BK413.out 2).trans rfl, (blk_cell BK413.out 3).trans rfl, (blk_cell BK413.out 4).trans rfl, (blk_cell BK413.out 5).trans rfl, (blk_cell BK413.out 6).trans rfl, (blk_cell BK413.out 7).trans rfl, (blk_cell BK413.out 8).trans rfl⟩ (fun hHeld => ?_)
 clear hK K
 refine norm_ (a' := ?_) ?_ ?_
 rotate_left;{
 show Act.put _ (some 327) _ = _
 simp only [ap,sA,s0,s1,i64_w,i32_w]
 rfl}
 refine one_ (i := 8) (N := some 330) #[T,T,T,T,T,T,T,T,T,F,F,F,F,F,F,F,F] rfl rfl (one_of HT_.out (by kernel_rfl)) (by decide) (fun K hK => ?_)
 refine goes_ Try.func22 (by kernel_rfl) rfl #[.agg #[.int .i64 a1_7, .int .i64 a1_8]] (by rfl) rfl rfl (by (try simp only [List.map_toArray, List.map_cons, List.map_nil]); first | done | rfl | (simp only [List.length_drop, List.length_take]; rfl)) ?_
 with_reducible refine (wigeonref02_Turned.calls a1_7 a1_8 t476 t477 _ A118.out).mono ?_
 rintro e w152 ⟨rfl, hb⟩
 refine ⟨_, rfl, ?_⟩
 have n0_ := am (Kd.R_below (by (with_reducible repeat first|apply Kd.R_alloc|apply Kd.R_drewN|apply Kd.R_drew);exact HO_30.out) hb)
 have n1_ := am (Kd.R_below (by (with_reducible repeat first|apply Kd.R_alloc|apply Kd.R_drewN|apply Kd.R_drew);exact HO_32.out) hb)
 have n2_ := am (blk_below (by (with_reducible repeat first|refine bN ?_ _|refine bD ?_|refine bA ?_ _);exact BK413.out) hb)
 have n3_ := am (blk_below (by (with_reducible repeat first|refine bN ?_ _|refine bD ?_|refine bA ?_ _);exact BK473.out) hb)
 have n4_ := am (below_step (by repeat first|(with_reducible first|exact HB.out|apply wA|apply wN|apply wD|refine wS ?_ GE413.out|refine wS ?_ GE473.out)|exact HB.out) hb)
 clear HO_30
 clear HO_32
 clear BK413
 clear BK473
 clear HB
 have HO_30 := n0_
 have HO_32 := n1_
 have BK413 := n2_
 have BK473 := n3_
 have HB := n4_
 clear n0_ n1_ n2_ n3_ n4_
 (try clear hb)
 (try clear hb2)
 (try clear hk)
 (try clear hi)
 obtain ⟨Ao153, co153, eo153⟩ := Kd.R_slice HO_30.out
 (first | subst eo153 | (injection eo153 with f1_ f2_ f3_; have f4_ := f1_.symm; have f5_ := f3_.symm; clear f1_ f2_ f3_; subst f4_; subst f5_))
 obtain ⟨Ao154, co154, eo154⟩ := Kd.R_slice HO_32.out
 (first | subst eo154 | (injection eo154 with f1_ f2_ f3_; have f4_ := f1_.symm; have f5_ := f3_.symm; clear f1_ f2_ f3_; subst f4_; subst f5_))
 refine hK.out _ _ ⟨(blk_cell BK473.out 0).trans rfl, (blk_cell BK473.out 1).trans rfl, (blk_cell BK473.out 2).trans rfl, (blk_cell BK473.out 3).trans rfl, (blk_cell BK413.out 0).trans rfl, (blk_cell BK413.out 1).trans rfl, (blk_cell BK413.out 2).trans rfl, (blk_cell BK413.out 3).trans rfl, (blk_cell BK413.out 4).trans rfl, (blk_cell BK413.out 5).trans rfl, (blk_cell BK413.out 6).trans rfl, (blk_cell BK413.out 7).trans rfl, (blk_cell BK413.out 8).trans rfl⟩ (fun hHeld => ?_)
 clear hK K
 refine norm_ (a' := ?_) ?_ ?_
 rotate_left;{
 show Act.put _ (some 330) _ = _
 simp only [ap,sA,s0,s1,i64_w,i32_w]
 rfl}
 refine one_ (i := 9) (N := some 331) #[T,T,T,T,T,T,T,T,T,T,F,F,F,F,F,F,F] rfl rfl (one_of HT_.out (by kernel_rfl)) (by decide) (fun K hK => ?_)
 refine goes_ Try.func15 (by kernel_rfl) rfl #[.slice Ao153 t463.length co153, .slice Ao154 x32_6.length co154, .agg #[.int .i64 (wrap64 (-a1_4)), .int .i64 a1_1, .int .i64 (wrap64 (-a1_2)), .int .i64 a1_3], .agg #[.int .i64 t474, .int .i64 t475], .agg #[.int .i64 t476, .int .i64 t477]] (by rfl) rfl rfl (by (try simp only [List.map_toArray, List.map_cons, List.map_nil]); first | done | rfl | (simp only [List.length_drop, List.length_take]; rfl)) ?_
 with_reducible refine (screen_Steps.calls k6 _ _ t463 _ _ x32_6 (wrap64 (-a1_4)) a1_1 (wrap64 (-a1_2)) a1_3 t474 t475 t476 t477 t478 t479 t480 _ ?side1 ?side2 ?side3 ?side4 A119.out).mono ?_
 (case side1 => repeat (first | exact (Kd.R_reads' HO_30.out).2.2 | (with_reducible refine Kd.C_alloc ?_ _) | (with_reducible refine Kd.C_drewN ?_ _) | (with_reducible refine Kd.C_drew ?_)))
 (case side2 => exact (Kd.R_reads' HO_30.out).2.1)
 (case side3 => repeat (first | exact (Kd.R_reads' HO_32.out).2.2 | (with_reducible refine Kd.C_alloc ?_ _) | (with_reducible refine Kd.C_drewN ?_ _) | (with_reducible refine Kd.C_drew ?_)))
 (case side4 => exact (Kd.R_reads' HO_32.out).2.1)
 rintro e w155 ⟨rfl, hb⟩
 refine ⟨_, rfl, ?_⟩
 have n0_ := am (Kd.R_below (by (with_reducible repeat first|apply Kd.R_alloc|apply Kd.R_drewN|apply Kd.R_drew);exact HO_30.out) hb)
 have n1_ := am (Kd.R_below (by (with_reducible repeat first|apply Kd.R_alloc|apply Kd.R_drewN|apply Kd.R_drew);exact HO_32.out) hb)
 have n2_ := am (blk_below (by (with_reducible repeat first|refine bN ?_ _|refine bD ?_|refine bA ?_ _);exact BK413.out) hb)
 have n3_ := am (blk_below (by (with_reducible repeat first|refine bN ?_ _|refine bD ?_|refine bA ?_ _);exact BK473.out) hb)
 have n4_ := am (below_step (by repeat first|(with_reducible first|exact HB.out|apply wA|apply wN|apply wD|refine wS ?_ GE413.out|refine wS ?_ GE473.out)|exact HB.out) hb)
 clear HO_30
 clear HO_32
 clear BK413
 clear BK473
 clear HB
 have HO_30 := n0_
 have HO_32 := n1_
 have BK413 := n2_
 have BK473 := n3_
 have HB := n4_
 clear n0_ n1_ n2_ n3_ n4_
 (try clear hb)
 (try clear hb2)
 (try clear hk)
 (try clear hi)
 refine hK.out _ _ ⟨(blk_cell BK473.out 0).trans rfl, (blk_cell BK473.out 1).trans rfl, (blk_cell BK473.out 2).trans rfl, (blk_cell BK473.out 3).trans rfl, (blk_cell BK413.out 0).trans rfl, (blk_cell BK413.out 1).trans rfl, (blk_cell BK413.out 2).trans rfl, (blk_cell BK413.out 3).trans rfl, (blk_cell BK413.out 4).trans rfl, (blk_cell BK413.out 5).trans rfl, (blk_cell BK413.out 6).trans rfl, (blk_cell BK413.out 7).trans rfl, (blk_cell BK413.out 8).trans rfl⟩ (fun hHeld => ?_)
 clear hK K
 refine norm_ (a' := ?_) ?_ ?_
 rotate_left;{
 show Act.put _ (some 331) _ = _
 simp only [ap,sA,s0,s1,i64_w,i32_w]
 rfl}
 refine pure_ (i := 10) (N := some 321) (v := ?_) (a' := ?_) #[T,T,T,T,T,T,T,T,T,T,T,F,F,F,F,F,F] rfl rfl (any_of HT_.out (by kernel_rfl)) (fun _ _ _ h => h) (Or.inl ⟨by rfl, ?_⟩) ?_ ?_
 rotate_left;{
 intro w'
 go_simp
 with_reducible rfl}
 rotate_left;{
 simp only [ap,sA,s0,s1,i64_w,i32_w]
 rfl}
 refine pure_ (i := 11) (N := some 332) (v := ?_) (a' := ?_) #[T,T,T,T,T,T,T,T,T,T,T,T,F,F,F,F,F] rfl rfl (any_of HT_.out (by kernel_rfl)) (fun _ _ _ h => h) (Or.inl ⟨by rfl, ?_⟩) ?_ ?_
 rotate_left;{
 intro w'
 go_simp
 with_reducible rfl}
 rotate_left;{
 simp only [ap,sA,s0,s1,i64_w,i32_w]
 rfl}
 refine pure_ (i := 12) (N := some 333) (v := ?_) (a' := ?_) #[T,T,T,T,T,T,T,T,T,T,T,T,T,F,F,F,F] rfl rfl (any_of HT_.out (by kernel_rfl)) (fun _ _ _ h => h) (Or.inl ⟨by rfl, ?_⟩) ?_ ?_
 rotate_left;{
 intro w'
 go_simp
 with_reducible rfl}
 rotate_left;{
 simp only [ap,sA,s0,s1,i64_w,i32_w]
 rfl}
 refine pure_ (i := 13) (N := some 334) (v := ?_) (a' := ?_) #[T,T,T,T,T,T,T,T,T,T,T,T,T,T,F,F,F] rfl rfl (any_of HT_.out (by kernel_rfl)) (fun _ _ _ h => h) (Or.inl ⟨by rfl, ?_⟩) ?_ ?_
 rotate_left;{
 intro w'
 go_simp
 with_reducible rfl}
 rotate_left;{
 simp only [ap,sA,s0,s1,i64_w,i32_w]
 rfl}
 refine pure_ (i := 14) (N := some 35) (v := ?_) (a' := ?_) #[T,T,T,T,T,T,T,T,T,T,T,T,T,T,T,F,F] rfl rfl (any_of HT_.out (by kernel_rfl)) (fun _ _ _ h => h) (Or.inl ⟨by rfl, ?_⟩) ?_ ?_
 rotate_left;{
 intro w'
 go_simp
 with_reducible rfl}
 rotate_left;{
 simp only [ap,sA,s0,s1,i64_w,i32_w]
 rfl}
 refine pure_ (i := 15) (N := some 36) (v := ?_) (a' := ?_) #[T,T,T,T,T,T,T,T,T,T,T,T,T,T,T,T,F] rfl rfl (any_of HT_.out (by kernel_rfl)) (fun _ _ _ h => h) (Or.inl ⟨by rfl, ?_⟩) ?_ ?_
 rotate_left;{
 intro w'
 go_simp
 with_reducible rfl}
 rotate_left;{
 simp only [ap,sA,s0,s1,i64_w,i32_w]
 rfl}
 refine pure_ (i := 16) (N := some 37) (v := ?_) (a' := ?_) #[T,T,T,T,T,T,T,T,T,T,T,T,T,T,T,T,T] rfl rfl (any_of HT_.out (by kernel_rfl)) (fun _ _ _ h => h) (Or.inl ⟨by rfl, ?_⟩) ?_ ?_
 rotate_left;{
 intro w'
 go_simp
 with_reducible rfl}
 rotate_left;{
 simp only [ap,sA,s0,s1,i64_w,i32_w]
 rfl}
 refine done_ (done_of HT_.out (by kernel_rfl)) ?_
 try go_wp2
 go_ret
 exact ⟨by first | rfl | (simp [errW_none, errW_some] <;> rfl) | (simp [*, errW_none, errW_some] <;> rfl), by repeat (first | (with_reducible first | exact HB.out | apply below_alloc | apply pw_below_drewN | apply below_drew1 | refine below_set ?_ GE413.out | refine below_set ?_ GE473.out) | exact HB.out)⟩}
  rw [if_neg c120] at H
  have c120b0 : (t464 == 0) = false := beq_eq_false_iff_ne.mpr c120
  have c120b1 : (t464 != 0) = true := bne_iff_ne.mpr c120
  obtain rfl := Option.some.inj H
  have hcz156_0 : wr.cell? ⟨gb413, 0, none⟩ = some (.slice A1_0 l1_0.length c1_0) := (blk_cell BK413.out 0).trans rfl
  have hcz156_1 : wr.cell? ⟨gb413, 1, none⟩ = some (.int .i64 a1_1) := (blk_cell BK413.out 1).trans rfl
  have hcz156_2 : wr.cell? ⟨gb413, 2, none⟩ = some (.int .i64 a1_2) := (blk_cell BK413.out 2).trans rfl
  have hcz156_3 : wr.cell? ⟨gb413, 3, none⟩ = some (.int .i64 a1_3) := (blk_cell BK413.out 3).trans rfl
  have hcz156_4 : wr.cell? ⟨gb413, 4, none⟩ = some (.int .i64 a1_4) := (blk_cell BK413.out 4).trans rfl
  have hcz156_5 : wr.cell? ⟨gb413, 5, none⟩ = some (.int .i64 a1_5) := (blk_cell BK413.out 5).trans rfl
  have hcz156_6 : wr.cell? ⟨gb413, 6, none⟩ = some (.int .i64 a1_6) := (blk_cell BK413.out 6).trans rfl
  have hcz156_7 : wr.cell? ⟨gb413, 7, none⟩ = some (.int .i64 a1_7) := (blk_cell BK413.out 7).trans rfl
  have hcz156_8 : wr.cell? ⟨gb413, 8, none⟩ = some (.int .i64 a1_8) := (blk_cell BK413.out 8).trans rfl
  have hfz156_0 := blk_frozen BK413.out 0
  have hfz156_1 := blk_frozen BK413.out 1
  have hfz156_2 := blk_frozen BK413.out 2
  have hfz156_3 := blk_frozen BK413.out 3
  have hfz156_4 := blk_frozen BK413.out 4
  have hfz156_5 := blk_frozen BK413.out 5
  have hfz156_6 := blk_frozen BK413.out 6
  have hfz156_7 := blk_frozen BK413.out 7
  have hfz156_8 := blk_frozen BK413.out 8
  try go_wp2_with (first | ((with_reducible refine gate_dst (N := 34) rfl ?_); (try (refine gate_guard (by rfl) ?_; dsimp only)); refine box_event ?hg (N := 34) ?hd (cs := #[.int .i64 0, .int .i64 0, .int .i64 0, .int .i64 0]) (t := 27) ?hr ?_; (case hd => rfl); (case hg => rfl); (case hr => first | (go_simp; done) | (go_simp; rfl)); intro gb473 hg w157 hbox hb; have n0_ := am (Kd.R_below (by (with_reducible repeat first|apply Kd.R_alloc|apply Kd.R_drewN|apply Kd.R_drew);exact HO_30.out) hb); have n1_ := am (Kd.R_below (by (with_reducible repeat first|apply Kd.R_alloc|apply Kd.R_drewN|apply Kd.R_drew);exact HO_32.out) hb); have n2_ := am (blk_below (by (with_reducible repeat first|refine bN ?_ _|refine bD ?_|refine bA ?_ _);exact BK413.out) hb); have n3_ := am (below_step (by repeat first|(with_reducible first|exact HB.out|apply wA|apply wN|apply wD|refine wS ?_ GE413.out)|exact HB.out) hb); have n4_ := am (hbox); have n5_ := am ((by rw [hg]; exact (below_size (by repeat first|(with_reducible first|exact HB.out|apply wA|apply wN|apply wD|refine wS ?_ GE413.out)|exact HB.out)) : w.heap.size ≤ gb473)); have n6_ := am ((by rw [hg]; exact (below_size (by repeat first|(with_reducible first|exact HB.out|apply wA|apply wN|apply wD|refine wS ?_ GE413.out)|exact HB.out)) : w.heap.size ≤ gb473)); have n7_ := am ((by rw [hg]; exact Nat.ne_of_lt (blk_lt (by (with_reducible repeat first|refine bN ?_ _|refine bD ?_|refine bA ?_ _);exact BK413.out)) : gb413 ≠ gb473)); have n8_ := am ((by rw [hg]; exact Nat.ne_of_gt (blk_lt (by (with_reducible repeat first|refine bN ?_ _|refine bD ?_|refine bA ?_ _);exact BK413.out)) : gb473 ≠ gb413)); clear HO_30; clear HO_32; clear BK413; clear HB; have HO_30 := n0_; have HO_32 := n1_; have BK413 := n2_; have HB := n3_; have BK473 := n4_; have GW473 := n5_; have GE473 := n6_; have NB413_473 := n7_; have NB473_413 := n8_; clear n0_ n1_ n2_ n3_ n4_ n5_ n6_ n7_ n8_; clear hb hbox hg; have hnb158 := NB473_413.out; have hnc158 := NB413_473.out; have hcz159_0 : w157.cell? ⟨gb473, 0, none⟩ = some (.int .i64 0) := (blk_cell BK473.out 0).trans rfl; have hcz159_1 : w157.cell? ⟨gb473, 1, none⟩ = some (.int .i64 0) := (blk_cell BK473.out 1).trans rfl; have hcz159_2 : w157.cell? ⟨gb473, 2, none⟩ = some (.int .i64 0) := (blk_cell BK473.out 2).trans rfl; have hcz159_3 : w157.cell? ⟨gb473, 3, none⟩ = some (.int .i64 0) := (blk_cell BK473.out 3).trans rfl; have hfz159_0 := blk_frozen BK473.out 0; have hfz159_1 := blk_frozen BK473.out 1; have hfz159_2 := blk_frozen BK473.out 2; have hfz159_3 := blk_frozen BK473.out 3))
  have n0_ : Aside0 (Kd.R k48 48 ((((w157.setCell ⟨gb473, 0, none⟩ (.int .i64 (wrap64 (-a1_4)))).setCell ⟨gb473, 1, none⟩ (.int .i64 a1_1)).setCell ⟨gb473, 2, none⟩ (.int .i64 (wrap64 (-a1_2)))).setCell ⟨gb473, 3, none⟩ (.int .i64 a1_3)) w.heap.size (fun _ => True) v465 t463) := ⟨by (with_reducible repeat first|apply Kd.R_alloc|apply Kd.R_drewN|apply Kd.R_drew);exact Kd.R_mono (Kd.R_far (p := ⟨gb473, 3, none⟩) (Kd.R_far (p := ⟨gb473, 2, none⟩) (Kd.R_far (p := ⟨gb473, 1, none⟩) (Kd.R_far (p := ⟨gb473, 0, none⟩) (Kd.R_types HO_30.out BK473.out (by decide)) (fun _ hk => hk.2) (.int .i64 (wrap64 (-a1_4)))) (fun _ hk => hk.2) (.int .i64 a1_1)) (fun _ hk => hk.2) (.int .i64 (wrap64 (-a1_2)))) (fun _ hk => hk.2) (.int .i64 a1_3)) (fun _ hk => trivial)⟩
  have n1_ : Aside0 (Kd.R k25 25 ((((w157.setCell ⟨gb473, 0, none⟩ (.int .i64 (wrap64 (-a1_4)))).setCell ⟨gb473, 1, none⟩ (.int .i64 a1_1)).setCell ⟨gb473, 2, none⟩ (.int .i64 (wrap64 (-a1_2)))).setCell ⟨gb473, 3, none⟩ (.int .i64 a1_3)) w.heap.size (fun _ => True) u32 x32_6) := ⟨by (with_reducible repeat first|apply Kd.R_alloc|apply Kd.R_drewN|apply Kd.R_drew);exact Kd.R_mono (Kd.R_far (p := ⟨gb473, 3, none⟩) (Kd.R_far (p := ⟨gb473, 2, none⟩) (Kd.R_far (p := ⟨gb473, 1, none⟩) (Kd.R_far (p := ⟨gb473, 0, none⟩) (Kd.R_types HO_32.out BK473.out (by decide)) (fun _ hk => hk.2) (.int .i64 (wrap64 (-a1_4)))) (fun _ hk => hk.2) (.int .i64 a1_1)) (fun _ hk => hk.2) (.int .i64 (wrap64 (-a1_2)))) (fun _ hk => hk.2) (.int .i64 a1_3)) (fun _ hk => trivial)⟩
  have n2_ : Aside0 (((((w157.setCell ⟨gb473, 0, none⟩ (.int .i64 (wrap64 (-a1_4)))).setCell ⟨gb473, 1, none⟩ (.int .i64 a1_1)).setCell ⟨gb473, 2, none⟩ (.int .i64 (wrap64 (-a1_2)))).setCell ⟨gb473, 3, none⟩ (.int .i64 a1_3)).heap[gb413]? = some (.cells #[.slice A1_0 l1_0.length c1_0, .int .i64 a1_1, .int .i64 a1_2, .int .i64 a1_3, .int .i64 a1_4, .int .i64 a1_5, .int .i64 a1_6, .int .i64 a1_7, .int .i64 a1_8] 29 (0, 0))) := ⟨by (with_reducible repeat first|refine bN ?_ _|refine bD ?_|refine bA ?_ _);refine blk_far ?_ NB413_473.out _; (with_reducible repeat first|refine bN ?_ _|refine bD ?_|refine bA ?_ _);refine blk_far ?_ NB413_473.out _; (with_reducible repeat first|refine bN ?_ _|refine bD ?_|refine bA ?_ _);refine blk_far ?_ NB413_473.out _; (with_reducible repeat first|refine bN ?_ _|refine bD ?_|refine bA ?_ _);refine blk_far ?_ NB413_473.out _; (with_reducible repeat first|refine bN ?_ _|refine bD ?_|refine bA ?_ _);exact BK413.out⟩
  have n3_ : Aside0 (((((w157.setCell ⟨gb473, 0, none⟩ (.int .i64 (wrap64 (-a1_4)))).setCell ⟨gb473, 1, none⟩ (.int .i64 a1_1)).setCell ⟨gb473, 2, none⟩ (.int .i64 (wrap64 (-a1_2)))).setCell ⟨gb473, 3, none⟩ (.int .i64 a1_3)).heap[gb473]? = some (.cells #[.int .i64 (wrap64 (-a1_4)), .int .i64 a1_1, .int .i64 (wrap64 (-a1_2)), .int .i64 a1_3] 27 (0, 0))) := ⟨by (with_reducible repeat first|refine bN ?_ _|refine bD ?_|refine bA ?_ _);refine blk_put (cs := #[.int .i64 (wrap64 (-a1_4)), .int .i64 a1_1, .int .i64 (wrap64 (-a1_2)), .int .i64 0]) ?_ 3 _ rfl; (with_reducible repeat first|refine bN ?_ _|refine bD ?_|refine bA ?_ _);refine blk_put (cs := #[.int .i64 (wrap64 (-a1_4)), .int .i64 a1_1, .int .i64 0, .int .i64 0]) ?_ 2 _ rfl; (with_reducible repeat first|refine bN ?_ _|refine bD ?_|refine bA ?_ _);refine blk_put (cs := #[.int .i64 (wrap64 (-a1_4)), .int .i64 0, .int .i64 0, .int .i64 0]) ?_ 1 _ rfl; (with_reducible repeat first|refine bN ?_ _|refine bD ?_|refine bA ?_ _);refine blk_put (cs := #[.int .i64 0, .int .i64 0, .int .i64 0, .int .i64 0]) ?_ 0 _ rfl; (with_reducible repeat first|refine bN ?_ _|refine bD ?_|refine bA ?_ _);exact BK473.out⟩
  have n4_ : Aside0 (Below w.heap.size w ((((w157.setCell ⟨gb473, 0, none⟩ (.int .i64 (wrap64 (-a1_4)))).setCell ⟨gb473, 1, none⟩ (.int .i64 a1_1)).setCell ⟨gb473, 2, none⟩ (.int .i64 (wrap64 (-a1_2)))).setCell ⟨gb473, 3, none⟩ (.int .i64 a1_3))) := ⟨by repeat (first | (with_reducible first | exact HB.out | apply below_alloc | apply pw_below_drewN | apply below_drew1 | refine below_set ?_ GE413.out | refine below_set ?_ GE473.out) | exact HB.out)⟩
  (try clear HO_30)
  (try clear HO_32)
  (try clear BK413)
  (try clear BK473)
  (try clear HB)
  generalize ((((w157.setCell ⟨gb473, 0, none⟩ (.int .i64 (wrap64 (-a1_4)))).setCell ⟨gb473, 1, none⟩ (.int .i64 a1_1)).setCell ⟨gb473, 2, none⟩ (.int .i64 (wrap64 (-a1_2)))).setCell ⟨gb473, 3, none⟩ (.int .i64 a1_3)) = w160 at n0_ n1_ n2_ n3_ n4_ ⊢
  have HO_30 := n0_
  have HO_32 := n1_
  have BK413 := n2_
  have BK473 := n3_
  have HB := n4_
  clear n0_ n1_ n2_ n3_ n4_
  have n0_ := am (Kd.R_drew HO_30.out)
  have n1_ := am (Kd.R_drew HO_32.out)
  have n2_ := am (blk_drew BK413.out)
  have n3_ := am (blk_drew BK473.out)
  have n4_ := am (below_drew1 HB.out)
  clear HO_30
  clear HO_32
  clear BK413
  clear BK473
  clear HB
  have HO_30 := n0_
  have HO_32 := n1_
  have BK413 := n2_
  have BK473 := n3_
  have HB := n4_
  clear n0_ n1_ n2_ n3_ n4_
  refine start_ (n := 17) (S := fun w' => w'.cell? ⟨gb473, 0, none⟩ = some (.int .i64 (wrap64 (-a1_4))) ∧ w'.cell? ⟨gb473, 1, none⟩ = some (.int .i64 a1_1) ∧ w'.cell? ⟨gb473, 2, none⟩ = some (.int .i64 (wrap64 (-a1_2))) ∧ w'.cell? ⟨gb473, 3, none⟩ = some (.int .i64 a1_3) ∧ w'.cell? ⟨gb413, 0, none⟩ = some (.slice A1_0 l1_0.length c1_0) ∧ w'.cell? ⟨gb413, 1, none⟩ = some (.int .i64 a1_1) ∧ w'.cell? ⟨gb413, 2, none⟩ = some (.int .i64 a1_2) ∧ w'.cell? ⟨gb413, 3, none⟩ = some (.int .i64 a1_3) ∧ w'.cell? ⟨gb413, 4, none⟩ = some (.int .i64 a1_4) ∧ w'.cell? ⟨gb413, 5, none⟩ = some (.int .i64 a1_5) ∧ w'.cell? ⟨gb413, 6, none⟩ = some (.int .i64 a1_6) ∧ w'.cell? ⟨gb413, 7, none⟩ = some (.int .i64 a1_7) ∧ w'.cell? ⟨gb413, 8, none⟩ = some (.int .i64 a1_8)) (ds := []) #[F,F,F,F,F,F,F,F,F,F,F,F,F,F,F,F,F] (by kernel_rfl) rfl rfl ⟨(blk_cell BK473.out 0).trans rfl, (blk_cell BK473.out 1).trans rfl, (blk_cell BK473.out 2).trans rfl, (blk_cell BK473.out 3).trans rfl, (blk_cell BK413.out 0).trans rfl, (blk_cell BK413.out 1).trans rfl, (blk_cell BK413.out 2).trans rfl, (blk_cell BK413.out 3).trans rfl, (blk_cell BK413.out 4).trans rfl, (blk_cell BK413.out 5).trans rfl, (blk_cell BK413.out 6).trans rfl, (blk_cell BK413.out 7).trans rfl, (blk_cell BK413.out 8).trans rfl⟩ (fun hHeld => ?_); refine with_tabW wigeontop_TopSights.tab45 wigeontop_TopSights.bits45 (fun HT_ HW_ => ?_)
  generalize w160.drew = w161 at HO_30 HO_32 BK413 BK473 HB hHeld ⊢
  refine pure_ (i := 0) (N := some 322) (v := ?_) (a' := ?_) #[T,F,F,F,F,F,F,F,F,F,F,F,F,F,F,F,F] rfl rfl (any_of HT_.out (by kernel_rfl)) (fun _ _ _ h => h) (Or.inl ⟨by rfl, ?_⟩) ?_ ?_
  rotate_left;{
 intro w'
 go_simp
 with_reducible rfl}
  rotate_left;{
 simp only [ap,sA,s0,s1,i64_w,i32_w]
 rfl}
  refine pure_ (i := 1) (N := some 323) (v := ?_) (a' := ?_) #[T,T,F,F,F,F,F,F,F,F,F,F,F,F,F,F,F] rfl rfl (any_of HT_.out (by kernel_rfl)) (fun _ _ _ h => h) (Or.inl ⟨by rfl, ?_⟩) ?_ ?_
  rotate_left;{
 intro w'
 go_simp
 with_reducible rfl}
  rotate_left;{
 simp only [ap,sA,s0,s1,i64_w,i32_w]
 rfl}
  refine pure_ (i := 3) (N := some 325) (v := ?_) (a' := ?_) #[T,T,F,T,F,F,F,F,F,F,F,F,F,F,F,F,F] rfl rfl (any_of HT_.out (by kernel_rfl)) (fun _ _ _ h => h) (Or.inl ⟨by rfl, ?_⟩) ?_ ?_
  rotate_left;{
 intro w'
 go_simp
 with_reducible rfl}
  rotate_left;{
 simp only [ap,sA,s0,s1,i64_w,i32_w]
 rfl}
  refine pure_ (i := 6) (N := some 328) (v := ?_) (a' := ?_) #[T,T,F,T,F,F,T,F,F,F,F,F,F,F,F,F,F] rfl rfl (any_of HT_.out (by kernel_rfl)) (fun _ _ _ h => h) (Or.inl ⟨by rfl, ?_⟩) ?_ ?_
  rotate_left;{
 intro w'
 go_simp
 with_reducible rfl}
  rotate_left;{
 simp only [ap,sA,s0,s1,i64_w,i32_w]
 rfl}
  refine take_ (i := 2) (N := some 324) (v := ?_) (a' := ?_) #[T,T,T,T,F,F,T,F,F,F,F,F,F,F,F,F,F] rfl rfl (take_ofW HT_.out HW_.out (by kernel_rfl)) (fun _ _ _ h => h) (Or.inl ⟨by rfl, ?_⟩) hHeld ?_ ?_
  rotate_left;{
 rintro w' ⟨s0, s1, s2, s3, s4, s5, s6, s7, s8, s9, s10, s11, s12⟩
 go_simp
 with_reducible rfl}
  rotate_left;{
 simp only [ap,sA,s0,s1,i64_w,i32_w]
 rfl}
  refine take_ (i := 4) (N := some 326) (v := ?_) (a' := ?_) #[T,T,T,T,T,F,T,F,F,F,F,F,F,F,F,F,F] rfl rfl (take_ofW HT_.out HW_.out (by kernel_rfl)) (fun _ _ _ h => h) (Or.inl ⟨by rfl, ?_⟩) hHeld ?_ ?_
  rotate_left;{
 rintro w' ⟨s0, s1, s2, s3, s4, s5, s6, s7, s8, s9, s10, s11, s12⟩
 go_simp
 with_reducible rfl}
  rotate_left;{
 simp only [ap,sA,s0,s1,i64_w,i32_w]
 rfl}
  refine take_ (i := 7) (N := some 329) (v := ?_) (a' := ?_) #[T,T,T,T,T,F,T,T,F,F,F,F,F,F,F,F,F] rfl rfl (take_ofW HT_.out HW_.out (by kernel_rfl)) (fun _ _ _ h => h) (Or.inl ⟨by rfl, ?_⟩) hHeld ?_ ?_
  rotate_left;{
 rintro w' ⟨s0, s1, s2, s3, s4, s5, s6, s7, s8, s9, s10, s11, s12⟩
 go_simp
 with_reducible rfl}
  rotate_left;{
 simp only [ap,sA,s0,s1,i64_w,i32_w]
 rfl}
  refine one_ (i := 5) (N := some 327) #[T,T,T,T,T,T,T,T,F,F,F,F,F,F,F,F,F] rfl rfl (one_of HT_.out (by kernel_rfl)) (by decide) (fun K hK => ?_)
  refine goes_ Try.func22 (by kernel_rfl) rfl #[.agg #[.int .i64 a1_5, .int .i64 a1_6]] (by rfl) rfl rfl (by (try simp only [List.map_toArray, List.map_cons, List.map_nil]); first | done | rfl | (simp only [List.length_drop, List.length_take]; rfl)) ?_
  with_reducible refine (wigeonref02_Turned.calls a1_5 a1_6 t474 t475 _ A117.out).mono ?_
  rintro e w162 ⟨rfl, hb⟩
  refine ⟨_, rfl, ?_⟩
  have n0_ := am (Kd.R_below (by (with_reducible repeat first|apply Kd.R_alloc|apply Kd.R_drewN|apply Kd.R_drew);exact HO_30.out) hb)
  have n1_ := am (Kd.R_below (by (with_reducible repeat first|apply Kd.R_alloc|apply Kd.R_drewN|apply Kd.R_drew);exact HO_32.out) hb)
  have n2_ := am (blk_below (by (with_reducible repeat first|refine bN ?_ _|refine bD ?_|refine bA ?_ _);exact BK413.out) hb)
  have n3_ := am (blk_below (by (with_reducible repeat first|refine bN ?_ _|refine bD ?_|refine bA ?_ _);exact BK473.out) hb)
  have n4_ := am (below_step (by repeat first|(with_reducible first|exact HB.out|apply wA|apply wN|apply wD|refine wS ?_ GE413.out|refine wS ?_ GE473.out)|exact HB.out) hb)
  clear HO_30
  clear HO_32
  clear BK413
  clear BK473
  clear HB
  have HO_30 := n0_
  have HO_32 := n1_
  have BK413 := n2_
  have BK473 := n3_
  have HB := n4_
  clear n0_ n1_ n2_ n3_ n4_
  (try clear hb)
  (try clear hb2)
  (try clear hk)
  (try clear hi)
  refine hK.out _ _ ⟨(blk_cell BK473.out 0).trans rfl, (blk_cell BK473.out 1).trans rfl, (blk_cell BK473.out 2).trans rfl, (blk_cell BK473.out 3).trans rfl, (blk_cell BK413.out 0).trans rfl, (blk_cell BK413.out 1).trans rfl, (blk_cell BK413.out 2).trans rfl, (blk_cell BK413.out 3).trans rfl, (blk_cell BK413.out 4).trans rfl, (blk_cell BK413.out 5).trans rfl, (blk_cell BK413.out 6).trans rfl, (blk_cell BK413.out 7).trans rfl, (blk_cell BK413.out 8).trans rfl⟩ (fun hHeld => ?_)
  clear hK K
  refine norm_ (a' := ?_) ?_ ?_
  rotate_left;{
 show Act.put _ (some 327) _ = _
 simp only [ap,sA,s0,s1,i64_w,i32_w]
 rfl}
  refine one_ (i := 8) (N := some 330) #[T,T,T,T,T,T,T,T,T,F,F,F,F,F,F,F,F] rfl rfl (one_of HT_.out (by kernel_rfl)) (by decide) (fun K hK => ?_)
  refine goes_ Try.func22 (by kernel_rfl) rfl #[.agg #[.int .i64 a1_7, .int .i64 a1_8]] (by rfl) rfl rfl (by (try simp only [List.map_toArray, List.map_cons, List.map_nil]); first | done | rfl | (simp only [List.length_drop, List.length_take]; rfl)) ?_
  with_reducible refine (wigeonref02_Turned.calls a1_7 a1_8 t476 t477 _ A118.out).mono ?_
  rintro e w163 ⟨rfl, hb⟩
  refine ⟨_, rfl, ?_⟩
  have n0_ := am (Kd.R_below (by (with_reducible repeat first|apply Kd.R_alloc|apply Kd.R_drewN|apply Kd.R_drew);exact HO_30.out) hb)
  have n1_ := am (Kd.R_below (by (with_reducible repeat first|apply Kd.R_alloc|apply Kd.R_drewN|apply Kd.R_drew);exact HO_32.out) hb)
  have n2_ := am (blk_below (by (with_reducible repeat first|refine bN ?_ _|refine bD ?_|refine bA ?_ _);exact BK413.out) hb)
  have n3_ := am (blk_below (by (with_reducible repeat first|refine bN ?_ _|refine bD ?_|refine bA ?_ _);exact BK473.out) hb)
  have n4_ := am (below_step (by repeat first|(with_reducible first|exact HB.out|apply wA|apply wN|apply wD|refine wS ?_ GE413.out|refine wS ?_ GE473.out)|exact HB.out) hb)
  clear HO_30
  clear HO_32
  clear BK413
  clear BK473
  clear HB
  have HO_30 := n0_
  have HO_32 := n1_
  have BK413 := n2_
  have BK473 := n3_
  have HB := n4_
  clear n0_ n1_ n2_ n3_ n4_
  (try clear hb)
  (try clear hb2)
  (try clear hk)
  (try clear hi)
  obtain ⟨Ao164, co164, eo164⟩ := Kd.R_slice HO_30.out
  (first | subst eo164 | (injection eo164 with f1_ f2_ f3_; have f4_ := f1_.symm; have f5_ := f3_.symm; clear f1_ f2_ f3_; subst f4_; subst f5_))
  obtain ⟨Ao165, co165, eo165⟩ := Kd.R_slice HO_32.out
  (first | subst eo165 | (injection eo165 with f1_ f2_ f3_; have f4_ := f1_.symm; have f5_ := f3_.symm; clear f1_ f2_ f3_; subst f4_; subst f5_))
  refine hK.out _ _ ⟨(blk_cell BK473.out 0).trans rfl, (blk_cell BK473.out 1).trans rfl, (blk_cell BK473.out 2).trans rfl, (blk_cell BK473.out 3).trans rfl, (blk_cell BK413.out 0).trans rfl, (blk_cell BK413.out 1).trans rfl, (blk_cell BK413.out 2).trans rfl, (blk_cell BK413.out 3).trans rfl, (blk_cell BK413.out 4).trans rfl, (blk_cell BK413.out 5).trans rfl, (blk_cell BK413.out 6).trans rfl, (blk_cell BK413.out 7).trans rfl, (blk_cell BK413.out 8).trans rfl⟩ (fun hHeld => ?_)
  clear hK K
  refine norm_ (a' := ?_) ?_ ?_
  rotate_left;{
 show Act.put _ (some 330) _ = _
 simp only [ap,sA,s0,s1,i64_w,i32_w]
 rfl}
  refine one_ (i := 9) (N := some 331) #[T,T,T,T,T,T,T,T,T,T,F,F,F,F,F,F,F] rfl rfl (one_of HT_.out (by kernel_rfl)) (by decide) (fun K hK => ?_)
  refine goes_ Try.func15 (by kernel_rfl) rfl #[.slice Ao164 t463.length co164, .slice Ao165 x32_6.length co165, .agg #[.int .i64 (wrap64 (-a1_4)), .int .i64 a1_1, .int .i64 (wrap64 (-a1_2)), .int .i64 a1_3], .agg #[.int .i64 t474, .int .i64 t475], .agg #[.int .i64 t476, .int .i64 t477]] (by rfl) rfl rfl (by (try simp only [List.map_toArray, List.map_cons, List.map_nil]); first | done | rfl | (simp only [List.length_drop, List.length_take]; rfl)) ?_
  with_reducible refine (screen_Steps.calls k6 _ _ t463 _ _ x32_6 (wrap64 (-a1_4)) a1_1 (wrap64 (-a1_2)) a1_3 t474 t475 t476 t477 t478 t479 t480 _ ?side1 ?side2 ?side3 ?side4 A119.out).mono ?_
  (case side1 => repeat (first | exact (Kd.R_reads' HO_30.out).2.2 | (with_reducible refine Kd.C_alloc ?_ _) | (with_reducible refine Kd.C_drewN ?_ _) | (with_reducible refine Kd.C_drew ?_)))
  (case side2 => exact (Kd.R_reads' HO_30.out).2.1)
  (case side3 => repeat (first | exact (Kd.R_reads' HO_32.out).2.2 | (with_reducible refine Kd.C_alloc ?_ _) | (with_reducible refine Kd.C_drewN ?_ _) | (with_reducible refine Kd.C_drew ?_)))
  (case side4 => exact (Kd.R_reads' HO_32.out).2.1)
  rintro e w166 ⟨rfl, hb⟩
  refine ⟨_, rfl, ?_⟩
  have n0_ := am (Kd.R_below (by (with_reducible repeat first|apply Kd.R_alloc|apply Kd.R_drewN|apply Kd.R_drew);exact HO_30.out) hb)
  have n1_ := am (Kd.R_below (by (with_reducible repeat first|apply Kd.R_alloc|apply Kd.R_drewN|apply Kd.R_drew);exact HO_32.out) hb)
  have n2_ := am (blk_below (by (with_reducible repeat first|refine bN ?_ _|refine bD ?_|refine bA ?_ _);exact BK413.out) hb)
  have n3_ := am (blk_below (by (with_reducible repeat first|refine bN ?_ _|refine bD ?_|refine bA ?_ _);exact BK473.out) hb)
  have n4_ := am (below_step (by repeat first|(with_reducible first|exact HB.out|apply wA|apply wN|apply wD|refine wS ?_ GE413.out|refine wS ?_ GE473.out)|exact HB.out) hb)
  clear HO_30
  clear HO_32
  clear BK413
  clear BK473
  clear HB
  have HO_30 := n0_
  have HO_32 := n1_
  have BK413 := n2_
  have BK473 := n3_
  have HB := n4_
  clear n0_ n1_ n2_ n3_ n4_
  (try clear hb)
  (try clear hb2)
  (try clear hk)
  (try clear hi)
  refine hK.out _ _ ⟨(blk_cell BK473.out 0).trans rfl, (blk_cell BK473.out 1).trans rfl, (blk_cell BK473.out 2).trans rfl, (blk_cell BK473.out 3).trans rfl, (blk_cell BK413.out 0).trans rfl, (blk_cell BK413.out 1).trans rfl, (blk_cell BK413.out 2).trans rfl, (blk_cell BK413.out 3).trans rfl, (blk_cell BK413.out 4).trans rfl, (blk_cell BK413.out 5).trans rfl, (blk_cell BK413.out 6).trans rfl, (blk_cell BK413.out 7).trans rfl, (blk_cell BK413.out 8).trans rfl⟩ (fun hHeld => ?_)
  clear hK K
  refine norm_ (a' := ?_) ?_ ?_
  rotate_left;{
 show Act.put _ (some 331) _ = _
 simp only [ap,sA,s0,s1,i64_w,i32_w]
 rfl}
  refine pure_ (i := 10) (N := some 321) (v := ?_) (a' := ?_) #[T,T,T,T,T,T,T,T,T,T,T,F,F,F,F,F,F] rfl rfl (any_of HT_.out (by kernel_rfl)) (fun _ _ _ h => h) (Or.inl ⟨by rfl, ?_⟩) ?_ ?_
  rotate_left;{
 intro w'
 go_simp
 with_reducible rfl}
  rotate_left;{
 simp only [ap,sA,s0,s1,i64_w,i32_w]
 rfl}
  refine pure_ (i := 11) (N := some 332) (v := ?_) (a' := ?_) #[T,T,T,T,T,T,T,T,T,T,T,T,F,F,F,F,F] rfl rfl (any_of HT_.out (by kernel_rfl)) (fun _ _ _ h => h) (Or.inl ⟨by rfl, ?_⟩) ?_ ?_
  rotate_left;{
 intro w'
 go_simp
 with_reducible rfl}
  rotate_left;{
 simp only [ap,sA,s0,s1,i64_w,i32_w]
 rfl}
  refine pure_ (i := 12) (N := some 333) (v := ?_) (a' := ?_) #[T,T,T,T,T,T,T,T,T,T,T,T,T,F,F,F,F] rfl rfl (any_of HT_.out (by kernel_rfl)) (fun _ _ _ h => h) (Or.inl ⟨by rfl, ?_⟩) ?_ ?_
  rotate_left;{
 intro w'
 go_simp
 with_reducible rfl}
  rotate_left;{
 simp only [ap,sA,s0,s1,i64_w,i32_w]
 rfl}
  refine pure_ (i := 13) (N := some 334) (v := ?_) (a' := ?_) #[T,T,T,T,T,T,T,T,T,T,T,T,T,T,F,F,F] rfl rfl (any_of HT_.out (by kernel_rfl)) (fun _ _ _ h => h) (Or.inl ⟨by rfl, ?_⟩) ?_ ?_
  rotate_left;{
 intro w'
 go_simp
 with_reducible rfl}
  rotate_left;{
 simp only [ap,sA,s0,s1,i64_w,i32_w]
 rfl}
  refine pure_ (i := 14) (N := some 35) (v := ?_) (a' := ?_) #[T,T,T,T,T,T,T,T,T,T,T,T,T,T,T,F,F] rfl rfl (any_of HT_.out (by kernel_rfl)) (fun _ _ _ h => h) (Or.inl ⟨by rfl, ?_⟩) ?_ ?_
  rotate_left;{
 intro w'
 go_simp
 with_reducible rfl}
  rotate_left;{
 simp only [ap,sA,s0,s1,i64_w,i32_w]
 rfl}
  refine pure_ (i := 15) (N := some 36) (v := ?_) (a' := ?_) #[T,T,T,T,T,T,T,T,T,T,T,T,T,T,T,T,F] rfl rfl (any_of HT_.out (by kernel_rfl)) (fun _ _ _ h => h) (Or.inl ⟨by rfl, ?_⟩) ?_ ?_
  rotate_left;{
 intro w'
 go_simp
 with_reducible rfl}
  rotate_left;{
 simp only [ap,sA,s0,s1,i64_w,i32_w]
 rfl}
  refine pure_ (i := 16) (N := some 37) (v := ?_) (a' := ?_) #[T,T,T,T,T,T,T,T,T,T,T,T,T,T,T,T,T] rfl rfl (any_of HT_.out (by kernel_rfl)) (fun _ _ _ h => h) (Or.inl ⟨by rfl, ?_⟩) ?_ ?_
  rotate_left;{
 intro w'
 go_simp
 with_reducible rfl}
  rotate_left;{
 simp only [ap,sA,s0,s1,i64_w,i32_w]
 rfl}
  refine done_ (done_of HT_.out (by kernel_rfl)) ?_
  try go_wp2
  go_ret
  exact ⟨by first | rfl | (simp [errW_none, errW_some] <;> rfl) | (simp [*, errW_none, errW_some] <;> rfl), by repeat (first | (with_reducible first | exact HB.out | apply below_alloc | apply pw_below_drewN | apply below_drew1 | refine below_set ?_ GE413.out | refine below_set ?_ GE473.out) | exact HB.out)⟩)}
     rw [if_neg c25] at H
     have c25b0 : (t422 == 0) = false := beq_eq_false_iff_ne.mpr c25
     have c25b1 : (t422 != 0) = true := bne_iff_ne.mpr c25
     by_cases c167 : t420 = 0
     {
 rw [if_pos c167] at H
 have c167b0 : (t420 == 0) = true := beq_iff_eq.mpr c167
 have c167b1 : (t420 != 0) = false := bne_eq_false_iff_eq.mpr c167
 clear c167
 obtain rfl := Option.some.inj H
 go_wp2
 go_ret
 exact ⟨by first | rfl | (simp [errW_none, errW_some] <;> rfl) | (simp [*, errW_none, errW_some] <;> rfl), by repeat (first | (with_reducible first | exact HB.out | apply below_alloc | apply pw_below_drewN | apply below_drew1 | refine below_set ?_ GE413.out) | exact HB.out)⟩}
     rw [if_neg c167] at H
     have c167b0 : (t420 == 0) = false := beq_eq_false_iff_ne.mpr c167
     have c167b1 : (t420 != 0) = true := bne_iff_ne.mpr c167
     obtain rfl := Option.some.inj H
     go_wp2
     go_ret
     exact ⟨by first | rfl | (simp [errW_none, errW_some] <;> rfl) | (simp [*, errW_none, errW_some] <;> rfl), by repeat (first | (with_reducible first | exact HB.out | apply below_alloc | apply pw_below_drewN | apply below_drew1 | refine below_set ?_ GE413.out) | exact HB.out)⟩
end Go.Proofs.Ytieffjkplaajdaa.SW

